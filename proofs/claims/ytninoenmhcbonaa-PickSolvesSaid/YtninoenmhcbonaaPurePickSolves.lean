/- The law PickSolves over lists alone: a table's solution is the reference's, and all that this leans on; no condition beyond the statement's own. -/
import Derived.Test.YtninoenmhcbonaaX0
import Derived.Test.YtninoenmhcbonaaX1
import Derived.Test.YtninoenmhcbonaaX11
import Derived.Test.YtninoenmhcbonaaX17
import Derived.Test.YtninoenmhcbonaaX20
import Derived.Test.YtninoenmhcbonaaX24
import Derived.Test.YtninoenmhcbonaaX31
import Derived.Test.YtninoenmhcbonaaX34
import Derived.Test.YtninoenmhcbonaaX39
import Derived.Test.YtninoenmhcbonaaX44
import Derived.Test.YtninoenmhcbonaaX51
import Derived.Lib.DecodeN
namespace Go.Proofs.Ytninoenmhcbonaa.Pure
open Go.RowKit Go.Proofs.YtninoenmhcbonaaW.PrintWords Go.Proofs.YtninoenmhcbonaaW.PrintLast Go.Proofs.YtninoenmhcbonaaW.PrintMore Go.Proofs.Ytninoenmhcbonaa.X
set_option linter.unusedVariables false
theorem Ev.cond {α : Type} {c : Prop} [Decidable c] {f g : Nat → Option α} {r : α} (h : c) (k : Ev f r) : Ev (fun n => if c then f n else g n) r :=
 Ev.congr (fun _ => if_pos h) k
theorem Ev.ncond {α : Type} {c : Prop} [Decidable c] {f g : Nat → Option α} {r : α} (h : ¬ c) (k : Ev g r) : Ev (fun n => if c then f n else g n) r :=
 Ev.congr (fun _ => if_neg h) k
theorem Ev.ite {α : Type} {c : Prop} [Decidable c] {f g : Nat → Option α} {r : α} (h : c → Ev f r) (k : ¬ c → Ev g r) : Ev (fun n => if c then f n else g n) r := by
 by_cases hc : c
 ·exact Ev.cond hc (h hc)
 ·exact Ev.ncond hc (k hc)
theorem Ev.fin {α : Type} {r q : α} (h : r = q) : Ev (fun _ => Option.some r) q := h ▸ Ev.now r
theorem Ev.ret {α β : Type} {g : Option α} {a : α} {f : Nat → α → Option β} {r : β} (h : g = Option.some a) (k : Ev (fun n => f n a) r) : Ev (fun n => g.bind (f n)) r := by
 subst h; exact k
theorem w64 {x : Int} (h0 : -9223372036854775808 ≤ x) (h1 : x ≤ 9223372036854775807) : wrap64 x = x := by unfold wrap64; omega
theorem u64 {x : Int} (h0 : 0 ≤ x) (h1 : x < 18446744073709551616) : IntKind.u64.wrap x = x := by
 simp [IntKind.wrap, IntKind.bits, IntKind.signed]; omega
theorem zbk (x : Int) : IntKind.u64.wrap x = x % 18446744073709551616 := by simp [IntKind.wrap, IntKind.bits, IntKind.signed]
theorem zbf {x : Int} (h0 : 0 ≤ x) (h1 : x < 18446744073709551616) : Go.bits .and .u64 x 65535 = x % 65536 :=
 bits_mask .u64 64 (by decide) (fun n a b => u64 a (by omega)) 16 (by decide) x h0 (by omega)
theorem zab (l : List Int) (i : Nat) : rd l (i : Int) = l.getD i 0 := by simp [rd]
end Go.Proofs.Ytninoenmhcbonaa.Pure
namespace Go.Proofs.Ytninoenmhcbonaa.Pure
open Go.RowKit Go.Proofs.YtninoenmhcbonaaW.PrintWords Go.Proofs.YtninoenmhcbonaaW.PrintLast Go.Proofs.YtninoenmhcbonaaW.PrintMore Go.Proofs.Ytninoenmhcbonaa.X
set_option linter.unusedVariables false
instance : DecidableEq S73 := fun x y => decidable_of_iff (x.f0 = y.f0 ∧ x.f1 = y.f1 ∧ x.f2 = y.f2) (by cases x; cases y; simp)
theorem zb4 (l : List S73) (i : Nat) : rd_T73 l (i : Int) = l.getD i z73 := by simp [rd_T73]
theorem zbj (a b : List Int) {i : Nat} (h : i < a.length) (h' : i < b.length) : a.drop i = b.drop i ↔ rd a (i : Int) = rd b (i : Int) ∧ a.drop (i + 1) = b.drop (i + 1) := by
 rw [List.drop_eq_getElem_cons h, List.drop_eq_getElem_cons h', zab, zab, List.getD_eq_getElem?_getD, List.getD_eq_getElem?_getD, List.getElem?_eq_getElem h, List.getElem?_eq_getElem h', List.cons.injEq]
 rfl
theorem zbc (a b : List S73) {i : Nat} (h : i < a.length) (h' : i < b.length) : a.drop i = b.drop i ↔ rd_T73 a (i : Int) = rd_T73 b (i : Int) ∧ a.drop (i + 1) = b.drop (i + 1) := by
 rw [List.drop_eq_getElem_cons h, List.drop_eq_getElem_cons h', zb4, zb4, List.getD_eq_getElem?_getD, List.getD_eq_getElem?_getD, List.getElem?_eq_getElem h, List.getElem?_eq_getElem h', List.cons.injEq]
 rfl
theorem ne_S (x y : S73) : ((!(x.f0 == y.f0)) || (!(x.f1 == y.f1) || !(x.f2 == y.f2))) = true ↔ ¬ x = y := by
 obtain ⟨a, b, c⟩ := x
 obtain ⟨d, e, f⟩ := y
 by_cases h0 : a = d <;> by_cases h1 : b = e <;> by_cases h2 : c = f <;> simp [h0, h1, h2]
theorem ze8 (a b : List Int) (ha : a.length ≤ 9000000000000000000) : Ev (fun k => Ffa.f k a b) (decide (a = b)) := by
 refine Ev.congr (fun k => by rw [Ffa.f]) (Ev.ite (fun h => ?_) (fun h => Ev.fin ?_))
 ·have hl : a.length = b.length := by omega
  have key : ∀ (m i : Nat), i + m = a.length → Ev (fun k => Ffa.l0 k a b (a.length : Int) (i : Int)) (decide (a.drop i = b.drop i)) := by
   intro m
   induction m with
   | zero =>
    intro i hi
    refine Ev.step (fun k => by rw [Ffa.l0]) (Ev.ncond (by omega) (Ev.fin ?_))
    rw [List.drop_eq_nil_of_le (by omega), List.drop_eq_nil_of_le (by omega)]; exact (decide_eq_true rfl).symm
   | succ m ih =>
    intro i hi
    refine Ev.step (fun k => by rw [Ffa.l0]) (Ev.cond (by omega) (Ev.cond (by omega) (Ev.cond (by omega) (Ev.cond (by omega) ?_))))
    refine Ev.ite (fun c => ?_) (fun c => Ev.fin ?_)
    ·rw [w64 (by omega) (by omega)]
     have := ih (i + 1) (by omega)
     rwa [decide_eq_decide.2 ((zbj a b (by omega) (by omega)).trans (and_iff_right (id c)))]
    ·exact (decide_eq_false (fun e => (id c) ((zbj a b (by omega) (by omega)).1 e).1)).symm
  exact key a.length 0 (by omega)
 ·exact (decide_eq_false (fun e_ => h (by rw [e_]))).symm
theorem eq_S {x y : S73} (h : ¬ ((!(x.f0 == y.f0)) || (!(x.f1 == y.f1) || !(x.f2 == y.f2))) = true) : x = y := Classical.byContradiction fun d => h ((ne_S _ _).2 d)
theorem zcp (a b : List S73) (ha : a.length ≤ 9000000000000000000) : Ev (fun k => Fa.f k a b) (decide (a = b)) := by
 refine Ev.congr (fun k => by rw [Fa.f]) (Ev.ite (fun h => ?_) (fun h => Ev.fin ?_))
 ·have hl : a.length = b.length := by omega
  have key : ∀ (m i : Nat), i + m = a.length → Ev (fun k => Fa.l0 k a b (a.length : Int) (i : Int)) (decide (a.drop i = b.drop i)) := by
   intro m
   induction m with
   | zero =>
    intro i hi
    refine Ev.step (fun k => by rw [Fa.l0]) (Ev.ncond (by omega) (Ev.fin ?_))
    rw [List.drop_eq_nil_of_le (by omega), List.drop_eq_nil_of_le (by omega)]; exact (decide_eq_true rfl).symm
   | succ m ih =>
    intro i hi
    refine Ev.step (fun k => by rw [Fa.l0]) (Ev.cond (by omega) (Ev.cond (by omega) (Ev.cond (by omega) (Ev.cond (by omega) ?_))))
    refine Ev.ite (fun c => Ev.fin ?_) (fun c => ?_)
    ·exact (decide_eq_false (fun e => ((ne_S _ _).1 c) ((zbc a b (by omega) (by omega)).1 e).1)).symm
    ·rw [w64 (by omega) (by omega)]
     have := ih (i + 1) (by omega)
     rwa [decide_eq_decide.2 ((zbc a b (by omega) (by omega)).trans (and_iff_right (eq_S c)))]
  exact key a.length 0 (by omega)
 ·exact (decide_eq_false (fun e_ => h (by rw [e_]))).symm
theorem zf0 (a b : List Int) (ha : a.length ≤ 9000000000000000000) (hl : a.length = b.length) : Ev (fun k => Fq.f k a b) (decide (a = b)) := by
 refine Ev.congr (fun k => by rw [Fq.f]) ?_
 have key : ∀ (m i : Nat), i + m = a.length → Ev (fun k => Fq.l0 k a b (i : Int)) (decide (a.drop i = b.drop i)) := by
  intro m
  induction m with
  | zero =>
   intro i hi
   refine Ev.step (fun k => by rw [Fq.l0]) (Ev.ncond (by omega) (Ev.fin ?_))
   rw [List.drop_eq_nil_of_le (by omega), List.drop_eq_nil_of_le (by omega)]; exact (decide_eq_true rfl).symm
  | succ m ih =>
   intro i hi
   refine Ev.step (fun k => by rw [Fq.l0]) (Ev.cond (by omega) (Ev.cond (by omega) (Ev.cond (by omega) (Ev.ite (fun c => ?_) (fun c => Ev.fin ?_)))))
   ·rw [w64 (by omega) (by omega)]
    have := ih (i + 1) (by omega)
    rwa [decide_eq_decide.2 ((zbj a b (by omega) (by omega)).trans (and_iff_right c))]
   ·exact (decide_eq_false (fun e => c ((zbj a b (by omega) (by omega)).1 e).1)).symm
 exact key a.length 0 (by omega)
theorem mn_le (s x y : Int) : s ≤ mn x y ↔ s ≤ x ∧ s ≤ y := by unfold mn; split <;> omega
theorem mx_lt (s x y : Int) : mx x y < s ↔ x < s ∧ y < s := by unfold mx; split <;> omega
theorem zay (p : Int → Prop) (a : List Int) {i : Nat} (h : i < a.length) : (∀ x ∈ a.drop i, p x) ↔ p (rd a (i : Int)) ∧ ∀ x ∈ a.drop (i + 1), p x := by
 rw [List.drop_eq_getElem_cons h, zab, List.getD_eq_getElem?_getD, List.getElem?_eq_getElem h]
 exact List.forall_mem_cons
theorem min_ev (a : List Int) (h1 : 1 ≤ a.length) (ha : a.length ≤ 9000000000000000000) : ∃ r, Ev (fun k => Fga.f k a) r ∧ ∀ s, s ≤ r ↔ ∀ x ∈ a, s ≤ x := by
 have key : ∀ (m i : Nat) (c : Int), i + m = a.length → ∃ r, Ev (fun k => Fga.l0 k a c (i : Int)) r ∧ ∀ s, s ≤ r ↔ s ≤ c ∧ ∀ x ∈ a.drop i, s ≤ x := by
  intro m
  induction m with
  | zero =>
   intro i c hi
   refine ⟨c, Ev.step (fun k => by rw [Fga.l0]) (Ev.ncond (by omega) (Ev.fin rfl)), fun s => ?_⟩
   rw [List.drop_eq_nil_of_le (by omega)]; simp
  | succ m ih =>
   intro i c hi
   obtain ⟨r, hr, hs⟩ := ih (i + 1) (mn c (rd a (i : Int))) (by omega)
   refine ⟨r, Ev.step (fun k => by rw [Fga.l0]) (Ev.cond (by omega) (Ev.cond (by omega) ?_)), fun s => ?_⟩
   ·rw [w64 (by omega) (by omega)]; exact hr
   ·rw [hs, mn_le, zay (fun x => s ≤ x) a (i := i) (by omega), and_assoc]
 obtain ⟨r, hr, hs⟩ := key (a.length - 1) 1 (rd a 0) (by omega)
 have hr' : Ev (fun k => Fga.l0 k a (rd a 0) 1) r := hr
 refine ⟨r, Ev.congr (fun k => by rw [Fga.f]) (Ev.ncond (by omega) (Ev.cond (by omega) hr')), fun s => ?_⟩
 rw [hs, show (∀ x ∈ a, s ≤ x) ↔ (∀ x ∈ a.drop 0, s ≤ x) by rw [List.drop_zero], zay (fun x => s ≤ x) a (i := 0) (by omega)]
 exact Iff.rfl
theorem max_ev (a : List Int) (h1 : 1 ≤ a.length) (ha : a.length ≤ 9000000000000000000) : ∃ r, Ev (fun k => Fg.f k a) r ∧ ∀ s, r < s ↔ ∀ x ∈ a, x < s := by
 have key : ∀ (m i : Nat) (c : Int), i + m = a.length → ∃ r, Ev (fun k => Fg.l0 k a c (i : Int)) r ∧ ∀ s, r < s ↔ c < s ∧ ∀ x ∈ a.drop i, x < s := by
  intro m
  induction m with
  | zero =>
   intro i c hi
   refine ⟨c, Ev.step (fun k => by rw [Fg.l0]) (Ev.ncond (by omega) (Ev.fin rfl)), fun s => ?_⟩
   rw [List.drop_eq_nil_of_le (by omega)]; simp
  | succ m ih =>
   intro i c hi
   obtain ⟨r, hr, hs⟩ := ih (i + 1) (mx c (rd a (i : Int))) (by omega)
   refine ⟨r, Ev.step (fun k => by rw [Fg.l0]) (Ev.cond (by omega) (Ev.cond (by omega) ?_)), fun s => ?_⟩
   ·rw [w64 (by omega) (by omega)]; exact hr
   ·rw [hs, mx_lt, zay (fun x => x < s) a (i := i) (by omega), and_assoc]
 obtain ⟨r, hr, hs⟩ := key (a.length - 1) 1 (rd a 0) (by omega)
 have hr' : Ev (fun k => Fg.l0 k a (rd a 0) 1) r := hr
 refine ⟨r, Ev.congr (fun k => by rw [Fg.f]) (Ev.ncond (by omega) (Ev.cond (by omega) hr')), fun s => ?_⟩
 rw [hs, show (∀ x ∈ a, x < s) ↔ (∀ x ∈ a.drop 0, x < s) by rw [List.drop_zero], zay (fun x => x < s) a (i := 0) (by omega)]
 exact Iff.rfl
def za1 (l : List Int) : Prop := (∃ j, j ≤ 6 ∧ l.length = 2 ^ j) ∧ ∀ x ∈ l, 0 ≤ x
theorem zex : ∀ n : Fin 65, 1 ≤ n.1 → (Go.bits .and .i64 (n.1 : Int) ((n.1 : Int) - 1) = 0 ↔ ∃ j : Fin 7, n.1 = 2 ^ j.1) := by decide +kernel
theorem pow6 {n : Nat} (h : n ≤ 6) : 2 ^ n ≤ 64 := by
 have := Nat.pow_le_pow_right (show 0 < 2 by omega) h
 omega
theorem za1.len {l : List Int} (h : za1 l) : 1 ≤ l.length ∧ l.length ≤ 64 := by
 obtain ⟨⟨j, hj, e⟩, _⟩ := h
 have := pow6 hj
 have := Nat.two_pow_pos j
 omega
noncomputable instance decRow (l : List Int) : Decidable (za1 l) := Classical.propDecidable _
theorem zcr (l : List Int) (hl : l.length ≤ 9000000000000000000) : Ev (fun k => Fea.f k l) (decide (za1 l)) := by
 refine Ev.congr (fun k => by rw [Fea.f]) ?_
 by_cases c : 1 ≤ l.length ∧ l.length ≤ 64
 ·refine Ev.cond (by omega) (Ev.cond (by omega) ?_)
  have q := zex ⟨l.length, by omega⟩ c.1
  rw [w64 (by omega) (by omega)]
  refine Ev.ite (fun h => ?_) (fun h => Ev.fin ?_)
  ·obtain ⟨j, hj⟩ := q.1 h
   obtain ⟨r, hr, hs⟩ := min_ev l c.1 hl
   refine Ev.bind hr (Ev.fin ?_)
   congr 1
   exact propext ⟨fun h0 => ⟨⟨j.1, by omega, hj⟩, (hs 0).1 h0⟩, fun h0 => (hs 0).2 h0.2⟩
  ·exact (decide_eq_false (fun ⟨⟨j, hj, e⟩, _⟩ => h (q.2 ⟨⟨j, by omega⟩, e⟩))).symm
 ·have no : ¬ za1 l := fun h => c h.len
  rw [decide_eq_false no]
  refine Ev.ite (fun h => Ev.ncond (by omega) (Ev.fin rfl)) (fun _ => Ev.fin rfl)
theorem tr (k : Nat) (n x i x' i' : Int) (h : i ≤ 6) (hx : x ≠ n) (e1 : wrap64 (x * 2) = x') (e2 : wrap64 (i + 1) = i') : Fpa.l0 (k + 1) n x i = Fpa.l0 k n x' i' := by
 rw [Fpa.l0, if_pos h, if_neg hx, e1, e2]
theorem zdj (l : List Int) (j : Nat) (hj : j < 6) (hl : l.length = 2 ^ (j + 1)) (d : Nat) (hd : d ≤ 1) :
  Ev (fun k => Fpc.f k l (d : Int)) ((l.drop (d * 2 ^ j)).take (2 ^ j)) := by
 refine Ev.congr (fun k => by rw [Fpc.f]) ?_
 have hp : 2 ^ (j + 1) = 2 ^ j + 2 ^ j := by rw [Nat.pow_succ]; omega
 have h6 := pow6 (show j ≤ 6 by omega)
 have hd2 : d * 2 ^ j + 2 ^ j ≤ l.length := by
  rcases Nat.le_one_iff_eq_zero_or_eq_one.1 hd with rfl | rfl <;> omega
 obtain ⟨n, hn⟩ : ∃ n, n = 2 ^ j := ⟨_, rfl⟩
 rw [show wrap64 ((l.length : Int) / 2) = (n : Int) by rw [w64 (by omega) (by omega)]; omega]
 rw [← hn] at hd2 hp h6 ⊢
 have hw : wrap64 ((d : Int) * (n : Int)) = ((d * n : Nat) : Int) := by
  rcases Nat.le_one_iff_eq_zero_or_eq_one.1 hd with rfl | rfl <;> rw [w64 (by omega) (by omega)] <;> simp
 have key : ∀ (m i : Nat) (acc : List Int), i + m = n → acc.length ≤ i → Ev (fun k => Fpc.l0 k l (d : Int) acc (n : Int) (i : Int)) (acc ++ (l.drop (d * n + i)).take m) := by
  intro m
  induction m with
  | zero => intro i acc hi _; exact Ev.step (fun k => by rw [Fpc.l0]) (Ev.ncond (by omega) (Ev.fin (by simp)))
  | succ m ih =>
   intro i acc hi ha
   refine Ev.step (fun k => by rw [Fpc.l0]) (Ev.cond (by omega) ?_)
   rw [hw, w64 (x := ((d * n : Nat) : Int) + (i : Int)) (by omega) (by omega), w64 (x := (i : Int) + 1) (by omega) (by omega), show ((d * n : Nat) : Int) + (i : Int) = ((d * n + i : Nat) : Int) by omega]
   refine Ev.cond (by omega) (Ev.cond (by omega) (Ev.cond (by omega) ?_))
   have q := ih (i + 1) (acc ++ [rd l ((d * n + i : Nat) : Int)]) (by omega) (by simp; omega)
   rw [List.drop_eq_getElem_cons (show d * n + i < l.length by omega), List.take_succ_cons]
   rw [zab, List.getD_eq_getElem?_getD, List.getElem?_eq_getElem (show d * n + i < l.length by omega), List.append_assoc] at q
   rw [zab, List.getD_eq_getElem?_getD, List.getElem?_eq_getElem (show d * n + i < l.length by omega)]
   exact q
 have := key n 0 [] (by omega) (by simp)
 simpa using this
end Go.Proofs.Ytninoenmhcbonaa.Pure
namespace Go.Proofs.Ytninoenmhcbonaa.Pure
open Go.RowKit Go.Proofs.YtninoenmhcbonaaW.PrintWords Go.Proofs.YtninoenmhcbonaaW.PrintLast Go.Proofs.YtninoenmhcbonaaW.PrintMore Go.Proofs.Ytninoenmhcbonaa.X
set_option linter.unusedVariables false
def tree : Nat → List Int → Int → Int → List S73
 | 0, l, m, b => [⟨m, b, l.getD 0 0⟩]
 | j + 1, l, m, b =>
  if l.take (2 ^ j) = l.drop (2 ^ j) then tree j (l.take (2 ^ j)) m b
  else tree j (l.take (2 ^ j)) (m + ((2 ^ j : Nat) : Int)) b ++ tree j (l.drop (2 ^ j)) (m + ((2 ^ j : Nat) : Int)) (b + ((2 ^ j : Nat) : Int))
def shift (m b : Int) (x : S73) : S73 := ⟨m + x.f0, b + x.f1, x.f2⟩
structure Good (j : Nat) (x : S73) : Prop where
 b0 : 0 ≤ x.f1
 bm : x.f1 ≤ x.f0
 m2 : x.f0 < ((2 ^ j : Nat) : Int)
 lies : Go.bits .andNot .i64 x.f1 x.f0 = 0
def hit (a : Int) (x : S73) : Bool := Go.bits .and .i64 a x.f0 == x.f1
theorem zdu : ∀ j : Fin 6, ∀ m : Fin 32, ∀ b : Fin 32, m.1 < 2 ^ j.1 → b.1 < 2 ^ j.1 → Go.bits .andNot .i64 (b.1 : Int) (m.1 : Int) = 0 →
  Go.bits .andNot .i64 (b.1 : Int) (((2 ^ j.1 : Nat) : Int) + (m.1 : Int)) = 0 ∧ Go.bits .andNot .i64 (((2 ^ j.1 : Nat) : Int) + (b.1 : Int)) (((2 ^ j.1 : Nat) : Int) + (m.1 : Int)) = 0 := by decide +kernel
theorem zfl : ∀ j : Fin 6, ∀ m : Fin 64, m.1 < 64 / 2 ^ (j.1 + 1) → Go.bits .or .i64 ((m.1 * 2 ^ (j.1 + 1) : Nat) : Int) ((2 ^ j.1 : Nat) : Int) = ((m.1 * 2 ^ (j.1 + 1) : Nat) : Int) + ((2 ^ j.1 : Nat) : Int) := by decide +kernel
theorem pow_le {j : Nat} (h : j < 6) : 2 ^ j ≤ 32 := by
 have : (2 : Nat) ^ j ≤ 2 ^ 5 := Nat.pow_le_pow_right (by decide) (by omega)
 exact this
theorem Good.nat {j : Nat} {x : S73} (g : Good j x) : ∃ m b : Nat, x.f0 = (m : Int) ∧ x.f1 = (b : Int) ∧ m < 2 ^ j ∧ b ≤ m := by
 obtain ⟨h0, h1, h2, _⟩ := g
 obtain ⟨m, hm⟩ := Int.eq_ofNat_of_zero_le (show 0 ≤ x.f0 by omega)
 obtain ⟨b, hb⟩ := Int.eq_ofNat_of_zero_le h0
 exact ⟨m, b, hm, hb, by omega, by omega⟩
theorem Good.up {j : Nat} {x : S73} (g : Good j x) : Good (j + 1) x := by
 obtain ⟨h0, h1, h2, h3⟩ := g
 exact ⟨h0, h1, by rw [Nat.pow_succ]; omega, h3⟩
theorem Good.low {j : Nat} {x : S73} (hj : j < 6) (g : Good j x) : Good (j + 1) (shift ((2 ^ j : Nat) : Int) 0 x) := by
 obtain ⟨m, b, e0, e1, hm, hb⟩ := g.nat
 have q := pow_le hj
 have := (zdu ⟨j, hj⟩ ⟨m, by omega⟩ ⟨b, by omega⟩ hm (by show b < 2 ^ j; omega) (by have := g.lies; rw [e0, e1] at this; exact this)).1
 refine ⟨?_, ?_, ?_, ?_⟩
 ·show 0 ≤ 0 + x.f1; omega
 ·show 0 + x.f1 ≤ _ + x.f0; omega
 ·show _ + x.f0 < _; rw [Nat.pow_succ]; omega
 ·show Go.bits .andNot .i64 (0 + x.f1) (_ + x.f0) = 0
  rw [Int.zero_add, e0, e1]; exact this
theorem zbr (j : Nat) : ∀ (l : List Int) (m b : Int), (tree j l m b).length ≤ 2 ^ j ∧ 1 ≤ (tree j l m b).length := by
 induction j with
 | zero => intro l m b; simp [tree]
 | succ j ih =>
  intro l m b
  simp only [tree]
  have h1 := ih (l.take (2 ^ j)) m b
  have h2 := ih (l.take (2 ^ j)) (m + ((2 ^ j : Nat) : Int)) b
  have h3 := ih (l.drop (2 ^ j)) (m + ((2 ^ j : Nat) : Int)) (b + ((2 ^ j : Nat) : Int))
  rw [Nat.pow_succ]
  split
  ·omega
  ·rw [List.length_append]; omega
theorem zd7 : ∀ j : Fin 6, 64 / 2 ^ j.1 = 2 * (64 / 2 ^ (j.1 + 1)) := by decide +kernel
theorem zet (j : Nat) : ∀ (l : List Int) (q p : Nat), j ≤ 6 → l.length = 2 ^ j → q < 64 / 2 ^ j → p < 64 / 2 ^ j →
  Ev (fun k => Fdb.leaves k l ((q * 2 ^ j : Nat) : Int) ((p * 2 ^ j : Nat) : Int)) (tree j l ((q * 2 ^ j : Nat) : Int) ((p * 2 ^ j : Nat) : Int)) := by
 induction j with
 | zero =>
  intro l q p _ hl _ _
  have h1 : l.length = 1 := by simpa using hl
  refine Ev.step (fun k => by rw [Fdb.leaves]) (Ev.cond (by omega) (Ev.cond (by omega) (Ev.fin ?_)))
  rw [tree]; congr 2
 | succ j ih =>
  intro l q p hj hl hq hp
  have hpw : 2 ^ (j + 1) = 2 ^ j + 2 ^ j := by rw [Nat.pow_succ]; omega
  have hpos := Nat.two_pow_pos j
  have hh : l.length / 2 = 2 ^ j := by omega
  have hT : (l.take (2 ^ j)).length = 2 ^ j := by rw [List.length_take]; omega
  have hD : (l.drop (2 ^ j)).length = 2 ^ j := by rw [List.length_drop]; omega
  have q2 := zd7 ⟨j, by omega⟩
  simp only [] at q2
  have e (x : Nat) : x * 2 ^ (j + 1) = (2 * x) * 2 ^ j := by rw [hpw, Nat.mul_add, ← Nat.add_mul, ← Nat.two_mul]
  have e1 (x : Nat) : ((x * 2 ^ (j + 1) : Nat) : Int) + ((2 ^ j : Nat) : Int) = (((2 * x + 1) * 2 ^ j : Nat) : Int) := by
   rw [e, Nat.add_mul, Nat.one_mul]; omega
  have o (x : Nat) (hx : x < 64 / 2 ^ (j + 1)) : Go.bits .or .i64 ((x * 2 ^ (j + 1) : Nat) : Int) ((2 ^ j : Nat) : Int) = ((x * 2 ^ (j + 1) : Nat) : Int) + ((2 ^ j : Nat) : Int) :=
   zfl ⟨j, by omega⟩ ⟨x, Nat.lt_of_lt_of_le hx (Nat.div_le_self _ _)⟩ hx
  refine Ev.step (fun k => by rw [Fdb.leaves]) (Ev.ncond (by omega) ?_)
  rw [hh, o q hq, o p hp]
  refine Ev.bind (ze8 _ _ (by rw [hT]; have := pow6 (show j ≤ 6 by omega); omega)) ?_
  rw [tree]
  by_cases c : l.take (2 ^ j) = l.drop (2 ^ j)
  ·rw [decide_eq_true c, if_pos c]
   refine Ev.cond rfl ?_
   rw [e q, e p]
   exact ih _ (2 * q) (2 * p) (by omega) hT (by omega) (by omega)
  ·rw [decide_eq_false c, if_neg c]
   refine Ev.ncond (by decide) ?_
   rw [e1 q, e1 p, e p]
   refine Ev.bind (ih _ (2 * q + 1) (2 * p) (by omega) hT (by omega) (by omega)) (Ev.bind (ih _ (2 * q + 1) (2 * p + 1) (by omega) hD (by omega) (by omega)) (Ev.fin rfl))
theorem zdq (j : Nat) : ∀ (l : List Int) (m b : Int), j ≤ 6 → l.length = 2 ^ j → 0 ≤ m → m + ((2 ^ j : Nat) : Int) ≤ 64 → 0 ≤ b → b + ((2 ^ j : Nat) : Int) ≤ 64 →
  Ev (fun k => Foa.f k l m b) (tree j l m b) := by
 induction j with
 | zero =>
  intro l m b _ hl _ _ _ _
  have h1 : l.length = 1 := by simpa using hl
  refine Ev.step (fun k => by rw [Foa.f]) (Ev.cond (by omega) (Ev.cond (by omega) (Ev.fin ?_)))
  rw [tree]; congr 2
 | succ j ih =>
  intro l m b hj hl hm hm2 hb hb2
  have hpw : 2 ^ (j + 1) = 2 ^ j + 2 ^ j := by rw [Nat.pow_succ]; omega
  have hpos := Nat.two_pow_pos j
  have hT : (l.take (2 ^ j)).length = 2 ^ j := by rw [List.length_take]; omega
  have hD : (l.drop (2 ^ j)).length = 2 ^ j := by rw [List.length_drop]; omega
  have hD2 : (l.drop (2 ^ j)).take (2 ^ j) = l.drop (2 ^ j) := List.take_of_length_le (by omega)
  have b0 := zdj l j (by omega) hl 0 (by omega)
  have b1 := zdj l j (by omega) hl 1 (by omega)
  rw [Nat.zero_mul, List.drop_zero] at b0
  rw [Nat.one_mul, hD2] at b1
  have a0 : Ev (fun k => Fpc.f k l 0) (l.take (2 ^ j)) := b0
  have a1 : Ev (fun k => Fpc.f k l 1) (l.drop (2 ^ j)) := b1
  have h64 := pow6 (show j ≤ 6 by omega)
  refine Ev.step (fun k => by rw [Foa.f]) (Ev.ncond (by omega) (Ev.bind a0 (Ev.bind a1 (Ev.bind (zf0 (l.take (2 ^ j)) (l.drop (2 ^ j)) (by omega) (by omega)) ?_))))
  rw [tree, hT]
  by_cases c : l.take (2 ^ j) = l.drop (2 ^ j)
  ·rw [decide_eq_true c, if_pos c]
   exact Ev.cond rfl (Ev.bind (ih _ m b (by omega) hT hm (by omega) hb (by omega)) (Ev.fin rfl))
  ·rw [decide_eq_false c, if_neg c]
   refine Ev.ncond (by decide) ?_
   rw [w64 (by omega) (by omega), w64 (by omega) (by omega)]
   have t1 := (zbr j (l.take (2 ^ j)) (m + ((2 ^ j : Nat) : Int)) b).1
   have t2 := (zbr j (l.drop (2 ^ j)) (m + ((2 ^ j : Nat) : Int)) (b + ((2 ^ j : Nat) : Int))).1
   refine Ev.bind (ih _ _ b (by omega) hT (by omega) (by omega) hb (by omega)) (Ev.bind (ih _ _ _ (by omega) hD (by omega) (by omega) (by omega) (by omega)) (Ev.cond (by omega) (Ev.fin rfl)))
theorem zf5 {j : Nat} {l : List Int} (hj : j ≤ 6) (hl : l.length = 2 ^ j) : Ev (fun k => Fdb.leaves k l 0 0) (tree j l 0 0) := by
 have := zet j l 0 0 hj hl (Nat.div_pos (pow6 hj) (Nat.two_pow_pos j)) (Nat.div_pos (pow6 hj) (Nat.two_pow_pos j))
 simpa using this
theorem zej {j : Nat} {l : List Int} (hj : j ≤ 6) (hl : l.length = 2 ^ j) : Ev (fun k => Foa.f k l 0 0) (tree j l 0 0) :=
 zdq j l 0 0 hj hl (by omega) (by have := pow6 hj; omega) (by omega) (by have := pow6 hj; omega)
theorem zdk {j : Nat} {l : List Int} (hj : j ≤ 6) (hl : l.length = 2 ^ j) (h : ∀ x ∈ l, 0 ≤ x) : Ev (fun k => Fdb.f k l) (tree j l 0 0, 0) := by
 refine Ev.congr (fun k => by rw [Fdb.f]) (Ev.bind (zcr l (by have := pow6 hj; omega)) ?_)
 rw [decide_eq_true (show za1 l from ⟨⟨j, hj, hl⟩, h⟩)]
 exact Ev.cond rfl (Ev.bind (zf5 hj hl) (Ev.fin rfl))
theorem zfp {l : List Int} (hl : l.length ≤ 9000000000000000000) (h : ¬ za1 l) : Ev (fun k => Fdb.f k l) ([], 3) := by
 refine Ev.congr (fun k => by rw [Fdb.f]) (Ev.bind (zcr l hl) ?_)
 rw [decide_eq_false h]
 exact Ev.ncond (by decide) (Ev.fin rfl)
end Go.Proofs.Ytninoenmhcbonaa.Pure
namespace Go.Proofs.Ytninoenmhcbonaa.Pure
open Go.RowKit Go.Proofs.YtninoenmhcbonaaW.PrintWords Go.Proofs.YtninoenmhcbonaaW.PrintLast Go.Proofs.YtninoenmhcbonaaW.PrintMore Go.Proofs.Ytninoenmhcbonaa.X
set_option linter.unusedVariables false
def atR : List S73 → Int → Int × Bool
 | [], _ => (0, false)
 | x :: l, a => if hit a x = true then (x.f2, true) else atR l a
theorem zbh (a : Int) (x : S73) : hit a x = true ↔ Go.bits .and .i64 a x.f0 = x.f1 := by simp [hit]
theorem zdf (l : List S73) {i : Nat} (h : i < l.length) : rd_T73 l (i : Int) = l[i] := by
 rw [zb4, List.getD_eq_getElem?_getD, List.getElem?_eq_getElem h]; rfl
theorem zd1 (l : List S73) (a : Int) (hl : l.length ≤ 9000000000000000000) : Ev (fun k => Fda.f k l a) (atR l a) := by
 refine Ev.congr (fun k => by rw [Fda.f]) ?_
 have key : ∀ (m i : Nat), i + m = l.length → Ev (fun k => Fda.l0 k a l (l.length : Int) (i : Int)) (atR (l.drop i) a) := by
  intro m
  induction m with
  | zero =>
   intro i hi
   rw [List.drop_eq_nil_of_le (by omega)]
   refine Ev.step (fun k => by rw [Fda.l0]) (Ev.ncond (by omega) ?_)
   exact Ev.fin rfl
  | succ m ih =>
   intro i hi
   rw [List.drop_eq_getElem_cons (by omega), atR]
   refine Ev.step (fun k => by rw [Fda.l0]) (Ev.cond (by omega) (Ev.cond (by omega) (Ev.cond (by omega) ?_)))
   rw [zdf l (by omega), w64 (by omega) (by omega)]
   by_cases c : hit a l[i] = true
   ·rw [if_pos c]; exact Ev.cond ((zbh _ _).1 c) (Ev.fin rfl)
   ·rw [if_neg c]; exact Ev.ncond (fun e => c ((zbh _ _).2 e)) (ih (i + 1) (by omega))
 exact key l.length 0 (by omega)
theorem zcf (l : List S73) (a : Int) (hl : l.length ≤ 9000000000000000000) : Ev (fun k => Fo.f k l a) (atR l a) := by
 refine Ev.congr (fun k => by rw [Fo.f]) ?_
 have key : ∀ (m i : Nat), i + m = l.length → Ev (fun k => Fo.l0 k l a (i : Int)) (atR (l.drop i) a) := by
  intro m
  induction m with
  | zero =>
   intro i hi
   rw [List.drop_eq_nil_of_le (by omega)]
   refine Ev.step (fun k => by rw [Fo.l0]) (Ev.ncond (by omega) ?_)
   exact Ev.fin rfl
  | succ m ih =>
   intro i hi
   rw [List.drop_eq_getElem_cons (by omega), atR]
   refine Ev.step (fun k => by rw [Fo.l0]) (Ev.cond (by omega) (Ev.cond (by omega) ?_))
   rw [zdf l (by omega), w64 (by omega) (by omega)]
   by_cases c : hit a l[i] = true
   ·rw [if_pos c]; exact Ev.cond ((zbh _ _).1 c) (Ev.fin rfl)
   ·rw [if_neg c]; exact Ev.ncond (fun e => c ((zbh _ _).2 e)) (ih (i + 1) (by omega))
 exact key l.length 0 (by omega)
def zaa (l : List S73) (n : Nat) : List Int := (List.range n).map fun i => (atR l ((i : Nat) : Int)).1
theorem zac (l : List S73) (n : Nat) : (zaa l n).length = n := by simp [zaa]
theorem zeg (l : List S73) (n : Nat) {i : Nat} (h : i < n) : (zaa l n)[i]? = some (atR l (i : Int)).1 := by simp [zaa, h]
structure UnpOk (l : List S73) (j : Nat) : Prop where
 six : j ≤ 6
 len : l.length ≤ 2 ^ j
 all : ∀ i : Nat, i < 2 ^ j → (atR l (i : Int)).2 = true
 pos : ∀ i : Nat, i < 2 ^ j → 0 ≤ (atR l (i : Int)).1
 tree : tree j (zaa l (2 ^ j)) 0 0 = l
theorem UnpOk.mem {l : List S73} {j : Nat} (h : ∀ i : Nat, i < 2 ^ j → 0 ≤ (atR l (i : Int)).1) : ∀ x ∈ zaa l (2 ^ j), 0 ≤ x := by
 intro x hx
 obtain ⟨i, hi, rfl⟩ := List.mem_map.1 hx
 exact h i (List.mem_range.1 hi)
theorem zc9 {l : List S73} {n : Nat} (hn : n ≤ 64) (hl : l.length ≤ 64) (h : ∀ i : Nat, i < n → (atR l (i : Int)).2 = true) {r : List Int × Int}
  (fin : Ev (fun k => (Fdb.f k (zaa l n)).bind fun bt => (if bt.2 = 0 then ((Fa.f k bt.1 l).bind fun t => (if t = true then (some (zaa l n, 0)) else (some (([] : List Int), 3)))) else (some (([] : List Int), 3)))) r) :
  ∀ (m i : Nat) (y : List Int), i + m = n → y.length = n → (∀ z, z < i → y[z]? = (zaa l n)[z]?) → Ev (fun k => Fe.l0 k l y (n : Int) (i : Int)) r := by
 intro m
 induction m with
 | zero =>
  intro i y hi hy hz
  obtain rfl : y = zaa l n := by
   apply List.ext_getElem?
   intro z
   by_cases c : z < n
   ·exact hz z (by omega)
   ·rw [List.getElem?_eq_none (by omega), List.getElem?_eq_none (by rw [zac]; omega)]
  exact Ev.step (fun k => by rw [Fe.l0]) (Ev.ncond (by omega) fin)
 | succ m ih =>
  intro i y hi hy hz
  refine Ev.step (fun k => by rw [Fe.l0]) (Ev.cond (by omega) (Ev.bind (zd1 l _ (by omega)) (Ev.cond (h i (by omega)) ?_)))
  refine Ev.cond (by omega) (Ev.cond (by omega) ?_)
  rw [w64 (by omega) (by omega), show ((i : Nat) : Int).toNat = i from rfl]
  refine ih (i + 1) _ (by omega) (by rw [List.length_set]; exact hy) (fun z hz2 => ?_)
  rw [List.getElem?_set]
  by_cases c : i = z
  ·subst c
   rw [if_pos rfl, if_pos (by omega), zeg l n (by omega)]
  ·rw [if_neg c]; exact hz z (by omega)
theorem zfr {l : List S73} {n q : Nat} (hn : n ≤ 64) (hl : l.length ≤ 64) (hq : q < n) (h : (atR l (q : Int)).2 = false) :
  ∀ (m i : Nat) (y : List Int), i + m = q → y.length = n → Ev (fun k => Fe.l0 k l y (n : Int) (i : Int)) ([], 3) := by
 intro m
 induction m with
 | zero =>
  intro i y hi hy
  obtain rfl : i = q := by omega
  refine Ev.step (fun k => by rw [Fe.l0]) (Ev.cond (by omega) (Ev.bind (zd1 l _ (by omega)) ?_))
  exact Ev.ncond (by rw [h]; decide) (Ev.fin rfl)
 | succ m ih =>
  intro i y hi hy
  refine Ev.step (fun k => by rw [Fe.l0]) (Ev.cond (by omega) (Ev.bind (zd1 l _ (by omega)) (Ev.ite (fun _ => ?_) (fun _ => Ev.fin rfl))))
  refine Ev.cond (by omega) (Ev.cond (by omega) ?_)
  rw [w64 (by omega) (by omega)]
  exact ih (i + 1) _ (by omega) (by rw [List.length_set]; exact hy)
theorem zdb : ∀ j : Fin 7, shl .i64 1 (j.1 : Int) = ((2 ^ j.1 : Nat) : Int) := by decide +kernel
theorem zbt {l : List S73} {j : Nat} {r : List Int × Int} (hj : j ≤ 6) (hl : l.length ≤ 2 ^ j) (h : ∀ y : List Int, y.length = 2 ^ j → Ev (fun k => Fe.l0 k l y ((2 ^ j : Nat) : Int) 0) r) : Ev (fun k => Fe.f k l (j : Int)) r := by
 have s := zdb ⟨j, by omega⟩
 have h6 := pow6 hj
 simp only [] at s
 refine Ev.congr (fun k => by rw [Fe.f]) (Ev.ncond (by omega) ?_)
 rw [decide_eq_false (show ¬ ((j : Int) > 6) by omega)]
 refine Ev.step (fun k => by rw [Fe.j0]) (Ev.ncond (by decide) (Ev.cond (by omega) ?_))
 rw [s]
 refine Ev.ncond (by omega) (Ev.cond (by omega) (Ev.cond (by rw [Int.toNat_natCast]; omega) ?_))
 refine Ev.ret rfl ?_
 have q := h (List.replicate ((2 ^ j : Nat) : Int).toNat 0) (by rw [List.length_replicate, Int.toNat_natCast])
 rw [List.length_replicate, Int.toNat_natCast]
 rw [Int.toNat_natCast] at q
 exact q
theorem zb7 {l : List S73} {j : Nat} (h : UnpOk l j) : Ev (fun k => Fe.f k l (j : Int)) (zaa l (2 ^ j), 0) := by
 have h6 := pow6 h.six
 have hl := h.len
 refine zbt h.six h.len (fun y hy => ?_)
 refine zc9 h6 (by omega) h.all ?_ (2 ^ j) 0 y (by omega) hy (fun z hz => absurd hz (by omega))
 refine Ev.bind (zdk h.six (zac _ _) (UnpOk.mem h.pos)) (Ev.cond rfl ?_)
 rw [h.tree]
 refine Ev.bind (zcp l l (by omega)) ?_
 rw [decide_eq_true rfl]
 exact Ev.cond rfl (Ev.fin rfl)
theorem zec {l : List S73} {j : Nat} (hj : j ≤ 6) (h : ¬ UnpOk l j) (hl9 : l.length ≤ 9000000000000000000) : Ev (fun k => Fe.f k l (j : Int)) ([], 3) := by
 have h6 := pow6 hj
 by_cases hl : l.length ≤ 2 ^ j
 ·by_cases ha : ∀ i : Nat, i < 2 ^ j → (atR l (i : Int)).2 = true
  ·refine zbt hj hl (fun y hy => ?_)
   refine zc9 h6 (by omega) ha ?_ (2 ^ j) 0 y (by omega) hy (fun z hz => absurd hz (by omega))
   by_cases hp : ∀ i : Nat, i < 2 ^ j → 0 ≤ (atR l (i : Int)).1
   ·refine Ev.bind (zdk hj (zac _ _) (UnpOk.mem hp)) (Ev.cond rfl ?_)
    refine Ev.bind (zcp _ l (by show (tree j (zaa l (2 ^ j)) 0 0).length ≤ _; have := (zbr j (zaa l (2 ^ j)) 0 0).1; omega)) ?_
    rw [decide_eq_false (fun e => h ⟨hj, hl, ha, hp, e⟩)]
    exact Ev.ncond (by decide) (Ev.fin rfl)
   ·have no : ¬ za1 (zaa l (2 ^ j)) := fun hr => hp (fun i hi => hr.2 _ (List.mem_map.2 ⟨i, List.mem_range.2 hi, rfl⟩))
    exact Ev.bind (zfp (by rw [zac]; omega) no) (Ev.ncond (by decide) (Ev.fin rfl))
  ·obtain ⟨q, hq, hn⟩ : ∃ q, q < 2 ^ j ∧ (atR l ((q : Nat) : Int)).2 = false :=
    Classical.byContradiction fun c => ha fun i hi => Classical.byContradiction fun d => c ⟨i, hi, by simpa using d⟩
   exact zbt hj hl (fun y hy => zfr h6 (by omega) hq hn q 0 y (by omega) hy)
 ·have s := zdb ⟨j, by omega⟩
  simp only [] at s
  refine Ev.congr (fun k => by rw [Fe.f]) (Ev.ncond (by omega) ?_)
  rw [decide_eq_false (show ¬ ((j : Int) > 6) by omega)]
  refine Ev.step (fun k => by rw [Fe.j0]) (Ev.ncond (by decide) (Ev.cond (by omega) ?_))
  rw [s]
  exact Ev.cond (by omega) (Ev.fin rfl)
end Go.Proofs.Ytninoenmhcbonaa.Pure
namespace Go.Proofs.Ytninoenmhcbonaa.Pure
open Go.RowKit Go.Proofs.YtninoenmhcbonaaW.PrintWords Go.Proofs.YtninoenmhcbonaaW.PrintLast Go.Proofs.YtninoenmhcbonaaW.PrintMore Go.Proofs.Ytninoenmhcbonaa.X
set_option linter.unusedVariables false
theorem zd8 {l c : List S73} {R : List Int} (hl : l.length ≤ 64) (hc : c.length = l.length) : ∀ (m i : Nat), i + m = l.length → Ev (fun k => Fpb.l2 k l R c (i : Int)) (if c.drop i = l.drop i then (R, 0) else ([], 3)) := by
 intro m
 induction m with
 | zero =>
  intro i hi
  rw [if_pos (by rw [List.drop_eq_nil_of_le (by omega), List.drop_eq_nil_of_le (by omega)])]
  exact Ev.step (fun k => by rw [Fpb.l2]) (Ev.ncond (by omega) (Ev.fin rfl))
 | succ m ih =>
  intro i hi
  refine Ev.step (fun k => by rw [Fpb.l2]) (Ev.cond (by omega) (Ev.cond (by omega) (Ev.cond (by omega) (Ev.ite (fun d => Ev.fin ?_) (fun d => ?_)))))
  ·rw [if_neg (fun e => (ne_S _ _).1 d ((zbc c l (by omega) (by omega)).1 e).1)]
  ·rw [w64 (by omega) (by omega)]
   have q := ih (i + 1) (by omega)
   have e : c.drop i = l.drop i ↔ c.drop (i + 1) = l.drop (i + 1) := (zbc c l (by omega) (by omega)).trans (and_iff_right (Classical.byContradiction fun z => d ((ne_S _ _).2 z)))
   by_cases g : c.drop (i + 1) = l.drop (i + 1)
   ·rw [if_pos g] at q; rw [if_pos (e.2 g)]; exact q
   ·rw [if_neg g] at q; rw [if_neg (fun z => g (e.1 z))]; exact q
theorem zdi {l : List S73} {n : Nat} (hn : n ≤ 64) (hl : l.length ≤ 64) (h : ∀ i : Nat, i < n → (atR l (i : Int)).2 = true) (hp : ∀ i : Nat, i < n → 0 ≤ (atR l (i : Int)).1) {r : List Int × Int}
  (fin : Ev (fun k => (Foa.f k (zaa l n) 0 0).bind fun t => (if (t.length : Int) = (l.length : Int) then (Fpb.l2 k l (zaa l n) t 0) else (some (([] : List Int), 3)))) r) :
  ∀ (m i : Nat), i + m = n → Ev (fun k => Fpb.l1 k l (n : Int) (zaa l i) (i : Int)) r := by
 intro m
 induction m with
 | zero =>
  intro i hi
  obtain rfl : i = n := by omega
  exact Ev.step (fun k => by rw [Fpb.l1]) (Ev.ncond (by omega) fin)
 | succ m ih =>
  intro i hi
  refine Ev.step (fun k => by rw [Fpb.l1]) (Ev.cond (by omega) (Ev.bind (zcf l _ (by omega)) (Ev.cond (h i (by omega)) ?_)))
  refine Ev.ncond (by have := hp i (by omega); omega) (Ev.cond (by rw [zac]; omega) ?_)
  rw [w64 (by omega) (by omega)]
  have q := ih (i + 1) (by omega)
  rw [show zaa l (i + 1) = zaa l i ++ [(atR l (i : Int)).1] by simp [zaa, List.range_succ]] at q
  exact q
theorem zfm {l : List S73} {n q : Nat} (hn : n ≤ 64) (hl : l.length ≤ 64) (hq : q < n) (h : (atR l (q : Int)).2 = false ∨ (atR l (q : Int)).1 < 0) :
  ∀ (m i : Nat), i + m = q → Ev (fun k => Fpb.l1 k l (n : Int) (zaa l i) (i : Int)) ([], 3) := by
 intro m
 induction m with
 | zero =>
  intro i hi
  obtain rfl : i = q := by omega
  refine Ev.step (fun k => by rw [Fpb.l1]) (Ev.cond (by omega) (Ev.bind (zcf l _ (by omega)) ?_))
  refine Ev.ite (fun a => ?_) (fun _ => Ev.fin rfl)
  refine Ev.cond ?_ (Ev.fin rfl)
  rcases h with h | h
  ·rw [h] at a; cases a
  ·exact h
 | succ m ih =>
  intro i hi
  refine Ev.step (fun k => by rw [Fpb.l1]) (Ev.cond (by omega) (Ev.bind (zcf l _ (by omega)) ?_))
  refine Ev.ite (fun a => ?_) (fun _ => Ev.fin rfl)
  refine Ev.ite (fun _ => Ev.fin rfl) (fun _ => Ev.cond (by rw [zac]; omega) ?_)
  rw [w64 (by omega) (by omega)]
  have q := ih (i + 1) (by omega)
  rw [show zaa l (i + 1) = zaa l i ++ [(atR l (i : Int)).1] by simp [zaa, List.range_succ]] at q
  exact q
theorem zcs {l : List S73} {j : Nat} {r : List Int × Int} (hj : j ≤ 6) (h : Ev (fun k => if (l.length : Int) > ((2 ^ j : Nat) : Int) then (some (([] : List Int), 3)) else (Fpb.l1 k l ((2 ^ j : Nat) : Int) ([] : List Int) 0)) r) : Ev (fun k => Fpb.f k l (j : Int)) r := by
 refine Ev.congr (fun k => by rw [Fpb.f]) (Ev.ncond (by omega) ?_)
 rw [decide_eq_false (show ¬ ((j : Int) > 6) by omega)]
 refine Ev.step (fun k => by rw [Fpb.j0]) (Ev.ncond (by decide) ?_)
 have key : ∀ (m i : Nat), i + m = j → Ev (fun k => Fpb.l0 k l (j : Int) ((2 ^ i : Nat) : Int) (i : Int)) r := by
  intro m
  induction m with
  | zero =>
   intro i hi
   obtain rfl : i = j := by omega
   exact Ev.step (fun k => by rw [Fpb.l0]) (Ev.ncond (by omega) h)
  | succ m ih =>
   intro i hi
   have := pow6 (show i ≤ 6 by omega)
   refine Ev.step (fun k => by rw [Fpb.l0]) (Ev.cond (by omega) ?_)
   have q := ih (i + 1) (by omega)
   rw [Nat.pow_succ] at q
   obtain ⟨p, hp⟩ : ∃ p, p = 2 ^ i := ⟨_, rfl⟩
   rw [← hp] at q this ⊢
   rw [w64 (x := (i : Int) + 1) (by omega) (by omega), w64 (x := (p : Int) * 2) (by omega) (by omega), show (p : Int) * 2 = ((p * 2 : Nat) : Int) by omega]
   exact q
 exact key j 0 (by omega)
theorem zbx {l : List S73} {j : Nat} (h : UnpOk l j) : Ev (fun k => Fpb.f k l (j : Int)) (zaa l (2 ^ j), 0) := by
 have h6 := pow6 h.six
 have hl := h.len
 refine zcs h.six (Ev.ncond (by omega) ?_)
 refine zdi h6 (by omega) h.all h.pos ?_ (2 ^ j) 0 (by omega)
 refine Ev.bind (zej h.six (zac _ _)) ?_
 rw [h.tree]
 refine Ev.cond rfl ?_
 have q := zd8 (l := l) (c := l) (R := zaa l (2 ^ j)) (by omega) rfl l.length 0 (by omega)
 rw [if_pos rfl] at q
 exact q
theorem zdt {l : List S73} {j : Nat} (hj : j ≤ 6) (h : ¬ UnpOk l j) : Ev (fun k => Fpb.f k l (j : Int)) ([], 3) := by
 have h6 := pow6 hj
 refine zcs hj ?_
 by_cases hl : l.length ≤ 2 ^ j
 ·refine Ev.ncond (by omega) ?_
  by_cases ha : ∀ i : Nat, i < 2 ^ j → (atR l (i : Int)).2 = true ∧ 0 ≤ (atR l (i : Int)).1
  ·refine zdi h6 (by omega) (fun i hi => (ha i hi).1) (fun i hi => (ha i hi).2) ?_ (2 ^ j) 0 (by omega)
   refine Ev.bind (zej hj (zac _ _)) ?_
   refine Ev.ite (fun e => ?_) (fun _ => Ev.fin rfl)
   have q := zd8 (l := l) (c := tree j (zaa l (2 ^ j)) 0 0) (R := zaa l (2 ^ j)) (by omega) (by omega) l.length 0 (by omega)
   rw [if_neg (fun e => h ⟨hj, hl, fun i hi => (ha i hi).1, fun i hi => (ha i hi).2, by simpa using e⟩)] at q
   exact q
  ·obtain ⟨q, hq, hn⟩ : ∃ q : Nat, q < 2 ^ j ∧ ((atR l ((q : Nat) : Int)).2 = false ∨ (atR l ((q : Nat) : Int)).1 < 0) :=
    Classical.byContradiction fun c => ha fun i hi => Classical.byContradiction fun d => c ⟨i, hi, by
     by_cases e : (atR l (i : Int)).2 = true
     ·exact Or.inr (by have : ¬ 0 ≤ (atR l (i : Int)).1 := fun z => d ⟨e, z⟩; omega)
     ·exact Or.inl (by simpa using e)⟩
   exact zfm h6 (by omega) hq hn q 0 (by omega)
 ·exact Ev.cond (by omega) (Ev.fin rfl)
theorem zdp {l : List S73} {t s : Int} {e : Int} (he : e ≠ 0) (h : Ev (fun k => Fpb.f k l t) ([], e)) : Ev (fun k => Foc.f k l t s) false :=
 Ev.congr (fun k => by rw [Foc.f]) (Ev.bind h (Ev.ncond he (Ev.fin rfl)))
theorem zc4 {l : List S73} {t s : Int} {R : List Int} (h2 : R.length ≤ 64) (h : Ev (fun k => Fpb.f k l t) (R, 0)) : Ev (fun k => Foc.f k l t s) (decide (∀ x ∈ R, x < s)) := by
 refine Ev.congr (fun k => by rw [Foc.f]) (Ev.bind h (Ev.cond rfl ?_))
 have key : ∀ (m i : Nat), i + m = R.length → Ev (fun k => Foc.l0 k s R (i : Int)) (decide (∀ x ∈ R.drop i, x < s)) := by
  intro m
  induction m with
  | zero =>
   intro i hi
   rw [decide_eq_true (show ∀ x ∈ R.drop i, x < s by rw [List.drop_eq_nil_of_le (by omega)]; simp)]
   exact Ev.step (fun k => by rw [Foc.l0]) (Ev.ncond (by omega) (Ev.fin rfl))
  | succ m ih =>
   intro i hi
   have q := zay (fun x => x < s) R (i := i) (by omega)
   refine Ev.step (fun k => by rw [Foc.l0]) (Ev.cond (by omega) (Ev.cond (by omega) (Ev.ite (fun d => Ev.fin ?_) (fun d => ?_))))
   ·exact (decide_eq_false (fun e => by have := (q.1 e).1; omega)).symm
   ·rw [w64 (by omega) (by omega), decide_eq_decide.2 (q.trans (and_iff_right (by omega)))]
    exact ih (i + 1) (by omega)
 exact key R.length 0 (by omega)
end Go.Proofs.Ytninoenmhcbonaa.Pure
namespace Go.Proofs.Ytninoenmhcbonaa.Pure
open Go.RowKit Go.Proofs.YtninoenmhcbonaaW.PrintWords Go.Proofs.YtninoenmhcbonaaW.PrintLast Go.Proofs.YtninoenmhcbonaaW.PrintMore Go.Proofs.Ytninoenmhcbonaa.X
set_option linter.unusedVariables false
theorem zap {α : Type} (d : α) (l : List α) {i : Nat} (h : i < l.length) : rdOf d l (i : Int) = l[i] := by
 simp [rdOf, List.getD_eq_getElem?_getD, h]
theorem zbv (l : List Int) {i : Nat} (h : i < l.length) : rd l (i : Int) = l[i] := by
 rw [zab, List.getD_eq_getElem?_getD, List.getElem?_eq_getElem h]; rfl
theorem zf4 (l : List (List Int)) {i : Nat} (h : i < l.length) : rd_L4 l (i : Int) = l[i] := by
 simp [rd_L4, List.getD_eq_getElem?_getD, h]
end Go.Proofs.Ytninoenmhcbonaa.Pure
namespace Go.Proofs.Ytninoenmhcbonaa.Pure
open Go.RowKit Go.Proofs.YtninoenmhcbonaaW.PrintWords Go.Proofs.YtninoenmhcbonaaW.PrintLast Go.Proofs.YtninoenmhcbonaaW.PrintMore Go.Proofs.Ytninoenmhcbonaa.X
set_option linter.unusedVariables false
section
variable {t0 u0 : List ByteArray} {t1 u1 : List Bool} {t2 u2 : List Int} {t3 u3 : List S73}
theorem ze3 (h0 : t0.length * 16 ≤ 140737488351232) (h1 : t1.length * 1 ≤ 140737488351232) (h2 : t2.length * 8 ≤ 140737488351232) (h3 : t3.length * 24 ≤ 140737488351232) :
  Fqa.f t0 t1 t2 t3 = some (t0, t1, t2, t3) := by
 unfold Fqa.f
 simp only [Option.bind_some, List.nil_append, List.length_nil]
 rw [if_pos (by omega), if_pos (by omega), if_pos (by omega), if_pos (by omega)]
end
end Go.Proofs.Ytninoenmhcbonaa.Pure
namespace Go.Proofs.Ytninoenmhcbonaa.Pure
open Go.RowKit Go.Proofs.YtninoenmhcbonaaW.PrintWords Go.Proofs.YtninoenmhcbonaaW.PrintLast Go.Proofs.YtninoenmhcbonaaW.PrintMore Go.Proofs.Ytninoenmhcbonaa.X
set_option linter.unusedVariables false
def zaf (r : Int) : Bool := decide ((65 ≤ r ∧ r ≤ 90) ∨ (97 ≤ r ∧ r ≤ 122) ∨ r = 95 ∨ (913 ≤ r ∧ r ≤ 929) ∨ (931 ≤ r ∧ r ≤ 937) ∨ (945 ≤ r ∧ r ≤ 969))
def za0 (r : Int) : Bool := zaf r || decide ((48 ≤ r ∧ r ≤ 57) ∨ r = 8242 ∨ (8320 ≤ r ∧ r ≤ 8329))
theorem zcw (r : Int) (b : Bool) : Ev (fun k => Fc.j3 k r b) (b || decide (945 ≤ r ∧ r ≤ 969)) := by
 cases b
 ·refine Ev.step (fun k => by rw [Fc.j3]) (Ev.ncond (by decide) (Ev.ite (fun h => Ev.ite (fun g => Ev.fin ?_) (fun g => Ev.fin ?_)) (fun h => Ev.fin ?_))) <;> simp <;> omega
 ·rw [Bool.true_or]; exact Ev.step (fun k => by rw [Fc.j3]) (Ev.cond rfl (Ev.fin rfl))
theorem zck (r : Int) (b : Bool) : Ev (fun k => Fc.j2 k r b) (b || decide ((931 ≤ r ∧ r ≤ 937) ∨ (945 ≤ r ∧ r ≤ 969))) := by
 cases b
 ·refine Ev.step (fun k => by rw [Fc.j2]) (Ev.ncond (by decide) (Ev.ite (fun h => ?_) (fun h => ?_)))
  ·have := zcw r (decide (r ≤ 937))
   rwa [show (decide (r ≤ 937) || decide (945 ≤ r ∧ r ≤ 969)) = (false || decide ((931 ≤ r ∧ r ≤ 937) ∨ (945 ≤ r ∧ r ≤ 969))) by rw [Bool.eq_iff_iff]; simp; omega] at this
  ·have := zcw r false
   rwa [show (false || decide (945 ≤ r ∧ r ≤ 969)) = (false || decide ((931 ≤ r ∧ r ≤ 937) ∨ (945 ≤ r ∧ r ≤ 969))) by rw [Bool.eq_iff_iff]; simp; omega] at this
 ·rw [Bool.true_or]; exact Ev.step (fun k => by rw [Fc.j2]) (Ev.cond rfl (Ev.fin rfl))
theorem zba (r : Int) (b : Bool) : Ev (fun k => Fc.j1 k r b) (b || decide ((913 ≤ r ∧ r ≤ 929) ∨ (931 ≤ r ∧ r ≤ 937) ∨ (945 ≤ r ∧ r ≤ 969))) := by
 cases b
 ·refine Ev.step (fun k => by rw [Fc.j1]) (Ev.ncond (by decide) (Ev.ite (fun h => ?_) (fun h => ?_)))
  ·have := zck r (decide (r ≤ 929))
   rwa [show (decide (r ≤ 929) || decide ((931 ≤ r ∧ r ≤ 937) ∨ (945 ≤ r ∧ r ≤ 969))) = (false || decide ((913 ≤ r ∧ r ≤ 929) ∨ (931 ≤ r ∧ r ≤ 937) ∨ (945 ≤ r ∧ r ≤ 969))) by rw [Bool.eq_iff_iff]; simp; omega] at this
  ·have := zck r false
   rwa [show (false || decide ((931 ≤ r ∧ r ≤ 937) ∨ (945 ≤ r ∧ r ≤ 969))) = (false || decide ((913 ≤ r ∧ r ≤ 929) ∨ (931 ≤ r ∧ r ≤ 937) ∨ (945 ≤ r ∧ r ≤ 969))) by rw [Bool.eq_iff_iff]; simp; omega] at this
 ·rw [Bool.true_or]; exact Ev.step (fun k => by rw [Fc.j1]) (Ev.cond rfl (Ev.fin rfl))
theorem zc1 (r : Int) (b : Bool) : Ev (fun k => Fc.j0 k r b) (b || decide ((97 ≤ r ∧ r ≤ 122) ∨ r = 95 ∨ (913 ≤ r ∧ r ≤ 929) ∨ (931 ≤ r ∧ r ≤ 937) ∨ (945 ≤ r ∧ r ≤ 969))) := by
 cases b
 ·refine Ev.step (fun k => by rw [Fc.j0]) (Ev.ncond (by decide) (Ev.ite (fun h => Ev.ite (fun g => ?_) (fun g => ?_)) (fun h => ?_)))
  ·have := zba r (decide (r ≤ 122))
   rwa [show (decide (r ≤ 122) || decide ((913 ≤ r ∧ r ≤ 929) ∨ (931 ≤ r ∧ r ≤ 937) ∨ (945 ≤ r ∧ r ≤ 969))) = (false || decide ((97 ≤ r ∧ r ≤ 122) ∨ r = 95 ∨ (913 ≤ r ∧ r ≤ 929) ∨ (931 ≤ r ∧ r ≤ 937) ∨ (945 ≤ r ∧ r ≤ 969))) by rw [Bool.eq_iff_iff]; simp; omega] at this
  ·have := zba r (r == 95)
   rwa [show ((r == 95) || decide ((913 ≤ r ∧ r ≤ 929) ∨ (931 ≤ r ∧ r ≤ 937) ∨ (945 ≤ r ∧ r ≤ 969))) = (false || decide ((97 ≤ r ∧ r ≤ 122) ∨ r = 95 ∨ (913 ≤ r ∧ r ≤ 929) ∨ (931 ≤ r ∧ r ≤ 937) ∨ (945 ≤ r ∧ r ≤ 969))) by rw [Bool.eq_iff_iff]; simp; omega] at this
  ·have := zba r (r == 95)
   rwa [show ((r == 95) || decide ((913 ≤ r ∧ r ≤ 929) ∨ (931 ≤ r ∧ r ≤ 937) ∨ (945 ≤ r ∧ r ≤ 969))) = (false || decide ((97 ≤ r ∧ r ≤ 122) ∨ r = 95 ∨ (913 ≤ r ∧ r ≤ 929) ∨ (931 ≤ r ∧ r ≤ 937) ∨ (945 ≤ r ∧ r ≤ 969))) by rw [Bool.eq_iff_iff]; simp; omega] at this
 ·have := zba r true
  exact Ev.step (fun k => by rw [Fc.j0]) (Ev.cond rfl this)
theorem zcn (r : Int) : Ev (fun k => Fc.f k r) (zaf r) := by
 refine Ev.congr (fun k => by rw [Fc.f]) (Ev.ite (fun h => ?_) (fun h => ?_))
 ·have := zc1 r (decide (r ≤ 90))
  rwa [show (decide (r ≤ 90) || decide ((97 ≤ r ∧ r ≤ 122) ∨ r = 95 ∨ (913 ≤ r ∧ r ≤ 929) ∨ (931 ≤ r ∧ r ≤ 937) ∨ (945 ≤ r ∧ r ≤ 969))) = zaf r by rw [zaf, Bool.eq_iff_iff]; simp; omega] at this
 ·have := zc1 r false
  rwa [show (false || decide ((97 ≤ r ∧ r ≤ 122) ∨ r = 95 ∨ (913 ≤ r ∧ r ≤ 929) ∨ (931 ≤ r ∧ r ≤ 937) ∨ (945 ≤ r ∧ r ≤ 969))) = zaf r by rw [zaf, Bool.eq_iff_iff]; simp; omega] at this
theorem zfo (r : Int) : Ev (fun k => Fbb.f k r) (za0 r) := by
 refine Ev.congr (fun k => by rw [Fbb.f]) (Ev.bind (zcn r) ?_)
 rw [za0]
 cases zaf r
 ·refine Ev.ncond (by decide) (Ev.ite (fun h => Ev.ite (fun g => Ev.fin ?_) (fun g => Ev.ite (fun z => Ev.fin ?_) (fun z => Ev.ite (fun y => Ev.fin ?_) (fun y => Ev.fin ?_)))) (fun h => Ev.ite (fun z => Ev.fin ?_) (fun z => Ev.ite (fun y => Ev.fin ?_) (fun y => Ev.fin ?_)))) <;> rw [Bool.false_or, Bool.eq_iff_iff] <;> simp <;> omega
 ·exact Ev.cond rfl (Ev.fin rfl)
def resB (s : ByteArray) : Bool := decide (s.toList ∈ [[97, 110, 100], [111, 114], [110, 111, 116], [101, 120], [97, 108, 108], [109, 111, 100], [116, 114, 117, 101], [102, 97, 108, 115, 101]])
theorem res_eq (s : ByteArray) : Fba.f s = some (resB s) := by
 unfold Fba.f resB
 simp only [List.mem_cons, List.not_mem_nil, or_false]
 repeat' split
 all_goals simp_all
theorem zcd (s : ByteArray) (pos : Nat) (h : pos < s.size) : 1 ≤ (Utf8.decode s pos).2 := by
 by_cases ha : (s[pos]'h).toNat < 128
 ·rw [decode_ascii s pos h ha]
  exact Nat.le_refl _
 ·exact (decode_high s pos h (by omega)).2
def za3 : Nat → ByteArray → Nat → Nat → Bool
 | 0, s, _, n => decide (1 ≤ n ∧ n ≤ 16) && !resB s
 | m + 1, s, p, n =>
  if p < s.size then (if (n = 0 → zaf ((Utf8.decode s p).1 : Int) = true) ∧ za0 ((Utf8.decode s p).1 : Int) = true then za3 m s (p + (Utf8.decode s p).2) (n + 1) else false)
  else decide (1 ≤ n ∧ n ≤ 16) && !resB s
def zd3 (s : ByteArray) : Bool := za3 s.size s 0 0
theorem zco (s : ByteArray) (n : Nat) : Ev (fun k => if (n : Int) > 0 then (if (n : Int) ≤ 16 then (Fba.f s).bind fun t => some (!t) else some false) else some false) (decide (1 ≤ n ∧ n ≤ 16) && !resB s) := by
 by_cases h1 : 1 ≤ n
 ·by_cases h2 : n ≤ 16
  ·refine Ev.cond (by omega) (Ev.cond (by omega) ?_)
   rw [decide_eq_true ⟨h1, h2⟩, Bool.true_and]
   exact Ev.ret (res_eq s) (Ev.fin rfl)
  ·rw [decide_eq_false (fun e => h2 e.2)]
   exact Ev.cond (by omega) (Ev.ncond (by omega) (Ev.fin rfl))
 ·rw [decide_eq_false (fun e => h1 e.1)]
  exact Ev.ncond (by omega) (Ev.fin rfl)
theorem zfk (s : ByteArray) (hs : s.size ≤ 9223372036854775807) : Ev (fun k => Fb.f k s) (zd3 s) := by
 have key : ∀ (m p n : Nat), s.size ≤ p + m → n ≤ p → (p = 0 ↔ n = 0) → Ev (fun k => Fb.l0 k s p (n : Int)) (za3 m s p n) := by
  intro m
  induction m with
  | zero =>
   intro p n hp hn _
   exact Ev.step (fun k => by rw [Fb.l0]) (Ev.ncond (by omega) (zco s n))
  | succ m ih =>
   intro p n hp hn hz
   rw [za3]
   by_cases c : p < s.size
   ·rw [if_pos c]
    have hw := zcd s p c
    refine Ev.step (fun k => by rw [Fb.l0]) (Ev.cond c ?_)
    have st : Ev (fun k => if p = 0 then Fc.f k ((Utf8.decode s p).1 : Int) else some true) (decide (n = 0 → zaf ((Utf8.decode s p).1 : Int) = true)) := by
     refine Ev.ite (fun h => ?_) (fun h => Ev.fin ?_)
     ·have n0 := hz.1 h
      rw [show decide (n = 0 → zaf ((Utf8.decode s p).1 : Int) = true) = zaf ((Utf8.decode s p).1 : Int) by rw [Bool.eq_iff_iff]; simp [n0]]
      exact zcn _
     ·have n0 : ¬ n = 0 := fun e => h (hz.2 e)
      exact (decide_eq_true (fun e => absurd e n0)).symm
    refine Ev.bind st (Ev.ite (fun h => Ev.bind (zfo _) (Ev.ite (fun g => ?_) (fun g => Ev.fin ?_))) (fun h => Ev.fin ?_))
    ·rw [if_pos ⟨of_decide_eq_true h, g⟩, w64 (by omega) (by omega)]
     exact ih (p + (Utf8.decode s p).2) (n + 1) (by omega) (by omega) (by omega)
    ·rw [if_neg (fun e => g e.2)]
    ·rw [if_neg (fun e => h (decide_eq_true e.1))]
   ·rw [if_neg c]
    exact Ev.step (fun k => by rw [Fb.l0]) (Ev.ncond c (zco s n))
 exact key s.size 0 0 (by omega) (by omega) (by omega)
def za7 (ns : List ByteArray) : Nat → Nat → Bool
 | 0, _ => true
 | m + 1, i => zd3 (rdOf ByteArray.empty ns (i : Int)) && ((decide (i = 0) || Op.bytesLess (rdOf ByteArray.empty ns ((i - 1 : Nat) : Int)).toList (rdOf ByteArray.empty ns (i : Int)).toList) && za7 ns m (i + 1))
def zbw (ns : List ByteArray) : Bool := za7 ns ns.length 0
theorem zcj (ns : List ByteArray) (hn : ns.length ≤ 9000000000000000000) (hs : ∀ x ∈ ns, x.size ≤ 9223372036854775807) : Ev (fun k => Fbc.f k ns) (zbw ns) := by
 refine Ev.congr (fun k => by rw [Fbc.f]) ?_
 have key : ∀ (m i : Nat), i + m = ns.length → Ev (fun k => Fbc.l0 k ns ns (ns.length : Int) (i : Int)) (za7 ns m i) := by
  intro m
  induction m with
  | zero =>
   intro i hi
   refine Ev.step (fun k => by rw [Fbc.l0]) (Ev.ncond (by omega) ?_)
   exact Ev.fin rfl
  | succ m ih =>
   intro i hi
   rw [za7]
   have sz : (rdOf ByteArray.empty ns (i : Int)).size ≤ 9223372036854775807 := by rw [zap _ ns (show i < ns.length by omega)]; exact hs _ (List.getElem_mem _)
   refine Ev.step (fun k => by rw [Fbc.l0]) (Ev.cond (by omega) (Ev.cond (by omega) (Ev.cond (by omega) (Ev.bind (zfk _ sz) ?_))))
   refine Ev.ite (fun a => ?_) (fun a => Ev.fin ?_)
   ·rw [a, Bool.true_and]
    have nx := ih (i + 1) (by omega)
    refine Ev.ite (fun b => ?_) (fun b => ?_)
    ·rw [w64 (x := (i : Int) - 1) (by omega) (by omega), w64 (x := (i : Int) + 1) (by omega) (by omega), show (i : Int) - 1 = ((i - 1 : Nat) : Int) by omega, decide_eq_false (show ¬ i = 0 by omega), Bool.false_or]
     refine Ev.cond (by omega) (Ev.cond (by omega) (Ev.ite (fun c => ?_) (fun c => Ev.fin ?_)))
     ·rw [c, Bool.true_and]; exact nx
     ·rw [Bool.not_eq_true] at c; rw [c, Bool.false_and]
    ·rw [decide_eq_true (show i = 0 by omega), Bool.true_or, Bool.true_and, w64 (by omega) (by omega)]
     exact nx
   ·rw [Bool.not_eq_true] at a; rw [a, Bool.false_and]
 exact key ns.length 0 (by omega)
end Go.Proofs.Ytninoenmhcbonaa.Pure
namespace Go.Proofs.Ytninoenmhcbonaa.Pure
open Go.RowKit Go.Proofs.YtninoenmhcbonaaW.PrintWords Go.Proofs.YtninoenmhcbonaaW.PrintLast Go.Proofs.YtninoenmhcbonaaW.PrintMore Go.Proofs.Ytninoenmhcbonaa.X
set_option linter.unusedVariables false
section
variable {a : List Int} {j : Nat}
end
theorem zdn {l : List S73} {t s : Int} {e : Int} (he : e ≠ 0) (h : Ev (fun k => Fe.f k l t) ([], e)) : Ev (fun k => Fdc.f k l t s) false :=
 Ev.congr (fun k => by rw [Fdc.f]) (Ev.bind h (Ev.ncond he (Ev.fin rfl)))
theorem zc7 {l : List S73} {t s : Int} {R : List Int} (h1 : 1 ≤ R.length) (h2 : R.length ≤ 64) (h : Ev (fun k => Fe.f k l t) (R, 0)) : Ev (fun k => Fdc.f k l t s) (decide (∀ x ∈ R, x < s)) := by
 obtain ⟨r, hr, hs⟩ := max_ev R h1 (by omega)
 refine Ev.congr (fun k => by rw [Fdc.f]) (Ev.bind h ?_)
 refine Ev.cond rfl ?_
 refine Ev.bind hr (Ev.fin ?_)
 exact decide_eq_decide.2 (hs s)
def SZ (ns : List ByteArray) : Prop := ∀ x ∈ ns, x.size ≤ 9223372036854775807
structure Fr (ns : List ByteArray) (n : Nat) : Prop where
 tr : ns.length ≤ 6
 n1 : 1 ≤ n
 n2 : n ≤ 256
 ri : zbw ns = true
section
variable {ns : List ByteArray} {n : Nat}
theorem zby (hs : SZ ns) (f : Fr ns n) : Ev (fun k => Ft.f k ns (n : Int)) true := by
 have := f.tr; have := f.n1; have := f.n2
 refine Ev.congr (fun k => by rw [Ft.f]) (Ev.cond (by omega) (Ev.cond (by omega) (Ev.cond (by omega) (Ev.bind (zcj ns (by omega) hs) (Ev.fin f.ri)))))
theorem zd5 (hs : SZ ns) (hn : ¬ Fr ns n) : Ev (fun k => Ft.f k ns (n : Int)) false := by
 refine Ev.congr (fun k => by rw [Ft.f]) (Ev.ite (fun a => Ev.ite (fun b => Ev.ite (fun c => Ev.bind (zcj ns (by omega) hs) (Ev.fin ?_)) (fun _ => Ev.fin rfl)) (fun _ => Ev.fin rfl)) (fun _ => Ev.fin rfl))
 cases e : zbw ns
 ·rfl
 ·exact absurd ⟨by omega, by omega, by omega, e⟩ hn
variable {ac : List Bool} {nx : List (List Int)}
end
section
variable {ns : List ByteArray} {ac : List Bool} {nx : List (List Int)}
end
end Go.Proofs.Ytninoenmhcbonaa.Pure
namespace Go.Proofs.Ytninoenmhcbonaa.Pure
open Go.RowKit Go.Proofs.YtninoenmhcbonaaW.PrintWords Go.Proofs.YtninoenmhcbonaaW.PrintLast Go.Proofs.YtninoenmhcbonaaW.PrintMore Go.Proofs.Ytninoenmhcbonaa.X
set_option linter.unusedVariables false
def cb (st : List Int) (ar : List S73) (q : Nat) : List S73 := (ar.take (rd st ((q + 1 : Nat) : Int)).toNat).drop (rd st (q : Int)).toNat
structure Fm (n : Nat) (st : List Int) (ar : List S73) : Prop where
 sl : st.length = n + 1
 s0 : rd st 0 = 0
 se : rd st (n : Int) = (ar.length : Int)
 so : ∀ i : Nat, i < n → rd st (i : Int) ≤ rd st ((i + 1 : Nat) : Int)
theorem Fm.up {n : Nat} {st : List Int} {ar : List S73} (f : Fm n st ar) : ∀ (d i : Nat), i + d ≤ n → rd st (i : Int) ≤ rd st ((i + d : Nat) : Int) := by
 intro d
 induction d with
 | zero => intro i _; exact Int.le_refl _
 | succ d ih => intro i h; exact Int.le_trans (ih i (by omega)) (f.so (i + d) (by omega))
theorem Fm.bounds {n : Nat} {st : List Int} {ar : List S73} (f : Fm n st ar) {q : Nat} (hq : q ≤ n) : 0 ≤ rd st (q : Int) ∧ rd st (q : Int) ≤ (ar.length : Int) := by
 have a := f.up q 0 (by omega)
 have b := f.up (n - q) q (by omega)
 rw [Nat.zero_add] at a
 rw [show q + (n - q) = n by omega, f.se] at b
 have s0 := f.s0
 have e : rd st ((0 : Nat) : Int) = 0 := s0
 omega
theorem zcx {n : Nat} {ns : List ByteArray} {ac : List Bool} {st : List Int} {ar : List S73} (f : Fm n st ar) (hn : n ≤ 256) {q : Nat} (hq : q < n) : Fsc.f ns ac st ar (q : Int) = some (cb st ar q) := by
 have sl := f.sl
 have b0 := f.bounds (show q ≤ n by omega)
 have b1 := f.bounds (show q + 1 ≤ n by omega)
 have so := f.so q hq
 unfold Fsc.f
 rw [w64 (x := (q : Int) + 1) (by omega) (by omega), show (q : Int) + 1 = ((q + 1 : Nat) : Int) by omega]
 rw [if_pos (by omega), if_pos (by omega), if_pos (by omega), if_pos (by omega), if_pos b0.1, if_pos so, if_pos b1.2]
 rfl
theorem zb8 {n : Nat} {st : List Int} (hl : st.length = n + 1) (hn : n ≤ 256) : Ev (fun k => Ffc.f k st) (decide (∀ i : Nat, i < n → rd st (i : Int) ≤ rd st ((i + 1 : Nat) : Int))) := by
 refine Ev.congr (fun k => by rw [Ffc.f]) ?_
 have key : ∀ (m : Nat), m ≤ n → Ev (fun k => Ffc.l0 k st (m : Int)) (decide (∀ i : Nat, i < m → rd st (i : Int) ≤ rd st ((i + 1 : Nat) : Int))) := by
  intro m
  induction m with
  | zero =>
   intro _
   rw [decide_eq_true (show ∀ i : Nat, i < 0 → rd st (i : Int) ≤ rd st ((i + 1 : Nat) : Int) from fun i hi => absurd hi (by omega))]
   exact Ev.step (fun k => by rw [Ffc.l0]) (Ev.ncond (by omega) (Ev.fin rfl))
  | succ m ih =>
   intro hm
   refine Ev.step (fun k => by rw [Ffc.l0]) (Ev.cond (by omega) (Ev.cond (by omega) (Ev.cond (by omega) ?_)))
   rw [w64 (by omega) (by omega), show ((m + 1 : Nat) : Int) - 1 = (m : Int) by omega]
   refine Ev.cond (by omega) (Ev.cond (by omega) ?_)
   refine Ev.ret (show Fab.f (rd st ((m + 1 : Nat) : Int)) (rd st (m : Int)) = some (decide (rd st ((m + 1 : Nat) : Int) < rd st (m : Int))) by simp [Fab.f, Fac.f]) ?_
   refine Ev.ite (fun c => Ev.fin ?_) (fun c => ?_)
   ·have c := of_decide_eq_true c
    exact (decide_eq_false (fun h => by have := h m (by omega); omega)).symm
   ·have c : ¬ rd st ((m + 1 : Nat) : Int) < rd st (m : Int) := fun h => c (decide_eq_true h)
    rw [decide_eq_decide.2 (show (∀ i : Nat, i < m + 1 → rd st (i : Int) ≤ rd st ((i + 1 : Nat) : Int)) ↔ (∀ i : Nat, i < m → rd st (i : Int) ≤ rd st ((i + 1 : Nat) : Int)) from
     ⟨fun h i hi => h i (by omega), fun h i hi => by
      by_cases e : i = m
      ·subst e; omega
      ·exact h i (by omega)⟩)]
    exact ih (by omega)
 have := key n (Nat.le_refl n)
 rw [hl, w64 (by omega) (by omega), show ((n + 1 : Nat) : Int) - 1 = (n : Int) by omega]
 exact this
structure AOk (ns : List ByteArray) (ac : List Bool) (st : List Int) (ar : List S73) : Prop where
 fr : Fr ns ac.length
 fm : Fm ac.length st ar
 len : ∀ q, q < ac.length → (cb st ar q).length ≤ 32
 unp : ∀ q, q < ac.length → UnpOk (cb st ar q) ns.length
 low : ∀ q, q < ac.length → ∀ x ∈ zaa (cb st ar q) (2 ^ ns.length), x < (ac.length : Int)
section
variable {ns : List ByteArray} {ac : List Bool} {st : List Int} {ar : List S73}
theorem Fea {l : List S73} {j : Nat} (hj : j ≤ 6) {s : Int} {e : Int} {f : Nat → Option Int} (hl9 : l.length ≤ 9000000000000000000)
  (yes : (UnpOk l j ∧ ∀ x ∈ zaa l (2 ^ j), x < s) → Ev f e) (no : ¬ (UnpOk l j ∧ ∀ x ∈ zaa l (2 ^ j), x < s) → e = 3) :
  Ev (fun k => (Fdc.f k l (j : Int) s).bind fun t => if t = true then f k else some 3) e := by
 have h6 := pow6 hj
 have hp := Nat.two_pow_pos j
 by_cases u : UnpOk l j
 ·refine Ev.bind (zc7 (by rw [zac]; omega) (by rw [zac]; omega) (zb7 u)) (Ev.ite (fun t => yes ⟨u, of_decide_eq_true t⟩) (fun t => Ev.fin (no (fun z => t (decide_eq_true z.2))).symm))
 ·refine Ev.bind (zdn (by decide) (zec hj u hl9)) ?_
  exact Ev.ncond (by decide) (Ev.fin (no (fun z => u z.1)).symm)
theorem zb1 (hs : SZ ns) (fr : Fr ns ac.length) (fm : Fm ac.length st ar) (ha : ar.length ≤ 9000000000000000000) {e : Int} :
  ∀ (m i : Nat), i + m = ac.length → (e = 3 ∨ e = 0) →
   (e = 0 → ∀ q, i ≤ q → q < ac.length → (cb st ar q).length ≤ 32 ∧ UnpOk (cb st ar q) ns.length ∧ ∀ x ∈ zaa (cb st ar q) (2 ^ ns.length), x < (ac.length : Int)) →
   (e = 3 → ∃ q, i ≤ q ∧ q < ac.length ∧ ¬ ((cb st ar q).length ≤ 32 ∧ UnpOk (cb st ar q) ns.length ∧ ∀ x ∈ zaa (cb st ar q) (2 ^ ns.length), x < (ac.length : Int))) →
   Ev (fun k => Fsa.l0 k (ac.length : Int) (ac.length : Int) (i : Int) ns ac st ar) e := by
 have n2 := fr.n2
 intro m
 induction m with
 | zero =>
  intro i hi h h0 h3
  refine Ev.step (fun k => by rw [Fsa.l0]) (Ev.ncond (by omega) (Ev.fin ?_))
  rcases h with h | h
  ·obtain ⟨q, h1, h2, _⟩ := h3 h; omega
  ·exact h.symm
 | succ m ih =>
  intro i hi h h0 h3
  have ii : i < ac.length := by omega
  refine Ev.step (fun k => by rw [Fsa.l0]) (Ev.cond (by omega) ?_)
  refine Ev.ret (zcx fm n2 ii) ?_
  have cl : (cb st ar i).length ≤ 9000000000000000000 := by rw [cb, List.length_drop, List.length_take]; omega
  by_cases big : (cb st ar i).length ≤ 32
  ·refine Ev.ncond (by omega) ?_
   rw [w64 (by omega) (by omega)]
   refine Fea fr.tr cl (fun ok => ih (i + 1) (by omega) h (fun z q h1 h2 => h0 z q (by omega) h2) (fun z => ?_)) (fun no => ?_)
   ·obtain ⟨q, h1, h2, h4⟩ := h3 z
    by_cases e1 : q = i
    ·subst e1; exact absurd ⟨big, ok.1, ok.2⟩ h4
    ·exact ⟨q, by omega, h2, h4⟩
   ·rcases h with h | h
    ·exact h
    ·have := h0 h i (Nat.le_refl i) ii; exact absurd this.2 no
  ·refine Ev.cond (by omega) (Ev.fin ?_)
   rcases h with h | h
   ·exact h.symm
   ·exact absurd (h0 h i (Nat.le_refl i) ii).1 big
theorem zfg (hs : SZ ns) (ha : ar.length ≤ 9000000000000000000) (a : AOk ns ac st ar) : Ev (fun k => Fsa.f k ns ac st ar) 0 := by
 have n2 := a.fr.n2
 have sl := a.fm.sl
 refine Ev.congr (fun k => by rw [Fsa.f]) (Ev.bind (zby hs a.fr) (Ev.cond rfl ?_))
 rw [w64 (by omega) (by omega)]
 refine Ev.cond (by omega) (Ev.cond (by omega) (Ev.cond a.fm.s0 (Ev.cond (by omega) (Ev.cond (by omega) (Ev.cond a.fm.se (Ev.bind (zb8 sl n2) ?_))))))
 rw [decide_eq_true a.fm.so]
 refine Ev.step (fun k => by rw [Fsa.j0]) (Ev.ncond (by decide) ?_)
 exact zb1 hs a.fr a.fm ha ac.length 0 (by omega) (Or.inr rfl) (fun _ q _ hq => ⟨a.len q hq, a.unp q hq, a.low q hq⟩) (fun h => absurd h (by decide))
theorem ze4 (hs : SZ ns) (ha : ar.length ≤ 9000000000000000000) (hc : ac.length ≤ 9000000000000000000) (hst : st.length ≤ 9000000000000000000) (a : ¬ AOk ns ac st ar) : Ev (fun k => Fsa.f k ns ac st ar) 3 := by
 have stop : ∀ {b}, b = true → Ev (fun k => Fsa.j0 k (ac.length : Int) b ns ac st ar) 3 := fun e => e ▸ Ev.step (fun k => by rw [Fsa.j0]) (Ev.cond rfl (Ev.fin rfl))
 by_cases fr : Fr ns ac.length
 ·have n2 := fr.n2
  refine Ev.congr (fun k => by rw [Fsa.f]) (Ev.bind (zby hs fr) (Ev.cond rfl ?_))
  rw [w64 (by omega) (by omega)]
  refine Ev.ite (fun h1 => Ev.cond (by omega) (Ev.ite (fun h2 => Ev.cond (by omega) (Ev.cond (by omega) (Ev.ite (fun h3 => ?_) (fun _ => stop rfl)))) (fun _ => stop rfl))) (fun _ => stop rfl)
  have sl : st.length = ac.length + 1 := by omega
  refine Ev.bind (zb8 sl n2) ?_
  by_cases so : ∀ i : Nat, i < ac.length → rd st (i : Int) ≤ rd st ((i + 1 : Nat) : Int)
  ·rw [decide_eq_true so]
   have fm : Fm ac.length st ar := ⟨sl, h2, h3, so⟩
   refine Ev.step (fun k => by rw [Fsa.j0]) (Ev.ncond (by decide) ?_)
   refine zb1 hs fr fm ha ac.length 0 (by omega) (Or.inl rfl) (fun h => absurd h (by decide)) (fun _ => ?_)
   refine Classical.byContradiction fun c => a ⟨fr, fm, fun q hq => ?_, fun q hq => ?_, fun q hq => ?_⟩
   ·exact Classical.byContradiction fun z => c ⟨q, by omega, hq, fun y => z y.1⟩
   ·exact Classical.byContradiction fun z => c ⟨q, by omega, hq, fun y => z y.2.1⟩
   ·exact Classical.byContradiction fun z => c ⟨q, by omega, hq, fun y => z y.2.2⟩
  ·rw [decide_eq_false so]; exact stop rfl
 ·refine Ev.congr (fun k => by rw [Fsa.f]) (Ev.bind (zd5 hs fr) ?_)
  exact Ev.ncond (by decide) (stop rfl)
end
end Go.Proofs.Ytninoenmhcbonaa.Pure
namespace Go.Proofs.Ytninoenmhcbonaa.Pure
open Go.RowKit Go.Proofs.YtninoenmhcbonaaW.PrintWords Go.Proofs.YtninoenmhcbonaaW.PrintLast Go.Proofs.YtninoenmhcbonaaW.PrintMore Go.Proofs.Ytninoenmhcbonaa.X
set_option linter.unusedVariables false
def za6 (r : Int) : List Int → Bool
 | a :: b :: t => decide (a ≤ r ∧ r ≤ b) || za6 r t
 | _ => false
theorem zeu (r : Int) (l : List Int) (hl : l.length ≤ 1000) : ∀ (m i : Nat), i + 2 * m = l.length → Ev (fun k => Fnc.l0 k r l (i : Int)) (za6 r (l.drop i)) := by
 intro m
 induction m with
 | zero =>
  intro i hi
  rw [List.drop_eq_nil_of_le (by omega)]
  refine Ev.step (fun k => by rw [Fnc.l0]) (Ev.ncond (by rw [w64 (by omega) (by omega)]; omega) ?_)
  exact Ev.fin rfl
 | succ m ih =>
  intro i hi
  have h1 : i < l.length := by omega
  have h2 : i + 1 < l.length := by omega
  have q := ih (i + 2) (by omega)
  rw [List.drop_eq_getElem_cons h1, List.drop_eq_getElem_cons h2, za6]
  refine Ev.step (fun k => by rw [Fnc.l0]) ?_
  rw [w64 (x := (i : Int) + 1) (by omega) (by omega), w64 (x := (i : Int) + 2) (by omega) (by omega), show (i : Int) + 1 = ((i + 1 : Nat) : Int) by omega, zbv l h1, zbv l h2]
  refine Ev.cond (by omega) (Ev.cond (by omega) (Ev.cond (by omega) (Ev.ite (fun a => Ev.cond (by omega) (Ev.ite (fun b => Ev.fin ?_) (fun b => ?_))) (fun a => ?_))))
  ·rw [decide_eq_true (show l[i] ≤ r ∧ r ≤ l[i + 1] from ⟨a, b⟩), Bool.true_or]
  ·rw [decide_eq_false (show ¬ (l[i] ≤ r ∧ r ≤ l[i + 1]) from fun z => b z.2), Bool.false_or]; exact q
  ·rw [decide_eq_false (show ¬ (l[i] ≤ r ∧ r ≤ l[i + 1]) from fun z => a z.1), Bool.false_or]; exact q
theorem zcq (r : Int) (l : List Int) (m : Nat) (hl : l.length ≤ 1000) (hm : 0 + 2 * m = l.length) : Ev (fun k => Fnc.f k r l) (za6 r l) := by
 have := zeu r l hl m 0 hm
 rw [List.drop_zero] at this
 exact Ev.congr (fun k => by rw [Fnc.f]; rfl) this
theorem zb9 (r : Int) : Ev (fun k => Fnb.f k r) (zaf r) := by
 refine Ev.congr (fun k => by rw [Fnb.f]) (Ev.bind (zcq r [65, 90, 97, 122, 95, 95, 913, 929, 931, 937, 945, 969] 6 (by decide) (by decide)) (Ev.fin ?_))
 simp only [za6, zaf]
 rw [Bool.eq_iff_iff]; simp; omega
theorem zfi (r : Int) : Ev (fun k => Fmc.f k r) (za0 r) := by
 refine Ev.congr (fun k => by rw [Fmc.f]) (Ev.bind (zb9 r) ?_)
 rw [za0]
 cases zaf r
 ·refine Ev.ncond (by decide) (Ev.bind (zcq r [48, 57, 8242, 8242, 8320, 8329] 3 (by decide) (by decide)) (Ev.fin ?_))
  simp only [za6]
  rw [Bool.eq_iff_iff]; simp; omega
 ·exact Ev.cond rfl (Ev.fin rfl)
theorem zf3 (s : ByteArray) : Ev (fun k => Fmb.f k s) (resB s) := by
 refine Ev.congr (fun k => by rw [Fmb.f]) ?_
 have key : ∀ (L : List ByteArray) (hL : L.length ≤ 100) (m i : Nat), i + m = L.length → Ev (fun k => Fmb.l0 k s L (i : Int)) (decide (∃ x ∈ L.drop i, x.toList = s.toList)) := by
  intro L hL m
  induction m with
  | zero =>
   intro i hi
   rw [List.drop_eq_nil_of_le (by omega)]
   refine Ev.step (fun k => by rw [Fmb.l0]) (Ev.ncond (by omega) (Ev.fin ?_))
   simp
  | succ m ih =>
   intro i hi
   have h1 : i < L.length := by omega
   rw [List.drop_eq_getElem_cons h1]
   refine Ev.step (fun k => by rw [Fmb.l0]) (Ev.cond (by omega) (Ev.cond (by omega) ?_))
   rw [zap _ L h1, w64 (by omega) (by omega)]
   refine Ev.ite (fun c => Ev.fin ?_) (fun c => ?_)
   ·exact (decide_eq_true ⟨_, List.mem_cons_self .., c⟩).symm
   ·have q := ih (i + 1) (by omega)
    rw [decide_eq_decide.2 (show (∃ x ∈ L[i] :: L.drop (i + 1), x.toList = s.toList) ↔ (∃ x ∈ L.drop (i + 1), x.toList = s.toList) from ⟨fun ⟨x, hx, e⟩ => by
     rcases List.mem_cons.1 hx with rfl | h
     ·exact absurd e c
     ·exact ⟨x, h, e⟩, fun ⟨x, hx, e⟩ => ⟨x, List.mem_cons_of_mem _ hx, e⟩⟩)]
    exact q
 have := key ([(⟨#[97, 110, 100]⟩ : ByteArray), (⟨#[111, 114]⟩ : ByteArray), (⟨#[110, 111, 116]⟩ : ByteArray), (⟨#[101, 120]⟩ : ByteArray), (⟨#[97, 108, 108]⟩ : ByteArray), (⟨#[109, 111, 100]⟩ : ByteArray), (⟨#[116, 114, 117, 101]⟩ : ByteArray), (⟨#[102, 97, 108, 115, 101]⟩ : ByteArray)] : List ByteArray) (by simp) 8 0 (by simp)
 rw [show resB s = decide (∃ x ∈ List.drop 0 ([(⟨#[97, 110, 100]⟩ : ByteArray), (⟨#[111, 114]⟩ : ByteArray), (⟨#[110, 111, 116]⟩ : ByteArray), (⟨#[101, 120]⟩ : ByteArray), (⟨#[97, 108, 108]⟩ : ByteArray), (⟨#[109, 111, 100]⟩ : ByteArray), (⟨#[116, 114, 117, 101]⟩ : ByteArray), (⟨#[102, 97, 108, 115, 101]⟩ : ByteArray)] : List ByteArray), x.toList = s.toList) from by
  rw [resB]
  apply decide_eq_decide.2
  simp only [List.drop_zero, List.mem_cons, List.not_mem_nil, or_false, exists_eq_or_imp, exists_eq_left, ByteArray.toList_eq]
  simp only [eq_comm]]
 exact this
end Go.Proofs.Ytninoenmhcbonaa.Pure
namespace Go.Proofs.Ytninoenmhcbonaa.Pure
open Go.RowKit Go.Proofs.YtninoenmhcbonaaW.PrintWords Go.Proofs.YtninoenmhcbonaaW.PrintLast Go.Proofs.YtninoenmhcbonaaW.PrintMore Go.Proofs.Ytninoenmhcbonaa.X
set_option linter.unusedVariables false
theorem zef (s : ByteArray) {q : Nat} (h : q < s.size) : bt s (q : Int) = ((s.get! q).toNat : Int) := by
 have e := bt_at s (q : Int) (by simpa using h)
 rw [← e]
 simp only [Int.toNat_natCast]
 rw [← get_at s q h]; rfl
theorem zak (s : ByteArray) (q : Nat) : (s.get! q).toNat < 256 := (s.get! q).toNat_lt
def Fits (d : Nat × Nat) (r : Int × Int × Bool) : Prop := (r.2.2 = true ∧ r.1 = (d.1 : Int) ∧ r.2.1 = (d.2 : Int)) ∨ (r.2.2 = false ∧ d = (65533, 1))
section
variable {s : ByteArray} {p : Nat}
theorem zbq {X w L : Int} {i : Int} (hi : ¬ i < w) : ∃ r, Ev (fun k => Fma.l0 k s (p : Int) X w L i) r ∧ ((r = (X, w, true) ∧ L ≤ X ∧ X ≤ 1114111 ∧ ¬ (55296 ≤ X ∧ X ≤ 57343)) ∨ (r = (65533, 1, false) ∧ ¬ (L ≤ X ∧ X ≤ 1114111 ∧ ¬ (55296 ≤ X ∧ X ≤ 57343)))) := by
 by_cases h1 : X < L
 ·exact ⟨_, Ev.step (fun k => by rw [Fma.l0]) (Ev.ncond hi (Ev.cond h1 (Ev.fin rfl))), Or.inr ⟨rfl, by omega⟩⟩
 by_cases h2 : X > 1114111
 ·exact ⟨_, Ev.step (fun k => by rw [Fma.l0]) (Ev.ncond hi (Ev.ncond h1 (Ev.cond h2 (Ev.fin rfl)))), Or.inr ⟨rfl, by omega⟩⟩
 by_cases h3 : X ≥ 55296
 ·by_cases h4 : X ≤ 57343
  ·exact ⟨_, Ev.step (fun k => by rw [Fma.l0]) (Ev.ncond hi (Ev.ncond h1 (Ev.ncond h2 (Ev.cond h3 (Ev.cond h4 (Ev.fin rfl)))))), Or.inr ⟨rfl, by omega⟩⟩
  ·exact ⟨_, Ev.step (fun k => by rw [Fma.l0]) (Ev.ncond hi (Ev.ncond h1 (Ev.ncond h2 (Ev.cond h3 (Ev.ncond h4 (Ev.fin rfl)))))), Or.inl ⟨rfl, by omega⟩⟩
 ·exact ⟨_, Ev.step (fun k => by rw [Fma.l0]) (Ev.ncond hi (Ev.ncond h1 (Ev.ncond h2 (Ev.ncond h3 (Ev.fin rfl))))), Or.inl ⟨rfl, by omega⟩⟩
theorem zar (hs : s.size ≤ 9223372036854775807) {X w L : Int} {i : Nat} (hi : (i : Int) < w) (hX : 0 ≤ X) (hX2 : X ≤ 20000000) (h : p + i < s.size) :
  (¬ (128 ≤ (s.get! (p + i)).toNat ∧ (s.get! (p + i)).toNat ≤ 191) ∧ Ev (fun k => Fma.l0 k s (p : Int) X w L (i : Int)) (65533, 1, false)) ∨
  ((128 ≤ (s.get! (p + i)).toNat ∧ (s.get! (p + i)).toNat ≤ 191) ∧ ∀ r, Ev (fun k => Fma.l0 k s (p : Int) (X * 64 + ((s.get! (p + i)).toNat : Int) - 128) w L ((i + 1 : Nat) : Int)) r → Ev (fun k => Fma.l0 k s (p : Int) X w L (i : Int)) r) := by
 have b := zak s (p + i)
 have e : wrap64 ((p : Int) + (i : Int)) = ((p + i : Nat) : Int) := by rw [w64 (by omega) (by omega)]; omega
 have e2 : wrap64 (bt s ((p + i : Nat) : Int)) = ((s.get! (p + i)).toNat : Int) := by rw [zef s h, w64 (by omega) (by omega)]
 by_cases h1 : (s.get! (p + i)).toNat < 128
 ·refine Or.inl ⟨by omega, Ev.step (fun k => by rw [Fma.l0]) (Ev.cond hi ?_)⟩
  rw [e, e2]
  exact Ev.cond (by omega) (Ev.cond (by omega) (Ev.cond (by omega) (Ev.fin rfl)))
 by_cases h2 : (s.get! (p + i)).toNat > 191
 ·refine Or.inl ⟨by omega, Ev.step (fun k => by rw [Fma.l0]) (Ev.cond hi ?_)⟩
  rw [e, e2]
  exact Ev.cond (by omega) (Ev.cond (by omega) (Ev.ncond (by omega) (Ev.cond (by omega) (Ev.fin rfl))))
 ·refine Or.inr ⟨by omega, fun r hr => Ev.step (fun k => by rw [Fma.l0]) (Ev.cond hi ?_)⟩
  rw [e, e2, w64 (x := X * 64) (by omega) (by omega), w64 (x := X * 64 + ((s.get! (p + i)).toNat : Int)) (by omega) (by omega), w64 (x := X * 64 + ((s.get! (p + i)).toNat : Int) - 128) (by omega) (by omega), w64 (x := (i : Int) + 1) (by omega) (by omega)]
  exact Ev.cond (by omega) (Ev.cond (by omega) (Ev.ncond (by omega) (Ev.ncond (by omega) hr)))
theorem zfq (hs : s.size ≤ 9223372036854775807) (hp : p < s.size) (h0 : 194 ≤ (s.get! p).toNat ∧ (s.get! p).toNat < 224) :
  ∃ r, Ev (fun k => Fma.j2 k s (p : Int) (((s.get! p).toNat : Int) - 192) 2 128) r ∧ Fits (Go.Lib.decodeN (s.size - p) (s.get! p).toNat (s.get! (p + 1)).toNat (s.get! (p + 2)).toNat (s.get! (p + 3)).toNat) r := by
 have g1 := zak s (p + 1); have g2 := zak s (p + 2); have g3 := zak s (p + 3)
 by_cases c : s.size - p < 2
 ·refine ⟨_, Ev.step (fun k => by rw [Fma.j2]) (Ev.cond (by rw [w64 (by omega) (by omega)]; omega) (Ev.fin rfl)), Or.inr ⟨rfl, ?_⟩⟩
  unfold Go.Lib.decodeN; repeat' split
  all_goals first | (exfalso; omega) | rfl
 ·have go : ∀ r, Ev (fun k => Fma.l0 k s (p : Int) (((s.get! p).toNat : Int) - 192) 2 128 1) r → Ev (fun k => Fma.j2 k s (p : Int) (((s.get! p).toNat : Int) - 192) 2 128) r :=
   by
    intro r h
    refine Ev.step (fun k => by rw [Fma.j2]) (Ev.ncond ?_ h)
    rw [w64 (by omega) (by omega)]; omega
  rcases zar (X := ((s.get! p).toNat : Int) - 192) (w := 2) (L := 128) (i := 1) hs (by omega) (by omega) (by omega) (show p + 1 < s.size by omega) with ⟨bad, e⟩ | ⟨ok1, k1⟩
  ·refine ⟨_, go _ e, Or.inr ⟨rfl, ?_⟩⟩
   unfold Go.Lib.decodeN; repeat' split
   all_goals first | (exfalso; omega) | rfl
  ·obtain ⟨r, hr, hc⟩ := zbq (s := s) (p := p) (X := (((s.get! p).toNat : Int) - 192) * 64 + ((s.get! (p + 1)).toNat : Int) - 128) (w := 2) (L := 128) (i := ((1 + 1 : Nat) : Int)) (by omega)
   refine ⟨r, go _ (k1 r hr), ?_⟩
   rcases hc with ⟨rfl, hc⟩ | ⟨rfl, hc⟩
   ·have d : Go.Lib.decodeN (s.size - p) (s.get! p).toNat (s.get! (p + 1)).toNat (s.get! (p + 2)).toNat (s.get! (p + 3)).toNat = ((s.get! p).toNat % 32 * 64 + (s.get! (p + 1)).toNat % 64, 2) := by
     unfold Go.Lib.decodeN; repeat' split
     all_goals first | (exfalso; omega) | rfl
    rw [d]; exact Or.inl ⟨rfl, by simp only []; omega, rfl⟩
   ·refine Or.inr ⟨rfl, ?_⟩
    unfold Go.Lib.decodeN; repeat' split
    all_goals first | (exfalso; omega) | rfl
theorem zf6 (hs : s.size ≤ 9223372036854775807) (hp : p < s.size) (h0 : 224 ≤ (s.get! p).toNat ∧ (s.get! p).toNat < 240) :
  ∃ r, Ev (fun k => Fma.j2 k s (p : Int) (((s.get! p).toNat : Int) - 224) 3 2048) r ∧ Fits (Go.Lib.decodeN (s.size - p) (s.get! p).toNat (s.get! (p + 1)).toNat (s.get! (p + 2)).toNat (s.get! (p + 3)).toNat) r := by
 have g1 := zak s (p + 1); have g2 := zak s (p + 2); have g3 := zak s (p + 3)
 by_cases c : s.size - p < 3
 ·refine ⟨_, Ev.step (fun k => by rw [Fma.j2]) (Ev.cond (by rw [w64 (by omega) (by omega)]; omega) (Ev.fin rfl)), Or.inr ⟨rfl, ?_⟩⟩
  unfold Go.Lib.decodeN; repeat' split
  all_goals first | (exfalso; omega) | rfl
 ·have go : ∀ r, Ev (fun k => Fma.l0 k s (p : Int) (((s.get! p).toNat : Int) - 224) 3 2048 1) r → Ev (fun k => Fma.j2 k s (p : Int) (((s.get! p).toNat : Int) - 224) 3 2048) r :=
   by
    intro r h
    refine Ev.step (fun k => by rw [Fma.j2]) (Ev.ncond ?_ h)
    rw [w64 (by omega) (by omega)]; omega
  rcases zar (X := ((s.get! p).toNat : Int) - 224) (w := 3) (L := 2048) (i := 1) hs (by omega) (by omega) (by omega) (show p + 1 < s.size by omega) with ⟨bad, e⟩ | ⟨ok1, k1⟩
  ·refine ⟨_, go _ e, Or.inr ⟨rfl, ?_⟩⟩
   unfold Go.Lib.decodeN; repeat' split
   all_goals first | (exfalso; omega) | rfl
  rcases zar (X := (((s.get! p).toNat : Int) - 224) * 64 + ((s.get! (p + 1)).toNat : Int) - 128) (w := 3) (L := 2048) (i := 2) hs (by omega) (by omega) (by omega) (show p + 2 < s.size by omega) with ⟨bad, e⟩ | ⟨ok2, k2⟩
  ·refine ⟨_, go _ (k1 _ e), Or.inr ⟨rfl, ?_⟩⟩
   unfold Go.Lib.decodeN; repeat' split
   all_goals first | (exfalso; omega) | rfl
  ·obtain ⟨r, hr, hc⟩ := zbq (s := s) (p := p) (X := ((((s.get! p).toNat : Int) - 224) * 64 + ((s.get! (p + 1)).toNat : Int) - 128) * 64 + ((s.get! (p + 2)).toNat : Int) - 128) (w := 3) (L := 2048) (i := ((2 + 1 : Nat) : Int)) (by omega)
   refine ⟨r, go _ (k1 _ (k2 r hr)), ?_⟩
   rcases hc with ⟨rfl, hc⟩ | ⟨rfl, hc⟩
   ·have d : Go.Lib.decodeN (s.size - p) (s.get! p).toNat (s.get! (p + 1)).toNat (s.get! (p + 2)).toNat (s.get! (p + 3)).toNat = ((s.get! p).toNat % 16 * 4096 + (s.get! (p + 1)).toNat % 64 * 64 + (s.get! (p + 2)).toNat % 64, 3) := by
     unfold Go.Lib.decodeN; repeat' split
     all_goals first | (exfalso; omega) | rfl
    rw [d]; exact Or.inl ⟨rfl, by simp only []; omega, rfl⟩
   ·refine Or.inr ⟨rfl, ?_⟩
    unfold Go.Lib.decodeN; repeat' split
    all_goals first | (exfalso; omega) | rfl
theorem zfx (hs : s.size ≤ 9223372036854775807) (hp : p < s.size) (h0 : 240 ≤ (s.get! p).toNat ∧ (s.get! p).toNat < 245) :
  ∃ r, Ev (fun k => Fma.j2 k s (p : Int) (((s.get! p).toNat : Int) - 240) 4 65536) r ∧ Fits (Go.Lib.decodeN (s.size - p) (s.get! p).toNat (s.get! (p + 1)).toNat (s.get! (p + 2)).toNat (s.get! (p + 3)).toNat) r := by
 have g1 := zak s (p + 1); have g2 := zak s (p + 2); have g3 := zak s (p + 3)
 by_cases c : s.size - p < 4
 ·refine ⟨_, Ev.step (fun k => by rw [Fma.j2]) (Ev.cond (by rw [w64 (by omega) (by omega)]; omega) (Ev.fin rfl)), Or.inr ⟨rfl, ?_⟩⟩
  unfold Go.Lib.decodeN; repeat' split
  all_goals first | (exfalso; omega) | rfl
 ·have go : ∀ r, Ev (fun k => Fma.l0 k s (p : Int) (((s.get! p).toNat : Int) - 240) 4 65536 1) r → Ev (fun k => Fma.j2 k s (p : Int) (((s.get! p).toNat : Int) - 240) 4 65536) r :=
   by
    intro r h
    refine Ev.step (fun k => by rw [Fma.j2]) (Ev.ncond ?_ h)
    rw [w64 (by omega) (by omega)]; omega
  rcases zar (X := ((s.get! p).toNat : Int) - 240) (w := 4) (L := 65536) (i := 1) hs (by omega) (by omega) (by omega) (show p + 1 < s.size by omega) with ⟨bad, e⟩ | ⟨ok1, k1⟩
  ·refine ⟨_, go _ e, Or.inr ⟨rfl, ?_⟩⟩
   unfold Go.Lib.decodeN; repeat' split
   all_goals first | (exfalso; omega) | rfl
  rcases zar (X := (((s.get! p).toNat : Int) - 240) * 64 + ((s.get! (p + 1)).toNat : Int) - 128) (w := 4) (L := 65536) (i := 2) hs (by omega) (by omega) (by omega) (show p + 2 < s.size by omega) with ⟨bad, e⟩ | ⟨ok2, k2⟩
  ·refine ⟨_, go _ (k1 _ e), Or.inr ⟨rfl, ?_⟩⟩
   unfold Go.Lib.decodeN; repeat' split
   all_goals first | (exfalso; omega) | rfl
  rcases zar (X := ((((s.get! p).toNat : Int) - 240) * 64 + ((s.get! (p + 1)).toNat : Int) - 128) * 64 + ((s.get! (p + 2)).toNat : Int) - 128) (w := 4) (L := 65536) (i := 3) hs (by omega) (by omega) (by omega) (show p + 3 < s.size by omega) with ⟨bad, e⟩ | ⟨ok3, k3⟩
  ·refine ⟨_, go _ (k1 _ (k2 _ e)), Or.inr ⟨rfl, ?_⟩⟩
   unfold Go.Lib.decodeN; repeat' split
   all_goals first | (exfalso; omega) | rfl
  ·obtain ⟨r, hr, hc⟩ := zbq (s := s) (p := p) (X := (((((s.get! p).toNat : Int) - 240) * 64 + ((s.get! (p + 1)).toNat : Int) - 128) * 64 + ((s.get! (p + 2)).toNat : Int) - 128) * 64 + ((s.get! (p + 3)).toNat : Int) - 128) (w := 4) (L := 65536) (i := ((3 + 1 : Nat) : Int)) (by omega)
   refine ⟨r, go _ (k1 _ (k2 _ (k3 r hr))), ?_⟩
   rcases hc with ⟨rfl, hc⟩ | ⟨rfl, hc⟩
   ·have d : Go.Lib.decodeN (s.size - p) (s.get! p).toNat (s.get! (p + 1)).toNat (s.get! (p + 2)).toNat (s.get! (p + 3)).toNat = ((s.get! p).toNat % 8 * 262144 + (s.get! (p + 1)).toNat % 64 * 4096 + (s.get! (p + 2)).toNat % 64 * 64 + (s.get! (p + 3)).toNat % 64, 4) := by
     unfold Go.Lib.decodeN; repeat' split
     all_goals first | (exfalso; omega) | rfl
    rw [d]; exact Or.inl ⟨rfl, by simp only []; omega, rfl⟩
   ·refine Or.inr ⟨rfl, ?_⟩
    unfold Go.Lib.decodeN; repeat' split
    all_goals first | (exfalso; omega) | rfl
theorem zf7 (hs : s.size ≤ 9223372036854775807) (hp : p < s.size) : ∃ r, Ev (fun k => Fma.f k s (p : Int)) r ∧ Fits (Utf8.decode s p) r := by
 rw [Go.Lib.decode_at]
 have b := zak s p
 have g1 := zak s (p + 1); have g2 := zak s (p + 2); have g3 := zak s (p + 3)
 have e0 : wrap64 (bt s (p : Int)) = ((s.get! p).toNat : Int) := by rw [zef s hp, w64 (by omega) (by omega)]
 have enter : ∀ r, Ev (fun k => if ((s.get! p).toNat : Int) < 128 then (some (((s.get! p).toNat : Int), (1 : Int), true)) else (if ((s.get! p).toNat : Int) ≥ 194 then (Fma.j0 k s (p : Int) ((s.get! p).toNat : Int) (decide (((s.get! p).toNat : Int) < 224))) else (Fma.j0 k s (p : Int) ((s.get! p).toNat : Int) false))) r → Ev (fun k => Fma.f k s (p : Int)) r := by
  intro r h
  refine Ev.congr (fun k => by rw [Fma.f, e0]) (Ev.cond (by omega) (Ev.cond (by omega) h))
 by_cases c0 : (s.get! p).toNat < 128
 ·refine ⟨_, enter _ (Ev.cond (by omega) (Ev.fin rfl)), Or.inl ⟨rfl, ?_, ?_⟩⟩ <;> unfold Go.Lib.decodeN <;> rw [if_pos c0]
  rfl
 have w1 : wrap64 (((s.get! p).toNat : Int) - 192) = ((s.get! p).toNat : Int) - 192 := w64 (by omega) (by omega)
 have w2 : wrap64 (((s.get! p).toNat : Int) - 224) = ((s.get! p).toNat : Int) - 224 := w64 (by omega) (by omega)
 have w3 : wrap64 (((s.get! p).toNat : Int) - 240) = ((s.get! p).toNat : Int) - 240 := w64 (by omega) (by omega)
 by_cases c1 : 194 ≤ (s.get! p).toNat ∧ (s.get! p).toNat < 224
 ·obtain ⟨r, hr, hf⟩ := zfq hs hp c1
  refine ⟨r, enter _ (Ev.ncond (by omega) (Ev.cond (by omega) ?_)), hf⟩
  rw [decide_eq_true (show ((s.get! p).toNat : Int) < 224 by omega)]
  refine Ev.step (fun k => by rw [Fma.j0, w1]) (Ev.cond rfl hr)
 have j1 : ∀ r, (¬ ((s.get! p).toNat : Int) < 224 ∨ ¬ ((s.get! p).toNat : Int) ≥ 194) → Ev (fun k => if ((s.get! p).toNat : Int) ≥ 224 then Fma.j1 k s (p : Int) ((s.get! p).toNat : Int) (decide (((s.get! p).toNat : Int) < 240)) else Fma.j1 k s (p : Int) ((s.get! p).toNat : Int) false) r → Ev (fun k => Fma.f k s (p : Int)) r := by
  intro r hc h
  refine enter _ (Ev.ncond (by omega) (Ev.ite (fun g => ?_) (fun g => ?_)))
  ·rw [decide_eq_false (show ¬ ((s.get! p).toNat : Int) < 224 by omega)]
   exact Ev.step (fun k => by rw [Fma.j0]) (Ev.ncond (by decide) h)
  ·exact Ev.step (fun k => by rw [Fma.j0]) (Ev.ncond (by decide) h)
 by_cases c2 : 224 ≤ (s.get! p).toNat ∧ (s.get! p).toNat < 240
 ·obtain ⟨r, hr, hf⟩ := zf6 hs hp c2
  refine ⟨r, j1 _ (by omega) (Ev.cond (by omega) ?_), hf⟩
  rw [decide_eq_true (show ((s.get! p).toNat : Int) < 240 by omega)]
  refine Ev.step (fun k => by rw [Fma.j1, w2]) (Ev.cond rfl hr)
 by_cases c3 : 240 ≤ (s.get! p).toNat ∧ (s.get! p).toNat < 245
 ·obtain ⟨r, hr, hf⟩ := zfx hs hp c3
  refine ⟨r, j1 _ (by omega) (Ev.cond (by omega) ?_), hf⟩
  rw [decide_eq_false (show ¬ ((s.get! p).toNat : Int) < 240 by omega)]
  refine Ev.step (fun k => by rw [Fma.j1, w3]) (Ev.ncond (by decide) (Ev.cond (by omega) (Ev.cond (by omega) hr)))
 ·refine ⟨(65533, 1, false), j1 _ (by omega) (Ev.ite (fun g => ?_) (fun g => ?_)), Or.inr ⟨rfl, ?_⟩⟩
  ·rw [decide_eq_false (show ¬ ((s.get! p).toNat : Int) < 240 by omega)]
   exact Ev.step (fun k => by rw [Fma.j1]) (Ev.ncond (by decide) (Ev.cond (by omega) (Ev.ncond (by omega) (Ev.fin rfl))))
  ·exact Ev.step (fun k => by rw [Fma.j1]) (Ev.ncond (by decide) (Ev.ncond (by omega) (Ev.fin rfl)))
  ·unfold Go.Lib.decodeN; repeat' split
   all_goals first | (exfalso; omega) | rfl
end
end Go.Proofs.Ytninoenmhcbonaa.Pure
namespace Go.Proofs.Ytninoenmhcbonaa.Pure
open Go.RowKit Go.Proofs.YtninoenmhcbonaaW.PrintWords Go.Proofs.YtninoenmhcbonaaW.PrintLast Go.Proofs.YtninoenmhcbonaaW.PrintMore Go.Proofs.Ytninoenmhcbonaa.X
set_option linter.unusedVariables false
theorem zb6 (s : ByteArray) (n : Nat) : Ev (fun k => if (n : Int) ≥ 1 then (if (n : Int) ≤ 16 then ((Fmb.f k s).bind fun t => some (!t)) else some false) else some false) (decide (1 ≤ n ∧ n ≤ 16) && !resB s) := by
 by_cases h1 : 1 ≤ n
 ·by_cases h2 : n ≤ 16
  ·refine Ev.cond (by omega) (Ev.cond (by omega) ?_)
   rw [decide_eq_true ⟨h1, h2⟩, Bool.true_and]
   exact Ev.bind (zf3 s) (Ev.fin rfl)
  ·rw [decide_eq_false (fun e => h2 e.2)]
   exact Ev.cond (by omega) (Ev.ncond (by omega) (Ev.fin rfl))
 ·rw [decide_eq_false (fun e => h1 e.1)]
  exact Ev.ncond (by omega) (Ev.fin rfl)
theorem zf9 (n a b c d : Nat) (h : 1 ≤ n) : (Go.Lib.decodeN n a b c d).2 ≤ n := by
 unfold Go.Lib.decodeN; repeat' split
 all_goals (simp only []; omega)
theorem dec_in (s : ByteArray) (p : Nat) (h : p < s.size) : p + (Utf8.decode s p).2 ≤ s.size := by
 rw [Go.Lib.decode_at]
 have := zf9 (s.size - p) (s.get! p).toNat (s.get! (p + 1)).toNat (s.get! (p + 2)).toNat (s.get! (p + 3)).toNat (by omega)
 omega
theorem zfh : za0 ((65533 : Nat) : Int) = false := by decide +kernel
theorem ze0 (s : ByteArray) (hs : s.size ≤ 9223372036854775807) : Ev (fun k => Flc.f k s) (zd3 s) := by
 have key : ∀ (m p n : Nat), s.size ≤ p + m → p ≤ s.size → n ≤ p → Ev (fun k => Flc.l0 k s (n : Int) (p : Int)) (za3 m s p n) := by
  intro m
  induction m with
  | zero =>
   intro p n hp _ hn
   exact Ev.step (fun k => by rw [Flc.l0]) (Ev.ncond (by omega) (zb6 s n))
  | succ m ih =>
   intro p n hp hp2 hn
   rw [za3]
   by_cases c : p < s.size
   ·rw [if_pos c]
    have hw := zcd s p c
    obtain ⟨r, hr, hf⟩ := zf7 hs c
    refine Ev.step (fun k => by rw [Flc.l0]) (Ev.cond (by omega) (Ev.bind hr ?_))
    rcases hf with ⟨f1, f2, f3⟩ | ⟨f1, f2⟩
    ·have hb : p + (Utf8.decode s p).2 ≤ s.size := dec_in s p c
     rw [f2, f3]
     refine Ev.cond f1 ?_
     have go : za0 ((Utf8.decode s p).1 : Int) = true → Ev (fun k => Flc.l0 k s (wrap64 ((n : Int) + 1)) (wrap64 ((p : Int) + ((Utf8.decode s p).2 : Int)))) (za3 m s (p + (Utf8.decode s p).2) (n + 1)) := by
      intro _
      rw [w64 (x := (n : Int) + 1) (by omega) (by omega), w64 (x := (p : Int) + ((Utf8.decode s p).2 : Int)) (by omega) (by omega)]
      have := ih (p + (Utf8.decode s p).2) (n + 1) (by omega) hb (by omega)
      rwa [Int.natCast_add, Int.natCast_add] at this
     have tail : (n = 0 → zaf ((Utf8.decode s p).1 : Int) = true) → Ev (fun k => (Fmc.f k ((Utf8.decode s p).1 : Int)).bind fun t => (if t = true then (Flc.l0 k s (wrap64 ((n : Int) + 1)) (wrap64 ((p : Int) + ((Utf8.decode s p).2 : Int)))) else (some false))) (if (n = 0 → zaf ((Utf8.decode s p).1 : Int) = true) ∧ za0 ((Utf8.decode s p).1 : Int) = true then za3 m s (p + (Utf8.decode s p).2) (n + 1) else false) := by
      intro h
      refine Ev.bind (zfi _) (Ev.ite (fun g => ?_) (fun g => Ev.fin ?_))
      ·rw [if_pos ⟨h, g⟩]; exact go g
      ·rw [if_neg (fun e => g e.2)]
     refine Ev.ite (fun z => Ev.bind (zb9 _) (Ev.ite (fun h => tail (fun _ => h)) (fun h => Ev.fin ?_))) (fun z => tail (fun e => absurd (show (n : Int) = 0 by omega) z))
     rw [if_neg (fun e => h (e.1 (by omega)))]
    ·rw [if_neg (fun e => by rw [f2] at e; exact absurd e.2 (by rw [zfh]; decide))]
     exact Ev.ncond (by rw [f1]; decide) (Ev.fin rfl)
   ·rw [if_neg c]
    exact Ev.step (fun k => by rw [Flc.l0]) (Ev.ncond (by omega) (zb6 s n))
 exact Ev.congr (fun k => by rw [Flc.f]; rfl) (key s.size 0 0 (by omega) (by omega) (by omega))
theorem zca (ns : List ByteArray) (hn : ns.length ≤ 9000000000000000000) (hs : ∀ x ∈ ns, x.size ≤ 9223372036854775807) : Ev (fun k => Fna.f k ns) (zbw ns) := by
 have key : ∀ (m i : Nat), i + m = ns.length → Ev (fun k => Fna.l0 k ns (i : Int)) (za7 ns m i) := by
  intro m
  induction m with
  | zero =>
   intro i hi
   refine Ev.step (fun k => by rw [Fna.l0]) (Ev.ncond (by omega) ?_)
   exact Ev.fin rfl
  | succ m ih =>
   intro i hi
   rw [za7]
   have sz : (rdOf ByteArray.empty ns (i : Int)).size ≤ 9223372036854775807 := by rw [zap _ ns (show i < ns.length by omega)]; exact hs _ (List.getElem_mem _)
   refine Ev.step (fun k => by rw [Fna.l0]) (Ev.cond (by omega) (Ev.cond (by omega) (Ev.bind (ze0 _ sz) ?_)))
   refine Ev.ite (fun a => ?_) (fun a => Ev.fin ?_)
   ·rw [a, Bool.true_and]
    have nx := ih (i + 1) (by omega)
    refine Ev.ite (fun b => ?_) (fun b => ?_)
    ·rw [w64 (x := (i : Int) - 1) (by omega) (by omega), w64 (x := (i : Int) + 1) (by omega) (by omega), show (i : Int) - 1 = ((i - 1 : Nat) : Int) by omega, decide_eq_false (show ¬ i = 0 by omega), Bool.false_or]
     refine Ev.cond (by omega) (Ev.cond (by omega) (Ev.ite (fun c => ?_) (fun c => Ev.fin ?_)))
     ·rw [c, Bool.true_and]; exact nx
     ·rw [Bool.not_eq_true] at c; rw [c, Bool.false_and]
    ·rw [decide_eq_true (show i = 0 by omega), Bool.true_or, Bool.true_and, w64 (by omega) (by omega)]
     exact nx
   ·rw [Bool.not_eq_true] at a; rw [a, Bool.false_and]
 exact Ev.congr (fun k => by rw [Fna.f]; rfl) (key ns.length 0 (by omega))
section
variable {ns : List ByteArray} {n : Nat}
theorem zdz (hs : SZ ns) (f : Fr ns n) : Ev (fun k => Fqb.f k ns (n : Int)) true := by
 have := f.tr; have := f.n1; have := f.n2
 refine Ev.congr (fun k => by rw [Fqb.f]) (Ev.cond (by omega) (Ev.bind (zca ns (by omega) hs) (Ev.cond f.ri (Ev.cond (show (n : Int) ≥ 1 by omega) (Ev.fin ?_)))))
 exact decide_eq_true (show (n : Int) ≤ 256 by omega)
theorem zep (hs : SZ ns) (hn : ¬ Fr ns n) : Ev (fun k => Fqb.f k ns (n : Int)) false := by
 refine Ev.congr (fun k => by rw [Fqb.f]) (Ev.ite (fun a => Ev.bind (zca ns (by omega) hs) (Ev.ite (fun b => Ev.ite (fun c => Ev.fin ?_) (fun _ => Ev.fin rfl)) (fun _ => Ev.fin rfl))) (fun _ => Ev.fin rfl))
 exact decide_eq_false (fun e : (n : Int) ≤ 256 => hn ⟨by omega, by omega, by omega, b⟩)
variable {ac : List Bool} {nx : List (List Int)}
end
end Go.Proofs.Ytninoenmhcbonaa.Pure
namespace Go.Proofs.Ytninoenmhcbonaa.Pure
open Go.RowKit Go.Proofs.YtninoenmhcbonaaW.PrintWords Go.Proofs.YtninoenmhcbonaaW.PrintLast Go.Proofs.YtninoenmhcbonaaW.PrintMore Go.Proofs.Ytninoenmhcbonaa.X
set_option linter.unusedVariables false
section
variable {ns : List ByteArray} {ac : List Bool} {nx : List (List Int)}
end
end Go.Proofs.Ytninoenmhcbonaa.Pure
namespace Go.Proofs.Ytninoenmhcbonaa.Pure
open Go.RowKit Go.Proofs.YtninoenmhcbonaaW.PrintWords Go.Proofs.YtninoenmhcbonaaW.PrintLast Go.Proofs.YtninoenmhcbonaaW.PrintMore Go.Proofs.Ytninoenmhcbonaa.X
set_option linter.unusedVariables false
def rows (j : Nat) (st : List Int) (ar : List S73) (i : Nat) : List (List Int) := (List.range i).map fun q => zaa (cb st ar q) (2 ^ j)
theorem zbs (j : Nat) (st : List Int) (ar : List S73) (i : Nat) : (rows j st ar i).length = i := by simp [rows]
theorem zcb (j : Nat) (st : List Int) (ar : List S73) (i : Nat) : rows j st ar (i + 1) = rows j st ar i ++ [zaa (cb st ar i) (2 ^ j)] := by
 rw [rows, List.range_succ, List.map_append]; rfl
section
variable {ns : List ByteArray} {ac : List Bool} {st : List Int} {ar : List S73}
def Ok (ns : List ByteArray) (ac : List Bool) (st : List Int) (ar : List S73) (q : Nat) : Prop := (cb st ar q).length ≤ 32 ∧ UnpOk (cb st ar q) ns.length ∧ ∀ x ∈ zaa (cb st ar q) (2 ^ ns.length), x < (ac.length : Int)
theorem rt_l1 (fr : Fr ns ac.length) (fm : Fm ac.length st ar) {e : List ByteArray × List Bool × List (List Int) × Bool} (good : (∀ q, q < ac.length → Ok ns ac st ar q) → e = (ns, ac, rows ns.length st ar ac.length, true)) (bad : ¬ (∀ q, q < ac.length → Ok ns ac st ar q) → e = ([], [], [], false)) :
  ∀ (m i : Nat), i + m = ac.length → (∀ q, q < i → Ok ns ac st ar q) → Ev (fun k => Fra.l1 k (ac.length : Int) (i : Int) ns ac st ar ns ac (rows ns.length st ar i)) e := by
 have n2 := fr.n2
 have sl := fm.sl
 have h6 := pow6 fr.tr
 intro m
 induction m with
 | zero =>
  intro i hi h
  obtain rfl : i = ac.length := by omega
  exact Ev.step (fun k => by rw [Fra.l1]) (Ev.ncond (by omega) (Ev.fin (good h).symm))
 | succ m ih =>
  intro i hi h
  have ii : i < ac.length := by omega
  have b0 := fm.bounds (show i ≤ ac.length by omega)
  have b1 := fm.bounds (show i + 1 ≤ ac.length by omega)
  have so := fm.so i ii
  refine Ev.step (fun k => by rw [Fra.l1]) ?_
  rw [w64 (x := (i : Int) + 1) (by omega) (by omega), show (i : Int) + 1 = ((i + 1 : Nat) : Int) by omega]
  refine Ev.cond (by omega) (Ev.cond (by omega) (Ev.cond (by omega) (Ev.cond (by omega) (Ev.cond (by omega) (Ev.cond b0.1 (Ev.cond so (Ev.cond b1.2 (Ev.ret rfl ?_))))))))
  show Ev (fun k => if ((cb st ar i).length : Int) > 32 then _ else _) e
  by_cases big : (cb st ar i).length ≤ 32
  ·refine Ev.ncond (by omega) ?_
   by_cases u : UnpOk (cb st ar i) ns.length
   ·refine Ev.bind (zc4 (by rw [zac]; omega) (zbx u)) (Ev.ite (fun t => ?_) (fun t => Ev.fin (bad (fun z => t (decide_eq_true (z i ii).2.2))).symm))
    refine Ev.bind (zbx u) (Ev.cond (by rw [zbs]; omega) ?_)
    have q := ih (i + 1) (by omega) (fun q hq => by
     by_cases c : q = i
     ·subst c; exact ⟨big, u, of_decide_eq_true t⟩
     ·exact h q (by omega))
    rw [zcb] at q
    exact q
   ·refine Ev.bind (zdp (by decide) (zdt fr.tr u)) ?_
    exact Ev.ncond (by decide) (Ev.fin (bad (fun z => u (z i ii).2.1)).symm)
  ·exact Ev.cond (by omega) (Ev.fin (bad (fun z => big (z i ii).1)).symm)
theorem rt_l0 (fr : Fr ns ac.length) (sl : st.length = ac.length + 1) {e : List ByteArray × List Bool × List (List Int) × Bool} (hn : ns.length * 16 ≤ 140737488351232)
  (yes : (∀ i : Nat, i < ac.length → rd st (i : Int) ≤ rd st ((i + 1 : Nat) : Int)) → Ev (fun k => Fra.l1 k (ac.length : Int) 0 ns ac st ar ns ac []) e) (no : ¬ (∀ i : Nat, i < ac.length → rd st (i : Int) ≤ rd st ((i + 1 : Nat) : Int)) → e = ([], [], [], false)) :
  ∀ (m i : Nat), i + m = ac.length → (∀ q : Nat, q < i → rd st (q : Int) ≤ rd st ((q + 1 : Nat) : Int)) → Ev (fun k => Fra.l0 k (ac.length : Int) (i : Int) ns ac st ar) e := by
 have n2 := fr.n2
 intro m
 induction m with
 | zero =>
  intro i hi h
  obtain rfl : i = ac.length := by omega
  refine Ev.step (fun k => by rw [Fra.l0]) ?_
  refine Ev.ncond (by omega) ?_
  refine Ev.ret rfl ?_
  refine Ev.cond (by simp; omega) ?_
  refine Ev.ret rfl ?_
  refine Ev.cond (by simp; omega) ?_
  exact yes h
 | succ m ih =>
  intro i hi h
  have ii : i < ac.length := by omega
  refine Ev.step (fun k => by rw [Fra.l0]) ?_
  rw [w64 (x := (i : Int) + 1) (by omega) (by omega), show (i : Int) + 1 = ((i + 1 : Nat) : Int) by omega]
  refine Ev.cond (by omega) (Ev.cond (by omega) (Ev.cond (by omega) (Ev.cond (by omega) (Ev.cond (by omega) (Ev.ite (fun c => Ev.fin (no (fun z => by have := z i ii; omega)).symm) (fun c => ?_))))))
  refine ih (i + 1) (by omega) (fun q hq => ?_)
  by_cases d : q = i
  ·subst d; omega
  ·exact h q (by omega)
theorem zdc (hs : SZ ns) (hn : ns.length * 16 ≤ 140737488351232) (hc : ac.length ≤ 9000000000000000000) {e : List ByteArray × List Bool × List (List Int) × Bool} (good : AOk ns ac st ar → e = (ns, ac, rows ns.length st ar ac.length, true)) (bad : ¬ AOk ns ac st ar → e = ([], [], [], false)) :
  Ev (fun k => Fra.f k ns ac st ar) e := by
 have stop : ∀ {b}, b = true → ¬ AOk ns ac st ar → Ev (fun k => Fra.j0 k (ac.length : Int) b ns ac st ar) e := fun h z => h ▸ Ev.step (fun k => by rw [Fra.j0]) (Ev.cond rfl (Ev.fin (bad z).symm))
 by_cases fr : Fr ns ac.length
 ·have n2 := fr.n2
  refine Ev.congr (fun k => by rw [Fra.f]) (Ev.bind (zdz hs fr) (Ev.cond rfl ?_))
  rw [w64 (by omega) (by omega)]
  refine Ev.ite (fun h1 => Ev.cond (by omega) (Ev.ite (fun h2 => Ev.cond (by omega) (Ev.cond (by omega) ?_)) (fun h2 => stop rfl (fun a => h2 a.fm.s0)))) (fun h1 => stop rfl (fun a => h1 (by have := a.fm.sl; omega)))
  have sl : st.length = ac.length + 1 := by omega
  by_cases h3 : rd st (ac.length : Int) = (ar.length : Int)
  ·rw [show (rd st (ac.length : Int) != (ar.length : Int)) = false by simp [h3]]
   refine Ev.step (fun k => by rw [Fra.j0]) (Ev.ncond (by decide) ?_)
   refine rt_l0 fr sl hn (fun so => ?_) (fun so => bad (fun a => so a.fm.so)) ac.length 0 (by omega) (by omega)
   have fm : Fm ac.length st ar := ⟨sl, h2, h3, so⟩
   exact rt_l1 fr fm (fun z => good ⟨fr, fm, fun q hq => (z q hq).1, fun q hq => (z q hq).2.1, fun q hq => (z q hq).2.2⟩) (fun z => bad (fun a => z (fun q hq => ⟨a.len q hq, a.unp q hq, a.low q hq⟩))) ac.length 0 (by omega) (by omega)
  ·exact stop (bne_iff_ne.2 h3) (fun a => h3 a.fm.se)
 ·refine Ev.congr (fun k => by rw [Fra.f]) (Ev.bind (zep hs fr) ?_)
  exact Ev.ncond (by decide) (stop rfl (fun a => fr a.fr))
end
end Go.Proofs.Ytninoenmhcbonaa.Pure
namespace Go.Proofs.Ytninoenmhcbonaa.Pure
open Go.RowKit Go.Proofs.YtninoenmhcbonaaW.PrintWords Go.Proofs.YtninoenmhcbonaaW.PrintLast Go.Proofs.YtninoenmhcbonaaW.PrintMore Go.Proofs.Ytninoenmhcbonaa.X
set_option linter.unusedVariables false
section
variable {ns : List ByteArray} {ac : List Bool} {st : List Int} {ar : List S73}
theorem zdw (hs : SZ ns) (ha : ar.length ≤ 9000000000000000000) (hn : ns.length * 16 ≤ 140737488351232) (a : AOk ns ac st ar) : Ev (fun k => Fsb.f k ns ac st ar) (ns, ac, rows ns.length st ar ac.length, 0) := by
 have n2 := a.fr.n2
 refine Ev.congr (fun k => by rw [Fsb.f]) (Ev.bind (zfg hs ha a) (Ev.cond rfl ?_))
 refine Ev.ret (show Fec.f ns = some ns by unfold Fec.f; rw [if_pos (by omega)]) ?_
 refine Ev.ret (show Feb.f ac = some ac by unfold Feb.f; rw [if_pos (by omega)]) ?_
 have key : ∀ (m i : Nat), i + m = ac.length → Ev (fun k => Fsb.l0 k (ac.length : Int) (i : Int) ns ac st ar ns ac (rows ns.length st ar i)) (ns, ac, rows ns.length st ar ac.length, 0) := by
  intro m
  induction m with
  | zero =>
   intro i hi
   obtain rfl : i = ac.length := by omega
   exact Ev.step (fun k => by rw [Fsb.l0]) (Ev.ncond (by omega) (Ev.fin rfl))
  | succ m ih =>
   intro i hi
   have ii : i < ac.length := by omega
   refine Ev.step (fun k => by rw [Fsb.l0]) (Ev.cond (by omega) (Ev.ret (zcx a.fm n2 ii) (Ev.bind (zb7 (a.unp i ii)) ?_)))
   refine Ev.cond rfl ?_
   refine Ev.cond (by rw [zbs]; omega) ?_
   rw [w64 (by omega) (by omega)]
   have q := ih (i + 1) (by omega)
   rw [zcb] at q
   exact q
 exact key ac.length 0 (by omega)
theorem zdm (hs : SZ ns) (ha : ar.length ≤ 9000000000000000000) (hc : ac.length ≤ 9000000000000000000) (hst : st.length ≤ 9000000000000000000) (a : ¬ AOk ns ac st ar) : Ev (fun k => Fsb.f k ns ac st ar) ([], [], [], 3) := by
 refine Ev.congr (fun k => by rw [Fsb.f]) (Ev.bind (ze4 hs ha hc hst a) ?_)
 exact Ev.ncond (by decide) (Ev.fin rfl)
end
end Go.Proofs.Ytninoenmhcbonaa.Pure
namespace Go.Proofs.Ytninoenmhcbonaa.Pure
set_option linter.unusedVariables false
section
variable (L : Nat)
def rkF (r : Nat) (w : List Nat) : Nat := w.foldl (fun r a => r * L + a + 1) r
def Let (w : List Nat) : Prop := ∀ a ∈ w, a < L
end
section
variable {L : Nat}
theorem zau (r : Nat) (u : List Nat) (b : Nat) : rkF L r (u ++ [b]) = rkF L r u * L + b + 1 := by simp [rkF]
theorem zfs (r : Nat) (u v : List Nat) : rkF L r (u ++ v) = rkF L (rkF L r u) v := by simp [rkF]
theorem zao (r a : Nat) (v : List Nat) : rkF L r (a :: v) = rkF L (r * L + a + 1) v := rfl
theorem zfv {r r' a b : Nat} (h : r < r') (ha : a < L) : r * L + a + 1 < r' * L + b + 1 := by
 have : (r + 1) * L ≤ r' * L := Nat.mul_le_mul_right L h
 rw [Nat.add_mul] at this
 omega
theorem zbu : ∀ (x y : List Nat) (r r' : Nat), x.length = y.length → Let L x → r < r' → rkF L r x < rkF L r' y
 | [], [], _, _, _, _, h => h
 | [], _ :: _, _, _, h, _, _ => by simp at h
 | _ :: _, [], _, _, h, _, _ => by simp at h
 | a :: x, b :: y, r, r', hl, hx, h => by
  rw [zao, zao]
  exact zbu x y _ _ (by simpa using hl) (fun c hc => hx c (by simp [hc])) (zfv h (hx a (by simp)))
theorem rk_ge : ∀ (x : List Nat) (r : Nat), 1 ≤ L → r + x.length ≤ rkF L r x
 | [], r, _ => Nat.le_refl _
 | a :: x, r, hL => by
  have := rk_ge x (r * L + a + 1) hL
  have h2 : r * 1 ≤ r * L := Nat.mul_le_mul_left r hL
  rw [zao, List.length_cons]; omega
theorem zcy {x y : List Nat} (h : x.length < y.length) (hx : Let L x) (hy : Let L y) : rkF L 0 x < rkF L 0 y := by
 have hL : 1 ≤ L := by
  rcases y with _ | ⟨b, y⟩
  ·simp at h
  ·have := hy b (by simp); omega
 have e : y = y.take (y.length - x.length) ++ y.drop (y.length - x.length) := (List.take_append_drop _ _).symm
 rw [e, zfs]
 refine zbu x _ _ _ (by rw [List.length_drop]; omega) hx ?_
 have := rk_ge (y.take (y.length - x.length)) 0 hL
 rw [List.length_take] at this
 omega
theorem zeb {x y : List Nat} (hx : Let L x) (hy : Let L y) (h : rkF L 0 x ≤ rkF L 0 y) : x.length ≤ y.length := by
 refine Nat.le_of_not_lt (fun c => ?_)
 have := zcy c hy hx
 omega
theorem zer : ∀ (x y : List Nat) (r : Nat), x.length = y.length → Let L x → Let L y → rkF L r x = rkF L r y → x = y
 | [], [], _, _, _, _, _ => rfl
 | [], _ :: _, _, h, _, _, _ => by simp at h
 | _ :: _, [], _, h, _, _, _ => by simp at h
 | a :: x, b :: y, r, hl, hx, hy, e => by
  rw [zao, zao] at e
  have hl' : x.length = y.length := by simpa using hl
  have hx' : Let L x := fun c hc => hx c (by simp [hc])
  have hy' : Let L y := fun c hc => hy c (by simp [hc])
  have hab : a = b := by
   rcases Nat.lt_trichotomy a b with c | c | c
   ·have := zbu x y (r * L + a + 1) (r * L + b + 1) hl' hx' (by omega); omega
   ·exact c
   ·have := zbu y x (r * L + b + 1) (r * L + a + 1) hl'.symm hy' (by omega); omega
  subst hab
  rw [zer x y _ hl' hx' hy' e]
theorem rk_eq {x y : List Nat} (hx : Let L x) (hy : Let L y) (e : rkF L 0 x = rkF L 0 y) : x = y :=
 zer x y 0 (Nat.le_antisymm (zeb hx hy (by omega)) (zeb hy hx (by omega))) hx hy e
end
section
variable (acc : Nat → Bool) (δ : Nat → Nat → Nat) (L : Nat)
def runN (q : Nat) (w : List Nat) : Nat := w.foldl δ q
structure IsLeast (w : List Nat) : Prop where
 ne : w ≠ []
 lets : Let L w
 tk : acc (runN δ 0 w) = true
 least : ∀ v, v ≠ [] → Let L v → acc (runN δ 0 v) = true → rkF L 0 w ≤ rkF L 0 v
def zcu : Prop := ∀ v, v ≠ [] → Let L v → acc (runN δ 0 v) = false
def accN : Nat → Nat → Bool
 | 0, q => acc q
 | n + 1, q => (List.range L).any fun a => accN n (δ q a)
end
section
variable {acc : Nat → Bool} {δ : Nat → Nat → Nat} {L : Nat}
theorem za2 (q : Nat) (u : List Nat) (b : Nat) : runN δ q (u ++ [b]) = δ (runN δ q u) b := by simp [runN]
theorem IsLeast.unique {w w' : List Nat} (h : IsLeast acc δ L w) (h' : IsLeast acc δ L w') : w = w' :=
 rk_eq h.lets h'.lets (Nat.le_antisymm (h.least w' h'.ne h'.lets h'.tk) (h'.least w h.ne h.lets h.tk))
theorem IsLeast.not_none {w : List Nat} (h : IsLeast acc δ L w) (h' : zcu acc δ L) : False := by
 have := h' w h.ne h.lets
 rw [h.tk] at this
 cases this
theorem zaz : ∀ (n q : Nat), accN acc δ L n q = true ↔ ∃ w, w.length = n ∧ Let L w ∧ acc (runN δ q w) = true
 | 0, q => by
  constructor
  ·intro h; exact ⟨[], rfl, by simp [Let], h⟩
  ·rintro ⟨w, h0, _, h⟩
   rw [List.length_eq_zero_iff.1 h0] at h
   exact h
 | n + 1, q => by
  rw [accN, List.any_eq_true]
  constructor
  ·rintro ⟨a, ha, h⟩
   obtain ⟨w, h1, h2, h3⟩ := (zaz n (δ q a)).1 h
   exact ⟨a :: w, by simp [h1], by intro c hc; rcases List.mem_cons.1 hc with rfl | h; exact List.mem_range.1 ha; exact h2 c h, h3⟩
  ·rintro ⟨w, h1, h2, h3⟩
   rcases w with _ | ⟨a, w⟩
   ·simp at h1
   ·exact ⟨a, List.mem_range.2 (h2 a (by simp)), (zaz n (δ q a)).2 ⟨w, by simpa using h1, fun c hc => h2 c (by simp [hc]), h3⟩⟩
inductive Greedy (acc : Nat → Bool) (δ : Nat → Nat → Nat) (L : Nat) : Nat → Nat → List Nat → Prop
 | nil (q : Nat) (h : acc q = true) : Greedy acc δ L 0 q []
 | cons (n q a : Nat) (w : List Nat) (ha : a < L) (hl : ∀ b, b < a → accN acc δ L n (δ q b) = false) (h : Greedy acc δ L n (δ q a) w) : Greedy acc δ L (n + 1) q (a :: w)
theorem Greedy.len {n q : Nat} {w : List Nat} (h : Greedy acc δ L n q w) : w.length = n ∧ Let L w ∧ acc (runN δ q w) = true := by
 induction h with
 | nil q h => exact ⟨rfl, by simp [Let], h⟩
 | cons n q a w ha hl h ih => exact ⟨by simp [ih.1], by intro c hc; rcases List.mem_cons.1 hc with rfl | h; exact ha; exact ih.2.1 c h, ih.2.2⟩
theorem Greedy.least {n q : Nat} {w : List Nat} (h : Greedy acc δ L n q w) : ∀ (v : List Nat) (r : Nat), v.length = n → Let L v → acc (runN δ q v) = true → rkF L r w ≤ rkF L r v := by
 induction h with
 | nil q h => intro v r hv _ _; rw [List.length_eq_zero_iff.1 hv]; exact Nat.le_refl _
 | cons n q a w ha hl h ih =>
  intro v r hv hlv hacc
  rcases v with _ | ⟨c, v⟩
  ·simp at hv
  have hv' : v.length = n := by simpa using hv
  have hlv' : Let L v := fun z hz => hlv z (by simp [hz])
  rw [zao, zao]
  rcases Nat.lt_trichotomy a c with d | d | d
  ·exact Nat.le_of_lt (zbu w v _ _ (by rw [h.len.1, hv']) h.len.2.1 (by omega))
  ·subst d; exact ih v _ hv' hlv' hacc
  ·have := hl c d
   rw [(zaz n (δ q c)).2 ⟨v, hv', hlv', hacc⟩] at this
   cases this
theorem Greedy.isLeast {n : Nat} {w : List Nat} (h : Greedy acc δ L (n + 1) 0 w) (hn : ∀ m, 1 ≤ m → m ≤ n → accN acc δ L m 0 = false) : IsLeast acc δ L w := by
 obtain ⟨h1, h2, h3⟩ := h.len
 refine ⟨by rintro rfl; simp at h1, h2, h3, fun v hv hlv hacc => ?_⟩
 rcases Nat.lt_trichotomy v.length (n + 1) with c | c | c
 ·have := hn v.length (by rcases v with _ | ⟨a, v⟩; exact absurd rfl hv; simp) (by omega)
  rw [(zaz v.length 0).2 ⟨v, rfl, hlv, hacc⟩] at this
  cases this
 ·exact h.least v 0 c hlv hacc
 ·exact Nat.le_of_lt (zcy (by omega) h2 hlv)
structure Met (acc : Nat → Bool) (δ : Nat → Nat → Nat) (L n : Nat) (ls : List Nat) (ws : List (List Nat)) : Prop where
 len : ws.length = ls.length
 h0 : ls[0]? = some 0 ∧ ws[0]? = some []
 run : ∀ (k q : Nat) (w : List Nat), ls[k]? = some q → ws[k]? = some w → runN δ 0 w = q ∧ Let L w ∧ q < n ∧ w.length ≤ k
 up : ∀ (k k' : Nat) (w w' : List Nat), k < k' → ws[k]? = some w → ws[k']? = some w' → rkF L 0 w < rkF L 0 w'
 nodup : ls.Nodup
def Done (acc : Nat → Bool) (δ : Nat → Nat → Nat) (L : Nat) (ls : List Nat) (ws : List (List Nat)) (k b : Nat) : Prop :=
 ∀ (q : Nat) (w : List Nat), ls[k]? = some q → ws[k]? = some w → acc (δ q b) = false ∧ ∃ (k' : Nat) (w' : List Nat), ls[k']? = some (δ q b) ∧ ws[k']? = some w' ∧ rkF L 0 w' ≤ rkF L 0 w * L + b + 1
theorem Met.cover {n : Nat} {ls : List Nat} {ws : List (List Nat)} (M : Met acc δ L n ls ws) {i a : Nat} {wi : List Nat} (hi : ws[i]? = some wi) (ha : a ≤ L)
  (h1 : ∀ k b, k < i → b < L → Done acc δ L ls ws k b) (h2 : ∀ b, b < a → Done acc δ L ls ws i b) :
  ∀ (m : Nat) (v : List Nat), v.length = m → Let L v → rkF L 0 v ≤ rkF L 0 wi * L + a → (∃ (k : Nat) (w : List Nat), ls[k]? = some (runN δ 0 v) ∧ ws[k]? = some w ∧ rkF L 0 w ≤ rkF L 0 v) ∧ (v ≠ [] → acc (runN δ 0 v) = false) := by
 intro m
 induction m with
 | zero =>
  intro v hv _ _
  rw [List.length_eq_zero_iff.1 hv]
  exact ⟨⟨0, [], M.h0.1, M.h0.2, Nat.le_refl _⟩, fun h => absurd rfl h⟩
 | succ m ih =>
  intro v hv hl hr
  rcases List.eq_nil_or_concat v with rfl | ⟨u, b, rfl⟩
  ·simp at hv
  rw [List.concat_eq_append] at *
  have hb : b < L := hl b (by simp)
  have hlu : Let L u := fun c hc => hl c (by simp [hc])
  rw [zau] at hr
  have hru : rkF L 0 u ≤ rkF L 0 wi := by
   refine Nat.le_of_not_lt (fun c => ?_)
   have : (rkF L 0 wi + 1) * L ≤ rkF L 0 u * L := Nat.mul_le_mul_right L c
   rw [Nat.add_mul] at this
   omega
  have h1u : rkF L 0 wi * 1 ≤ rkF L 0 wi * L := Nat.mul_le_mul_left _ (by omega)
  obtain ⟨⟨k, w, e1, e2, e3⟩, _⟩ := ih u (by simpa using hv) hlu (by omega)
  have hk : k ≤ i := by
   refine Nat.le_of_not_lt (fun c => ?_)
   have := M.up i k wi w c hi e2
   omega
  have dn : Done acc δ L ls ws k b := by
   rcases Nat.lt_or_eq_of_le hk with c | c
   ·exact h1 k b c hb
   ·subst c
    rw [hi] at e2
    obtain rfl := Option.some.inj e2
    have : rkF L 0 u = rkF L 0 wi := by omega
    rw [this] at hr
    exact h2 b (by omega)
  obtain ⟨d1, k', w', d2, d3, d4⟩ := dn _ _ e1 e2
  rw [za2, zau]
  refine ⟨⟨k', w', d2, d3, Nat.le_trans d4 ?_⟩, fun _ => d1⟩
  have : rkF L 0 w * L ≤ rkF L 0 u * L := Nat.mul_le_mul_right L e3
  omega
theorem Met.found {n : Nat} {ls : List Nat} {ws : List (List Nat)} (M : Met acc δ L n ls ws) {i a q : Nat} {wi : List Nat} (hq : ls[i]? = some q) (hi : ws[i]? = some wi) (ha : a < L)
  (h1 : ∀ k b, k < i → b < L → Done acc δ L ls ws k b) (h2 : ∀ b, b < a → Done acc δ L ls ws i b) (h : acc (δ q a) = true) : IsLeast acc δ L (wi ++ [a]) := by
 have r := M.run i q wi hq hi
 refine ⟨by simp, ?_, by rw [za2, r.1]; exact h, fun v hv hl hacc => ?_⟩
 ·intro c hc
  rcases List.mem_append.1 hc with d | d
  ·exact r.2.1 c d
  ·rw [List.mem_singleton.1 d]; exact ha
 ·refine Nat.le_of_not_lt (fun c => ?_)
  rw [zau] at c
  have := (M.cover hi (Nat.le_of_lt ha) h1 h2 v.length v rfl hl (by omega)).2 hv
  rw [hacc] at this
  cases this
theorem Met.none {n : Nat} {ls : List Nat} {ws : List (List Nat)} (M : Met acc δ L n ls ws) (h1 : ∀ k b, k < ls.length → b < L → Done acc δ L ls ws k b) : zcu acc δ L := by
 have key : ∀ (m : Nat) (v : List Nat), v.length = m → Let L v → (∃ (k : Nat) (w : List Nat), ls[k]? = some (runN δ 0 v) ∧ ws[k]? = some w) ∧ (v ≠ [] → acc (runN δ 0 v) = false) := by
  intro m
  induction m with
  | zero =>
   intro v hv _
   rw [List.length_eq_zero_iff.1 hv]
   exact ⟨⟨0, [], M.h0.1, M.h0.2⟩, fun h => absurd rfl h⟩
  | succ m ih =>
   intro v hv hl
   rcases List.eq_nil_or_concat v with rfl | ⟨u, b, rfl⟩
   ·simp at hv
   rw [List.concat_eq_append] at *
   obtain ⟨⟨k, w, e1, e2⟩, _⟩ := ih u (by simpa using hv) (fun c hc => hl c (by simp [hc]))
   obtain ⟨d1, k', w', d2, d3, _⟩ := h1 k b (by have := (List.getElem?_eq_some_iff.1 e1).1; exact this) (hl b (by simp)) _ _ e1 e2
   rw [za2]
   exact ⟨⟨k', w', d2, d3⟩, fun _ => d1⟩
 intro v hv hl
 exact (key v.length v rfl hl).2 hv
theorem zah {α : Type} {l : List α} {t q : α} {k : Nat} (h : (l ++ [t])[k]? = some q) : l[k]? = some q ∨ (k = l.length ∧ q = t) := by
 rcases Nat.lt_trichotomy k l.length with c | c | c
 ·rw [List.getElem?_append_left c] at h; exact Or.inl h
 ·subst c; rw [List.getElem?_append_right (Nat.le_refl _)] at h; simp at h; exact Or.inr ⟨rfl, h.symm⟩
 ·rw [List.getElem?_eq_none (by simp; omega)] at h; cases h
theorem zae {α : Type} {l : List α} {t q : α} {k : Nat} (h : l[k]? = some q) : (l ++ [t])[k]? = some q := by
 rw [List.getElem?_append_left (List.getElem?_eq_some_iff.1 h).1]; exact h
theorem Met.push {n : Nat} {ls : List Nat} {ws : List (List Nat)} (M : Met acc δ L n ls ws) {i a q : Nat} {wi : List Nat} (hq : ls[i]? = some q) (hi : ws[i]? = some wi) (ha : a < L) (hn : δ q a < n) (hnew : ¬ δ q a ∈ ls)
  (top : ∀ (k : Nat) (w : List Nat), ws[k]? = some w → rkF L 0 w ≤ rkF L 0 wi * L + a) : Met acc δ L n (ls ++ [δ q a]) (ws ++ [wi ++ [a]]) := by
 have r := M.run i q wi hq hi
 have il : i < ls.length := (List.getElem?_eq_some_iff.1 hq).1
 refine ⟨by simp [M.len], ⟨zae M.h0.1, zae M.h0.2⟩, ?_, ?_, ?_⟩
 ·intro k p w h1 h2
  rcases zah h1 with h1 | ⟨rfl, rfl⟩
  ·rcases zah h2 with h2 | ⟨rfl, rfl⟩
   ·exact M.run k p w h1 h2
   ·have := (List.getElem?_eq_some_iff.1 h1).1; rw [M.len] at this; omega
  ·rcases zah h2 with h2 | ⟨_, rfl⟩
   ·have := (List.getElem?_eq_some_iff.1 h2).1; rw [M.len] at this; omega
   ·refine ⟨by rw [za2, r.1], ?_, hn, by rw [List.length_append]; simp; omega⟩
    intro c hc
    rcases List.mem_append.1 hc with d | d
    ·exact r.2.1 c d
    ·rw [List.mem_singleton.1 d]; exact ha
 ·intro k k' w w' hk h1 h2
  rcases zah h1 with h1 | ⟨rfl, rfl⟩
  ·rcases zah h2 with h2 | ⟨rfl, rfl⟩
   ·exact M.up k k' w w' hk h1 h2
   ·rw [zau]; have := top k w h1; omega
  ·have := (List.getElem?_eq_some_iff.1 h2).1; simp at this; omega
 ·rw [List.nodup_append]
  exact ⟨M.nodup, by simp, fun x hx y hy e => hnew (by rw [List.mem_singleton.1 hy] at e; exact e ▸ hx)⟩
theorem Done.ext {ls : List Nat} {ws : List (List Nat)} {k b t : Nat} {w0 : List Nat} (h : Done acc δ L ls ws k b) (hl : ws.length = ls.length) (hk : k < ls.length) : Done acc δ L (ls ++ [t]) (ws ++ [w0]) k b := by
 intro q w h1 h2
 rcases zah h1 with h1 | ⟨rfl, rfl⟩
 ·rcases zah h2 with h2 | ⟨rfl, rfl⟩
  ·obtain ⟨d1, k', w', d2, d3, d4⟩ := h q w h1 h2
   exact ⟨d1, k', w', zae d2, zae d3, d4⟩
  ·omega
 ·omega
theorem Met.size {n : Nat} {ls : List Nat} {ws : List (List Nat)} (M : Met acc δ L n ls ws) : ls.length ≤ n := by
 have : ∀ x ∈ ls, x ∈ List.range n := by
  intro x hx
  obtain ⟨k, hk, rfl⟩ := List.getElem_of_mem hx
  obtain ⟨w, hw⟩ : ∃ w, ws[k]? = some w := ⟨_, List.getElem?_eq_getElem (by rw [M.len]; exact hk)⟩
  exact List.mem_range.2 (M.run k _ w (List.getElem?_eq_getElem hk) hw).2.2.1
 have key : ∀ (S : List Nat) (T : List Nat), S.Nodup → (∀ x ∈ S, x ∈ T) → S.length ≤ T.length := by
  intro S
  induction S with
  | nil => intro T _ _; simp
  | cons x S ih =>
   intro T hn hs
   have hx : x ∈ T := hs x (by simp)
   have hn2 := List.nodup_cons.1 hn
   have := ih (T.erase x) hn2.2 (fun z hz => (List.mem_erase_of_ne (show z ≠ x from fun e => hn2.1 (e ▸ hz))).2 (hs z (by simp [hz])))
   rw [List.length_erase_of_mem hx] at this
   have : 0 < T.length := List.length_pos_of_mem hx
   rw [List.length_cons]; omega
 have := key ls (List.range n) M.nodup this
 simpa using this
end
end Go.Proofs.Ytninoenmhcbonaa.Pure
namespace Go.Proofs.Ytninoenmhcbonaa.Pure
open Go.RowKit Go.Proofs.YtninoenmhcbonaaW.PrintWords Go.Proofs.YtninoenmhcbonaaW.PrintLast Go.Proofs.YtninoenmhcbonaaW.PrintMore Go.Proofs.Ytninoenmhcbonaa.X
set_option linter.unusedVariables false
def acF (ac : List Bool) (q : Nat) : Bool := ac.getD q false
def dlF (nx : List (List Int)) (q a : Nat) : Nat := ((nx.getD q []).getD a 0).toNat
structure Mk (ac : List Bool) (nx : List (List Int)) (L : Nat) : Prop where
 len : nx.length = ac.length
 n1 : 1 ≤ ac.length
 n2 : ac.length ≤ 256
 l1 : 1 ≤ L
 l2 : L ≤ 64
 rows : ∀ r ∈ nx, r.length = L ∧ ∀ x ∈ r, 0 ≤ x ∧ x < (ac.length : Int)
section
variable {ac : List Bool} {nx : List (List Int)} {L : Nat}
theorem Mk.row (h : Mk ac nx L) {q : Nat} (hq : q < ac.length) : (rd_L4 nx (q : Int)).length = L ∧ ∀ a : Nat, a < L → rd (rd_L4 nx (q : Int)) (a : Int) = ((dlF nx q a : Nat) : Int) ∧ dlF nx q a < ac.length := by
 have hq' : q < nx.length := by rw [h.len]; exact hq
 have r := h.rows _ (List.getElem_mem hq')
 rw [zf4 nx hq']
 refine ⟨r.1, fun a ha => ?_⟩
 have ha' : a < (nx[q]).length := by rw [r.1]; exact ha
 have x := r.2 _ (List.getElem_mem ha')
 have e : dlF nx q a = ((nx[q])[a]).toNat := by simp [dlF, List.getD_eq_getElem?_getD, List.getElem?_eq_getElem hq', List.getElem?_eq_getElem ha']
 rw [zbv _ ha', e]
 omega
theorem Mk.acc (h : Mk ac nx L) {q : Nat} (hq : q < ac.length) : rdOf false ac (q : Int) = acF ac q := by
 rw [zap false ac hq, acF, List.getD_eq_getElem?_getD, List.getElem?_eq_getElem hq]; rfl
end
theorem ze7 : ∀ (m : Nat) (p l s : List Int), l.length = m → p.length = s.length → p.length + m + s.length ≤ 9000000000000000000 → Ev (fun k => Fgb.l0 k (p ++ l ++ s) (p.length : Int) ((p.length : Int) + (m : Int) - 1)) (p ++ l.reverse ++ s) := by
 intro m
 induction m using Nat.strongRecOn with
 | ind m ih =>
  intro p l s hl hps hb
  rcases l with _ | ⟨a, l⟩
  ·have : m = 0 := by simpa using hl.symm
   subst this
   exact Ev.step (fun k => by rw [Fgb.l0]) (Ev.ncond (by omega) (Ev.fin (by simp)))
  rcases List.eq_nil_or_concat l with rfl | ⟨l, b, rfl⟩
  ·have : m = 1 := by simpa using hl.symm
   subst this
   exact Ev.step (fun k => by rw [Fgb.l0]) (Ev.ncond (by omega) (Ev.fin (by simp)))
  rw [List.concat_eq_append] at *
  have hm : m = l.length + 2 := by simp at hl; omega
  have e0 : p ++ (a :: (l ++ [b])) ++ s = p ++ [a] ++ l ++ [b] ++ s := by simp
  have r1 : rd (p ++ (a :: (l ++ [b])) ++ s) ((p.length : Int) + (m : Int) - 1) = b := by
   have e : (p.length : Int) + (m : Int) - 1 = ((p ++ [a] ++ l).length : Int) := by simp; omega
   rw [e0, e, zab]
   simp
  have r2 : rd (p ++ (a :: (l ++ [b])) ++ s) (p.length : Int) = a := by
   rw [zab]
   simp
  have st : ((p ++ (a :: (l ++ [b])) ++ s).set (p.length : Int).toNat b).set ((p.length : Int) + (m : Int) - 1).toNat a = (p ++ [b]) ++ l ++ ([a] ++ s) := by
   have e : ((p.length : Int) + (m : Int) - 1).toNat = (p ++ [b] ++ l).length := by simp; omega
   rw [e0, e, Int.toNat_natCast]
   have e1 : (p ++ [a] ++ l ++ [b] ++ s).set p.length b = p ++ [b] ++ l ++ [b] ++ s := by simp
   rw [e1]
   have e2 : (p ++ [b] ++ l ++ [b] ++ s) = (p ++ [b] ++ l) ++ (b :: s) := by simp
   rw [e2, List.set_append_right _ _ (Nat.le_refl _)]
   simp
  have q := ih l.length (by omega) (p ++ [b]) l ([a] ++ s) rfl (by simp; omega) (by simp; omega)
  refine Ev.step (fun k => by rw [Fgb.l0]) ?_
  rw [r1, r2, st]
  have hlen : ((p ++ (a :: (l ++ [b])) ++ s).length : Int) = (p.length : Int) + (m : Int) + (s.length : Int) := by simp; omega
  rw [hlen, w64 (x := (p.length : Int) + 1) (by omega) (by omega), w64 (x := (p.length : Int) + (m : Int) - 1 - 1) (by omega) (by omega)]
  refine Ev.cond (by omega) (Ev.cond (by omega) (Ev.cond (by omega) (Ev.cond (by omega) (Ev.cond (by omega) ?_))))
  have e3 : ((p ++ [b]).length : Int) = (p.length : Int) + 1 := by simp
  have e4 : (p.length : Int) + 1 + (l.length : Int) - 1 = (p.length : Int) + (m : Int) - 1 - 1 := by omega
  rw [e3, e4] at q
  have e5 : p ++ [b] ++ l.reverse ++ ([a] ++ s) = p ++ (a :: (l ++ [b])).reverse ++ s := by simp
  rw [e5] at q
  exact q
theorem rev_ev (l : List Int) (h : l.length ≤ 9000000000000000000) : Ev (fun k => Fgb.f k l) l.reverse := by
 refine Ev.congr (fun k => by rw [Fgb.f]) ?_
 rw [w64 (by omega) (by omega)]
 have := ze7 l.length [] l [] rfl rfl (by simp; omega)
 simpa using this
def toI (w : List Nat) : List Int := w.map Int.ofNat
structure Chain (ss : List S109) (ls : List Nat) (ws : List (List Nat)) : Prop where
 low : ∀ q ∈ ls, q < ss.length
 c0 : rd_T109 ss 0 = ⟨-1, -1⟩
 up : ∀ (k q : Nat) (w : List Nat), ls[k + 1]? = some q → ws[k + 1]? = some w → ∃ (k' p a : Nat) (u : List Nat), k' ≤ k ∧ ls[k']? = some p ∧ ws[k']? = some u ∧ w = u ++ [a] ∧ rd_T109 ss (q : Int) = ⟨(p : Int), (a : Int)⟩
theorem ze9 {acc : Nat → Bool} {δ : Nat → Nat → Nat} {L n : Nat} {ss : List S109} {ls : List Nat} {ws : List (List Nat)} (M : Met acc δ L n ls ws) (C : Chain ss ls ws) :
  ∀ (k q : Nat) (w : List Nat) (x : List Int), ls[k]? = some q → ws[k]? = some w → x.length + k ≤ 1000000 → Ev (fun f => Fd.l0 f ss x (q : Int)) (toI w ++ x.reverse) := by
 intro k
 induction k using Nat.strongRecOn with
 | ind k ih =>
  intro q w x h1 h2 hb
  have lo := C.low q (List.mem_of_getElem? h1)
  rcases k with _ | k
  ·rw [M.h0.1] at h1
   rw [M.h0.2] at h2
   obtain rfl := Option.some.inj h1
   obtain rfl := Option.some.inj h2
   refine Ev.step (fun k => by rw [Fd.l0]) (Ev.cond (by omega) (Ev.cond (by omega) (Ev.cond (by omega) ?_)))
   rw [show ((0 : Nat) : Int) = 0 from rfl, C.c0]
   exact Ev.ncond (by decide) (Ev.bind (rev_ev x (by omega)) (Ev.fin (by simp [toI])))
  ·obtain ⟨k', p, a, u, hk, e1, e2, rfl, e3⟩ := C.up k q w h1 h2
   have q' := ih k' (by omega) p u (x ++ [(a : Int)]) e1 e2 (by simp; omega)
   refine Ev.step (fun k => by rw [Fd.l0]) (Ev.cond (by omega) (Ev.cond (by omega) (Ev.cond (by omega) ?_)))
   rw [e3]
   refine Ev.cond (by show (a : Int) ≥ 0; omega) (Ev.cond (by omega) ?_)
   rw [show toI u ++ (x ++ [(a : Int)]).reverse = toI (u ++ [a]) ++ x.reverse by simp [toI]] at q'
   exact q'
theorem way_ev {acc : Nat → Bool} {δ : Nat → Nat → Nat} {L n : Nat} {ss : List S109} {ls : List Nat} {ws : List (List Nat)} (M : Met acc δ L n ls ws) (C : Chain ss ls ws) {k q a : Nat} {w : List Nat} (h1 : ls[k]? = some q) (h2 : ws[k]? = some w) (hk : k ≤ 1000) :
  Ev (fun f => Fd.f f ss (q : Int) (a : Int)) (toI (w ++ [a])) := by
 refine Ev.congr (fun k => by rw [Fd.f]) ?_
 have := ze9 M C k q w [(a : Int)] h1 h2 (by simp; omega)
 rwa [show toI w ++ [(a : Int)].reverse = toI (w ++ [a]) by simp [toI]] at this
end Go.Proofs.Ytninoenmhcbonaa.Pure
namespace Go.Proofs.Ytninoenmhcbonaa.Pure
open Go.RowKit Go.Proofs.YtninoenmhcbonaaW.PrintWords Go.Proofs.YtninoenmhcbonaaW.PrintLast Go.Proofs.YtninoenmhcbonaaW.PrintMore Go.Proofs.Ytninoenmhcbonaa.X
set_option linter.unusedVariables false
structure Bf (ac : List Bool) (nx : List (List Int)) (L : Nat) (ls : List Nat) (ws : List (List Nat)) (ss : List S109) (mt : List Bool) (i a : Nat) : Prop where
 met : Met (acF ac) (dlF nx) L ac.length ls ws
 chain : Chain ss ls ws
 sl : ss.length = ac.length
 ml : mt.length = ac.length
 mark : ∀ q, q < ac.length → (rdOf false mt (q : Int) = true ↔ q ∈ ls)
 d1 : ∀ k b, k < i → b < L → Done (acF ac) (dlF nx) L ls ws k b
 d2 : ∀ b, b < a → Done (acF ac) (dlF nx) L ls ws i b
 top : ∀ (w : List Nat), ws[i]? = some w → ∀ (k : Nat) (u : List Nat), ws[k]? = some u → rkF L 0 u ≤ rkF L 0 w * L + a
def Ans (ac : List Bool) (nx : List (List Int)) (L : Nat) (r : List Int × Bool) : Prop :=
 (∃ w, IsLeast (acF ac) (dlF nx) L w ∧ w.length ≤ ac.length ∧ r = (toI w, true)) ∨ (zcu (acF ac) (dlF nx) L ∧ r = ([], false))
section
variable {ns : List ByteArray} {ac : List Bool} {nx : List (List Int)} {L : Nat}
theorem zcg {α : Type} (d : α) (l : List α) {p q : Nat} (v : α) (hp : p < l.length) : rdOf d (l.set p v) (q : Int) = if q = p then v else rdOf d l (q : Int) := by
 simp only [rdOf, Int.toNat_natCast, List.getD_eq_getElem?_getD]
 by_cases c : q = p
 ·subst c; simp [hp]
 ·rw [List.getElem?_set_ne (fun e => c e.symm), if_neg c]
theorem zbi (l : List S109) {p q : Nat} (v : S109) (hp : p < l.length) : rd_T109 (l.set p v) (q : Int) = if q = p then v else rd_T109 l (q : Int) := by
 simp only [rd_T109, Int.toNat_natCast, List.getD_eq_getElem?_getD]
 by_cases c : q = p
 ·subst c; simp [hp]
 ·rw [List.getElem?_set_ne (fun e => c e.symm), if_neg c]
theorem Bf.next (m : Mk ac nx L) {ls : List Nat} {ws : List (List Nat)} {ss : List S109} {mt : List Bool} {i : Nat} (B : Bf ac nx L ls ws ss mt i L) (hi : i + 1 ≤ ls.length) : Bf ac nx L ls ws ss mt (i + 1) 0 := by
 refine ⟨B.met, B.chain, B.sl, B.ml, B.mark, fun k b hk hb => ?_, fun b hb => absurd hb (Nat.not_lt_zero _), fun w hw k u hu => ?_⟩
 ·rcases Nat.lt_or_eq_of_le (Nat.le_of_lt_succ hk) with c | c
  ·exact B.d1 k b c hb
  ·subst c; exact B.d2 b hb
 ·obtain ⟨w0, h0⟩ : ∃ w0, ws[i]? = some w0 := ⟨_, List.getElem?_eq_getElem (by rw [B.met.len]; omega)⟩
  have h1 := B.top w0 h0 k u hu
  have h2 := B.met.up i (i + 1) w0 w (by omega) h0 hw
  have : (rkF L 0 w0 + 1) * L ≤ rkF L 0 w * L := Nat.mul_le_mul_right L h2
  rw [Nat.add_mul] at this
  omega
theorem Bf.old {ls : List Nat} {ws : List (List Nat)} {ss : List S109} {mt : List Bool} {i a q : Nat} (B : Bf ac nx L ls ws ss mt i a) (hq : ls[i]? = some q) (hacc : acF ac (dlF nx q a) = false) (hin : dlF nx q a ∈ ls) : Bf ac nx L ls ws ss mt i (a + 1) := by
 refine ⟨B.met, B.chain, B.sl, B.ml, B.mark, B.d1, fun b hb => ?_, fun w hw k u hu => by have := B.top w hw k u hu; omega⟩
 rcases Nat.lt_or_eq_of_le (Nat.le_of_lt_succ hb) with c | c
 ·exact B.d2 b c
 ·subst c
  intro q' w h1 h2
  rw [hq] at h1
  obtain rfl := Option.some.inj h1
  obtain ⟨k', hk', e⟩ := List.getElem_of_mem hin
  have hk2 : k' < ws.length := by rw [B.met.len]; exact hk'
  refine ⟨hacc, k', ws[k'], by rw [List.getElem?_eq_getElem hk', e], List.getElem?_eq_getElem hk2, ?_⟩
  have := B.top w h2 k' _ (List.getElem?_eq_getElem hk2)
  omega
theorem Bf.push (m : Mk ac nx L) {ls : List Nat} {ws : List (List Nat)} {ss : List S109} {mt : List Bool} {i a q : Nat} {wi : List Nat} (B : Bf ac nx L ls ws ss mt i a) (hq : ls[i]? = some q) (hw : ws[i]? = some wi) (ha : a < L) (hn : dlF nx q a < ac.length) (hacc : acF ac (dlF nx q a) = false) (hnew : ¬ dlF nx q a ∈ ls) :
  Bf ac nx L (ls ++ [dlF nx q a]) (ws ++ [wi ++ [a]]) (ss.set (dlF nx q a) ⟨(q : Int), (a : Int)⟩) (mt.set (dlF nx q a) true) i (a + 1) := by
 have il : i < ls.length := (List.getElem?_eq_some_iff.1 hq).1
 have M := B.met.push hq hw ha hn hnew (B.top wi hw)
 refine ⟨M, ⟨?_, ?_, ?_⟩, by rw [List.length_set]; exact B.sl, by rw [List.length_set]; exact B.ml, ?_, ?_, ?_, ?_⟩
 ·intro z hz
  rw [List.length_set]
  rcases List.mem_append.1 hz with d | d
  ·exact B.chain.low z d
  ·rw [List.mem_singleton.1 d, B.sl]; exact hn
 ·have := zbi ss (p := dlF nx q a) (q := 0) ⟨(q : Int), (a : Int)⟩ (by rw [B.sl]; exact hn)
  rw [show ((0 : Nat) : Int) = 0 from rfl] at this
  rw [this, if_neg, B.chain.c0]
  exact fun e => hnew (e ▸ List.mem_of_getElem? B.met.h0.1)
 ·intro k p w h1 h2
  rcases zah h1 with h1 | ⟨hk, rfl⟩
  ·rcases zah h2 with h2 | ⟨hk2, _⟩
   ·obtain ⟨k', p', a', u, e1, e2, e3, e4, e5⟩ := B.chain.up k p w h1 h2
    refine ⟨k', p', a', u, e1, zae e2, zae e3, e4, ?_⟩
    rw [zbi ss _ (by rw [B.sl]; exact hn), if_neg, e5]
    exact fun e => hnew (e ▸ List.mem_of_getElem? h1)
   ·have := (List.getElem?_eq_some_iff.1 h1).1; rw [hk2, B.met.len] at this; omega
  ·rcases zah h2 with h2 | ⟨_, rfl⟩
   ·have := (List.getElem?_eq_some_iff.1 h2).1; rw [B.met.len] at this; omega
   ·exact ⟨i, q, a, wi, by omega, zae hq, zae hw, rfl, by rw [zbi ss _ (by rw [B.sl]; exact hn), if_pos rfl]⟩
 ·intro z hz
  rw [zcg false mt true (by rw [B.ml]; exact hn), List.mem_append, List.mem_singleton]
  by_cases c : z = dlF nx q a
  ·rw [if_pos c]; exact ⟨fun _ => Or.inr c, fun _ => rfl⟩
  ·rw [if_neg c, B.mark z hz]; exact ⟨Or.inl, fun h => h.elim id (fun e => absurd e c)⟩
 ·intro k b hk hb
  exact Done.ext (B.d1 k b hk hb) B.met.len (by omega)
 ·intro b hb
  rcases Nat.lt_or_eq_of_le (Nat.le_of_lt_succ hb) with c | c
  ·exact Done.ext (B.d2 b c) B.met.len il
  ·subst c
   intro q' w h1 h2
   have h1' : q' = q := by
    have := zae (t := dlF nx q b) hq
    rw [this] at h1
    exact (Option.some.inj h1).symm
   have h2' : w = wi := by
    have := zae (t := wi ++ [b]) hw
    rw [this] at h2
    exact (Option.some.inj h2).symm
   subst h1' h2'
   exact ⟨hacc, ls.length, w ++ [b], by simp, by rw [← B.met.len]; simp, by rw [zau]; exact Nat.le_refl _⟩
 ·intro w h2 k u hu
  have h2' : w = wi := by
   have := zae (t := wi ++ [a]) hw
   rw [this] at h2
   exact (Option.some.inj h2).symm
  subst h2'
  rcases zah hu with hu | ⟨_, rfl⟩
  ·have := B.top w hw k u hu; omega
  ·rw [zau]; omega
theorem zb3 (ls : List Nat) {i q : Nat} (h : ls[i]? = some q) : rd (toI ls) (i : Int) = (q : Int) := by
 obtain ⟨hi, e⟩ := List.getElem?_eq_some_iff.1 h
 rw [zbv (toI ls) (show i < (toI ls).length by simpa [toI] using hi)]
 simp [toI, e]
theorem zce (m : Mk ac nx L) : ∀ (f i : Nat), i + f = ac.length → ∀ (g a : Nat), a + g = L → ∀ (ls : List Nat) (ws : List (List Nat)) (ss : List S109) (mt : List Bool) (q : Nat), Bf ac nx L ls ws ss mt i a → ls[i]? = some q →
  ∃ r, Ev (fun k => Fcc.l1 k ss mt (toI ls) (i : Int) (rd_L4 nx (q : Int)) ((rd_L4 nx (q : Int)).length : Int) (a : Int) ns ac nx) r ∧ Ans ac nx L r := by
 have n2 := m.n2
 have l2 := m.l2
 intro f
 induction f with
 | zero =>
  intro i hi g a _ ls ws ss mt q B hq
  have := B.met.size
  have := (List.getElem?_eq_some_iff.1 hq).1
  omega
 | succ f ihf =>
  intro i hi g
  induction g with
  | zero =>
   intro a hg ls ws ss mt q B hq
   have sz := B.met.size
   have il := (List.getElem?_eq_some_iff.1 hq).1
   obtain ⟨wi, hw⟩ : ∃ w, ws[i]? = some w := ⟨_, List.getElem?_eq_getElem (by rw [B.met.len]; exact il)⟩
   have qn := (B.met.run i q wi hq hw).2.2.1
   have row := (m.row qn).1
   obtain rfl : L = a := by omega
   have enter : ∀ r, Ev (fun k => Fcc.l0 k ss mt (toI ls) (((i + 1 : Nat)) : Int) ns ac nx) r → Ev (fun k => Fcc.l1 k ss mt (toI ls) (i : Int) (rd_L4 nx (q : Int)) ((rd_L4 nx (q : Int)).length : Int) (L : Int) ns ac nx) r := by
    intro r h
    refine Ev.step (fun k => by rw [Fcc.l1]) (Ev.ncond (by omega) ?_)
    rw [w64 (by omega) (by omega)]
    exact h
   by_cases c : i + 1 < ls.length
   ·have B' := B.next m (by omega)
    obtain ⟨q2, hq2⟩ : ∃ q2, ls[i + 1]? = some q2 := ⟨_, List.getElem?_eq_getElem c⟩
    obtain ⟨r, hr, hA⟩ := ihf (i + 1) (by omega) L 0 (by omega) ls ws ss mt q2 B' hq2
    obtain ⟨w2, hw2⟩ : ∃ w, ws[i + 1]? = some w := ⟨_, List.getElem?_eq_getElem (by rw [B.met.len]; exact c)⟩
    have q2n := (B.met.run (i + 1) q2 w2 hq2 hw2).2.2.1
    refine ⟨r, enter r (Ev.step (fun k => by rw [Fcc.l0]) ?_), hA⟩
    rw [zb3 ls hq2]
    have tl : ((toI ls).length : Int) = (ls.length : Int) := by simp [toI]
    have nl := m.len
    exact Ev.cond (by omega) (Ev.cond (by omega) (Ev.cond (by omega) (Ev.cond (by omega) hr)))
   ·have tl : ((toI ls).length : Int) = (ls.length : Int) := by simp [toI]
    refine ⟨([], false), enter _ (Ev.step (fun k => by rw [Fcc.l0]) (Ev.ncond (by omega) (Ev.fin rfl))), Or.inr ⟨B.met.none (fun k b hk hb => ?_), rfl⟩⟩
    rcases Nat.lt_or_eq_of_le (show k ≤ i by omega) with d | d
    ·exact B.d1 k b d hb
    ·subst d; exact B.d2 b hb
  | succ g ihg =>
   intro a hg ls ws ss mt q B hq
   have sz := B.met.size
   have il := (List.getElem?_eq_some_iff.1 hq).1
   obtain ⟨wi, hw⟩ : ∃ w, ws[i]? = some w := ⟨_, List.getElem?_eq_getElem (by rw [B.met.len]; exact il)⟩
   have qr := B.met.run i q wi hq hw
   have row := m.row qr.2.2.1
   have ra := row.2 a (by omega)
   have tl : ((toI ls).length : Int) = (ls.length : Int) := by simp [toI]
   have sl := B.sl
   have ml := B.ml
   have aE : rdOf false ac ((dlF nx q a : Nat) : Int) = acF ac (dlF nx q a) := m.acc ra.2
   by_cases c1 : acF ac (dlF nx q a) = true
   ·refine ⟨(toI (wi ++ [a]), true), ?_, Or.inl ⟨wi ++ [a], B.met.found hq hw (by omega) B.d1 B.d2 c1, by rw [List.length_append]; have := qr.2.2.2; simp; omega, rfl⟩⟩
    refine Ev.step (fun k => by rw [Fcc.l1]) (Ev.cond (by omega) (Ev.cond (by omega) (Ev.cond (by omega) ?_)))
    rw [ra.1, aE, zb3 ls hq]
    exact Ev.cond (by omega) (Ev.cond (by omega) (Ev.cond c1 (Ev.cond (by omega) (Ev.cond (by omega) (Ev.bind (way_ev B.met B.chain hq hw (by omega)) (Ev.fin rfl))))))
   have c1' : acF ac (dlF nx q a) = false := by simpa using c1
   by_cases c2 : rdOf false mt ((dlF nx q a : Nat) : Int) = true
   ·obtain ⟨r, hr, hA⟩ := ihg (a + 1) (by omega) ls ws ss mt q (B.old hq c1' ((B.mark _ ra.2).1 c2)) hq
    refine ⟨r, Ev.step (fun k => by rw [Fcc.l1]) (Ev.cond (by omega) (Ev.cond (by omega) (Ev.cond (by omega) ?_))), hA⟩
    rw [ra.1, aE, w64 (x := (a : Int) + 1) (by omega) (by omega)]
    exact Ev.cond (by omega) (Ev.cond (by omega) (Ev.ncond c1 (Ev.cond (by omega) (Ev.cond c2 hr))))
   ·have B' := B.push m hq hw (by omega) ra.2 c1' (fun e => c2 ((B.mark _ ra.2).2 e))
    obtain ⟨r, hr, hA⟩ := ihg (a + 1) (by omega) _ _ _ _ q B' (zae hq)
    refine ⟨r, Ev.step (fun k => by rw [Fcc.l1]) (Ev.cond (by omega) (Ev.cond (by omega) (Ev.cond (by omega) ?_))), hA⟩
    have tp : toI ls ++ [((dlF nx q a : Nat) : Int)] = toI (ls ++ [dlF nx q a]) := by simp [toI]
    rw [ra.1, aE, zb3 ls hq, w64 (x := (a : Int) + 1) (by omega) (by omega), tp, Int.toNat_natCast]
    exact Ev.cond (by omega) (Ev.cond (by omega) (Ev.ncond c1 (Ev.cond (by omega) (Ev.ncond c2 (Ev.cond (by omega) (Ev.cond (by omega) (Ev.cond (by omega) (Ev.cond (by omega) hr))))))))
theorem zc5 (m : Mk ac nx L) : ∃ r, Ev (fun k => Fcc.f k ns ac nx) r ∧ Ans ac nx L r := by
 have n1 := m.n1
 have n2 := m.n2
 have B : Bf ac nx L [0] [[]] ((List.replicate ac.length z109).set 0 ⟨-1, -1⟩) ((List.replicate ac.length false).set 0 true) 0 0 := by
  refine ⟨⟨rfl, ⟨rfl, rfl⟩, ?_, ?_, by simp⟩, ⟨?_, ?_, ?_⟩, by simp, by simp, ?_, fun k b hk => absurd hk (Nat.not_lt_zero _), fun b hb => absurd hb (Nat.not_lt_zero _), ?_⟩
  ·intro k q w h1 h2
   rcases k with _ | k
   ·simp at h1 h2; subst h1 h2; exact ⟨rfl, by simp [Let], by omega, Nat.le_refl _⟩
   ·simp at h1
  ·intro k k' w w' hk h1 h2
   rcases k' with _ | k'
   ·omega
   ·simp at h2
  ·intro q hq; rw [List.mem_singleton.1 hq]; simp; omega
  ·have := zbi (List.replicate ac.length z109) (p := 0) (q := 0) ⟨-1, -1⟩ (by simp; omega)
   exact this
  ·intro k q w h1; simp at h1
  ·intro q hq
   rw [zcg false _ true (by simp; omega)]
   by_cases c : q = 0
   ·rw [if_pos c]; simp [c]
   ·rw [if_neg c]
    have : rdOf false (List.replicate ac.length false) (q : Int) = false := by rw [zap false _ (by simpa using hq)]; simp
    rw [this]; simp [c]
  ·intro w hw k u hu
   rcases k with _ | k
   ·simp at hw hu; subst hw hu; simp [rkF]
   ·simp at hu
 obtain ⟨r, hr, hA⟩ := zce (ns := ns) m ac.length 0 (by omega) L 0 (by omega) _ _ _ _ 0 B rfl
 refine ⟨r, Ev.congr (fun k => by rw [Fcc.f]) ?_, hA⟩
 refine Ev.cond (by omega) (Ev.cond (by omega) ?_)
 refine Ev.ret rfl ?_
 refine Ev.cond (by omega) ?_
 refine Ev.ret rfl ?_
 refine Ev.cond (by simp; omega) (Ev.cond (by simp; omega) (Ev.step (fun k => by rw [Fcc.l0]) ?_))
 have nl := m.len
 exact Ev.cond (by simp) (Ev.cond (by simp) (Ev.cond (by simp [rd]) (Ev.cond (by simp [rd]; omega) hr)))
end
end Go.Proofs.Ytninoenmhcbonaa.Pure
namespace Go.Proofs.Ytninoenmhcbonaa.Pure
open Go.RowKit Go.Proofs.YtninoenmhcbonaaW.PrintWords Go.Proofs.YtninoenmhcbonaaW.PrintLast Go.Proofs.YtninoenmhcbonaaW.PrintMore Go.Proofs.Ytninoenmhcbonaa.X
set_option linter.unusedVariables false
section
variable {ns : List ByteArray} {ac : List Bool} {nx : List (List Int)} {L : Nat}
def accL (ac : List Bool) (nx : List (List Int)) (L n : Nat) : List Bool := (List.range ac.length).map (accN (acF ac) (dlF nx) L n)
theorem zat (n : Nat) : (accL ac nx L n).length = ac.length := by simp [accL]
theorem zbb (n : Nat) {q : Nat} (hq : q < ac.length) : rdOf false (accL ac nx L n) (q : Int) = accN (acF ac) (dlF nx) L n q := by
 rw [zap false _ (show q < (accL ac nx L n).length by rw [zat]; exact hq)]; simp [accL]
theorem zed : accL ac nx L 0 = ac := by
 refine List.ext_getElem (by rw [zat]) (fun q h1 h2 => ?_)
 simp [accL, accN, acF, List.getD_eq_getElem?_getD, List.getElem?_eq_getElem h2]
def beh (f : Nat → Bool) (n q : Nat) (b : Bool) : List Bool := (List.range n).map fun p => if p < q then f p else if p = q then b else false
theorem zdg (f : Nat → Bool) (n q : Nat) (b : Bool) : (beh f n q b).length = n := by simp [beh]
theorem zf2 (f : Nat → Bool) {n q : Nat} (b : Bool) (hq : q < n) : rdOf false (beh f n q b) (q : Int) = b := by
 rw [zap false _ (show q < (beh f n q b).length by rw [zdg]; exact hq)]; simp [beh]
theorem zdd (f : Nat → Bool) {n q : Nat} (b c : Bool) (hq : q < n) : (beh f n q b).set q c = beh f n q c := by
 refine List.ext_getElem (by simp [beh]) (fun p h1 h2 => ?_)
 rw [List.getElem_set]
 by_cases d : q = p
 ·subst d; simp [beh]
 ·have d' : ¬ p = q := fun e => d e.symm
  rw [if_neg d]; simp [beh, d']
theorem ze5 (f : Nat → Bool) {n q : Nat} : beh f n q (f q) = beh f n (q + 1) false := by
 refine List.ext_getElem (by simp [beh]) (fun p h1 h2 => ?_)
 simp only [beh, List.getElem_map, List.getElem_range]
 rcases Nat.lt_trichotomy p q with c | c | c
 ·rw [if_pos c, if_pos (by omega)]
 ·subst c; rw [if_neg (by omega), if_pos rfl, if_pos (by omega)]
 ·rw [if_neg (by omega), if_neg (by omega), if_neg (by omega), ite_self]
theorem zfn (f : Nat → Bool) (n : Nat) (b : Bool) : beh f n n b = (List.range n).map f := by
 refine List.ext_getElem (by simp [beh]) (fun p h1 h2 => ?_)
 have : p < n := by simpa [beh] using h1
 simp [beh, this]
theorem zfc (f : Nat → Bool) (n : Nat) : beh f n 0 false = List.replicate n false := by
 refine List.ext_getElem (by simp [beh]) (fun p h1 h2 => ?_)
 simp [beh]
theorem zfe (g : Nat → Bool) (a : Nat) : ((List.range (a + 1)).any g) = ((List.range a).any g || g a) := by
 rw [List.range_succ, List.any_append]; simp
theorem zen (m : Mk ac nx L) (n : Nat) : Ev (fun k => Fs.f k ns ac nx (accL ac nx L n)) (accL ac nx L (n + 1)) := by
 have n2 := m.n2
 have l2 := m.l2
 have nl := m.len
 have al := zat (ac := ac) (nx := nx) (L := L) n
 let f := accN (acF ac) (dlF nx) L (n + 1)
 have fE : ∀ q, f q = (List.range L).any (fun a => accN (acF ac) (dlF nx) L n (dlF nx q a)) := fun q => rfl
 have outer : ∀ (u q : Nat), q + u = ac.length → Ev (fun k => Fs.l0 k (accL ac nx L n) (beh f ac.length q false) (q : Int) ns ac nx) (accL ac nx L (n + 1)) := by
  intro u
  induction u with
  | zero =>
   intro q hq
   obtain rfl : q = ac.length := by omega
   exact Ev.step (fun k => by rw [Fs.l0]) (Ev.ncond (by omega) (Ev.fin (zfn f _ false)))
  | succ u ih =>
   intro q hq
   have qn : q < ac.length := by omega
   have row := m.row qn
   have inner : ∀ (g a : Nat), a + g = L → Ev (fun k => Fs.l1 k (accL ac nx L n) (beh f ac.length q ((List.range a).any fun b => accN (acF ac) (dlF nx) L n (dlF nx q b))) (q : Int) (a : Int) ns ac nx) (accL ac nx L (n + 1)) := by
    intro g
    induction g with
    | zero =>
     intro a ha
     obtain rfl : L = a := by omega
     refine Ev.step (fun k => by rw [Fs.l1]) (Ev.cond (by omega) (Ev.cond (by omega) (Ev.ncond (by omega) ?_)))
     rw [w64 (by omega) (by omega), ← fE, ze5]
     exact ih (q + 1) (by omega)
    | succ g ihg =>
     intro a ha
     have ra := row.2 a (by omega)
     have nx' := ihg (a + 1) (by omega)
     rw [zfe] at nx'
     refine Ev.step (fun k => by rw [Fs.l1]) (Ev.cond (by omega) (Ev.cond (by omega) (Ev.cond (by omega) (Ev.cond (by rw [zdg]; omega) ?_))))
     rw [zf2 f _ qn, ra.1, zbb n ra.2, Int.toNat_natCast, zdd f _ _ qn, zdd f _ _ qn, w64 (x := (a : Int) + 1) (by omega) (by omega)]
     by_cases c : ((List.range a).any fun b => accN (acF ac) (dlF nx) L n (dlF nx q b)) = true
     ·rw [c, Bool.true_or] at nx'
      exact Ev.cond c nx'
     ·have c' : ((List.range a).any fun b => accN (acF ac) (dlF nx) L n (dlF nx q b)) = false := by simpa using c
      rw [c', Bool.false_or] at nx'
      exact Ev.ncond c (Ev.cond (by omega) (Ev.cond (by omega) (Ev.cond (by rw [al]; omega) nx')))
   refine Ev.step (fun k => by rw [Fs.l0]) (Ev.cond (by omega) ?_)
   exact inner L 0 (by omega)
 refine Ev.congr (fun k => by rw [Fs.f]) (Ev.cond (by omega) (Ev.cond (by omega) ?_))
 have := outer ac.length 0 (by omega)
 rw [zfc] at this
 rw [Int.toNat_natCast, al]
 exact this
def zad (ac : List Bool) (nx : List (List Int)) (L n : Nat) : List (List Bool) := (List.range (n + 1)).map (accL ac nx L)
theorem zaw (n : Nat) : (zad ac nx L n).length = n + 1 := by simp [zad]
theorem za4 {n j : Nat} (h : j ≤ n) : rd_L6 (zad ac nx L n) (j : Int) = accL ac nx L j := by
 have h' : j < (zad ac nx L n).length := by rw [zaw]; omega
 simp only [rd_L6, Int.toNat_natCast, List.getD_eq_getElem?_getD, List.getElem?_eq_getElem h', Option.getD_some]
 simp [zad]
theorem zdl (n : Nat) : zad ac nx L (n + 1) = zad ac nx L n ++ [accL ac nx L (n + 1)] := by
 rw [zad, List.range_succ, List.map_append]; rfl
theorem pickL (m : Mk ac nx L) (N : Nat) (hN : N ≤ ac.length) : ∀ (j : Nat), j ≤ N → ∀ (q : Nat) (x : List Nat), q < ac.length → accN (acF ac) (dlF nx) L j q = true → x.length + j ≤ 100000 →
  ∃ w, Greedy (acF ac) (dlF nx) L j q w ∧ Ev (fun k => Frb.l1 k (zad ac nx L N) (j : Int) (toI x) (q : Int) ns ac nx) (toI (x ++ w)) := by
 have n2 := m.n2
 have l2 := m.l2
 have nl := m.len
 intro j
 induction j with
 | zero =>
  intro _ q x _ h _
  exact ⟨[], .nil q h, Ev.step (fun k => by rw [Frb.l1]) (Ev.ncond (by omega) (Ev.fin (by simp)))⟩
 | succ j ih =>
  intro hj q x hq h hx
  have row := m.row hq
  have key : ∀ (g a : Nat), a + g = L → (∀ b, b < a → accN (acF ac) (dlF nx) L j (dlF nx q b) = false) → ∃ w, Greedy (acF ac) (dlF nx) L (j + 1) q w ∧ Ev (fun k => Frb.l2 k (zad ac nx L N) (j : Int) (toI x) (q : Int) (a : Int) ns ac nx) (toI (x ++ w)) := by
   intro g
   induction g with
   | zero =>
    intro a ha hb
    obtain rfl : L = a := by omega
    rw [accN, List.any_eq_true] at h
    obtain ⟨b, h1, h2⟩ := h
    rw [hb b (List.mem_range.1 h1)] at h2
    cases h2
   | succ g ihg =>
    intro a ha hb
    have ra := row.2 a (by omega)
    have ll := zaw (ac := ac) (nx := nx) (L := L) N
    have al := zat (ac := ac) (nx := nx) (L := L) j
    have tx : (toI x).length = x.length := by simp [toI]
    have enter : ∀ {r : List Int} {f : Nat → Option (List Int)}, Ev f r → (∀ k, (if (accN (acF ac) (dlF nx) L j (dlF nx q a) = true) then (if (toI x).length < 17592186044416 then (Frb.l1 k (zad ac nx L N) (j : Int) (toI (x ++ [a])) ((dlF nx q a : Nat) : Int) ns ac nx) else (none)) else (Frb.l2 k (zad ac nx L N) (j : Int) (toI x) (q : Int) ((a + 1 : Nat) : Int) ns ac nx)) = f k) →
      Ev (fun k => Frb.l2 k (zad ac nx L N) (j : Int) (toI x) (q : Int) (a : Int) ns ac nx) r := by
     intro r f hf he
     refine Ev.step (fun k => by rw [Frb.l2]) (Ev.cond (by omega) (Ev.cond (by omega) (Ev.cond (by omega) (Ev.cond (by omega) (Ev.cond (by omega) (Ev.cond (by omega) ?_))))))
     rw [za4 (show j ≤ N by omega), ra.1, zbb j ra.2, w64 (by omega) (by omega)]
     refine Ev.cond (by omega) (Ev.cond (by rw [al]; omega) ?_)
     have tp : toI x ++ [(a : Int)] = toI (x ++ [a]) := by simp [toI]
     rw [tp]
     exact Ev.congr he hf
    by_cases c : accN (acF ac) (dlF nx) L j (dlF nx q a) = true
    ·obtain ⟨w, h1, h2⟩ := ih (by omega) (dlF nx q a) (x ++ [a]) ra.2 c (by simp; omega)
     refine ⟨a :: w, .cons j q a w (by omega) hb h1, ?_⟩
     rw [show x ++ a :: w = x ++ [a] ++ w by simp]
     exact enter h2 (fun k => by rw [if_pos c, if_pos (by omega)])
    ·obtain ⟨w, h1, h2⟩ := ihg (a + 1) (by omega) (fun b hb' => by
      rcases Nat.lt_or_eq_of_le (Nat.le_of_lt_succ hb') with d | d
      ·exact hb b d
      ·subst d; simpa using c)
     exact ⟨w, h1, enter h2 (fun k => by rw [if_neg c])⟩
  obtain ⟨w, h1, h2⟩ := key L 0 (by omega) (fun b hb => absurd hb (Nat.not_lt_zero _))
  refine ⟨w, h1, Ev.step (fun k => by rw [Frb.l1]) (Ev.cond (by omega) ?_)⟩
  rw [w64 (by omega) (by omega), show ((j + 1 : Nat) : Int) - 1 = (j : Int) by omega]
  exact h2
def RAns (ac : List Bool) (nx : List (List Int)) (L : Nat) (r : List Int) : Prop :=
 (∃ w, IsLeast (acF ac) (dlF nx) L w ∧ r = toI w) ∨ ((∀ n, 1 ≤ n → n ≤ ac.length → accN (acF ac) (dlF nx) L n 0 = false) ∧ r = [])
theorem zc2 (m : Mk ac nx L) {N : Nat} (h1 : 1 ≤ N) (h2 : N ≤ ac.length) (hl : ∀ n, 1 ≤ n → n < N → accN (acF ac) (dlF nx) L n 0 = false) (ho : accN (acF ac) (dlF nx) L N 0 = true ∨ N = ac.length) :
  ∃ r, Ev (fun k => Frb.j1 k (zad ac nx L N) ns ac nx) r ∧ RAns ac nx L r := by
 have n1 := m.n1
 have n2 := m.n2
 have nl := m.len
 have ll := zaw (ac := ac) (nx := nx) (L := L) N
 have al := zat (ac := ac) (nx := nx) (L := L) N
 have enter : ∀ {r : List Int} {f : Nat → Option (List Int)}, Ev f r → (∀ k, (if (accN (acF ac) (dlF nx) L N 0 = true) then (Frb.l1 k (zad ac nx L N) (N : Int) ([] : List Int) 0 ns ac nx) else (some ([] : List Int))) = f k) → Ev (fun k => Frb.j1 k (zad ac nx L N) ns ac nx) r := by
  intro r f hf he
  refine Ev.step (fun k => by rw [Frb.j1]) ?_
  rw [ll, w64 (by omega) (by omega), show ((N + 1 : Nat) : Int) - 1 = (N : Int) by omega, za4 (Nat.le_refl N)]
  have a0 := zbb (ac := ac) (nx := nx) (L := L) N (q := 0) (by omega)
  rw [show ((0 : Nat) : Int) = 0 from rfl] at a0
  rw [a0]
  exact Ev.cond (by omega) (Ev.cond (by omega) (Ev.cond (by omega) (Ev.congr he hf)))
 by_cases c : accN (acF ac) (dlF nx) L N 0 = true
 ·obtain ⟨w, g, hw⟩ := pickL (ns := ns) m N h2 N (Nat.le_refl N) 0 [] (by omega) c (by simp; omega)
  rw [List.nil_append] at hw
  obtain ⟨p, rfl⟩ : ∃ p, N = p + 1 := ⟨N - 1, by omega⟩
  exact ⟨toI w, enter hw (fun k => by rw [if_pos c]; rfl), Or.inl ⟨w, g.isLeast (fun n h3 h4 => hl n h3 (by omega)), rfl⟩⟩
 ·refine ⟨[], enter (Ev.fin rfl) (fun k => by rw [if_neg c]), Or.inr ⟨fun n h3 h4 => ?_, rfl⟩⟩
  rcases ho with ho | ho
  ·exact absurd ho c
  ·rcases Nat.lt_or_eq_of_le h4 with d | d
   ·exact hl n h3 (by omega)
   ·subst d; rw [← ho]; simpa using c
theorem zd9 (m : Mk ac nx L) : ∃ r, Ev (fun k => Frb.f k ns ac nx) r ∧ RAns ac nx L r := by
 have n1 := m.n1
 have n2 := m.n2
 have nl := m.len
 have key : ∀ (u n : Nat), n + u = ac.length → (∀ i, 1 ≤ i → i ≤ n → accN (acF ac) (dlF nx) L i 0 = false) → ∃ r, Ev (fun k => Frb.l0 k (zad ac nx L n) ((n + 1 : Nat) : Int) ns ac nx) r ∧ RAns ac nx L r := by
  intro u
  induction u with
  | zero =>
   intro n hn hl
   obtain rfl : n = ac.length := by omega
   obtain ⟨r, hr, hA⟩ := zc2 (ns := ns) m n1 (Nat.le_refl _) (fun i h1 h2 => hl i h1 (by omega)) (Or.inr rfl)
   exact ⟨r, Ev.step (fun k => by rw [Frb.l0]) (Ev.ncond (by omega) hr), hA⟩
  | succ u ih =>
   intro n hn hl
   have ll := zaw (ac := ac) (nx := nx) (L := L) n
   have ll' := zaw (ac := ac) (nx := nx) (L := L) (n + 1)
   have al := zat (ac := ac) (nx := nx) (L := L) (n + 1)
   have enter : ∀ {r : List Int} {f : Nat → Option (List Int)}, Ev f r → (∀ k, (if accN (acF ac) (dlF nx) L (n + 1) 0 = true then (Frb.j1 k (zad ac nx L (n + 1)) ns ac nx) else (Frb.l0 k (zad ac nx L (n + 1)) ((n + 1 + 1 : Nat) : Int) ns ac nx)) = f k) → Ev (fun k => Frb.l0 k (zad ac nx L n) ((n + 1 : Nat) : Int) ns ac nx) r := by
    intro r f hf he
    refine Ev.step (fun k => by rw [Frb.l0]) ?_
    rw [w64 (x := ((n + 1 : Nat) : Int) - 1) (by omega) (by omega), show ((n + 1 : Nat) : Int) - 1 = (n : Int) by omega, za4 (Nat.le_refl n), w64 (x := ((n + 1 : Nat) : Int) + 1) (by omega) (by omega), show ((n + 1 : Nat) : Int) + 1 = ((n + 1 + 1 : Nat) : Int) by omega]
    refine Ev.cond (by omega) (Ev.cond (by omega) (Ev.cond (by omega) (Ev.bind (zen m n) (Ev.cond (by omega) ?_))))
    refine Ev.ret rfl ?_
    rw [← zdl, za4 (Nat.le_refl (n + 1))]
    have a0 := zbb (ac := ac) (nx := nx) (L := L) (n + 1) (q := 0) (by omega)
    rw [show ((0 : Nat) : Int) = 0 from rfl] at a0
    rw [a0]
    exact Ev.cond (by omega) (Ev.cond (by omega) (Ev.cond (by omega) (Ev.congr he hf)))
   by_cases c : accN (acF ac) (dlF nx) L (n + 1) 0 = true
   ·obtain ⟨r, hr, hA⟩ := zc2 (ns := ns) m (show 1 ≤ n + 1 by omega) (by omega) (fun i h1 h2 => hl i h1 (by omega)) (Or.inl c)
    exact ⟨r, enter hr (fun k => by rw [if_pos c]), hA⟩
   ·obtain ⟨r, hr, hA⟩ := ih (n + 1) (by omega) (fun i h1 h2 => by
     rcases Nat.lt_or_eq_of_le h2 with d | d
     ·exact hl i h1 (by omega)
     ·subst d; simpa using c)
    exact ⟨r, enter hr (fun k => by rw [if_neg c]), hA⟩
 obtain ⟨r, hr, hA⟩ := key ac.length 0 (by omega) (fun i h1 h2 => by omega)
 refine ⟨r, Ev.congr (fun k => by rw [Frb.f]) ?_, hA⟩
 have e : zad ac nx L 0 = [ac] := by simp [zad, zed]
 rw [e] at hr
 exact hr
theorem both (m : Mk ac nx L) {r : List Int × Bool} {q : List Int} (h : Ans ac nx L r) (h' : RAns ac nx L q) : r.1 = q ∧ (r.2 = true ↔ q ≠ []) := by
 rcases h with ⟨w, hw, hl, rfl⟩ | ⟨hn, rfl⟩
 ·have wn : toI w ≠ [] := by simp [toI, hw.ne]
  rcases h' with ⟨v, hv, rfl⟩ | ⟨h0, rfl⟩
  ·rw [hw.unique hv]
   rw [hw.unique hv] at wn
   exact ⟨rfl, by simp [wn]⟩
  ·have := h0 w.length (by rcases w with _ | ⟨a, w⟩; exact absurd rfl hw.ne; simp) hl
   rw [(zaz w.length 0).2 ⟨w, rfl, hw.lets, hw.tk⟩] at this
   cases this
 ·rcases h' with ⟨v, hv, rfl⟩ | ⟨_, rfl⟩
  ·exact (hv.not_none hn).elim
  ·exact ⟨rfl, by simp⟩
end
end Go.Proofs.Ytninoenmhcbonaa.Pure
namespace Go.Proofs.Ytninoenmhcbonaa.Pure
open Go.RowKit Go.Proofs.YtninoenmhcbonaaW.PrintWords Go.Proofs.YtninoenmhcbonaaW.PrintLast Go.Proofs.YtninoenmhcbonaaW.PrintMore Go.Proofs.Ytninoenmhcbonaa.X
set_option linter.unusedVariables false
section
variable {ns : List ByteArray} {ac : List Bool} {st : List Int} {ar : List S73}
theorem AOk.mach (a : AOk ns ac st ar) : Mk ac (rows ns.length st ar ac.length) (2 ^ ns.length) := by
 refine ⟨zbs .., a.fr.n1, a.fr.n2, Nat.two_pow_pos _, pow6 a.fr.tr, fun r hr => ?_⟩
 obtain ⟨q, hq, rfl⟩ := List.mem_map.1 hr
 have hq := List.mem_range.1 hq
 exact ⟨zac .., fun x hx => ⟨UnpOk.mem (a.unp q hq).pos x hx, a.low q hq x hx⟩⟩
theorem zem (hs : SZ ns) (ha : ar.length ≤ 9000000000000000000) (hn : ns.length * 16 ≤ 140737488351232) (a : AOk ns ac st ar) {r : List Int × Bool} (hr : Ev (fun k => Fcc.f k ns ac (rows ns.length st ar ac.length)) r) :
  Ev (fun k => Fca.f k ns ac st ar) (if r.2 = true then (r.1, 0) else ([], 190)) := by
 refine Ev.congr (fun k => by rw [Fca.f]) (Ev.bind (zdw hs ha hn a) (Ev.cond rfl (Ev.bind hr ?_)))
 by_cases c : r.2 = true
 ·rw [show (if r.2 = true then (r.1, (0 : Int)) else ([], 190)) = (r.1, 0) from if_pos c]; exact Ev.cond c (Ev.fin rfl)
 ·rw [show (if r.2 = true then (r.1, (0 : Int)) else ([], 190)) = ([], 190) from if_neg c]; exact Ev.ncond c (Ev.fin rfl)
theorem zek (hs : SZ ns) (ha : ar.length ≤ 9000000000000000000) (hc : ac.length ≤ 9000000000000000000) (hst : st.length ≤ 9000000000000000000) (a : ¬ AOk ns ac st ar) : Ev (fun k => Fca.f k ns ac st ar) ([], 3) := by
 refine Ev.congr (fun k => by rw [Fca.f]) (Ev.bind (zdm hs ha hc hst a) ?_)
 exact Ev.ncond (by decide) (Ev.fin rfl)
theorem zd2 : Ev (fun k => Fh.f k) true := Ev.of Fh.mono (show Fh.f 100 = some true by decide +kernel)
end
end Go.Proofs.Ytninoenmhcbonaa.Pure
namespace Go.Proofs.Ytninoenmhcbonaa.Pure
open Go.RowKit Go.Proofs.YtninoenmhcbonaaW.PrintWords Go.Proofs.YtninoenmhcbonaaW.PrintLast Go.Proofs.YtninoenmhcbonaaW.PrintMore Go.Proofs.Ytninoenmhcbonaa.X
set_option linter.unusedVariables false
def dg (n : Nat) : List Int := if n = 0 then [] else ((n % 65536 : Nat) : Int) :: dg (n / 65536)
termination_by n
decreasing_by omega
def vl : List Int → Nat
 | [] => 0
 | d :: ds => d.toNat + 65536 * vl ds
def OkD (l : List Int) : Prop := ∀ d ∈ l, 0 ≤ d ∧ d < 65536
theorem zam : dg 0 = [] := by unfold dg; simp
theorem zbz {n : Nat} (h : n ≠ 0) : dg n = ((n % 65536 : Nat) : Int) :: dg (n / 65536) := by rw [dg]; simp [h]
theorem vl_dg (n : Nat) : vl (dg n) = n := by
 induction n using Nat.strongRecOn with
 | _ n ih =>
  by_cases h : n = 0
  ·subst h; simp [zam, vl]
  ·rw [zbz h, vl, ih (n / 65536) (by omega)]; simp; omega
theorem okd_dg (n : Nat) : OkD (dg n) := by
 induction n using Nat.strongRecOn with
 | _ n ih =>
  by_cases h : n = 0
  ·subst h; intro d hd; simp [zam] at hd
  ·rw [zbz h]
   intro d hd
   rcases List.mem_cons.1 hd with rfl | hd
   ·omega
   ·exact ih (n / 65536) (by omega) d hd
theorem zcm {d : Int} {ds : List Int} (h : OkD (d :: ds)) : OkD ds := fun x hx => h x (List.mem_cons_of_mem _ hx)
theorem zct {d : Int} {ds : List Int} (h : OkD (d :: ds)) : 0 ≤ d ∧ d < 65536 := h d (List.mem_cons_self ..)
theorem zcl {d : Int} {ds : List Int} (h0 : 0 ≤ d) (h1 : d < 65536) (h : OkD ds) : OkD (d :: ds) := fun x hx => by
 rcases List.mem_cons.1 hx with rfl | hx
 ·exact ⟨h0, h1⟩
 ·exact h x hx
theorem zaq {l : List Int} (h : OkD l) (i : Nat) : 0 ≤ l.getD i 0 ∧ l.getD i 0 < 65536 := by
 by_cases hi : i < l.length
 ·rw [List.getD_eq_getElem?_getD, List.getElem?_eq_getElem hi]
  exact h _ (List.getElem_mem hi)
 ·rw [List.getD_eq_getElem?_getD, List.getElem?_eq_none (by omega)]
  simp
theorem zc8 {l : List Int} (h : ∀ i, l.getD i 0 = 0) : vl l = 0 := by
 induction l with
 | nil => rfl
 | cons d ds ih =>
  have h0 : d = 0 := by have := h 0; simpa using this
  have ht : vl ds = 0 := ih fun i => by have := h (i + 1); simpa using this
  rw [vl, h0, ht]; rfl
theorem zai (l : List Int) (i : Nat) : vl (l.drop i) = (l.getD i 0).toNat + 65536 * vl (l.drop (i + 1)) := by
 by_cases hi : i < l.length
 ·rw [List.drop_eq_getElem_cons hi, vl, List.getD_eq_getElem?_getD, List.getElem?_eq_getElem hi]
  simp
 ·rw [List.drop_eq_nil_of_le (by omega), List.drop_eq_nil_of_le (by omega), List.getD_eq_getElem?_getD, List.getElem?_eq_none (by omega)]
  simp [vl]
theorem zal {l : List Int} {i : Nat} (h : l.length ≤ i) : vl (l.drop i) = 0 := by
 rw [List.drop_eq_nil_of_le h]; rfl
theorem zfz {l : List Int} (ok : OkD l) {m : Nat} (hm : m ≤ l.length) (hz : ∀ i, m ≤ i → l.getD i 0 = 0) (ht : m = 0 ∨ l.getD (m - 1) 0 ≠ 0) : l.take m = dg (vl l) := by
 induction l generalizing m with
 | nil => simp [vl, zam]
 | cons d ds ih =>
  rcases Nat.eq_zero_or_pos m with rfl | hp
  ·rw [zc8 fun i => hz i (Nat.zero_le _), zam]; rfl
  ·obtain ⟨k, rfl⟩ : ∃ k, m = k + 1 := ⟨m - 1, by omega⟩
   have hd := zct ok
   have ht' : (d :: ds).getD k 0 ≠ 0 := by
    rcases ht with h | h
    ·exact absurd h (by omega)
    ·simpa using h
   have e := ih (zcm ok) (m := k) (by simpa using hm) (fun i hi => by have := hz (i + 1) (by omega); simpa using this) (by
    rcases Nat.eq_zero_or_pos k with h | h
    ·exact .inl h
    ·right
     obtain ⟨j, rfl⟩ : ∃ j, k = j + 1 := ⟨k - 1, by omega⟩
     simpa using ht')
   have hv : d.toNat + 65536 * vl ds ≠ 0 := by
    rcases Nat.eq_zero_or_pos k with rfl | h
    ·have : d ≠ 0 := by simpa using ht'
     omega
    ·intro hz0
     have h0 : vl ds = 0 := by omega
     rw [h0, zam] at e
     have := congrArg List.length e
     rw [List.length_take, List.length_nil] at this
     rw [List.length_cons] at hm
     omega
   rw [vl, zbz hv, List.take_succ_cons, e]
   congr 1
   ·omega
   ·congr 1; omega
theorem dg_len {n k : Nat} (h : n < 65536 ^ k) : (dg n).length ≤ k := by
 induction k generalizing n with
 | zero =>
  have : n = 0 := by simpa using h
  subst this; simp [zam]
 | succ k ih =>
  by_cases h0 : n = 0
  ·subst h0; simp [zam]
  ·rw [zbz h0, List.length_cons]
   have : n / 65536 < 65536 ^ k := by rw [Nat.div_lt_iff_lt_mul (by omega)]; rw [Nat.pow_succ] at h; exact h
   have := ih this
   omega
def neg (n : Int) : Bool := decide (n < 0)
def mag (n : Int) : List Int := dg n.natAbs
theorem zas {l : List Int} (ok : OkD l) (hl : l.length ≤ 1000000) (s : Bool) : Ev (fun k => Fjc.f k s l) (s && decide (0 < vl l), dg (vl l)) := by
 have key : ∀ (m : Nat), m ≤ l.length → (∀ i, m ≤ i → l.getD i 0 = 0) → Ev (fun k => Fjc.l0 k (m : Int) s l) (s && decide (0 < vl l), dg (vl l)) := by
  intro m
  induction m with
  | zero =>
   intro hm hz
   have hv : vl l = 0 := zc8 fun i => hz i (Nat.zero_le _)
   refine Ev.step (fun k => by rw [Fjc.l0]) ?_
   rw [hv, zam]
   refine Ev.ncond (by omega) ?_
   cases s
   ·simp; exact Ev.now _
   ·simp; exact Ev.now _
  | succ m ih =>
   intro hm hz
   refine Ev.step (fun k => by rw [Fjc.l0]) ?_
   have e : wrap64 (((m + 1 : Nat) : Int) - 1) = (m : Int) := by unfold wrap64; omega
   simp only [e]
   clear e
   refine Ev.cond (by omega) (Ev.cond (by omega) (Ev.cond (by omega) ?_))
   rw [zab]
   refine Ev.ite (fun h => ?_) (fun h => ?_)
   ·exact ih (by omega) fun i hi => by
     rcases Nat.eq_or_lt_of_le hi with rfl | hi
     ·exact h
     ·exact hz i hi
   ·have ht := zfz ok hm hz (.inr (by simpa using h))
    have hv : 0 < vl l := by
     rcases Nat.eq_zero_or_pos (vl l) with h0 | h0
     ·rw [h0, zam] at ht
      have := congrArg List.length ht
      rw [List.length_take, List.length_nil] at this
      omega
     ·exact h0
    have hc : (((m + 1 : Nat) : Int)).toNat = m + 1 := by omega
    simp only [hc, ht]
    cases s
    ·refine Ev.ncond (by simp) (Ev.cond (by omega) (Ev.cond (by omega) ?_))
     exact Ev.fin (by simp)
    ·refine Ev.cond rfl (Ev.cond (by omega) (Ev.cond (by omega) ?_))
     exact Ev.fin (by simp [hv])
 exact key l.length (Nat.le_refl _) fun i hi => by rw [List.getD_eq_getElem?_getD, List.getElem?_eq_none hi]; rfl
theorem zbo (s : Bool) (l : List Int) (i : Nat) : Fjb.f s l (i : Int) = some (l.getD i 0) := by
 unfold Fjb.f
 by_cases h : i < l.length
 ·rw [if_pos (by omega), if_pos (by omega), zab]
 ·rw [if_neg (by omega), List.getD_eq_getElem?_getD, List.getElem?_eq_none (by omega)]; rfl
theorem zb5 {l : List Int} {i : Nat} (h : l.length ≤ i) : l.getD i 0 = 0 := by rw [List.getD_eq_getElem?_getD, List.getElem?_eq_none h]; rfl
theorem zes {a b : List Int} (oka : OkD a) (okb : OkD b) (ha : a.length ≤ 1000000) (hb : b.length ≤ 1000000) (s t : Bool) :
  ∀ (d : Nat) (out : List Int) (c i : Nat), out.length = i → c ≤ 1 → i + d = max a.length b.length + 1 → (d = 0 → c = 0) →
   ∃ S, OkD S ∧ vl S = vl (a.drop i) + vl (b.drop i) + c ∧ S.length ≤ d ∧ Ev (fun k => Fka.l0 k out (c : Int) (i : Int) s a t b) (out ++ S) := by
 have stop : ∀ (out : List Int) (i : Nat), max a.length b.length ≤ i →
   ∃ S, OkD S ∧ vl S = vl (a.drop i) + vl (b.drop i) + 0 ∧ S.length ≤ 0 ∧ Ev (fun k => Fka.l0 k out ((0 : Nat) : Int) (i : Int) s a t b) (out ++ S) := by
  intro out i hi
  refine ⟨[], by intro x hx; simp at hx, ?_, Nat.le_refl _, ?_⟩
  ·rw [zal (by omega), zal (by omega)]; rfl
  ·refine Ev.step (fun k => by rw [Fka.l0]) ?_
   refine Ev.ncond (by unfold mx; split <;> omega) ?_
   refine Ev.step (fun k => by rw [Fka.j1]) ?_
   refine Ev.ncond (by simp) ?_
   exact Ev.fin (by simp)
 intro d
 induction d with
 | zero =>
  intro out c i ho hc hi hd
  obtain rfl := hd rfl
  exact stop out i (by omega)
 | succ d ih =>
  intro out c i ho hc hi _
  by_cases hst : max a.length b.length ≤ i ∧ c = 0
  ·obtain ⟨h1, rfl⟩ := hst
   obtain ⟨S, h2, h3, h4, h5⟩ := stop out i h1
   exact ⟨S, h2, h3, by omega, h5⟩
  ·have ga := zaq oka i
   have gb := zaq okb i
   obtain ⟨sN, hsN⟩ : ∃ sN : Nat, sN = (a.getD i 0).toNat + (b.getD i 0).toNat + c := ⟨_, rfl⟩
   have es : a.getD i 0 + b.getD i 0 + (c : Int) = (sN : Int) := by omega
   obtain ⟨S, okS, vS, lS, eS⟩ := ih (out ++ [((sN % 65536 : Nat) : Int)]) (sN / 65536) (i + 1) (by simp [ho]) (by omega) (by omega) (by
    intro hd0
    have h3 : a.getD i 0 = 0 := zb5 (by omega)
    have h4 : b.getD i 0 = 0 := zb5 (by omega)
    omega)
   refine ⟨((sN % 65536 : Nat) : Int) :: S, zcl (by omega) (by omega) okS, ?_, by simp; omega, ?_⟩
   ·rw [vl, vS, zai a i, zai b i]; omega
   ·have hlen : out.length < 17592186044416 := by omega
    have hmx : ¬ ((i : Int) < mx (a.length : Int) (b.length : Int)) → decide ((c : Int) > 0) = true := by
     intro h
     have : ¬ (i < max a.length b.length) := by intro h2; exact h (by unfold mx; split <;> omega)
     simp; omega
    have e1 : IntKind.u64.wrap (a.getD i 0 + b.getD i 0) = a.getD i 0 + b.getD i 0 := u64 (by omega) (by omega)
    have e2 : IntKind.u64.wrap (a.getD i 0 + b.getD i 0 + (c : Int)) = (sN : Int) := by clear e1; rw [es]; exact u64 (by omega) (by omega)
    have e3 : Go.bits .and .u64 (sN : Int) 65535 = ((sN % 65536 : Nat) : Int) := by clear e1 e2; rw [zbf (by omega) (by omega)]; omega
    have e4 : (sN : Int) / 65536 = ((sN / 65536 : Nat) : Int) := by clear e1 e2 e3; omega
    have e5 : wrap64 ((i : Int) + 1) = ((i + 1 : Nat) : Int) := by clear e1 e2 e3 e4; rw [w64 (by omega) (by omega)]; omega
    have body : Ev (fun k => Fka.j1 k out (c : Int) (i : Int) true s a t b) (out ++ ((sN % 65536 : Nat) : Int) :: S) := by
     refine Ev.step (fun k => by rw [Fka.j1]) ?_
     refine Ev.cond rfl ?_
     simp only [zbo, Option.bind_some, e1, e2, e3, e4, e5]
     refine Ev.cond hlen ?_
     have : out ++ ((sN % 65536 : Nat) : Int) :: S = out ++ [((sN % 65536 : Nat) : Int)] ++ S := by simp
     rw [this]
     exact eS
    refine Ev.step (fun k => by rw [Fka.l0]) ?_
    refine Ev.ite (fun _ => body) (fun h => ?_)
    rw [hmx h]
    exact body
theorem zfu {a b : List Int} (oka : OkD a) (okb : OkD b) (ha : a.length ≤ 1000000) (hb : b.length ≤ 1000000) (s t : Bool) :
  ∃ S, OkD S ∧ vl S = vl a + vl b ∧ S.length ≤ max a.length b.length + 1 ∧ Ev (fun k => Fka.f k s a t b) S := by
 obtain ⟨S, h1, h2, h3, h4⟩ := zes oka okb ha hb s t (max a.length b.length + 1) [] 0 0 rfl (by omega) (by omega) (by omega)
 refine ⟨S, h1, by simpa using h2, h3, ?_⟩
 simpa [Fka.f] using h4
theorem zdy {a b : List Int} (oka : OkD a) (okb : OkD b) (ha : a.length ≤ 1000000) (s t : Bool) :
  ∀ (d : Nat) (out : List Int) (c i : Nat), out.length = i → c ≤ 1 → i + d = a.length → vl (b.drop i) + c ≤ vl (a.drop i) →
   ∃ S, OkD S ∧ vl S + vl (b.drop i) + c = vl (a.drop i) ∧ S.length = d ∧ Ev (fun k => Fk.l0 k out (c : Int) (i : Int) s a t b) (out ++ S) := by
 intro d
 induction d with
 | zero =>
  intro out c i ho hc hi hle
  have h0 : vl (a.drop i) = 0 := zal (by omega)
  refine ⟨[], by intro x hx; simp at hx, by simp [vl]; omega, rfl, ?_⟩
  refine Ev.step (fun k => by rw [Fk.l0]) ?_
  refine Ev.ncond (by omega) ?_
  exact Ev.fin (by simp)
 | succ d ih =>
  intro out c i ho hc hi hle
  have ga := zaq oka i
  have gb := zaq okb i
  obtain ⟨sN, hsN⟩ : ∃ sN : Nat, sN = (a.getD i 0).toNat + 65536 - (b.getD i 0).toNat - c := ⟨_, rfl⟩
  rw [zai a i, zai b i] at hle
  obtain ⟨S, okS, vS, lS, eS⟩ := ih (out ++ [((sN % 65536 : Nat) : Int)]) (1 - sN / 65536) (i + 1) (by simp [ho]) (by omega) (by omega) (by omega)
  refine ⟨((sN % 65536 : Nat) : Int) :: S, zcl (by omega) (by omega) okS, ?_, by simp [lS], ?_⟩
  ·rw [vl, zai a i, zai b i]; simp only [Int.toNat_natCast]; omega
  ·have hlen : out.length < 17592186044416 := by omega
   have hlt : (i : Int) < (a.length : Int) := by omega
   have e1 : IntKind.u64.wrap (a.getD i 0 + 65536) = a.getD i 0 + 65536 := u64 (by omega) (by omega)
   have e2 : IntKind.u64.wrap (a.getD i 0 + 65536 - b.getD i 0) = a.getD i 0 + 65536 - b.getD i 0 := by clear e1; exact u64 (by omega) (by omega)
   have e3 : IntKind.u64.wrap (a.getD i 0 + 65536 - b.getD i 0 - (c : Int)) = (sN : Int) := by clear e1 e2; rw [u64 (by omega) (by omega)]; omega
   have e4 : Go.bits .and .u64 (sN : Int) 65535 = ((sN % 65536 : Nat) : Int) := by clear e1 e2 e3; rw [zbf (by omega) (by omega)]; omega
   have e5 : IntKind.u64.wrap (1 - (sN : Int) / 65536) = ((1 - sN / 65536 : Nat) : Int) := by clear e1 e2 e3 e4; rw [u64 (by omega) (by omega)]; omega
   have e6 : wrap64 ((i : Int) + 1) = ((i + 1 : Nat) : Int) := by clear e1 e2 e3 e4 e5; rw [w64 (by omega) (by omega)]; omega
   refine Ev.step (fun k => by rw [Fk.l0]) ?_
   refine Ev.cond hlt ?_
   simp only [zbo, Option.bind_some, e1, e2, e3, e4, e5, e6]
   refine Ev.cond hlen ?_
   have : out ++ ((sN % 65536 : Nat) : Int) :: S = out ++ [((sN % 65536 : Nat) : Int)] ++ S := by simp
   rw [this]
   exact eS
theorem zch {a b : List Int} (oka : OkD a) (okb : OkD b) (ha : a.length ≤ 1000000) (s t : Bool) (hle : vl b ≤ vl a) :
  ∃ S, OkD S ∧ vl S + vl b = vl a ∧ S.length = a.length ∧ Ev (fun k => Fk.f k s a t b) S := by
 obtain ⟨S, h1, h2, h3, h4⟩ := zdy oka okb ha s t a.length [] 0 0 rfl (by omega) (by omega) (by simpa using hle)
 refine ⟨S, h1, by simpa using h2, h3, ?_⟩
 simpa [Fk.f] using h4
theorem zcv (l : List Int) (m : Nat) : vl l = vl (l.take m) + 65536 ^ m * vl (l.drop m) := by
 induction m generalizing l with
 | zero => simp [vl]
 | succ m ih =>
  cases l with
  | nil => simp [vl]
  | cons d ds =>
   rw [List.take_succ_cons, List.drop_succ_cons, vl, vl, ih ds, Nat.pow_succ, Nat.mul_add, ← Nat.mul_assoc, Nat.mul_comm (65536 ^ m) 65536]
   omega
theorem vl_lt {l : List Int} (ok : OkD l) : vl l < 65536 ^ l.length := by
 induction l with
 | nil => simp [vl]
 | cons d ds ih =>
  have := ih (zcm ok)
  have h := zct ok
  rw [vl, List.length_cons, Nat.pow_succ]
  omega
theorem ze6 {l : List Int} (h : OkD l) (i : Nat) : OkD (l.take i) := fun x hx => h x (List.mem_of_mem_take hx)
theorem zd4 {l : List Int} (ok : OkD l) (m : Nat) : vl (l.take m) < 65536 ^ m := by
 refine Nat.lt_of_lt_of_le (vl_lt (ze6 ok m)) (Nat.pow_le_pow_right (by omega) ?_)
 rw [List.length_take]; omega
theorem zbm {a b : List Int} (oka : OkD a) (okb : OkD b) {i : Nat} (h : a.getD i 0 < b.getD i 0) (e : vl (a.drop (i + 1)) = vl (b.drop (i + 1))) : vl a < vl b := by
 have ga := zaq oka i
 have gb := zaq okb i
 have h1 : vl (a.drop i) + 1 ≤ vl (b.drop i) := by rw [zai a i, zai b i]; omega
 have h2 := zd4 oka i
 rw [zcv a i, zcv b i]
 have h3 : 65536 ^ i * (vl (a.drop i) + 1) ≤ 65536 ^ i * vl (b.drop i) := Nat.mul_le_mul_left _ h1
 rw [Nat.mul_add] at h3
 omega
def cmpN (a b : Nat) : Int := if a < b then -1 else if b < a then 1 else 0
theorem zf1 {a b : List Int} (oka : OkD a) (okb : OkD b) (ha : a.length ≤ 1000000) (hb : b.length ≤ 1000000) (s t : Bool) :
  Ev (fun k => Fja.f k s a t b) (cmpN (vl a) (vl b)) := by
 have key : ∀ (i : Nat), i ≤ 1000000 → vl (a.drop i) = vl (b.drop i) → Ev (fun k => Fja.l0 k ((i : Int) - 1) s a t b) (cmpN (vl a) (vl b)) := by
  intro i
  induction i with
  | zero =>
   intro hi he
   refine Ev.step (fun k => by rw [Fja.l0]) ?_
   refine Ev.ncond (by omega) ?_
   have : vl a = vl b := by simpa using he
   exact Ev.fin (by unfold cmpN; rw [if_neg (by omega), if_neg (by omega)])
  | succ i ih =>
   intro hi he
   refine Ev.step (fun k => by rw [Fja.l0]) ?_
   rw [show (((i + 1 : Nat) : Int) - 1) = (i : Int) by omega]
   refine Ev.cond (by omega) ?_
   simp only [zbo, Option.bind_some]
   refine Ev.ite (fun h => ?_) (fun h => Ev.ite (fun h2 => ?_) (fun h2 => ?_))
   ·have := zbm oka okb h he
    exact Ev.fin (by unfold cmpN; rw [if_pos this])
   ·have := zbm okb oka h2 he.symm
    exact Ev.fin (by unfold cmpN; rw [if_neg (by omega), if_pos this])
   ·have hw : wrap64 ((i : Int) - 1) = (i : Int) - 1 := w64 (by omega) (by omega)
    rw [hw]
    refine ih (by omega) ?_
    rw [zai a i, zai b i, he, show a.getD i 0 = b.getD i 0 by omega]
 have e : wrap64 (mx (a.length : Int) (b.length : Int) - 1) = ((max a.length b.length : Nat) : Int) - 1 := by
  rw [w64 (by unfold mx; split <;> omega) (by unfold mx; split <;> omega)]
  unfold mx; split <;> omega
 refine Ev.congr (fun k => by rw [Fja.f, e]) (key (max a.length b.length) (by omega) ?_)
 rw [zal (by omega), zal (by omega)]
def big : Nat := 340282366920938463463374607431768211456
theorem zan (n : Int) : OkD (mag n) := okd_dg _
theorem za8 {n : Int} (h : n.natAbs < big) : (mag n).length ≤ 8 := dg_len (k := 8) h
theorem zb2 {n : Int} (h : n.natAbs < big) : (mag n).length ≤ 1000000 := Nat.le_trans (za8 h) (by omega)
theorem big_lt {n : Nat} (h : n < 340282366920938463463374607431768211456) : n < big := h
theorem zax {n : Int} (h0 : -18446744073709551616 ≤ n) (h1 : n ≤ 18446744073709551616) : n.natAbs < big := big_lt (by omega)
theorem zag (n : Int) : vl (mag n) = n.natAbs := vl_dg _
theorem zee {n : Int} (h : n.natAbs < big) : Ev (fun k => Fib.f k (neg n) (mag n)) (neg (-n), mag (-n)) := by
 have e : Ev (fun k => Fjc.f k (!(neg n)) (mag n)) (neg (-n), mag (-n)) := by
  have := zas (zan n) (zb2 h) (!(neg n))
  rw [zag] at this
  have e1 : (!(neg n) && decide (0 < n.natAbs)) = neg (-n) := by
   unfold neg
   by_cases h1 : n < 0 <;> by_cases h2 : 0 < n.natAbs <;> simp [h1, h2] <;> omega
  have e2 : mag (-n) = dg n.natAbs := by unfold mag; rw [Int.natAbs_neg]
  rw [e2, ← e1]
  exact this
 refine Ev.congr (fun k => by rw [Fib.f]) (Ev.bind e ?_)
 exact Ev.fin rfl
theorem zbp {n m : Int} (h : n.natAbs < big) (h' : m.natAbs < big) : Ev (fun k => Fj.f k (neg n) (mag n) (neg m) (mag m)) (neg (n + m), mag (n + m)) := by
 have ln := zb2 h
 have lm := zb2 h'
 refine Ev.congr (fun k => by rw [Fj.f]) ?_
 refine Ev.ite (fun hs => ?_) (fun hs => ?_)
 ·have hs' : neg n = neg m := by simpa using hs
  obtain ⟨S, okS, vS, lS, eS⟩ := zfu (zan n) (zan m) ln lm (neg n) (neg m)
  refine Ev.bind eS ?_
  have lS2 : S.length ≤ 1000000 := by
   have := za8 h; have := za8 h'
   omega
  have ht := zas okS lS2 (neg n)
  rw [vS, zag, zag] at ht
  have e1 : (neg n && decide (0 < n.natAbs + m.natAbs)) = neg (n + m) := by
   unfold neg at hs' ⊢
   by_cases h1 : n < 0 <;> by_cases h2 : m < 0 <;> simp [h1, h2] at hs' ⊢ <;> omega
  have e2 : n.natAbs + m.natAbs = (n + m).natAbs := by
   unfold neg at hs'
   by_cases h1 : n < 0 <;> by_cases h2 : m < 0 <;> simp [h1, h2] at hs' <;> omega
  rw [e1, e2] at ht
  exact Ev.bind ht (Ev.fin rfl)
 ·have hs' : ¬ neg n = neg m := by simpa using hs
  have hs2 : (n < 0 ∧ ¬ m < 0) ∨ (¬ n < 0 ∧ m < 0) := by
   unfold neg at hs'
   by_cases h1 : n < 0 <;> by_cases h2 : m < 0 <;> simp [h1, h2] at hs' ⊢
  refine Ev.bind (zf1 (zan n) (zan m) ln lm (neg n) (neg m)) ?_
  rw [zag, zag]
  refine Ev.ite (fun hc => ?_) (fun hc => ?_)
  ·have hle : m.natAbs ≤ n.natAbs := by
    unfold cmpN at hc
    by_cases h1 : n.natAbs < m.natAbs
    ·rw [if_pos h1] at hc; omega
    ·omega
   obtain ⟨S, okS, vS, lS, eS⟩ := zch (zan n) (zan m) ln (neg n) (neg m) (by rw [zag, zag]; exact hle)
   refine Ev.bind eS ?_
   have ht := zas okS (by omega) (neg n)
   rw [zag, zag] at vS
   have vS' : vl S = (n + m).natAbs := by rcases hs2 with ⟨h1, h2⟩ | ⟨h1, h2⟩ <;> omega
   have e1 : (neg n && decide (0 < (n + m).natAbs)) = neg (n + m) := by
    unfold neg
    rcases hs2 with ⟨h1, h2⟩ | ⟨h1, h2⟩
    ·rw [decide_eq_true h1, Bool.true_and]; exact decide_eq_decide.2 (by omega)
    ·rw [decide_eq_false h1, Bool.false_and]; exact (decide_eq_false (by omega)).symm
   rw [vS', e1] at ht
   exact Ev.bind ht (Ev.fin rfl)
  ·have hle : n.natAbs < m.natAbs := by
    unfold cmpN at hc
    by_cases h1 : n.natAbs < m.natAbs
    ·exact h1
    ·rw [if_neg h1] at hc
     split at hc <;> omega
   obtain ⟨S, okS, vS, lS, eS⟩ := zch (zan m) (zan n) lm (neg m) (neg n) (by rw [zag, zag]; omega)
   refine Ev.bind eS ?_
   have ht := zas okS (by omega) (neg m)
   rw [zag, zag] at vS
   have vS' : vl S = (n + m).natAbs := by rcases hs2 with ⟨h1, h2⟩ | ⟨h1, h2⟩ <;> omega
   have e1 : (neg m && decide (0 < (n + m).natAbs)) = neg (n + m) := by
    unfold neg
    rcases hs2 with ⟨h1, h2⟩ | ⟨h1, h2⟩
    ·rw [decide_eq_false h2, Bool.false_and]; exact (decide_eq_false (by omega)).symm
    ·rw [decide_eq_true h2, Bool.true_and]; exact decide_eq_decide.2 (by omega)
   rw [vS', e1] at ht
   exact Ev.bind ht (Ev.fin rfl)
theorem zcz {n m : Int} (h : n.natAbs < big) (h' : m.natAbs < big) : Ev (fun k => Fia.f k (neg n) (mag n) (neg m) (mag m)) (decide (n < m)) := by
 refine Ev.congr (fun k => by rw [Fia.f]) (Ev.bind (zee h') ?_)
 refine Ev.bind (zbp (n := n) (m := -m) h (by rw [Int.natAbs_neg]; exact h')) ?_
 refine Ev.fin ?_
 unfold neg
 by_cases hc : n < m <;> simp [hc] <;> omega
theorem dg4 {n : Nat} (h : n < 18446744073709551616) (s : Bool) :
  ∃ l : List Int, l = [((n % 65536 : Nat) : Int), ((n / 65536 % 65536 : Nat) : Int), ((n / 4294967296 % 65536 : Nat) : Int), ((n / 281474976710656 : Nat) : Int)] ∧ OkD l ∧ vl l = n := by
 refine ⟨_, rfl, ?_, ?_⟩
 ·intro x hx
  simp only [List.mem_cons, List.not_mem_nil, or_false] at hx
  omega
 ·simp only [vl, Int.toNat_natCast]; omega
theorem zb0 {n : Int} (h0 : -9223372036854775808 ≤ n) (h1 : n ≤ 9223372036854775807) : Ev (fun k => Fic.f k n) (neg n, mag n) := by
 have key : ∀ (s : Bool), s = decide (n < 0) → ∀ (x : Int), x = (n.natAbs : Int) → Ev (fun k => (Fjc.f k s (([Go.bits .and .u64 x 65535, Go.bits .and .u64 (x / 65536) 65535, Go.bits .and .u64 (x / 4294967296) 65535, x / 281474976710656] : List Int))).bind fun b => some (b.1, b.2)) (neg n, mag n) := by
  rintro s hs _ rfl
  have hb : n.natAbs < 18446744073709551616 := by omega
  obtain ⟨l, hl, okl, vll⟩ := dg4 hb true
  have e : ([Go.bits .and .u64 (n.natAbs : Int) 65535, Go.bits .and .u64 ((n.natAbs : Int) / 65536) 65535, Go.bits .and .u64 ((n.natAbs : Int) / 4294967296) 65535, (n.natAbs : Int) / 281474976710656] : List Int) = l := by
   rw [hl, zbf (by omega) (by omega), zbf (by omega) (by omega), zbf (by omega) (by omega)]
   congr 1
  rw [e]
  have ht := zas okl (by rw [hl]; simp) s
  rw [vll] at ht
  refine Ev.bind ht (Ev.fin ?_)
  unfold neg mag
  rw [hs]
  congr 1
  by_cases hn : n < 0 <;> simp [hn] <;> omega
 refine Ev.congr (fun k => by rw [Fic.f]) ?_
 refine Ev.ite (fun h => ?_) (fun h => ?_)
 ·refine key _ (by simp [h]) _ ?_
  rw [zbk n, zbk]; omega
 ·refine key _ (by simp [h]) _ ?_
  rw [zbk n]; omega
theorem zdx (l : List Int) (i : Nat) : vl (l.drop i) ≤ vl l := by
 induction i with
 | zero => simp
 | succ i ih => have := zai l i; omega
theorem u64_or {x d : Int} (h0 : 0 ≤ x) (h1 : x * 65536 + d < 18446744073709551616) (d0 : 0 ≤ d) (d1 : d < 65536) : Go.bits .or .u64 (IntKind.u64.wrap (x * 65536)) d = x * 65536 + d := by
 rw [u64 (by omega) (by omega)]
 exact bits_join .u64 64 (by decide) (fun n a b => u64 a (by omega)) 16 (x * 65536) d (by omega) (by omega) (by omega) d0 (by omega) (by omega)
theorem zd6 {l : List Int} (ok : OkD l) (hv : vl l ≤ 9223372036854775808) (s : Bool) (hs : s = false → vl l ≤ 9223372036854775807) :
  ∀ i : Nat, i ≤ l.length → i ≤ 1000000 → Ev (fun k => Fi.l0 k ((vl (l.drop i) : Nat) : Int) ((i : Int) - 1) s l) (if s = true then -(vl l : Int) else (vl l : Int), true) := by
 intro i
 induction i with
 | zero =>
  intro _ _
  refine Ev.step (fun k => by rw [Fi.l0]) ?_
  refine Ev.ncond (by omega) ?_
  rw [List.drop_zero]
  cases s with
  | true =>
   refine Ev.cond rfl (Ev.fin ?_)
   rw [zbk]; unfold wrap64
   simp only [if_true, Prod.mk.injEq, and_true]
   omega
  | false =>
   have := hs rfl
   refine Ev.ncond (by simp) (Ev.fin ?_)
   rw [w64 (by omega) (by omega)]
   simp
 | succ i ih =>
  intro hi hm
  have g := zaq ok i
  have hd := zai l i
  have hl := zdx l i
  refine Ev.step (fun k => by rw [Fi.l0]) ?_
  rw [show (((i + 1 : Nat) : Int) - 1) = (i : Int) by omega, zab]
  refine Ev.cond (by omega) (Ev.cond (by omega) (Ev.cond (by omega) ?_))
  rw [u64_or (by omega) (by omega) g.1 g.2, w64 (by omega) (by omega), show ((vl (l.drop (i + 1)) : Nat) : Int) * 65536 + l.getD i 0 = ((vl (l.drop i) : Nat) : Int) by omega]
  exact ih (by omega) (by omega)
theorem zff {n : Int} (h : n.natAbs < big) : Ev (fun k => Fi.f k (neg n) (mag n)) (if -9223372036854775808 ≤ n ∧ n ≤ 9223372036854775807 then (n, true) else (0, false)) := by
 refine Ev.congr (fun k => by rw [Fi.f]) ?_
 refine Ev.bind (zb0 (n := -9223372036854775808) (by omega) (by omega)) ?_
 refine Ev.bind (zcz h (zax (by omega) (by omega))) ?_
 have out : ¬ (-9223372036854775808 ≤ n ∧ n ≤ 9223372036854775807) → Ev (fun k => Fi.j0 k true (neg n) (mag n)) (if -9223372036854775808 ≤ n ∧ n ≤ 9223372036854775807 then (n, true) else (0, false)) := by
  intro ho
  rw [if_neg ho]
  exact Ev.step (fun k => by rw [Fi.j0]) (Ev.cond rfl (Ev.now _))
 refine Ev.ite (fun hc => out (by have := of_decide_eq_true hc; omega)) (fun hc => ?_)
 refine Ev.bind (zb0 (n := 9223372036854775807) (by omega) (by omega)) ?_
 refine Ev.bind (zcz (n := 9223372036854775807) (m := n) (zax (by omega) (by omega)) h) ?_
 by_cases hc2 : 9223372036854775807 < n
 ·rw [show decide (9223372036854775807 < n) = true by simpa using hc2]
  exact out (by omega)
 ·rw [show decide (9223372036854775807 < n) = false by simpa using hc2]
  have hc' : ¬ n < -9223372036854775808 := by simpa using hc
  rw [if_pos ⟨by omega, by omega⟩]
  refine Ev.step (fun k => by rw [Fi.j0]) (Ev.ncond (by simp) ?_)
  have hl := za8 h
  have := zd6 (zan n) (by rw [zag]; omega) (neg n) (fun hs => by rw [zag]; unfold neg at hs; simp at hs; omega) (mag n).length (Nat.le_refl _) (by omega)
  rw [zal (Nat.le_refl _)] at this
  rw [w64 (by omega) (by omega)]
  refine (?_ : _ = (n, true)) ▸ this
  unfold neg
  rw [zag]
  by_cases hn : n < 0 <;> simp [hn] <;> omega
end Go.Proofs.Ytninoenmhcbonaa.Pure
namespace Go.Proofs.Ytninoenmhcbonaa.Pure
open Go.RowKit Go.Proofs.YtninoenmhcbonaaW.PrintWords Go.Proofs.YtninoenmhcbonaaW.PrintLast Go.Proofs.YtninoenmhcbonaaW.PrintMore Go.Proofs.Ytninoenmhcbonaa.X
set_option linter.unusedVariables false
theorem zdo {a b : List Int} (h : a.length = b.length) (he : ∀ i, i < a.length → rd a i = rd b i) : a = b := by
 apply List.ext_getElem h
 intro i h1 h2
 have := he i h1
 simp only [rd, Int.toNat_natCast, List.getD_eq_getElem?_getD, List.getElem?_eq_getElem h1, List.getElem?_eq_getElem h2, Option.getD_some] at this
 exact this
def I64 (v : Int) : Prop := -9223372036854775808 ≤ v ∧ v ≤ 9223372036854775807
theorem zew {v : Int} (h : I64 v) : I64 (v / 2) := by unfold I64 at *; omega
def AllI (l : List Int) : Prop := ∀ v ∈ l, I64 v
theorem zf8 {l : List Int} (h : AllI l) {i : Nat} (hi : i < l.length) : I64 (rd l (i : Int)) := by
 rw [zab, List.getD_eq_getElem?_getD, List.getElem?_eq_getElem hi]
 exact h _ (List.getElem_mem hi)
def dgt (v : Int) (i : Nat) : Nat := (v / 2 ^ i % 2).toNat
theorem dgt_lt (v : Int) (i : Nat) : dgt v i < 2 := by unfold dgt; omega
theorem zde (v : Int) (i : Nat) : (dgt v i : Int) = v / 2 ^ i % 2 := by unfold dgt; omega
theorem zfd {x : Int} (h : I64 x) : Go.bits .and .i64 x 1 = x % 2 := by
 unfold I64 at h
 have e0 : Go.bits .and .i64 x 1 = IntKind.i64.wrap ((BitVec.ofInt 64 x &&& BitVec.ofInt 64 1).toNat : Int) := rfl
 have e1 : (BitVec.ofInt 64 x &&& BitVec.ofInt 64 1).toNat = (BitVec.ofInt 64 x).toNat % 2 := by
  rw [BitVec.toNat_and, show (BitVec.ofInt 64 1).toNat = 2 ^ 1 - 1 from rfl, Nat.and_two_pow_sub_one_eq_mod]
 have hw : ∀ z : Int, IntKind.i64.wrap z = (z + 9223372036854775808) % 18446744073709551616 - 9223372036854775808 := fun z => IntKind.wrap_i64 z
 rw [e0, e1, hw, BitVec.toNat_ofInt]
 omega
theorem zdh {v : Int} (h : I64 v) (i : Nat) : I64 (v / 2 ^ i) := by
 induction i with
 | zero => simpa using h
 | succ i ih =>
  have e : v / 2 ^ (i + 1) = v / 2 ^ i / 2 := by rw [Int.pow_succ, Int.ediv_ediv_of_nonneg (Int.pow_nonneg (by omega))]
  rw [e]; exact zew ih
theorem zfy (v : Int) {i : Nat} (h : i ≤ 64) : shr .i64 v (i : Int) = v / 2 ^ i := by
 unfold shr
 rw [Int.toNat_natCast, Nat.min_eq_left (by simpa [IntKind.bits] using h)]
theorem zey {v : Int} (h : I64 v) {i : Nat} (hi : i ≤ 64) : Go.bits .and .i64 (shr .i64 v (i : Int)) 1 = (dgt v i : Int) := by
 rw [zfy v hi, zfd (zdh h i), zde]
end Go.Proofs.Ytninoenmhcbonaa.Pure
namespace Go.Proofs.Ytninoenmhcbonaa.Pure
open Go.RowKit Go.Proofs.YtninoenmhcbonaaW.PrintWords Go.Proofs.YtninoenmhcbonaaW.PrintLast Go.Proofs.YtninoenmhcbonaaW.PrintMore Go.Proofs.Ytninoenmhcbonaa.X
set_option linter.unusedVariables false
theorem zda {t : Nat} (h : t ≤ 6) : 2 ^ t ≤ 64 := by
 have : 2 ^ t ≤ 2 ^ 6 := Nat.pow_le_pow_right (by omega) h
 simpa using this
end Go.Proofs.Ytninoenmhcbonaa.Pure
namespace Go.Proofs.Ytninoenmhcbonaa.Pure
open Go.RowKit Go.Proofs.YtninoenmhcbonaaW.PrintWords Go.Proofs.YtninoenmhcbonaaW.PrintLast Go.Proofs.YtninoenmhcbonaaW.PrintMore Go.Proofs.Ytninoenmhcbonaa.X
set_option linter.unusedVariables false
def Bits (l : List Int) : Prop := ∀ d ∈ l, d = 0 ∨ d = 1
instance (l : List Int) : Decidable (Bits l) := inferInstanceAs (Decidable (∀ d ∈ l, d = 0 ∨ d = 1))
def uv : List Int → Nat
 | [] => 0
 | d :: ds => d.toNat + 2 * uv ds
def tv : List Int → Int
 | [] => 0
 | [d] => -d
 | d :: e :: ds => d + 2 * tv (e :: ds)
theorem zbd {d : Int} {l : List Int} (h : Bits (d :: l)) : Bits l := fun x hx => h x (List.mem_cons_of_mem _ hx)
theorem zbg {d : Int} {l : List Int} (h : Bits (d :: l)) : d = 0 ∨ d = 1 := h d (List.mem_cons_self ..)
theorem zd0 {l : List Int} (h : Bits l) : uv l < 2 ^ l.length := by
 induction l with
 | nil => simp [uv]
 | cons d ds ih =>
  have := ih (zbd h)
  rw [uv, List.length_cons, Nat.pow_succ]
  rcases zbg h with rfl | rfl <;> simp <;> omega
theorem tv_uv {l : List Int} (h : Bits l) (hl : l ≠ []) : tv l = (uv l : Int) - (if 2 ^ (l.length - 1) ≤ uv l then ((2 ^ l.length : Nat) : Int) else 0) := by
 induction l with
 | nil => exact absurd rfl hl
 | cons d ds ih =>
  cases ds with
  | nil => rcases zbg h with rfl | rfl <;> simp [tv, uv]
  | cons e ds =>
   have ih' := ih (zbd h) (by simp)
   have e3 : uv (d :: e :: ds) = d.toNat + 2 * uv (e :: ds) := rfl
   rw [tv, ih', e3]
   simp only [List.length_cons, Nat.add_sub_cancel] at ih' ⊢
   generalize uv (e :: ds) = u
   have e1 : 2 ^ (ds.length + 1) = 2 * 2 ^ ds.length := by rw [Nat.pow_succ, Nat.mul_comm]
   have e2 : 2 ^ (ds.length + 1 + 1) = 2 * 2 ^ (ds.length + 1) := by rw [Nat.pow_succ, Nat.mul_comm]
   rw [e2, e1]
   generalize 2 ^ ds.length = p
   rcases zbg h with rfl | rfl
   ·by_cases hp : p ≤ u
    ·rw [if_pos hp, if_pos (by simp; omega)]; simp; omega
    ·rw [if_neg hp, if_neg (by simp; omega)]; simp
   ·by_cases hp : p ≤ u
    ·rw [if_pos hp, if_pos (by simp; omega)]; simp; omega
    ·rw [if_neg hp, if_neg (by simp; omega)]; simp
theorem tv_bd {l : List Int} (h : Bits l) (hl : l ≠ []) : -((2 ^ (l.length - 1) : Nat) : Int) ≤ tv l ∧ tv l < ((2 ^ (l.length - 1) : Nat) : Int) := by
 have h1 := zd0 h
 have h2 := tv_uv h hl
 have h3 : 2 ^ l.length = 2 * 2 ^ (l.length - 1) := by
  have : l.length ≠ 0 := fun e => hl (List.eq_nil_of_length_eq_zero e)
  rw [← Nat.pow_succ']; congr 1; omega
 rw [h3] at h1 h2
 rw [h2]
 generalize 2 ^ (l.length - 1) = p at *
 split <;> omega
theorem pow63 {m : Nat} (h : m ≤ 63) : 2 ^ m ≤ 9223372036854775808 := by
 have : 2 ^ m ≤ 2 ^ 63 := Nat.pow_le_pow_right (by omega) h
 simpa using this
theorem zei {l : List Int} (h : Bits l) (hl : l ≠ []) (h64 : l.length ≤ 64) : I64 (tv l) := by
 have := tv_bd h hl
 have := pow63 (show l.length - 1 ≤ 63 by omega)
 unfold I64
 omega
def numS (l : List Int) : Int × Int := if l = [] ∨ ¬ Bits l then (0, 3) else if l.length > 64 then (0, 31) else (tv l, 0)
theorem zci (l : List Int) : Bits l ∨ ∃ i, i < l.length ∧ (∀ j, j < i → rd l (j : Int) = 0 ∨ rd l (j : Int) = 1) ∧ rd l (i : Int) ≠ 0 ∧ rd l (i : Int) ≠ 1 := by
 induction l with
 | nil => exact .inl fun d hd => by simp at hd
 | cons d ds ih =>
  by_cases hd : d = 0 ∨ d = 1
  ·rcases ih with ih | ⟨i, h1, h2, h3⟩
   ·exact .inl fun x hx => by
     rcases List.mem_cons.1 hx with rfl | hx
     ·exact hd
     ·exact ih x hx
   ·refine .inr ⟨i + 1, by simpa using h1, fun j hj => ?_, by simpa [rd] using h3⟩
    cases j with
    | zero => simpa [rd] using hd
    | succ j => have := h2 j (by omega); simpa [rd] using this
  ·exact .inr ⟨0, by simp, fun j hj => absurd hj (Nat.not_lt_zero _), by simpa [rd] using not_or.1 hd⟩
theorem za5 {l : List Int} (h : Bits l) {i : Nat} (hi : i < l.length) : rd l (i : Int) = 0 ∨ rd l (i : Int) = 1 := by
 rw [zab, List.getD_eq_getElem?_getD, List.getElem?_eq_getElem hi]
 exact h _ (List.getElem_mem hi)
theorem zc6 (l : List Int) : l.any noDigit = decide (¬ Bits l) := by
 rw [Bool.eq_iff_iff, List.any_eq_true, decide_eq_true_iff]
 constructor
 ·rintro ⟨x, hx, hn⟩ hb
  rcases hb x hx with rfl | rfl <;> simp [noDigit] at hn
 ·intro hb
  rcases zci l with h | ⟨i, h1, _, h2, h3⟩
  ·exact absurd h hb
  ·rw [zab, List.getD_eq_getElem?_getD, List.getElem?_eq_getElem h1] at h2 h3
   exact ⟨_, List.getElem_mem h1, by simp [noDigit]; exact ⟨h2, h3⟩⟩
theorem or_i64 {u d i : Nat} (hu : u < 2 ^ i) (hd : d < 2) (hi : i ≤ 63) : Go.bits .or .i64 (wrap64 (u : Int)) (shl .i64 (d : Int) (i : Int)) = wrap64 ((u + d * 2 ^ i : Nat) : Int) := by
 have hp := pow63 hi
 have hdp : d * 2 ^ i ≤ 1 * 2 ^ i := Nat.mul_le_mul_right _ (by omega)
 have e0 : ∀ x y : Int, Go.bits .or .i64 x y = IntKind.i64.wrap ((BitVec.ofInt 64 x ||| BitVec.ofInt 64 y).toNat : Int) := fun _ _ => rfl
 have hw : ∀ z : Int, IntKind.i64.wrap z = wrap64 z := fun z => i64_w z
 have eb : ∀ z : Nat, z < 18446744073709551616 → (BitVec.ofInt 64 (wrap64 (z : Int))).toNat = z := by
  intro z hz
  rw [BitVec.toNat_ofInt]
  unfold wrap64
  omega
 have e1 : shl .i64 (d : Int) (i : Int) = wrap64 ((d * 2 ^ i : Nat) : Int) := by
  unfold shl
  rw [Int.toNat_natCast, Nat.min_eq_left (by simp [IntKind.bits]; omega), show (d : Int) * 2 ^ i = ((d * 2 ^ i : Nat) : Int) by simp, hw]
 rw [e0, e1, BitVec.toNat_or, eb u (by omega), eb _ (by omega), hw, Nat.or_comm, Nat.mul_comm d, ← Nat.two_pow_add_eq_or_of_lt hu d]
 congr 2
 omega
theorem zft (l : List Int) (h : Bits l) (i : Nat) (hi : i < l.length) : uv (l.take (i + 1)) = uv (l.take i) + (rd l (i : Int)).toNat * 2 ^ i := by
 induction l generalizing i with
 | nil => simp at hi
 | cons d ds ih =>
  cases i with
  | zero => simp [uv, rd]
  | succ i =>
   rw [List.take_succ_cons, List.take_succ_cons, uv, uv, ih (zbd h) i (by simpa using hi)]
   have : rd (d :: ds) ((i + 1 : Nat) : Int) = rd ds (i : Int) := by simp [rd]
   rw [this, Nat.pow_succ, Nat.mul_add, Nat.add_assoc]
   congr 2
   rw [Nat.mul_comm 2, Nat.mul_assoc]
theorem zeo {l : List Int} (hl : l.length ≤ 9000000000000000000) : Ev (fun k => Ftb.f k l) (numS l) := by
 refine Ev.congr (fun k => by rw [Ftb.f]) ?_
 unfold numS
 have bad : Ev (fun k => Ftb.j0 k l true) ((0 : Int), 3) := Ev.step (fun k => by rw [Ftb.j0]) (Ev.cond rfl (Ev.now _))
 refine Ev.ite (fun h0 => ?_) (fun h0 => ?_)
 ·rw [if_pos (.inl (List.eq_nil_of_length_eq_zero (by omega)))]; exact bad
 have hne : l ≠ [] := fun e => h0 (by rw [e]; rfl)
 refine Ev.ret (show Ff.f l = some (decide (¬ Bits l)) by unfold Ff.f; rw [zc6]) ?_
 by_cases hnb : ¬ Bits l
 ·rw [if_pos (.inr hnb), decide_eq_true hnb]; exact bad
 have hb : Bits l := Decidable.not_not.1 hnb
 rw [if_neg (fun h => h.elim hne (fun h => h hb)), decide_eq_false (fun h => h hb)]
 refine Ev.step (fun k => by rw [Ftb.j0]) (Ev.ncond (by simp) ?_)
 by_cases h64 : l.length > 64
 ·rw [if_pos h64]; exact Ev.cond (by omega) (Ev.now _)
 rw [if_neg h64]
 refine Ev.ncond (by omega) ?_
 have loop : ∀ (d i : Nat), i + d = l.length → Ev (fun k => Ftb.l0 k l (wrap64 ((uv (l.take i) : Nat) : Int)) l (l.length : Int) (i : Int)) (tv l, 0) := by
  intro d
  induction d with
  | zero =>
   intro i hi
   refine Ev.step (fun k => by rw [Ftb.l0]) (Ev.ncond (by omega) ?_)
   have es : wrap64 (64 - (l.length : Int)) = ((64 - l.length : Nat) : Int) := by rw [w64 (by omega) (by omega)]; omega
   rw [es]
   refine Ev.cond (by omega) (Ev.fin ?_)
   rw [List.take_of_length_le (by omega), tv_uv hb hne]
   have hu := zd0 hb
   have h1 : 2 ^ l.length * 2 ^ (64 - l.length) = 18446744073709551616 := by rw [← Nat.pow_add, show l.length + (64 - l.length) = 64 by omega]
   have h3 : 2 ^ l.length = 2 * 2 ^ (l.length - 1) := by
    rw [← Nat.pow_succ']; congr 1; omega
   have hw : ∀ z : Int, IntKind.i64.wrap z = wrap64 z := fun z => i64_w z
   unfold shr shl
   rw [Int.toNat_natCast, Nat.min_eq_left (by simp [IntKind.bits]), hw]
   have hc : (2 : Int) ^ (64 - l.length) = ((2 ^ (64 - l.length) : Nat) : Int) := by simp
   rw [hc]
   have hpos : 0 < 2 ^ (64 - l.length) := Nat.two_pow_pos _
   generalize 2 ^ (64 - l.length) = s at h1 hpos
   rw [h3] at h1 hu ⊢
   generalize 2 ^ (l.length - 1) = p at h1 hu ⊢
   generalize uv l = u at hu ⊢
   have hps : 2 * (p * s) = 18446744073709551616 := by rw [← Nat.mul_assoc]; exact h1
   have hmod : wrap64 (wrap64 (u : Int) * (s : Int)) = wrap64 ((u * s : Nat) : Int) := by
    unfold wrap64
    have : ∃ q : Int, (((u : Int) + 9223372036854775808) % 18446744073709551616 - 9223372036854775808) = (u : Int) - 18446744073709551616 * q := ⟨((u : Int) + 9223372036854775808) / 18446744073709551616, by omega⟩
    obtain ⟨q, hq⟩ := this
    rw [hq, Int.sub_mul, Int.mul_assoc]
    generalize q * (s : Int) = z
    rw [show ((u * s : Nat) : Int) = (u : Int) * (s : Int) by simp]
    generalize (u : Int) * (s : Int) = y
    omega
   rw [hmod]
   congr 1
   by_cases hp : p ≤ u
   ·rw [if_pos hp]
    have a1 : p * s ≤ u * s := Nat.mul_le_mul_right _ hp
    have a2 : u * s < 2 * p * s := Nat.mul_lt_mul_of_pos_right hu hpos
    rw [h1] at a2
    have : wrap64 ((u * s : Nat) : Int) = ((u : Int) - ((2 * p : Nat) : Int)) * (s : Int) := by
     rw [Int.sub_mul, show ((2 * p : Nat) : Int) * (s : Int) = ((2 * p * s : Nat) : Int) by simp, h1, show (u : Int) * (s : Int) = ((u * s : Nat) : Int) by simp]
     unfold wrap64
     generalize u * s = y at a1 a2
     omega
    rw [this, Int.mul_ediv_cancel _ (by omega)]
   ·rw [if_neg hp]
    have a1 : u * s < p * s := Nat.mul_lt_mul_of_pos_right (by omega) hpos
    have : wrap64 ((u * s : Nat) : Int) = (u : Int) * (s : Int) := by
     rw [w64 (by omega) (by omega)]; simp
    rw [this, Int.mul_ediv_cancel _ (by omega)]
    simp
  | succ d ih =>
   intro i hi
   refine Ev.step (fun k => by rw [Ftb.l0]) ?_
   refine Ev.cond (by omega) (Ev.cond (by omega) (Ev.cond (by omega) ?_))
   have hbi := za5 hb (show i < l.length by omega)
   have hui := zd0 (l := l.take i) (fun x hx => hb x (List.mem_of_mem_take hx))
   rw [List.length_take, Nat.min_eq_left (by omega)] at hui
   have e1 : rd l (i : Int) = (((rd l (i : Int)).toNat : Nat) : Int) := by omega
   have hd : (rd l (i : Int)).toNat < 2 := by omega
   have e2 := or_i64 hui hd (show i ≤ 63 by omega)
   rw [← e1, ← zft l hb i (by omega)] at e2
   rw [e2, w64 (x := (i : Int) + 1) (by omega) (by omega)]
   exact ih (i + 1) (by omega)
 have := loop l.length 0 (by omega)
 simpa [uv, wrap64] using this
theorem zfw {l : List Int} {i : Nat} (h : i + 1 < l.length) : tv (l.drop i) = rd l (i : Int) + 2 * tv (l.drop (i + 1)) := by
 have h1 : l.drop i = l[i] :: l.drop (i + 1) := List.drop_eq_getElem_cons (by omega)
 have h2 : l.drop (i + 1) = l[i + 1] :: l.drop (i + 1 + 1) := List.drop_eq_getElem_cons h
 rw [h1, zab, List.getD_eq_getElem?_getD, List.getElem?_eq_getElem (show i < l.length by omega)]
 rw [h2, tv]; rfl
theorem zfj {l : List Int} (h : l ≠ []) : tv (l.drop (l.length - 1)) = -(rd l ((l.length - 1 : Nat) : Int)) := by
 have hp : 0 < l.length := List.length_pos_iff.2 h
 have h1 : l.drop (l.length - 1) = l[l.length - 1] :: l.drop (l.length - 1 + 1) := List.drop_eq_getElem_cons (by omega)
 rw [h1, List.drop_eq_nil_of_le (by omega), tv, zab, List.getD_eq_getElem?_getD, List.getElem?_eq_getElem (show l.length - 1 < l.length by omega)]; rfl
theorem zev {l : List Int} (hb : Bits l) (hne : l ≠ []) (h64 : l.length ≤ 64) : Ev (fun k => Flb.f k l) (neg (tv l), mag (tv l)) := by
 have hp : 0 < l.length := List.length_pos_iff.2 hne
 refine Ev.congr (fun k => by rw [Flb.f]) ?_
 have e1 : wrap64 ((l.length : Int) - 1) = ((l.length - 1 : Nat) : Int) := by rw [w64 (by omega) (by omega)]; omega
 have e2 : wrap64 ((l.length : Int) - 2) = ((l.length - 1 : Nat) : Int) - 1 := by rw [w64 (by omega) (by omega)]; omega
 rw [e1, e2]
 have hl := za5 hb (show l.length - 1 < l.length by omega)
 have e3 : wrap64 (-(rd l ((l.length - 1 : Nat) : Int))) = tv (l.drop (l.length - 1)) := by
  rw [zfj hne, w64 (by omega) (by omega)]
 refine Ev.cond (by omega) (Ev.cond (by omega) ?_)
 rw [e3]
 have bd : ∀ i, i < l.length → I64 (tv (l.drop i)) := fun i hi => zei (fun x hx => hb x (List.mem_of_mem_drop hx)) (fun e => by have := congrArg List.length e; rw [List.length_drop, List.length_nil] at this; omega) (by rw [List.length_drop]; omega)
 have hbl := bd (l.length - 1) (by omega)
 unfold I64 at hbl
 refine Ev.bind (zb0 hbl.1 hbl.2) ?_
 have loop : ∀ i : Nat, i < l.length → Ev (fun k => Flb.l0 k l ((i : Int) - 1) (neg (tv (l.drop i))) (mag (tv (l.drop i)))) (neg (tv l), mag (tv l)) := by
  intro i
  induction i with
  | zero =>
   intro _
   refine Ev.step (fun k => by rw [Flb.l0]) (Ev.ncond (by omega) (Ev.fin ?_))
   rw [List.drop_zero]
  | succ i ih =>
   intro hi
   have b1 := bd (i + 1) hi
   have hd := za5 hb (show i < l.length by omega)
   have ht := zfw hi
   generalize tv (l.drop (i + 1)) = x at b1 ht
   unfold I64 at b1
   have hx : x.natAbs < big := zax (by omega) (by omega)
   refine Ev.step (fun k => by rw [Flb.l0]) ?_
   rw [show (((i + 1 : Nat) : Int) - 1) = (i : Int) by omega]
   refine Ev.cond (by omega) (Ev.bind (zbp hx hx) (Ev.cond (by omega) (Ev.cond (by omega) ?_)))
   refine Ev.bind (zb0 (n := rd l (i : Int)) (by omega) (by omega)) ?_
   refine Ev.bind (zbp (n := x + x) (m := rd l (i : Int)) (zax (by omega) (by omega)) (zax (by omega) (by omega))) ?_
   rw [w64 (by omega) (by omega), show x + x + rd l (i : Int) = tv (l.drop i) by omega]
   exact ih (by omega)
 exact loop (l.length - 1) (by omega)
theorem zds {l : List Int} (hl : l.length ≤ 9000000000000000000) : Ev (fun k => Fkc.f k l) (numS l) := by
 refine Ev.congr (fun k => by rw [Fkc.f]) ?_
 refine Ev.ite (fun h0 => ?_) (fun h0 => ?_)
 ·refine Ev.fin ?_
  unfold numS
  rw [if_pos (.inl (List.eq_nil_of_length_eq_zero (by omega)))]
 have hne : l ≠ [] := fun e => h0 (by rw [e]; rfl)
 rcases zci l with hb | ⟨z, hz, hz1, hz2, hz3⟩
 ·have loop : ∀ (d i : Nat), i + d = l.length → Ev (fun k => Fkc.l0 k l (i : Int)) (numS l) := by
   intro d
   induction d with
   | zero =>
    intro i hi
    unfold numS
    rw [if_neg (fun h => h.elim hne (fun h => h hb))]
    refine Ev.step (fun k => by rw [Fkc.l0]) (Ev.ncond (by omega) ?_)
    by_cases h64 : l.length > 64
    ·rw [if_pos h64]; exact Ev.cond (by omega) (Ev.now _)
    ·rw [if_neg h64]
     have hi64 := zei hb hne (by omega)
     unfold I64 at hi64
     have hf := zff (n := tv l) (zax (by omega) (by omega))
     rw [if_pos hi64] at hf
     exact Ev.ncond (by omega) (Ev.bind (zev hb hne (by omega)) (Ev.bind hf (Ev.fin rfl)))
   | succ d ih =>
    intro i hi
    refine Ev.step (fun k => by rw [Fkc.l0]) (Ev.cond (by omega) (Ev.cond (by omega) ?_))
    rw [w64 (by omega) (by omega)]
    refine Ev.ite (fun _ => ih (i + 1) (by omega)) (fun h1 => Ev.ite (fun _ => ih (i + 1) (by omega)) (fun h2 => ?_))
    rcases za5 hb (show i < l.length by omega) with h | h
    ·exact absurd h h1
    ·exact absurd h h2
  exact loop l.length 0 (by omega)
 ·have hnb : ¬ Bits l := fun hb => (za5 hb hz).elim hz2 hz3
  unfold numS
  rw [if_pos (.inr hnb)]
  have loop : ∀ (d i : Nat), i + d = z → Ev (fun k => Fkc.l0 k l (i : Int)) ((0 : Int), 3) := by
   intro d
   induction d with
   | zero =>
    intro i hi
    obtain rfl : i = z := by omega
    refine Ev.step (fun k => by rw [Fkc.l0]) (Ev.cond (by omega) (Ev.cond (by omega) ?_))
    exact Ev.ncond hz2 (Ev.ncond hz3 (Ev.now _))
   | succ d ih =>
    intro i hi
    refine Ev.step (fun k => by rw [Fkc.l0]) (Ev.cond (by omega) (Ev.cond (by omega) ?_))
    rw [w64 (by omega) (by omega)]
    refine Ev.ite (fun _ => ih (i + 1) (by omega)) (fun h1 => Ev.ite (fun _ => ih (i + 1) (by omega)) (fun h2 => ?_))
    rcases hz1 i (by omega) with h | h
    ·exact absurd h h1
    ·exact absurd h h2
  exact loop z 0 (by omega)
end Go.Proofs.Ytninoenmhcbonaa.Pure
namespace Go.Proofs.Ytninoenmhcbonaa.Pure
open Go.RowKit Go.Proofs.YtninoenmhcbonaaW.PrintWords Go.Proofs.YtninoenmhcbonaaW.PrintLast Go.Proofs.YtninoenmhcbonaaW.PrintMore Go.Proofs.Ytninoenmhcbonaa.X
set_option linter.unusedVariables false
theorem scan (P : Int → Prop) [DecidablePred P] (l : List Int) : (∀ i : Nat, i < l.length → P (rd l (i : Int))) ∨ ∃ i : Nat, i < l.length ∧ (∀ j : Nat, j < i → P (rd l (j : Int))) ∧ ¬ P (rd l (i : Int)) := by
 induction l with
 | nil => exact .inl fun i hi => by simp at hi
 | cons d ds ih =>
  by_cases hd : P d
  ·rcases ih with ih | ⟨i, h1, h2, h3⟩
   ·refine .inl fun i hi => ?_
    cases i with
    | zero => simpa [rd] using hd
    | succ i => have := ih i (by simpa using hi); simpa [rd] using this
   ·refine .inr ⟨i + 1, by simpa using h1, fun j hj => ?_, by simpa [rd] using h3⟩
    cases j with
    | zero => simpa [rd] using hd
    | succ j => have := h2 j (by omega); simpa [rd] using this
  ·exact .inr ⟨0, by simp, fun j hj => absurd hj (Nat.not_lt_zero _), by simpa [rd] using hd⟩
theorem zcc {P : Int → Prop} {l : List Int} (h : ∀ i : Nat, i < l.length → P (rd l (i : Int))) : ∀ a ∈ l, P a := by
 intro d hd
 obtain ⟨i, hi, rfl⟩ := List.getElem_of_mem hd
 have := h i hi
 rwa [zab, List.getD_eq_getElem?_getD, List.getElem?_eq_getElem hi] at this
theorem zbe {P : Int → Prop} {l : List Int} (h : ∀ a ∈ l, P a) {i : Nat} (hi : i < l.length) : P (rd l (i : Int)) := by
 rw [zab, List.getD_eq_getElem?_getD, List.getElem?_eq_getElem hi]
 exact h _ (List.getElem_mem hi)
def zav (w : List Int) (k : Nat) : Prop := ∀ a ∈ w, 0 ≤ a ∧ a < ((2 ^ k : Nat) : Int)
instance (w : List Int) (k : Nat) : Decidable (zav w k) := inferInstanceAs (Decidable (∀ a ∈ w, 0 ≤ a ∧ a < ((2 ^ k : Nat) : Int)))
def trk (w : List Int) (t : Nat) : List Int := w.map fun a => (dgt a t : Int)
theorem zaj (w : List Int) (t : Nat) : (trk w t).length = w.length := by simp [trk]
theorem zea (w : List Int) (t : Nat) {i : Nat} (hi : i < w.length) : rd (trk w t) (i : Int) = (dgt (rd w (i : Int)) t : Int) := by
 rw [zab, List.getD_eq_getElem?_getD, List.getElem?_eq_getElem (by rw [zaj]; exact hi), zab, List.getD_eq_getElem?_getD, List.getElem?_eq_getElem hi]
 simp [trk]
theorem ze1 (w : List Int) (t : Nat) : Bits (trk w t) := by
 intro d hd
 simp only [trk, List.mem_map] at hd
 obtain ⟨a, _, rfl⟩ := hd
 have := dgt_lt a t
 omega
theorem trk_ne {w : List Int} (h : w ≠ []) (t : Nat) : trk w t ≠ [] := by simpa [trk] using h
def tup (w : List Int) (k : Nat) : List Int := (List.range k).map fun t => tv (trk w t)
theorem za9 (w : List Int) (k : Nat) : (tup w k).length = k := by simp [tup]
def decS (w : List Int) (k : Int) : List Int × Int :=
 if k < 0 ∨ k > 6 then ([], 150) else if w = [] then ([], 3) else if w.length > 64 then ([], 31) else if zav w k.toNat then (tup w k.toNat, 0) else ([], 30)
theorem zbl {w : List Int} {k : Nat} (hk : k ≤ 6) (h : zav w k) : AllI w := fun a ha => by
 have h1 := h a ha
 have h2 := zda hk
 unfold I64; omega
theorem ze2 {a : Int} {t : Nat} (h : I64 a) (h0 : 0 ≤ a) (ht : t ≤ 61) : Faa.f a (t : Int) = some (dgt a t : Int) := by
 unfold Faa.f
 rw [if_neg (by omega), if_neg (by omega), if_neg (by omega), if_pos (by omega), zey h (by omega)]
def tset (w : List Int) (k t : Nat) : List Int := (List.range k).map fun j => if j < t then tv (trk w j) else 0
theorem zbn (w : List Int) (k t : Nat) : (tset w k t).length = k := by simp [tset]
theorem zfb (w : List Int) {k t : Nat} (h : t < k) : (tset w k t).set t (tv (trk w t)) = tset w k (t + 1) := by
 apply List.ext_getElem
 ·simp [tset]
 ·intro j h1 h2
  rw [List.getElem_set]
  by_cases e : t = j
  ·subst e; simp [tset]
  ·rw [if_neg e]
   simp only [tset, List.getElem_map, List.getElem_range]
   by_cases hj : j < t
   ·rw [if_pos hj, if_pos (by omega)]
   ·rw [if_neg hj, if_neg (by omega)]
theorem zel (w : List Int) (k : Nat) : tset w k 0 = List.replicate k 0 := by
 apply List.ext_getElem
 ·simp [tset]
 ·intro j h1 h2; simp [tset]
theorem zeh (w : List Int) (k : Nat) : tset w k k = tup w k := by
 unfold tset tup
 apply List.map_congr_left
 intro j hj
 rw [List.mem_range] at hj
 rw [if_pos hj]
theorem rd_set (l : List Int) (i j : Nat) (x : Int) (hi : i < l.length) : rd (l.set i x) (j : Int) = if i = j then x else rd l (j : Int) := by
 rw [zab, zab, List.getD_eq_getElem?_getD, List.getD_eq_getElem?_getD, List.getElem?_set]
 by_cases h : i = j
 ·subst h; simp [hi]
 ·simp [h]
theorem zc3 {w : List Int} (hne : w ≠ []) (h64 : w.length ≤ 64) (t : Nat) : numS (trk w t) = (tv (trk w t), 0) := by
 unfold numS
 rw [if_neg (fun h => h.elim (trk_ne hne t) (fun h => h (ze1 w t))), if_neg (by rw [zaj]; omega)]
theorem zeq {w : List Int} (hl : w.length ≤ 9000000000000000000) (k : Int) : Ev (fun n => Fta.f n w k) (decS w k) := by
 refine Ev.congr (fun n => by rw [Fta.f]) ?_
 unfold decS
 have bad : Ev (fun n => Fta.j0 n w k true) (([] : List Int), 150) := Ev.step (fun n => by rw [Fta.j0]) (Ev.cond rfl (Ev.now _))
 refine Ev.ite (fun hc => ?_) (fun hc => ?_)
 ·rw [if_pos (.inl hc)]; exact bad
 by_cases h6 : k > 6
 ·rw [if_pos (.inr h6), decide_eq_true h6]; exact bad
 rw [if_neg (by omega), decide_eq_false h6]
 obtain ⟨m, rfl⟩ := Int.eq_ofNat_of_zero_le (show 0 ≤ k by omega)
 rw [Int.toNat_natCast]
 refine Ev.step (fun n => by rw [Fta.j0]) ?_
 refine Ev.ncond (by simp) ?_
 refine Ev.ite (fun h0 => ?_) (fun h0 => ?_)
 ·rw [if_pos (List.eq_nil_of_length_eq_zero (by omega))]; exact Ev.now _
 have hne : w ≠ [] := fun e => h0 (by rw [e]; rfl)
 rw [if_neg hne]
 by_cases h64 : w.length > 64
 ·rw [if_pos h64]; exact Ev.cond (by omega) (Ev.now _)
 rw [if_neg h64]
 refine Ev.ncond (by omega) ?_
 have hp := zda (show m ≤ 6 by omega)
 have es : shl .i64 1 (m : Int) = ((2 ^ m : Nat) : Int) := by
  unfold shl
  rw [Int.toNat_natCast, Nat.min_eq_left (by simp [IntKind.bits]; omega), Int.one_mul, show (2 : Int) ^ m = ((2 ^ m : Nat) : Int) by simp, i64_w]
  generalize 2 ^ m = p at hp
  exact w64 (by omega) (by omega)
 rcases scan (fun a => 0 ≤ a ∧ a < ((2 ^ m : Nat) : Int)) w with hg | ⟨z, hz, hz1, hz2⟩
 ·have hL : zav w m := zcc hg
  have hA := zbl (by omega) hL
  rw [if_pos hL]
  have l2 : ∀ (t : Nat), t < m → ∀ (d i : Nat) (buf : List Int), i + d = w.length → buf.length = w.length → (∀ j : Nat, j < i → rd buf (j : Int) = (dgt (rd w (j : Int)) t : Int)) →
    (Ev (fun n => Fta.l1 n w (tset w m (t + 1)) (trk w t) (m : Int) ((t + 1 : Nat) : Int)) (tup w m, 0)) →
    Ev (fun n => Fta.l2 n w (tset w m t) buf (t : Int) (m : Int) (t : Int) w (w.length : Int) (i : Int)) (tup w m, 0) := by
   intro t ht d
   induction d with
   | zero =>
    intro i buf hi hbl hb hk
    have hbuf : buf = trk w t := by
     refine zdo (by rw [zaj]; exact hbl) fun j hj => ?_
     rw [hb j (by omega), zea w t (by omega)]
    refine Ev.step (fun n => by rw [Fta.l2]) ?_
    refine Ev.ncond (by omega) ?_
    have hn := zeo (l := buf) (by omega)
    rw [hbuf, zc3 hne (by omega) t] at hn
    rw [hbuf]
    refine Ev.bind hn (Ev.cond (by omega) (Ev.cond (by rw [zbn]; omega) ?_))
    rw [Int.toNat_natCast, zfb w ht, w64 (by omega) (by omega)]
    exact hk
   | succ d ih =>
    intro i buf hi hbl hb hk
    refine Ev.step (fun n => by rw [Fta.l2]) ?_
    refine Ev.cond (by omega) (Ev.cond (by omega) (Ev.cond (by omega) ?_))
    have hgi := hg i (by omega)
    refine Ev.ret (ze2 (zf8 hA (by omega)) hgi.1 (by omega)) ?_
    refine Ev.cond (by omega) ?_
    rw [Int.toNat_natCast, w64 (by omega) (by omega)]
    refine ih (i + 1) _ (by omega) (by rw [List.length_set]; exact hbl) (fun j hj => ?_) hk
    rw [rd_set buf i j _ (by omega)]
    by_cases e : i = j
    ·subst e; rw [if_pos rfl]
    ·rw [if_neg e]; exact hb j (by omega)
  have l1 : ∀ (d t : Nat) (buf : List Int), t + d = m → buf.length = w.length → Ev (fun n => Fta.l1 n w (tset w m t) buf (m : Int) (t : Int)) (tup w m, 0) := by
   intro d
   induction d with
   | zero =>
    intro t buf ht hbl
    refine Ev.step (fun n => by rw [Fta.l1]) (Ev.ncond (by omega) (Ev.fin ?_))
    obtain rfl : t = m := by omega
    rw [zeh]
   | succ d ih =>
    intro t buf ht hbl
    refine Ev.step (fun n => by rw [Fta.l1]) (Ev.cond (by omega) ?_)
    exact l2 t (by omega) w.length 0 buf (by omega) hbl (fun j hj => absurd hj (Nat.not_lt_zero _)) (ih (t + 1) (trk w t) (by omega) (zaj w t))
  have l0 : ∀ (d i : Nat), i + d = w.length → Ev (fun n => Fta.l0 n w (m : Int) w (w.length : Int) (i : Int)) (tup w m, 0) := by
   intro d
   induction d with
   | zero =>
    intro i hi
    refine Ev.step (fun n => by rw [Fta.l0]) ?_
    refine Ev.ncond (by omega) (Ev.cond (by omega) (Ev.cond (by omega) (Ev.ret rfl (Ev.cond (by omega) (Ev.cond (by omega) ?_)))))
    rw [Int.toNat_natCast, ← zel w m, zbn]
    exact l1 m 0 _ (by omega) (by simp)
   | succ d ih =>
    intro i hi
    have hgi := hg i (by omega)
    refine Ev.step (fun n => by rw [Fta.l0]) ?_
    refine Ev.cond (by omega) (Ev.cond (by omega) (Ev.cond (by omega) (Ev.ncond (by omega) (Ev.cond (by omega) ?_))))
    rw [es]
    refine Ev.ncond (by omega) ?_
    rw [w64 (by omega) (by omega)]
    exact ih (i + 1) (by omega)
  exact l0 w.length 0 (by omega)
 ·have hL : ¬ zav w m := fun h => hz2 (zbe h hz)
  rw [if_neg hL]
  have l0 : ∀ (d i : Nat), i + d = z → Ev (fun n => Fta.l0 n w (m : Int) w (w.length : Int) (i : Int)) (([] : List Int), 30) := by
   intro d
   induction d with
   | zero =>
    intro i hi
    obtain rfl : i = z := by omega
    refine Ev.step (fun n => by rw [Fta.l0]) ?_
    refine Ev.cond (by omega) (Ev.cond (by omega) (Ev.cond (by omega) ?_))
    refine Ev.ite (fun _ => Ev.now _) (fun hn => Ev.cond (by omega) ?_)
    rw [es]
    refine Ev.cond ?_ (Ev.now _)
    have : ¬ (rd w (i : Int) < ((2 ^ m : Nat) : Int)) := fun h => hz2 ⟨by omega, h⟩
    omega
   | succ d ih =>
    intro i hi
    have hgi := hz1 i (by omega)
    refine Ev.step (fun n => by rw [Fta.l0]) ?_
    refine Ev.cond (by omega) (Ev.cond (by omega) (Ev.cond (by omega) (Ev.ncond (by omega) (Ev.cond (by omega) ?_))))
    rw [es]
    refine Ev.ncond (by omega) ?_
    rw [w64 (by omega) (by omega)]
    exact ih (i + 1) (by omega)
  exact l0 z 0 (by omega)
theorem zc0 {m : Nat} (hm : m ≤ 62) : Ev (fun k => Fl.f k (m : Int)) ((2 ^ m : Nat) : Int) := by
 have key : ∀ (d i : Nat), i + d = m → Ev (fun k => Fl.l0 k (m : Int) ((2 ^ i : Nat) : Int) (i : Int)) ((2 ^ m : Nat) : Int) := by
  intro d
  induction d with
  | zero =>
   intro i hi
   refine Ev.step (fun k => by rw [Fl.l0]) (Ev.ncond (by omega) (Ev.fin ?_))
   obtain rfl : i = m := by omega
   rfl
  | succ d ih =>
   intro i hi
   refine Ev.step (fun k => by rw [Fl.l0]) (Ev.cond (by omega) ?_)
   have h1 : 2 ^ i * 2 ≤ 4611686018427387904 := by
    rw [← Nat.pow_succ]
    have : 2 ^ (i + 1) ≤ 2 ^ 62 := Nat.pow_le_pow_right (by omega) (by omega)
    simpa using this
   have e : wrap64 (((2 ^ i : Nat) : Int) * 2) = ((2 ^ (i + 1) : Nat) : Int) := by
    rw [Nat.pow_succ]
    generalize 2 ^ i = p at h1
    rw [w64 (by omega) (by omega)]; omega
   rw [e, w64 (by omega) (by omega)]
   exact ih (i + 1) (by omega)
 have := key m 0 (by omega)
 exact this
theorem zez {w : List Int} (hw : w.length ≤ 1000000) (hn : ∀ a ∈ w, 0 ≤ a ∧ I64 a) {t : Nat} (ht : t ≤ 62) : Ev (fun k => Fla.f k w (t : Int)) (trk w t) := by
 have key : ∀ (d i : Nat) (out : List Int), i + d = w.length → out = (trk w t).take i → Ev (fun k => Fla.l0 k w (t : Int) out (i : Int)) (trk w t) := by
  intro d
  induction d with
  | zero =>
   intro i out hi ho
   refine Ev.step (fun k => by rw [Fla.l0]) (Ev.ncond (by omega) (Ev.fin ?_))
   rw [ho, List.take_of_length_le (by rw [zaj]; omega)]
  | succ d ih =>
   intro i out hi ho
   refine Ev.step (fun k => by rw [Fla.l0]) (Ev.cond (by omega) (Ev.cond (by omega) ?_))
   refine Ev.bind (zc0 ht) ?_
   have hpos : 0 < 2 ^ t := Nat.two_pow_pos _
   have hlen : out.length < 17592186044416 := by rw [ho, List.length_take]; omega
   refine Ev.ncond (by omega) (Ev.cond hlen ?_)
   have ha : 0 ≤ rd w (i : Int) ∧ I64 (rd w (i : Int)) := zbe (P := fun a => 0 ≤ a ∧ I64 a) hn (by omega)
   have e : Int.tmod (wrap64 (Int.tdiv (rd w (i : Int)) ((2 ^ t : Nat) : Int))) 2 = (dgt (rd w (i : Int)) t : Int) := by
    have hc : ((2 ^ t : Nat) : Int) = (2 : Int) ^ t := by simp
    have h1 := zdh ha.2 t
    have h2 : 0 ≤ rd w (i : Int) / 2 ^ t := Int.ediv_nonneg ha.1 (Int.pow_nonneg (by omega))
    rw [Int.tdiv_eq_ediv_of_nonneg ha.1, hc, w64 h1.1 h1.2, Int.tmod_eq_emod_of_nonneg h2, zde]
   rw [e, w64 (by omega) (by omega)]
   refine ih (i + 1) _ (by omega) ?_
   rw [ho, List.take_succ_eq_append_getElem (by rw [zaj]; omega)]
   congr 2
   have := zea w t (show i < w.length by omega)
   rw [zab, List.getD_eq_getElem?_getD, List.getElem?_eq_getElem (by rw [zaj]; omega)] at this
   exact this.symm
 have := key w.length 0 [] (by omega) (by simp)
 exact this
theorem zdr {w : List Int} (hl : w.length ≤ 9000000000000000000) (k : Int) : Ev (fun n => Fkb.f n w k) (decS w k) := by
 refine Ev.congr (fun n => by rw [Fkb.f]) ?_
 unfold decS
 have bad : Ev (fun n => Fkb.j0 n w k true) (([] : List Int), 150) := Ev.step (fun n => by rw [Fkb.j0]) (Ev.cond rfl (Ev.now _))
 refine Ev.ite (fun hc => ?_) (fun hc => ?_)
 ·rw [if_pos (.inl hc)]; exact bad
 by_cases h6 : k > 6
 ·rw [if_pos (.inr h6), decide_eq_true h6]; exact bad
 rw [if_neg (by omega), decide_eq_false h6]
 obtain ⟨m, rfl⟩ := Int.eq_ofNat_of_zero_le (show 0 ≤ k by omega)
 rw [Int.toNat_natCast]
 refine Ev.step (fun n => by rw [Fkb.j0]) ?_
 refine Ev.ncond (by simp) ?_
 refine Ev.ite (fun h0 => ?_) (fun h0 => ?_)
 ·rw [if_pos (List.eq_nil_of_length_eq_zero (by omega))]; exact Ev.now _
 have hne : w ≠ [] := fun e => h0 (by rw [e]; rfl)
 rw [if_neg hne]
 by_cases h64 : w.length > 64
 ·rw [if_pos h64]; exact Ev.cond (by omega) (Ev.now _)
 rw [if_neg h64]
 refine Ev.ncond (by omega) ?_
 have hpw := zc0 (show m ≤ 62 by omega)
 rcases scan (fun a => 0 ≤ a ∧ a < ((2 ^ m : Nat) : Int)) w with hg | ⟨z, hz, hz1, hz2⟩
 ·have hL : zav w m := zcc hg
  have hA := zbl (by omega) hL
  rw [if_pos hL]
  have l1 : ∀ (d t : Nat) (out : List Int), t + d = m → out = (tup w m).take t → Ev (fun n => Fkb.l1 n w (m : Int) out (t : Int)) (tup w m, 0) := by
   intro d
   induction d with
   | zero =>
    intro t out ht ho
    refine Ev.step (fun n => by rw [Fkb.l1]) (Ev.ncond (by omega) (Ev.fin ?_))
    rw [ho, List.take_of_length_le (by rw [za9]; omega)]
   | succ d ih =>
    intro t out ht ho
    refine Ev.step (fun n => by rw [Fkb.l1]) (Ev.cond (by omega) ?_)
    refine Ev.bind (zez (by omega) (fun a ha => ⟨(hL a ha).1, hA a ha⟩) (show t ≤ 62 by omega)) ?_
    have hn := zds (l := trk w t) (by rw [zaj]; omega)
    rw [zc3 hne (by omega) t] at hn
    have hlen : out.length < 17592186044416 := by rw [ho, List.length_take]; omega
    refine Ev.bind hn (Ev.cond hlen ?_)
    rw [w64 (by omega) (by omega)]
    refine ih (t + 1) _ (by omega) ?_
    rw [ho, List.take_succ_eq_append_getElem (by rw [za9]; omega)]
    congr 2
    simp [tup]
  have l0 : ∀ (d i : Nat), i + d = w.length → Ev (fun n => Fkb.l0 n w (m : Int) (i : Int)) (tup w m, 0) := by
   intro d
   induction d with
   | zero =>
    intro i hi
    refine Ev.step (fun n => by rw [Fkb.l0]) ?_
    refine Ev.ncond (by omega) ?_
    exact l1 m 0 _ (by omega) (by simp)
   | succ d ih =>
    intro i hi
    have hgi := hg i (by omega)
    refine Ev.step (fun n => by rw [Fkb.l0]) ?_
    refine Ev.cond (by omega) (Ev.cond (by omega) (Ev.ncond (by omega) (Ev.bind hpw (Ev.ncond (by omega) ?_))))
    rw [w64 (by omega) (by omega)]
    exact ih (i + 1) (by omega)
  exact l0 w.length 0 (by omega)
 ·have hL : ¬ zav w m := fun h => hz2 (zbe h hz)
  rw [if_neg hL]
  have l0 : ∀ (d i : Nat), i + d = z → Ev (fun n => Fkb.l0 n w (m : Int) (i : Int)) (([] : List Int), 30) := by
   intro d
   induction d with
   | zero =>
    intro i hi
    obtain rfl : i = z := by omega
    refine Ev.step (fun n => by rw [Fkb.l0]) ?_
    refine Ev.cond (by omega) (Ev.cond (by omega) ?_)
    refine Ev.ite (fun _ => Ev.now _) (fun hn => Ev.bind hpw ?_)
    refine Ev.cond ?_ (Ev.now _)
    have : ¬ (rd w (i : Int) < ((2 ^ m : Nat) : Int)) := fun h => hz2 ⟨by omega, h⟩
    omega
   | succ d ih =>
    intro i hi
    have hgi := hz1 i (by omega)
    refine Ev.step (fun n => by rw [Fkb.l0]) ?_
    refine Ev.cond (by omega) (Ev.cond (by omega) (Ev.ncond (by omega) (Ev.bind hpw (Ev.ncond (by omega) ?_))))
    rw [w64 (by omega) (by omega)]
    exact ih (i + 1) (by omega)
  exact l0 z 0 (by omega)
end Go.Proofs.Ytninoenmhcbonaa.Pure
namespace Go.Proofs.Ytninoenmhcbonaa.Pure
open Go.RowKit Go.Proofs.YtninoenmhcbonaaW.PrintWords Go.Proofs.YtninoenmhcbonaaW.PrintLast Go.Proofs.YtninoenmhcbonaaW.PrintMore Go.Proofs.Ytninoenmhcbonaa.X
set_option linter.unusedVariables false
theorem zdv (l : List Int) (h : l.length ≤ 9000000000000000000) : Ev (fun k => Fgc.j0 k l l ((l.length : Int) != (l.length : Int))) true := by
 have key : ∀ (m i : Nat), i + m = l.length → Ev (fun k => Fgc.l0 k l l (l.length : Int) (i : Int)) true := by
  intro m
  induction m with
  | zero => intro i hi; exact Ev.step (fun k => by rw [Fgc.l0]) (Ev.ncond (by omega) (Ev.fin rfl))
  | succ m ih =>
   intro i hi
   refine Ev.step (fun k => by rw [Fgc.l0]) (Ev.cond (by omega) (Ev.cond (by omega) (Ev.cond (by omega) (Ev.cond (by omega) (Ev.cond rfl ?_)))))
   rw [show wrap64 ((i : Int) + 1) = ((i + 1 : Nat) : Int) from by rw [w64 (by omega) (by omega)]; omega]
   exact ih (i + 1) (by omega)
 refine Ev.step (fun k => by rw [Fgc.j0]) (Ev.ncond (by simp) ?_)
 exact key l.length 0 (by omega)
theorem zfa (w : List Int) (k : Int) : (decS w k).1.length ≤ 6 := by
 unfold decS
 split
 ·simp
 ·split
  ·simp
  ·split
   ·simp
   ·split
    ·rw [za9]; omega
    ·simp
theorem solves (ns : List ByteArray) (h0 : ns.length * 16 ≤ 140737488351232) (hs : SZ ns) (ac : List Bool) (hc : ac.length ≤ 9000000000000000000) (st : List Int) (ht : st.length ≤ 9000000000000000000) (ar : List S73) (ha : ar.length ≤ 9000000000000000000) :
  ∃ e : List Int × Int, e.1.length ≤ 6 ∧ Ev (fun k => Fcb.f k ns ac st ar) e ∧ Ev (fun k => Frc.f k ns ac st ar) e := by
 by_cases a : AOk ns ac st ar
 ·have m := a.mach
  have n2 := a.fr.n2
  obtain ⟨r, hr, hA⟩ := zc5 (ns := ns) m
  obtain ⟨q, hq, hB⟩ := zd9 (ns := ns) m
  obtain ⟨b1, b2⟩ := both m hA hB
  have P := zem hs ha h0 a hr
  have R := zdc hs h0 hc (e := (ns, ac, rows ns.length st ar ac.length, true)) (fun _ => rfl) (fun z => absurd a z)
  by_cases c : r.2 = true
  ·have qn := b2.1 c
   have ql : ¬ (q.length : Int) = 0 := fun e => qn (List.eq_nil_of_length_eq_zero (by omega))
   have qm : q.length ≤ 9000000000000000000 := by
    rcases hB with ⟨w, hw, rfl⟩ | ⟨_, rfl⟩
    ·rcases hA with ⟨v, hv, hl, _⟩ | ⟨hn, _⟩
     ·rw [hv.unique hw] at hl
      simp [toI]; omega
     ·exact (hw.not_none hn).elim
    ·exact absurd rfl qn
   rw [if_pos c, b1] at P
   refine ⟨decS q (ns.length : Int), zfa _ _, ?_, ?_⟩
   ·exact Ev.congr (fun k => by rw [Fcb.f]) (Ev.bind P (Ev.cond rfl (Ev.bind (zeq qm _) (Ev.fin rfl))))
   ·exact Ev.congr (fun k => by rw [Frc.f]) (Ev.bind R (Ev.cond rfl (Ev.bind hq (Ev.ncond ql (Ev.bind (zdr qm _) (Ev.fin rfl))))))
  ·have q0' : q = [] := Classical.byContradiction fun e => c (b2.2 e)
   subst q0'
   rw [if_neg c] at P
   refine ⟨([], 190), by simp, ?_, ?_⟩
   ·refine Ev.congr (fun k => by rw [Fcb.f]) (Ev.bind P ?_)
    refine Ev.ncond (by decide) ?_
    exact Ev.fin rfl
   ·exact Ev.congr (fun k => by rw [Frc.f]) (Ev.bind R (Ev.cond rfl (Ev.bind hq (Ev.cond rfl (Ev.fin rfl)))))
 ·refine ⟨([], 3), by simp, ?_, ?_⟩
  ·refine Ev.congr (fun k => by rw [Fcb.f]) (Ev.bind (zek hs ha hc ht a) ?_)
   refine Ev.ncond (by decide) ?_
   exact Ev.fin rfl
  ·refine Ev.congr (fun k => by rw [Frc.f]) (Ev.bind (zdc hs h0 hc (e := ([], [], [], false)) (fun z => absurd z a) (fun _ => rfl)) ?_)
   refine Ev.ncond (by decide) ?_
   exact Ev.fin rfl
theorem PickSolves (ns : List ByteArray) (h0 : ns.length * 16 ≤ 140737488351232) (q0 : ∀ x ∈ ns, x.size ≤ maxLen) (ac : List Bool) (h1 : ac.length * 1 ≤ 140737488351232) (q1 : ∀ x ∈ ac, True) (st : List Int) (h2 : st.length * 8 ≤ 140737488351232) (q2 : ∀ x ∈ st, (Lit.int .i64 x).wf = true) (ar : List S73) (h3 : ar.length * 24 ≤ 140737488351232) (q3 : ∀ x ∈ ar, True) :
  ∃ k, Fgc.f k ns ac st ar = some true := by
 have hs : SZ ns := fun x hx => q0 x hx
 obtain ⟨e, he, hp, hr⟩ := solves ns h0 hs ac (by omega) st (by omega) ar (by omega)
 refine Ev.rounds (Ev.congr (fun k => by rw [Fgc.f]) (Ev.ret (ze3 h0 h1 h2 h3) ?_))
 refine Ev.bind hp (Ev.bind hr (Ev.bind zd2 (Ev.cond rfl ?_)))
 refine Ev.ret (show Fhb.f e.2 e.2 = some true by simp [Fhb.f]) ?_
 exact Ev.cond rfl (zdv e.1 (by omega))
end Go.Proofs.Ytninoenmhcbonaa.Pure
