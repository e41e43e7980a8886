/- Small words beside the kit's: cuts with a capacity; no condition. -/
import Derived.Test.YthgoonohpfoagaaWMore
import Derived.Lib.SliceRun
import Derived.Test.YthgoonohpfoagaaWTab
import Derived.Tactics
import Derived.KernelRfl
namespace Go.Proofs.YthgoonohpfoagaaW.PrintWords
open Go.RowKit
section
variable {P : Program}
theorem cut_to3 (t e : TypeId) (kh km : IntKind) {i : TypeInfo} (ht : P.underlying t = some (.slice e)) (hi : P.info? e = some i) (A : Option Addr) (n c : Nat) (j : Int) (h0 : 0 ≤ j) (hm : j ≤ n) (hc : n ≤ c) :
    ∀ W : World, (Instr.slice t (.slice A n c) none (some (.int kh j)) (some (.int km j))).run P W = .ok (.slice A j.toNat j.toNat) W := by
  intro W
  have hel : P.elem t = e := by simp [Program.elem, ht]
  have hu : P.underlying t = some (.slice (P.elem t)) := by rw [hel]; exact ht
  have ha : (A.map fun x => x.add 0) = A := by cases A <;> simp [Addr.add]
  rw [run_slice_hm W t A n c hu kh km j j h0 (Int.le_refl _) (by omega), hel]
  simp [sizeOf, typeInfo, hi, sliced, Result.andThen, ha]
end
theorem bO {q p : Prop} (h : q) (k : q → p := by intro h_; repeat (first | (with_reducible first | exact h_ | apply below_alloc | apply pw_below_drewN | apply below_drew1) | exact h_)) : p := k h
theorem rO {q p : Prop} (h : q) (k : q → p := by intro h_; (with_reducible repeat (first | apply Kd.R_alloc | apply Kd.R_drewN | apply Kd.R_drew)); exact h_) : p := k h
theorem vO {q p : Prop} (h : q) (k : q → p := by intro h_; (with_reducible repeat (first | apply Kd.V_alloc | apply Kd.V_drewN | apply Kd.V_drew)); exact h_) : p := k h
theorem kO {q p : Prop} (h : q) (k : q → p := by intro h_; (with_reducible repeat (first | refine blk_drewN ?_ _ | refine blk_drew ?_ | refine blk_alloc ?_ _)); exact h_) : p := k h
theorem cO {q p : Prop} (h : q) (k : q → p := by intro h_; repeat (first | exact h_ | (with_reducible refine Kd.C_alloc ?_ _) | (with_reducible refine Kd.C_drewN ?_ _) | (with_reducible refine Kd.C_drew ?_))) : p := k h
theorem aO {p : Prop} (k : p := by first | (with_reducible assumption) | assumption) : p := k
def bl (n x : Nat) : Array Bool := ((List.range n).map fun i => x.testBit i).toArray
theorem pO {p : Prop} (k : p := by first | (simp only [putAll, Act.put, List.setIfInBounds_toArray, List.set_cons_zero, List.set_cons_succ]; done) | (simp only [putAll, Act.put, List.setIfInBounds_toArray, List.set_cons_zero, List.set_cons_succ]; rfl)) : p := k
theorem sA {α : Type} (l : List α) (i : Nat) (a : α) : l.toArray.setIfInBounds i a = (l.set i a).toArray := List.setIfInBounds_toArray l i a
theorem sB {α : Type} (a b : α) (l : List α) : (a :: l).set 0 b = b :: l := rfl
theorem sC {α : Type} (a b : α) (l : List α) (n : Nat) : (a :: l).set (n + 1) b = a :: l.set n b := rfl
theorem bC2 {W : World} {g t : Nat} {v0 v1 : Value} (h : W.heap[g]? = some (.cells #[v0, v1] t (0, 0))) : W.cell? ⟨g, 0, none⟩ = some v0 ∧ W.cell? ⟨g, 1, none⟩ = some v1 := ⟨(blk_cell h 0).trans rfl, (blk_cell h 1).trans rfl⟩
theorem bS1 {q p r0 : Prop} (h : q) (g0 : r0) (k : q → r0 → p := by intro h_ i0_; repeat (first | (with_reducible first | exact h_ | apply below_alloc | apply pw_below_drewN | apply below_drew1 | refine below_set ?_ i0_) | exact h_)) : p := k h g0
theorem bS2 {q p r0 r1 : Prop} (h : q) (g0 : r0) (g1 : r1) (k : q → r0 → r1 → p := by intro h_ i0_ i1_; repeat (first | (with_reducible first | exact h_ | apply below_alloc | apply pw_below_drewN | apply below_drew1 | refine below_set ?_ i0_ | refine below_set ?_ i1_) | exact h_)) : p := k h g0 g1
theorem bS3 {q p r0 r1 r2 : Prop} (h : q) (g0 : r0) (g1 : r1) (g2 : r2) (k : q → r0 → r1 → r2 → p := by intro h_ i0_ i1_ i2_; repeat (first | (with_reducible first | exact h_ | apply below_alloc | apply pw_below_drewN | apply below_drew1 | refine below_set ?_ i0_ | refine below_set ?_ i1_ | refine below_set ?_ i2_) | exact h_)) : p := k h g0 g1 g2
theorem bS4 {q p r0 r1 r2 r3 : Prop} (h : q) (g0 : r0) (g1 : r1) (g2 : r2) (g3 : r3) (k : q → r0 → r1 → r2 → r3 → p := by intro h_ i0_ i1_ i2_ i3_; repeat (first | (with_reducible first | exact h_ | apply below_alloc | apply pw_below_drewN | apply below_drew1 | refine below_set ?_ i0_ | refine below_set ?_ i1_ | refine below_set ?_ i2_ | refine below_set ?_ i3_) | exact h_)) : p := k h g0 g1 g2 g3
theorem bS6 {q p r0 r1 r2 r3 r4 r5 : Prop} (h : q) (g0 : r0) (g1 : r1) (g2 : r2) (g3 : r3) (g4 : r4) (g5 : r5) (k : q → r0 → r1 → r2 → r3 → r4 → r5 → p := by intro h_ i0_ i1_ i2_ i3_ i4_ i5_; repeat (first | (with_reducible first | exact h_ | apply below_alloc | apply pw_below_drewN | apply below_drew1 | refine below_set ?_ i0_ | refine below_set ?_ i1_ | refine below_set ?_ i2_ | refine below_set ?_ i3_ | refine below_set ?_ i4_ | refine below_set ?_ i5_) | exact h_)) : p := k h g0 g1 g2 g3 g4 g5
theorem bF2 {W : World} {g t : Nat} {v0 v1 : Value} (h : W.heap[g]? = some (.cells #[v0, v1] t (0, 0))) : W.cell? ⟨g, 0, none⟩ = some v0 ∧ W.cell? ⟨g, 1, none⟩ = some v1 ∧ W.frozen? ⟨g, 0, none⟩ = false ∧ W.frozen? ⟨g, 1, none⟩ = false := ⟨(blk_cell h 0).trans rfl, (blk_cell h 1).trans rfl, blk_frozen h 0, blk_frozen h 1⟩
theorem bF3 {W : World} {g t : Nat} {v0 v1 v2 : Value} (h : W.heap[g]? = some (.cells #[v0, v1, v2] t (0, 0))) : W.cell? ⟨g, 0, none⟩ = some v0 ∧ W.cell? ⟨g, 1, none⟩ = some v1 ∧ W.cell? ⟨g, 2, none⟩ = some v2 ∧ W.frozen? ⟨g, 0, none⟩ = false ∧ W.frozen? ⟨g, 1, none⟩ = false ∧ W.frozen? ⟨g, 2, none⟩ = false := ⟨(blk_cell h 0).trans rfl, (blk_cell h 1).trans rfl, (blk_cell h 2).trans rfl, blk_frozen h 0, blk_frozen h 1, blk_frozen h 2⟩
theorem bF5 {W : World} {g t : Nat} {v0 v1 v2 v3 v4 : Value} (h : W.heap[g]? = some (.cells #[v0, v1, v2, v3, v4] t (0, 0))) : W.cell? ⟨g, 0, none⟩ = some v0 ∧ W.cell? ⟨g, 1, none⟩ = some v1 ∧ W.cell? ⟨g, 2, none⟩ = some v2 ∧ W.cell? ⟨g, 3, none⟩ = some v3 ∧ W.cell? ⟨g, 4, none⟩ = some v4 ∧ W.frozen? ⟨g, 0, none⟩ = false ∧ W.frozen? ⟨g, 1, none⟩ = false ∧ W.frozen? ⟨g, 2, none⟩ = false ∧ W.frozen? ⟨g, 3, none⟩ = false ∧ W.frozen? ⟨g, 4, none⟩ = false := ⟨(blk_cell h 0).trans rfl, (blk_cell h 1).trans rfl, (blk_cell h 2).trans rfl, (blk_cell h 3).trans rfl, (blk_cell h 4).trans rfl, blk_frozen h 0, blk_frozen h 1, blk_frozen h 2, blk_frozen h 3, blk_frozen h 4⟩
theorem kB {w0 W w1 : World} {g : Nat} {o : Obj} (h : Aside0 (w0.heap[g]? = some o)) (hb : Below W.heap.size W w1) (k : w0.heap[g]? = some o → W.heap[g]? = some o := by intro h_; (with_reducible repeat (first | refine blk_drewN ?_ _ | refine blk_drew ?_ | refine blk_alloc ?_ _)); exact h_) : Aside0 (w1.heap[g]? = some o) := ⟨blk_below (k h.out) hb⟩
theorem kD {W : World} {g : Nat} {o : Obj} (h : Aside0 (W.heap[g]? = some o)) : Aside0 (W.drew.heap[g]? = some o) := ⟨blk_drew h.out⟩
theorem nL {q : Prop} {W : World} {g g' : Nat} {o : Obj} (hg : g' = W.heap.size) (h : Aside0 q) (k : q → W.heap[g]? = some o := by intro h_; (with_reducible repeat (first | refine blk_drewN ?_ _ | refine blk_drew ?_ | refine blk_alloc ?_ _)); exact h_) : Aside0 (g ≠ g') := ⟨by rw [hg]; exact Nat.ne_of_lt (blk_lt (k h.out))⟩
theorem nG {q : Prop} {W : World} {g g' : Nat} {o : Obj} (hg : g' = W.heap.size) (h : Aside0 q) (k : q → W.heap[g]? = some o := by intro h_; (with_reducible repeat (first | refine blk_drewN ?_ _ | refine blk_drew ?_ | refine blk_alloc ?_ _)); exact h_) : Aside0 (g' ≠ g) := ⟨by rw [hg]; exact Nat.ne_of_gt (blk_lt (k h.out))⟩
theorem rB {α : Type} {d : Kd α} {e : TypeId} {w w1 : World} {base : Nat} {ok : Nat → Prop} {v : Value} {xs : List α} {q : Prop} (h : Aside0 q) (hb : Below w.heap.size w w1) (k : q → d.R e w base ok v xs := by intro h_; (with_reducible repeat (first | apply Kd.R_alloc | apply Kd.R_drewN | apply Kd.R_drew)); exact h_) : Aside0 (d.R e w1 base ok v xs) := ⟨Kd.R_below (k h.out) hb⟩
theorem hS0 {q : Prop} {w W w2 : World} (h : Aside0 q) (k : Below W.heap.size W w2) (z : q → Below w.heap.size w W := by intro h_; repeat (first | (with_reducible first | exact h_ | apply below_alloc | apply pw_below_drewN | apply below_drew1) | exact h_)) : Aside0 (Below w.heap.size w w2) := ⟨below_step (z h.out) k⟩
theorem hS1 {q r0 : Prop} {w W w2 : World} (h : Aside0 q) (g0 : Aside0 r0) (k : Below W.heap.size W w2) (z : q → r0 → Below w.heap.size w W := by intro h_ i0_; repeat (first | (with_reducible first | exact h_ | apply below_alloc | apply pw_below_drewN | apply below_drew1 | refine below_set ?_ i0_) | exact h_)) : Aside0 (Below w.heap.size w w2) := ⟨below_step (z h.out g0.out) k⟩
theorem hS2 {q r0 r1 : Prop} {w W w2 : World} (h : Aside0 q) (g0 : Aside0 r0) (g1 : Aside0 r1) (k : Below W.heap.size W w2) (z : q → r0 → r1 → Below w.heap.size w W := by intro h_ i0_ i1_; repeat (first | (with_reducible first | exact h_ | apply below_alloc | apply pw_below_drewN | apply below_drew1 | refine below_set ?_ i0_ | refine below_set ?_ i1_) | exact h_)) : Aside0 (Below w.heap.size w w2) := ⟨below_step (z h.out g0.out g1.out) k⟩
theorem hS3 {q r0 r1 r2 : Prop} {w W w2 : World} (h : Aside0 q) (g0 : Aside0 r0) (g1 : Aside0 r1) (g2 : Aside0 r2) (k : Below W.heap.size W w2) (z : q → r0 → r1 → r2 → Below w.heap.size w W := by intro h_ i0_ i1_ i2_; repeat (first | (with_reducible first | exact h_ | apply below_alloc | apply pw_below_drewN | apply below_drew1 | refine below_set ?_ i0_ | refine below_set ?_ i1_ | refine below_set ?_ i2_) | exact h_)) : Aside0 (Below w.heap.size w w2) := ⟨below_step (z h.out g0.out g1.out g2.out) k⟩
theorem hS4 {q r0 r1 r2 r3 : Prop} {w W w2 : World} (h : Aside0 q) (g0 : Aside0 r0) (g1 : Aside0 r1) (g2 : Aside0 r2) (g3 : Aside0 r3) (k : Below W.heap.size W w2) (z : q → r0 → r1 → r2 → r3 → Below w.heap.size w W := by intro h_ i0_ i1_ i2_ i3_; repeat (first | (with_reducible first | exact h_ | apply below_alloc | apply pw_below_drewN | apply below_drew1 | refine below_set ?_ i0_ | refine below_set ?_ i1_ | refine below_set ?_ i2_ | refine below_set ?_ i3_) | exact h_)) : Aside0 (Below w.heap.size w w2) := ⟨below_step (z h.out g0.out g1.out g2.out g3.out) k⟩
theorem hS5 {q r0 r1 r2 r3 r4 : Prop} {w W w2 : World} (h : Aside0 q) (g0 : Aside0 r0) (g1 : Aside0 r1) (g2 : Aside0 r2) (g3 : Aside0 r3) (g4 : Aside0 r4) (k : Below W.heap.size W w2) (z : q → r0 → r1 → r2 → r3 → r4 → Below w.heap.size w W := by intro h_ i0_ i1_ i2_ i3_ i4_; repeat (first | (with_reducible first | exact h_ | apply below_alloc | apply pw_below_drewN | apply below_drew1 | refine below_set ?_ i0_ | refine below_set ?_ i1_ | refine below_set ?_ i2_ | refine below_set ?_ i3_ | refine below_set ?_ i4_) | exact h_)) : Aside0 (Below w.heap.size w w2) := ⟨below_step (z h.out g0.out g1.out g2.out g3.out g4.out) k⟩
theorem hS6 {q r0 r1 r2 r3 r4 r5 : Prop} {w W w2 : World} (h : Aside0 q) (g0 : Aside0 r0) (g1 : Aside0 r1) (g2 : Aside0 r2) (g3 : Aside0 r3) (g4 : Aside0 r4) (g5 : Aside0 r5) (k : Below W.heap.size W w2) (z : q → r0 → r1 → r2 → r3 → r4 → r5 → Below w.heap.size w W := by intro h_ i0_ i1_ i2_ i3_ i4_ i5_; repeat (first | (with_reducible first | exact h_ | apply below_alloc | apply pw_below_drewN | apply below_drew1 | refine below_set ?_ i0_ | refine below_set ?_ i1_ | refine below_set ?_ i2_ | refine below_set ?_ i3_ | refine below_set ?_ i4_ | refine below_set ?_ i5_) | exact h_)) : Aside0 (Below w.heap.size w w2) := ⟨below_step (z h.out g0.out g1.out g2.out g3.out g4.out g5.out) k⟩
theorem gE {w W : World} {g : Nat} (hg : g = W.heap.size) (h : Below w.heap.size w W) : Aside0 (w.heap.size ≤ g) := ⟨by rw [hg]; exact below_size h⟩
theorem eW {p : Prop} (k : p := by first | rfl | (simp [errW_none, errW_some] <;> rfl) | (simp [*, errW_none, errW_some] <;> rfl)) : p := k
section
variable {α : Type} {d : Kd α} {e t g base n : Nat} {w0 w W w1 W1 : World} {ok ok' : Nat → Prop} {v : Value} {xs : List α} {cs : Array Value} {A : Option Addr}
theorem rW (h : d.R e W1 W.heap.size ok v xs) (b : Below w.heap.size w W) : Aside0 (d.R e W1 w.heap.size ok v xs) := ⟨Kd.R_lower h (below_size b)⟩
theorem kG (h : Aside0 (w0.heap[g]? = some (.cells cs t (0, 0)))) (hg : W.grownBy w1 v.ownBlock) (ho : Aside0 (d.R e w0 base ok v xs)) (k : w0.heap[g]? = some (.cells cs t (0, 0)) → W.heap[g]? = some (.cells cs t (0, 0)) := by intro h_; (with_reducible repeat (first | refine blk_drewN ?_ _ | refine blk_drew ?_ | refine blk_alloc ?_ _)); exact h_) (ht : e ≠ t := by decide) : Aside0 (w1.heap[g]? = some (.cells cs t (0, 0))) := ⟨blk_grown (k h.out) hg (Kd.R_ne ho.out h.out ht)⟩
theorem cB (h : Aside0 (d.C w A n xs)) (hb : Aside0 (Below w.heap.size w W)) (k : d.C W A n xs → d.C w1 A n xs := by intro h_; repeat (first | exact h_ | (with_reducible refine Kd.C_alloc ?_ _) | (with_reducible refine Kd.C_drewN ?_ _) | (with_reducible refine Kd.C_drew ?_))) : d.C w1 A n xs := k (Kd.C_below h.out hb.out)
theorem rX (h : Aside0 (d.R e w base ok v xs)) (b : Aside0 (w.heap[g]? = some (.cells cs t (0, 0)))) (hb : Below W.heap.size W w1) (k : d.R e w base (fun k => ok k ∧ k ≠ g) v xs → d.R e W base (fun k => ok k ∧ k ≠ g) v xs := by intro h_; repeat (first | with_reducible exact h_ | (with_reducible first | apply Kd.R_alloc | apply Kd.R_drewN | apply Kd.R_drew) | refine Kd.R_far ?_ (fun _ hk => hk.2) _)) (ht : ∀ q, q ∈ e :: d.E → q ≠ t := by decide) : Aside0 (d.R e w1 base ok v xs) := ⟨Kd.R_below (Kd.R_mono (k (Kd.R_types h.out b.out ht)) (fun _ h_ => h_.1)) hb⟩
theorem rY (h : Aside0 (d.R e w base ok v xs)) (b : Aside0 (w.heap[g]? = some (.cells cs t (0, 0)))) (k : d.R e w base (fun k => ok k ∧ k ≠ g) v xs → d.R e W base (fun k => ok k ∧ k ≠ g) v xs := by intro h_; repeat (first | with_reducible exact h_ | (with_reducible first | apply Kd.R_alloc | apply Kd.R_drewN | apply Kd.R_drew) | refine Kd.R_far ?_ (fun _ hk => hk.2) _)) (ht : ∀ q, q ∈ e :: d.E → q ≠ t := by decide) : d.R e W base ok v xs := Kd.R_mono (k (Kd.R_types h.out b.out ht)) (fun _ h_ => h_.1)
theorem kX1 {g' : Nat} (h : Aside0 (w0.heap[g]? = some (.cells cs t (0, 0)))) (n1 : Aside0 (g ≠ g')) (hb : Below W.heap.size W w1) (k : w0.heap[g]? = some (.cells cs t (0, 0)) → g ≠ g' → W.heap[g]? = some (.cells cs t (0, 0)) := by intro h_ n_; repeat (first | with_reducible exact h_ | (with_reducible first | refine blk_drewN ?_ _ | refine blk_drew ?_ | refine blk_alloc ?_ _) | refine blk_far ?_ n_ _)) : Aside0 (w1.heap[g]? = some (.cells cs t (0, 0))) := ⟨blk_below (k h.out n1.out) hb⟩
theorem kX2 {g' g2 : Nat} (h : Aside0 (w0.heap[g]? = some (.cells cs t (0, 0)))) (n1 : Aside0 (g ≠ g')) (n2 : Aside0 (g ≠ g2)) (hb : Below W.heap.size W w1) (k : w0.heap[g]? = some (.cells cs t (0, 0)) → g ≠ g' → g ≠ g2 → W.heap[g]? = some (.cells cs t (0, 0)) := by intro h_ n_ m_; repeat (first | with_reducible exact h_ | (with_reducible first | refine blk_drewN ?_ _ | refine blk_drew ?_ | refine blk_alloc ?_ _) | refine blk_far ?_ n_ _ | refine blk_far ?_ m_ _)) : Aside0 (w1.heap[g]? = some (.cells cs t (0, 0))) := ⟨blk_below (k h.out n1.out n2.out) hb⟩
end
section
variable {g t : Nat} {w0 W w1 : World} {a0 a1 a2 a3 a4 u0 u1 u2 u3 u4 : Value}
theorem kP2 (h : Aside0 (w0.heap[g]? = some (.cells #[a0, a1] t (0, 0)))) (hb : Below W.heap.size W w1) (k : w0.heap[g]? = some (.cells #[a0, a1] t (0, 0)) → W.heap[g]? = some (.cells #[u0, u1] t (0, 0)) := by intro h_; (with_reducible repeat (first | refine blk_drewN ?_ _ | refine blk_drew ?_ | refine blk_alloc ?_ _)); exact blk_put (blk_put h_ 0 _ rfl) 1 _ rfl) : Aside0 (w1.heap[g]? = some (.cells #[u0, u1] t (0, 0))) := ⟨blk_below (k h.out) hb⟩
theorem kP3 (h : Aside0 (w0.heap[g]? = some (.cells #[a0, a1, a2] t (0, 0)))) (hb : Below W.heap.size W w1) (k : w0.heap[g]? = some (.cells #[a0, a1, a2] t (0, 0)) → W.heap[g]? = some (.cells #[u0, u1, u2] t (0, 0)) := by intro h_; (with_reducible repeat (first | refine blk_drewN ?_ _ | refine blk_drew ?_ | refine blk_alloc ?_ _)); exact blk_put (blk_put (blk_put h_ 0 _ rfl) 1 _ rfl) 2 _ rfl) : Aside0 (w1.heap[g]? = some (.cells #[u0, u1, u2] t (0, 0))) := ⟨blk_below (k h.out) hb⟩
end
section
variable {P : Program} {ops : Array Oper} {rest : List Oper} {o : Oper} {a : Act} {Q : Exit → Act → World → Prop} {Kc : Act → World → Prop} {W : World} {cs : Array Value} {t : TypeId}
theorem bs_ (h : ∀ g, g = W.heap.size → ∀ w1, w1.heap[g]? = some (.cells cs t (0, 0)) → Below W.heap.size W w1 → Kc (a.put o.dst (.pointer (some ⟨g, 0, none⟩))) w1) (hw : Region.wanted o (yielded ops a.tmps) = true := by rfl)
    (hrun : (execOp a.eval o).run P W = .ok (.value (.pointer (some ⟨W.heap.size, 0, none⟩))) (W.alloc (.cells cs t (0, 0))) := by first | (go_simp; done) | (go_simp; rfl)) : if Region.wanted o (yielded ops a.tmps) = true then Oper.wp P o a W Kc Q else Kc (a.put o.dst undef) W := event_step hw hrun (h _ rfl _ (blk_new W _) (below_alloc (Below.refl _ _) _))
theorem be_ (h : ∀ g, g = W.heap.size → ∀ w1, w1.heap[g]? = some (.cells cs t (0, 0)) → Below W.heap.size W w1 → wpList P ops Q rest (a.put o.dst (.pointer (some ⟨g, 0, none⟩))) w1) (hgd : o.guard = none := by rfl)
    (hrun : (execOp a.eval o).run P W = .ok (.value (.pointer (some ⟨W.heap.size, 0, none⟩))) (W.alloc (.cells cs t (0, 0))) := by first | (go_simp; done) | (go_simp; rfl)) : wpList P ops Q (o :: rest) a W := Kd.event_run hgd hrun (h _ rfl _ (blk_new W _) (below_alloc (Below.refl _ _) _))
theorem lt_ {α : Type} (d : Kd α) (e : Nat) (N : Tmp) (xs : List α) (inner : List Value) (hrep : Reps (d.M W W.heap.size fun _ => True) d.sz xs inner) (h : ∀ v1 w1, d.R e w1 W.heap.size (fun _ => True) v1 xs → Below W.heap.size W w1 → Kc (a.put o.dst v1) w1) (hw : Region.wanted o (yielded ops a.tmps) = true := by rfl) (hd : o.dst = some N := by rfl)
    (hrun : (execOp a.eval o).run P W = .ok (.value (.slice (some ⟨W.heap.size, 0, none⟩) xs.length xs.length)) (W.alloc (.cells inner.toArray e)) := by first | (go_simp; done) | (go_simp; rfl)) (hm : xs.length ≤ 9223372036854775807 := by simp) : if Region.wanted o (yielded ops a.tmps) = true then Oper.wp P o a W Kc Q else Kc (a.put o.dst undef) W :=
  Kd.R_lit_step d (w0 := W) W.heap.size e hw hd hrun hrep (fun _ hk => hk) trivial (Below.refl _ _) (Nat.le_refl _) hm (fun v1 w1 h1 h2 _ _ => h v1 w1 h1 h2)
end
theorem lA {α : Type} {f g : Option α} (h : f = g := by with_reducible rfl) : LeO f g := h ▸ LeO.refl _
theorem dN {p : Prop} (k : p := by first | exact ⟨rfl, _, World.drewN_drewN _ _ _⟩ | exact ⟨rfl, _, Eq.trans (World.drewN_drewN _ _ _) (congrArg (World.drewN _) (Nat.add_assoc _ _ _))⟩) : p := k
theorem sI {p : Prop} (k : p := by first | rfl | (simp; done) | (simp [*]; done)) : p := k
theorem cX {w W : World} {a : Addr} {v : Value} (hb : Aside0 (Below w.heap.size w W)) (h : w.cell? a = some v) : W.cell? a = some v := (hb.out.cell (World.block_lt_of_cell? w _ h)).trans h
theorem bq {α : Type} [BEq α] [LawfulBEq α] {x y : α} (h : x = y) : (x == y) = true ∧ (x != y) = false := ⟨beq_iff_eq.mpr h, bne_eq_false_iff_eq.mpr h⟩
theorem bn {α : Type} [BEq α] [LawfulBEq α] {x y : α} (h : ¬ x = y) : (x == y) = false ∧ (x != y) = true := ⟨beq_eq_false_iff_ne.mpr h, bne_iff_ne.mpr h⟩
theorem rH {α : Type} {x y : α} {p q : Prop} (e : x = y) (h : p) (k : x = y → p → q := by intro e_ H; first | (rw [e_]; with_reducible exact H) | (have H2_ := (Option.bind_some _ _).symm.trans H; rw [e_]; with_reducible exact H2_) | (have H2_ := (Option.bind_some _ _).symm.trans H; with_reducible exact H2_) | with_reducible exact H | (rw [e_]; exact H) | exact H) : q := k e h
theorem kN {g g' t : Nat} {w0 W : World} {cs : Array Value} (h : Aside0 (w0.heap[g]? = some (.cells cs t (0, 0)))) (n1 : Aside0 (g ≠ g')) (k : w0.heap[g]? = some (.cells cs t (0, 0)) → g ≠ g' → W.heap[g]? = some (.cells cs t (0, 0)) := by intro h_ n_; repeat (first | with_reducible exact h_ | (with_reducible first | refine blk_drewN ?_ _ | refine blk_drew ?_ | refine blk_alloc ?_ _) | refine blk_far ?_ n_ _)) : W.heap[g]? = some (.cells cs t (0, 0)) := k h.out n1.out
theorem lI {α : Type} {c : Prop} [Decidable c] {a a' b b' : Option α} (h : LeO a a') (k : LeO b b') : LeO (if c then a else b) (if c then a' else b') := LeO.ite h k
theorem lB {α β : Type} {a a' : Option α} {f f' : α → Option β} (h : LeO a a') (k : ∀ x, LeO (f x) (f' x)) : LeO (a.bind f) (a'.bind f') := LeO.bind h k
theorem lN {α : Type} (b : Option α) : LeO Option.none b := LeO.none b
end Go.Proofs.YthgoonohpfoagaaW.PrintWords
namespace Go.Proofs.YthgoonohpfoagaaW.PrintLast
open Go.RowKit Go.Proofs.YthgoonohpfoagaaW.PrintWords
section
variable {P : Program} {ops : Array Oper} {Q : Exit → Act → World → Prop} {md : Region.Mode} {S : World → Prop} {ds : List Nat} {T : Bool × List (List Nat × List Nat)} {B : List Nat} {oi : Oper} {v : Value} {fuel : Nat} {l : Array Bool} {a a' : Act} {w : World}
theorem pu_ (i : Nat) (N : Tmp) (l' : Array Bool) (hT : Aside0 (rtab md ops = T)) (h : wpAnyLast P md ops Q S ds fuel l' a' w) (hi : ops[i]? = some oi := by rfl) (hN : oi.dst = some N := by rfl) (hc : anyT T l.toList l'.toList i = true := by kernel_rfl)
    (hQ : ∀ c a w, Q (.panic c) (a.put oi.dst v) w → Q (.panic c) a w := by exact fun _ _ _ h => h) (hy : Yields P ops oi v a := by refine Or.inl ⟨by rfl, ?_⟩; intro w'; go_simp; with_reducible rfl) (ha : a.put (some N) v = a' := by simp only [Act.put, sA, sB, sC, i64_w, i32_w]; rfl) :
    wpAnyLast P md ops Q S ds (fuel + 1) l a w := pure_ l' hi hN (any_of hT.out hc) hQ hy ha h
theorem pn_ (i : Nat) (N : Tmp) (l' : Array Bool) (hT : Aside0 (rtab md ops = T)) (h : wpAnyLast P md ops Q S ds fuel l' a' w) (hi : ops[i]? = some oi := by rfl) (hN : oi.dst = some N := by rfl) (hc : anyT T l.toList l'.toList i = true := by kernel_rfl)
    (hQ : ∀ c a w, Q (.panic c) (a.put oi.dst undef) w → Q (.panic c) a w := by exact fun _ _ _ h => h) (hy : Yields P ops oi undef a := by exact Or.inr ⟨by rfl, rfl⟩) (ha : a.put (some N) undef = a' := by simp only [Act.put, sA, sB, sC, i64_w, i32_w]; rfl) :
    wpAnyLast P md ops Q S ds (fuel + 1) l a w := pure_ l' hi hN (any_of hT.out hc) hQ hy ha h
theorem nm_ {a0 : Act} (N : Tmp) (h : wpAnyLast P md ops Q S ds fuel l a' w) (ha : a0.put (some N) v = a' := by simp only [Act.put, sA, sB, sC, i64_w, i32_w]; rfl) : wpAnyLast P md ops Q S ds fuel l (a0.put (some N) v) w := norm_ ha h
theorem tk2_ (i : Nat) (N : Tmp) (l' : Array Bool) (hT : Aside0 (rtab md ops = T)) (hW : Aside0 (waitsOk T.2 B = true)) (hS : S w) (h : wpAnyLast P md ops Q S ds fuel l' a' w) (hi : ops[i]? = some oi := by rfl) (hN : oi.dst = some N := by rfl) (hc : takeW T B ds l.toList l'.toList i = true := by kernel_rfl)
    (hQ : ∀ c a w, Q (.panic c) (a.put oi.dst v) w → Q (.panic c) a w := by exact fun _ _ _ h => h) (hy : YieldsIf P ops S oi v a := by refine Or.inl ⟨by rfl, ?_⟩; rintro w' ⟨s0, s1⟩; go_simp; with_reducible rfl) (ha : a.put (some N) v = a' := by simp only [Act.put, sA, sB, sC, i64_w, i32_w]; rfl) :
    wpAnyLast P md ops Q S ds (fuel + 1) l a w := take_ l' hi hN (take_ofW hT.out hW.out hc) hQ hy hS ha h
theorem tk3_ (i : Nat) (N : Tmp) (l' : Array Bool) (hT : Aside0 (rtab md ops = T)) (hW : Aside0 (waitsOk T.2 B = true)) (hS : S w) (h : wpAnyLast P md ops Q S ds fuel l' a' w) (hi : ops[i]? = some oi := by rfl) (hN : oi.dst = some N := by rfl) (hc : takeW T B ds l.toList l'.toList i = true := by kernel_rfl)
    (hQ : ∀ c a w, Q (.panic c) (a.put oi.dst v) w → Q (.panic c) a w := by exact fun _ _ _ h => h) (hy : YieldsIf P ops S oi v a := by refine Or.inl ⟨by rfl, ?_⟩; rintro w' ⟨s0, s1, s2⟩; go_simp; with_reducible rfl) (ha : a.put (some N) v = a' := by simp only [Act.put, sA, sB, sC, i64_w, i32_w]; rfl) :
    wpAnyLast P md ops Q S ds (fuel + 1) l a w := take_ l' hi hN (take_ofW hT.out hW.out hc) hQ hy hS ha h
theorem tk4_ (i : Nat) (N : Tmp) (l' : Array Bool) (hT : Aside0 (rtab md ops = T)) (hW : Aside0 (waitsOk T.2 B = true)) (hS : S w) (h : wpAnyLast P md ops Q S ds fuel l' a' w) (hi : ops[i]? = some oi := by rfl) (hN : oi.dst = some N := by rfl) (hc : takeW T B ds l.toList l'.toList i = true := by kernel_rfl)
    (hQ : ∀ c a w, Q (.panic c) (a.put oi.dst v) w → Q (.panic c) a w := by exact fun _ _ _ h => h) (hy : YieldsIf P ops S oi v a := by refine Or.inl ⟨by rfl, ?_⟩; rintro w' ⟨s0, s1, s2, s3⟩; go_simp; with_reducible rfl) (ha : a.put (some N) v = a' := by simp only [Act.put, sA, sB, sC, i64_w, i32_w]; rfl) :
    wpAnyLast P md ops Q S ds (fuel + 1) l a w := take_ l' hi hN (take_ofW hT.out hW.out hc) hQ hy hS ha h
theorem tk5_ (i : Nat) (N : Tmp) (l' : Array Bool) (hT : Aside0 (rtab md ops = T)) (hW : Aside0 (waitsOk T.2 B = true)) (hS : S w) (h : wpAnyLast P md ops Q S ds fuel l' a' w) (hi : ops[i]? = some oi := by rfl) (hN : oi.dst = some N := by rfl) (hc : takeW T B ds l.toList l'.toList i = true := by kernel_rfl)
    (hQ : ∀ c a w, Q (.panic c) (a.put oi.dst v) w → Q (.panic c) a w := by exact fun _ _ _ h => h) (hy : YieldsIf P ops S oi v a := by refine Or.inl ⟨by rfl, ?_⟩; rintro w' ⟨s0, s1, s2, s3, s4⟩; go_simp; with_reducible rfl) (ha : a.put (some N) v = a' := by simp only [Act.put, sA, sB, sC, i64_w, i32_w]; rfl) :
    wpAnyLast P md ops Q S ds (fuel + 1) l a w := take_ l' hi hN (take_ofW hT.out hW.out hc) hQ hy hS ha h
theorem tk6_ (i : Nat) (N : Tmp) (l' : Array Bool) (hT : Aside0 (rtab md ops = T)) (hW : Aside0 (waitsOk T.2 B = true)) (hS : S w) (h : wpAnyLast P md ops Q S ds fuel l' a' w) (hi : ops[i]? = some oi := by rfl) (hN : oi.dst = some N := by rfl) (hc : takeW T B ds l.toList l'.toList i = true := by kernel_rfl)
    (hQ : ∀ c a w, Q (.panic c) (a.put oi.dst v) w → Q (.panic c) a w := by exact fun _ _ _ h => h) (hy : YieldsIf P ops S oi v a := by refine Or.inl ⟨by rfl, ?_⟩; rintro w' ⟨s0, s1, s2, s3, s4, s5⟩; go_simp; with_reducible rfl) (ha : a.put (some N) v = a' := by simp only [Act.put, sA, sB, sC, i64_w, i32_w]; rfl) :
    wpAnyLast P md ops Q S ds (fuel + 1) l a w := take_ l' hi hN (take_ofW hT.out hW.out hc) hQ hy hS ha h
end
section
variable {P : Program} {ops : Array Oper} {Q : Exit → Act → World → Prop} {rest : List Oper} {oi : Oper} {a : Act} {w : World} {f : FuncId} {fn : Func} {as : Array Operand} {ts : Array TypeId}
theorem gL_ (N : Option Tmp) (hf : P.funcs[f]? = some fn) (args : Array Value) (h : Calls P f args w fun e w' => ∃ v, e = .returned v ∧ wpList P ops Q rest (a.put N v) w') (hd : oi.dst = N := by rfl) (hg : oi.guard = none := by rfl) (hname : (fn.name == "runtime.NumGoroutine") = false := by kernel_rfl) (hb : fn.body.isSome = true := by rfl)
    (hop : oi.op = .call { callee := .value (.func f), args := as, argTypes := ts } := by rfl) (hargs : as.map a.eval = args := by (try simp only [List.map_toArray, List.map_cons, List.map_nil]); first | done | rfl | (simp only [List.length_drop, List.length_take]; rfl)) : wpList P ops Q (oi :: rest) a w := goesL_ N hd hg hf hname hb args hop hargs h
theorem gS_ {N : Option Tmp} {K : Act → World → Prop} (hf : P.funcs[f]? = some fn) (args : Array Value) (h : Calls P f args w fun e w' => ∃ v, e = .returned v ∧ K (a.put N v) w') (hname : (fn.name == "runtime.NumGoroutine") = false := by kernel_rfl) (hb : fn.body.isSome = true := by rfl) (hw : Region.wanted oi (yielded ops a.tmps) = true := by rfl) (hN : oi.dst = N := by rfl)
    (hop : oi.op = .call { callee := .value (.func f), args := as, argTypes := ts } := by rfl) (hargs : as.map a.eval = args := by (try simp only [List.map_toArray, List.map_cons, List.map_nil]); first | done | rfl | (simp only [List.length_drop, List.length_take]; rfl)) : if Region.wanted oi (yielded ops a.tmps) = true then Oper.wp P oi a w K Q else K (a.put N undef) w := goes_ hf hname hb args hw hN hop hargs h
end
theorem rQ {q p : Prop} (h : Aside0 q) (k : q → p := by intro h_; (with_reducible repeat (first | apply Kd.R_alloc | apply Kd.R_drewN | apply Kd.R_drew)); exact h_) : Aside0 p := ⟨k h.out⟩
theorem rP {q p : Prop} (h : Aside0 q) (k : q → p := by intro h_; (with_reducible repeat (first | apply Kd.R_alloc | apply Kd.R_drewN | apply Kd.R_drew)); exact h_) : p := k h.out
theorem kQ {q p : Prop} (h : Aside0 q) (k : q → p := by intro h_; (with_reducible repeat (first | refine blk_drewN ?_ _ | refine blk_drew ?_ | refine blk_alloc ?_ _)); exact h_) : Aside0 p := ⟨k h.out⟩
theorem bT0 {q p : Prop} (h : Aside0 q) (k : q → p := by intro h_; repeat (first | (with_reducible first | exact h_ | apply below_alloc | apply pw_below_drewN | apply below_drew1) | exact h_)) : Aside0 p := ⟨k h.out⟩
theorem bP0 {q p : Prop} (h : Aside0 q) (k : q → p := by intro h_; repeat (first | (with_reducible first | exact h_ | apply below_alloc | apply pw_below_drewN | apply below_drew1) | exact h_)) : p := k h.out
theorem bT1 {q p r0 : Prop} (h : Aside0 q) (g0 : Aside0 r0) (k : q → r0 → p := by intro h_ i0_; repeat (first | (with_reducible first | exact h_ | apply below_alloc | apply pw_below_drewN | apply below_drew1 | refine below_set ?_ i0_) | exact h_)) : Aside0 p := ⟨k h.out g0.out⟩
theorem bP1 {q p r0 : Prop} (h : Aside0 q) (g0 : Aside0 r0) (k : q → r0 → p := by intro h_ i0_; repeat (first | (with_reducible first | exact h_ | apply below_alloc | apply pw_below_drewN | apply below_drew1 | refine below_set ?_ i0_) | exact h_)) : p := k h.out g0.out
theorem bT2 {q p r0 r1 : Prop} (h : Aside0 q) (g0 : Aside0 r0) (g1 : Aside0 r1) (k : q → r0 → r1 → p := by intro h_ i0_ i1_; repeat (first | (with_reducible first | exact h_ | apply below_alloc | apply pw_below_drewN | apply below_drew1 | refine below_set ?_ i0_ | refine below_set ?_ i1_) | exact h_)) : Aside0 p := ⟨k h.out g0.out g1.out⟩
theorem bP2 {q p r0 r1 : Prop} (h : Aside0 q) (g0 : Aside0 r0) (g1 : Aside0 r1) (k : q → r0 → r1 → p := by intro h_ i0_ i1_; repeat (first | (with_reducible first | exact h_ | apply below_alloc | apply pw_below_drewN | apply below_drew1 | refine below_set ?_ i0_ | refine below_set ?_ i1_) | exact h_)) : p := k h.out g0.out g1.out
theorem bT3 {q p r0 r1 r2 : Prop} (h : Aside0 q) (g0 : Aside0 r0) (g1 : Aside0 r1) (g2 : Aside0 r2) (k : q → r0 → r1 → r2 → p := by intro h_ i0_ i1_ i2_; repeat (first | (with_reducible first | exact h_ | apply below_alloc | apply pw_below_drewN | apply below_drew1 | refine below_set ?_ i0_ | refine below_set ?_ i1_ | refine below_set ?_ i2_) | exact h_)) : Aside0 p := ⟨k h.out g0.out g1.out g2.out⟩
theorem bP3 {q p r0 r1 r2 : Prop} (h : Aside0 q) (g0 : Aside0 r0) (g1 : Aside0 r1) (g2 : Aside0 r2) (k : q → r0 → r1 → r2 → p := by intro h_ i0_ i1_ i2_; repeat (first | (with_reducible first | exact h_ | apply below_alloc | apply pw_below_drewN | apply below_drew1 | refine below_set ?_ i0_ | refine below_set ?_ i1_ | refine below_set ?_ i2_) | exact h_)) : p := k h.out g0.out g1.out g2.out
theorem bT4 {q p r0 r1 r2 r3 : Prop} (h : Aside0 q) (g0 : Aside0 r0) (g1 : Aside0 r1) (g2 : Aside0 r2) (g3 : Aside0 r3) (k : q → r0 → r1 → r2 → r3 → p := by intro h_ i0_ i1_ i2_ i3_; repeat (first | (with_reducible first | exact h_ | apply below_alloc | apply pw_below_drewN | apply below_drew1 | refine below_set ?_ i0_ | refine below_set ?_ i1_ | refine below_set ?_ i2_ | refine below_set ?_ i3_) | exact h_)) : Aside0 p := ⟨k h.out g0.out g1.out g2.out g3.out⟩
theorem bP4 {q p r0 r1 r2 r3 : Prop} (h : Aside0 q) (g0 : Aside0 r0) (g1 : Aside0 r1) (g2 : Aside0 r2) (g3 : Aside0 r3) (k : q → r0 → r1 → r2 → r3 → p := by intro h_ i0_ i1_ i2_ i3_; repeat (first | (with_reducible first | exact h_ | apply below_alloc | apply pw_below_drewN | apply below_drew1 | refine below_set ?_ i0_ | refine below_set ?_ i1_ | refine below_set ?_ i2_ | refine below_set ?_ i3_) | exact h_)) : p := k h.out g0.out g1.out g2.out g3.out
theorem bT5 {q p r0 r1 r2 r3 r4 : Prop} (h : Aside0 q) (g0 : Aside0 r0) (g1 : Aside0 r1) (g2 : Aside0 r2) (g3 : Aside0 r3) (g4 : Aside0 r4) (k : q → r0 → r1 → r2 → r3 → r4 → p := by intro h_ i0_ i1_ i2_ i3_ i4_; repeat (first | (with_reducible first | exact h_ | apply below_alloc | apply pw_below_drewN | apply below_drew1 | refine below_set ?_ i0_ | refine below_set ?_ i1_ | refine below_set ?_ i2_ | refine below_set ?_ i3_ | refine below_set ?_ i4_) | exact h_)) : Aside0 p := ⟨k h.out g0.out g1.out g2.out g3.out g4.out⟩
theorem bP5 {q p r0 r1 r2 r3 r4 : Prop} (h : Aside0 q) (g0 : Aside0 r0) (g1 : Aside0 r1) (g2 : Aside0 r2) (g3 : Aside0 r3) (g4 : Aside0 r4) (k : q → r0 → r1 → r2 → r3 → r4 → p := by intro h_ i0_ i1_ i2_ i3_ i4_; repeat (first | (with_reducible first | exact h_ | apply below_alloc | apply pw_below_drewN | apply below_drew1 | refine below_set ?_ i0_ | refine below_set ?_ i1_ | refine below_set ?_ i2_ | refine below_set ?_ i3_ | refine below_set ?_ i4_) | exact h_)) : p := k h.out g0.out g1.out g2.out g3.out g4.out
theorem bT6 {q p r0 r1 r2 r3 r4 r5 : Prop} (h : Aside0 q) (g0 : Aside0 r0) (g1 : Aside0 r1) (g2 : Aside0 r2) (g3 : Aside0 r3) (g4 : Aside0 r4) (g5 : Aside0 r5) (k : q → r0 → r1 → r2 → r3 → r4 → r5 → p := by intro h_ i0_ i1_ i2_ i3_ i4_ i5_; repeat (first | (with_reducible first | exact h_ | apply below_alloc | apply pw_below_drewN | apply below_drew1 | refine below_set ?_ i0_ | refine below_set ?_ i1_ | refine below_set ?_ i2_ | refine below_set ?_ i3_ | refine below_set ?_ i4_ | refine below_set ?_ i5_) | exact h_)) : Aside0 p := ⟨k h.out g0.out g1.out g2.out g3.out g4.out g5.out⟩
theorem bP6 {q p r0 r1 r2 r3 r4 r5 : Prop} (h : Aside0 q) (g0 : Aside0 r0) (g1 : Aside0 r1) (g2 : Aside0 r2) (g3 : Aside0 r3) (g4 : Aside0 r4) (g5 : Aside0 r5) (k : q → r0 → r1 → r2 → r3 → r4 → r5 → p := by intro h_ i0_ i1_ i2_ i3_ i4_ i5_; repeat (first | (with_reducible first | exact h_ | apply below_alloc | apply pw_below_drewN | apply below_drew1 | refine below_set ?_ i0_ | refine below_set ?_ i1_ | refine below_set ?_ i2_ | refine below_set ?_ i3_ | refine below_set ?_ i4_ | refine below_set ?_ i5_) | exact h_)) : p := k h.out g0.out g1.out g2.out g3.out g4.out g5.out
theorem bD2 {W : World} {g t : Nat} {v0 v1 : Value} (h : Aside0 (W.heap[g]? = some (.cells #[v0, v1] t (0, 0)))) : W.cell? ⟨g, 0, none⟩ = some v0 ∧ W.cell? ⟨g, 1, none⟩ = some v1 := bC2 h.out
theorem bG2 {W : World} {g t : Nat} {v0 v1 : Value} (h : Aside0 (W.heap[g]? = some (.cells #[v0, v1] t (0, 0)))) : W.cell? ⟨g, 0, none⟩ = some v0 ∧ W.cell? ⟨g, 1, none⟩ = some v1 ∧ W.frozen? ⟨g, 0, none⟩ = false ∧ W.frozen? ⟨g, 1, none⟩ = false := bF2 h.out
theorem bG3 {W : World} {g t : Nat} {v0 v1 v2 : Value} (h : Aside0 (W.heap[g]? = some (.cells #[v0, v1, v2] t (0, 0)))) : W.cell? ⟨g, 0, none⟩ = some v0 ∧ W.cell? ⟨g, 1, none⟩ = some v1 ∧ W.cell? ⟨g, 2, none⟩ = some v2 ∧ W.frozen? ⟨g, 0, none⟩ = false ∧ W.frozen? ⟨g, 1, none⟩ = false ∧ W.frozen? ⟨g, 2, none⟩ = false := bF3 h.out
theorem bG5 {W : World} {g t : Nat} {v0 v1 v2 v3 v4 : Value} (h : Aside0 (W.heap[g]? = some (.cells #[v0, v1, v2, v3, v4] t (0, 0)))) : W.cell? ⟨g, 0, none⟩ = some v0 ∧ W.cell? ⟨g, 1, none⟩ = some v1 ∧ W.cell? ⟨g, 2, none⟩ = some v2 ∧ W.cell? ⟨g, 3, none⟩ = some v3 ∧ W.cell? ⟨g, 4, none⟩ = some v4 ∧ W.frozen? ⟨g, 0, none⟩ = false ∧ W.frozen? ⟨g, 1, none⟩ = false ∧ W.frozen? ⟨g, 2, none⟩ = false ∧ W.frozen? ⟨g, 3, none⟩ = false ∧ W.frozen? ⟨g, 4, none⟩ = false := bF5 h.out
theorem aM {p : Prop} (h : p) : Aside0 p := ⟨h⟩
theorem nF : ¬ (false = true) := by decide
theorem rI {α β : Type} {x y : α} {f : α → Option β} {r : Option β} (e : y = x) (H : (some x).bind f = r) : f y = r := by subst e; exact H
theorem iN {c : Prop} [Decidable c] {α : Type} {a : Option α} {r : α} {G : Prop} (H : (if c then a else none) = some r) (k : c → a = some r → G) : G := by
  by_cases h : c
  · rw [if_pos h] at H; exact k h H
  · rw [if_neg h] at H; exact absurd H (by simp)
theorem iB {c : Prop} [Decidable c] {α : Type} {a b r : α} {G : Prop} (H : (if c then a else b) = r) (k1 : c → a = r → G) (k2 : ¬c → b = r → G) : G := by
  by_cases h : c
  · rw [if_pos h] at H; exact k1 h H
  · rw [if_neg h] at H; exact k2 h H
theorem iS {A A' : Option Addr} {n n' c c' : Nat} (h : Value.slice A n c = Value.slice A' n' c') : A' = A ∧ c' = c := by injection h with h1 h2 h3; exact ⟨h1.symm, h3.symm⟩
theorem lE {p : Prop} (k : p := by first | omega | exact Nat.le_refl _) : Aside0 p := ⟨k⟩
theorem oT {p : Prop} [Decidable p] (h : decide p = true) : p := of_decide_eq_true h
theorem dT {p : Prop} [Decidable p] (h : p) : decide p = true := decide_eq_true h
theorem dRw {w w' : World} (h : Drawn0 w w' := by repeat (first | exact Drawn0.refl _ | apply Drawn0.step)) : Drawn0 w w' := h
theorem eVl {p : Prop} (h : p := by first | rfl | (simp; done) | (simp [*]; done)) : p := h
section
variable {α β γ δ ε : Type}
theorem pE2 {a a' : α} {b b' : β} (h : some (a, b) = some (a', b')) : a = a' ∧ b = b' := by simpa using h
theorem pE3 {a a' : α} {b b' : β} {c c' : γ} (h : some (a, b, c) = some (a', b', c')) : a = a' ∧ b = b' ∧ c = c' := by simpa using h
theorem pE4 {a a' : α} {b b' : β} {c c' : γ} {d d' : δ} (h : some (a, b, c, d) = some (a', b', c', d')) : a = a' ∧ b = b' ∧ c = c' ∧ d = d' := by simpa using h
theorem pE5 {a a' : α} {b b' : β} {c c' : γ} {d d' : δ} {e e' : ε} (h : some (a, b, c, d, e) = some (a', b', c', d', e')) : a = a' ∧ b = b' ∧ c = c' ∧ d = d' ∧ e = e' := by simpa using h
theorem sJJ {a b : α} (h : some a = some b) : a = b := by injection h
theorem bSx {x : Option α} {f : α → Option β} {r : β} {G : Prop} (H : x.bind f = some r) (k : ∀ a, Aside0 (x = some a) → f a = some r → G) : G := by
  obtain ⟨a, h, g⟩ := Option.bind_eq_some_iff.mp H
  exact k a ⟨h⟩ g
end
theorem xAt {n : Int} {X : Int → Prop} (f : ∀ z : Int, 0 ≤ z → z < n → X z) (z : Int) (h : decide (0 ≤ z) = true := by first | (with_reducible assumption) | assumption) (k : decide (z < n) = true := by first | (with_reducible assumption) | assumption) : X z ∧ (0 ≤ z) = True ∧ (z < n) = True :=
  ⟨f z (of_decide_eq_true h) (of_decide_eq_true k), eq_true (of_decide_eq_true h), eq_true (of_decide_eq_true k)⟩
section
variable {α : Type} {d : Kd α} {e : TypeId} {w W : World} {base : Nat} {ok ok' : Nat → Prop} {v : Value} {xs : List α}
abbrev RA (d : Kd α) (e : TypeId) (w' w : World) (v : Value) (xs : List α) : Prop := Aside0 (d.R e w' w.heap.size (fun _ => True) v xs)
abbrev BA (w w' : World) : Prop := Aside0 (Below w.heap.size w w')
theorem rM (h : Aside0 (d.R e w base ok v xs)) (m : ∀ k, ok k → ok' k) (k : d.R e w base ok' v xs → d.R e W base ok' v xs := by intro h_; (with_reducible repeat (first | apply Kd.R_alloc | apply Kd.R_drewN | apply Kd.R_drew)); exact h_) : d.R e W base ok' v xs := k (Kd.R_mono h.out m)
theorem nW {x y : List α} (h : Aside0 (y = x)) (c : d.R e w base ok v x) : d.R e w base ok v y := h.out ▸ c
theorem rF (g i : Nat) (h : d.R e w base ok v xs) (hok : ∀ k, ok k → k ≠ g) (u : Value) : d.R e (w.setCell ⟨g, i, none⟩ u) base ok v xs := Kd.R_far (p := ⟨g, i, none⟩) h hok u
theorem sL (h : Aside0 (d.R e w base ok v xs)) : ∃ A c, v = .slice A xs.length c := Kd.R_slice h.out
theorem rR {A : Option Addr} {n c : Nat} (h : Aside0 (d.R e w base ok (.slice A n c) xs)) : n = xs.length ∧ n ≤ c ∧ d.C w A xs.length xs := Kd.R_reads' h.out
end
abbrev QQ := @Kd.V_mono
abbrev QW := @blk_cell
abbrev QX := @Kd.V_below
abbrev QY := @Kd.V_far
theorem QZ {α β : Type} {b : β} {o : Option α} {f : α → Option β} (h : o.bind f = some b) : ∃ a, o = some a ∧ f a = some b := Option.bind_eq_some_iff.mp h
abbrev QJ := @Kd.V_drew
abbrev QV := @Kd.V_alloc
abbrev QU := @Kd.V_drewN
abbrev QP := @Kd.V_reads'
abbrev QK := @cell_far
abbrev Qq := @Kd.freshB
abbrev Qx := @Option.some.inj
abbrev Qy := @blk_put
abbrev Qz := @blk_alloc
abbrev Qj := @blk_drewN
abbrev Qk := @Kd.own_blk
abbrev Qv := @below_size
abbrev Qu := @blk_drew
abbrev Qa := @gate_dst
abbrev Qb := @gate_callee
theorem Qc {b : Bool} (h : b ≠ true) : b = false := Bool.eq_false_iff.mpr h
abbrev Qd := @Nat.le_of_eq
abbrev Qe := @Kd.R_types
abbrev Qf := @Kd.R_away
abbrev Qg := @Below.refl
abbrev Qh := @Kd.V_slice
abbrev Qi := @Kd.R_typed
abbrev Ql := @Kd.N_alloc
abbrev Qm := @Kd.N_drewN
abbrev Qn := @Kd.N_drew
abbrev Qo := @Kd.R_apart'
abbrev Qp := @Kd.V_lower
abbrev Qr := @Kd.V_elderB
abbrev Qs := @pw_cell_below
abbrev Qt := @blk_frozen
abbrev Q0 := @add_block
abbrev Q1 := @Kd.N_mono
abbrev Q2 := @blk_far
abbrev Q3 := @Kd.C_below
abbrev Q4 := @Kd.R_drew
abbrev Q5 := @Kd.N_far
abbrev Q6 := @Kd.N_away
abbrev Q7 := @Kd.R_mono
abbrev Q8 := @blk_below
abbrev Q9 := @Kd.N_below
abbrev WQ := @Kd.R_lt
abbrev WW := @Kd.C_alloc
abbrev WX := @Kd.C_drewN
abbrev WY := @Kd.R_base
abbrev WZ := @Kd.R_over'
abbrev WJ := @Kd.C_drew
abbrev WV := @Kd.R_nil
abbrev WU := @Kd.R_alloc
abbrev WP := @Kd.R_drewN
abbrev WO := @Kd.N_typed
abbrev WK := @Kd.R_reads'
abbrev Wq := @Kd.R_elder'
abbrev Wx := @Kd.R_lit
abbrev Wy := @Kd.S_nil
abbrev Wz := @Kd.R_below
abbrev Wj := @Kd.N_elderB
abbrev Wk := @Kd.R_new'
abbrev Wv := @Kd.N_reads'
abbrev Wu := @Kd.N_nil
abbrev Wa := @Kd.V_nil
abbrev Wb := @Kd.Q_nil
abbrev Wc := @Kd.N_afterv
abbrev Wd := @Kd.R_append_rows
abbrev We := @blk_grown
abbrev Wf := @Kd.R_slice
abbrev Wg := @Kd.R_append_rows_step
abbrev Wh := @Kd.N_elder'
abbrev Wi := @Kd.N_slice
abbrev Wl := @Kd.FK_slice_mk
abbrev Wm := @Kd.R_celln
abbrev Wn := @Kd.R_newM
abbrev Wo := @Kd.R_append
abbrev Wp := @Kd.V_mk
end Go.Proofs.YthgoonohpfoagaaW.PrintLast
