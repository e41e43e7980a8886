/- What the functions of this seat compute, and that the program's calls come to just that: written by this session's own program out of the translation; no condition. -/
import Derived.Test.YthgoonohpfoagaaX0
import Derived.Test.YthgoonohpfoagaaX11
namespace Go.Proofs.Ythgoonohpfoagaa.X
open Go.RowKit Go.Proofs.YthgoonohpfoagaaW.PrintWords Go.Proofs.YthgoonohpfoagaaW.PrintLast Go.Proofs.YthgoonohpfoagaaW.PrintMore
attribute [local go_sem] max2_int min2_int max_two min_two max_three min_three max_four min_four
set_option linter.unusedVariables false
set_option linter.unusedSimpArgs false
set_option maxHeartbeats 8000000
set_option maxRecDepth 100000

-- NOT PRINTED: function 100 (canon_split_1)

/-! ### canon_dense: function 101 -/
/-- What is left of the list, the numbers told so far, the names. -/
def canon_dense.go : List Int → Nat → List Int → List Int → List Int × List Int
 | [], _, xs, ms => (xs, ms)
 | x :: l, j, xs, ms => canon_dense.go l (j + 1) (xs.set j ((num1 (names1 ms x) x : Nat) : Int)) (names1 ms x)
def canon_dense.f (l : List Int) : Option (List Int × Int) :=
 if l.length ≤ 35184372088832 then (if ∀ x ∈ l, (Lit.int .i64 x).wf = true then some ((canon_dense.go l 0 (List.replicate l.length 0) []).1, ((canon_dense.go l 0 (List.replicate l.length 0) []).2.length : Int)) else none) else none
theorem canon_dense.law : Go.Maps.Keyed Try.prog 3 := Go.Maps.int_keyed Try.underlying3
theorem canon_dense.zero (w : World) : (zeroValue 3).run Try.prog w = .ok (.int .i64 0) w := by kernel_rfl
theorem canon_dense.wf {n : Nat} (h : n ≤ 35184372088832) : (Lit.int .i64 (n : Int)).wf = true := by
 simp [Lit.wf, IntKind.min, IntKind.max, IntKind.signed, IntKind.bits]; omega
theorem canon_dense.calls (J : Option Addr) (L : Nat) (z : List Int) (M : List Int) (O : Int) (w : World) (E : Kd.C (Kd.int .i64) w J z.length z) (F : z.length ≤ L) (h : canon_dense.f z = some (M, O)) :
  Calls Try.prog 101 #[.slice J z.length L] w fun e w' => ∃ G : Value, e = .returned (.tuple #[G, .int .i64 O]) ∧ Kd.R (Kd.int .i64) 3 w' w.heap.size (fun _ => True) G M ∧ Below w.heap.size w w' := by
 unfold canon_dense.f at h
 by_cases A : z.length ≤ 35184372088832
 case neg => rw [if_neg A] at h; cases h
 by_cases B : ∀ x ∈ z, (Lit.int .i64 x).wf = true
 case neg => rw [if_pos A, if_neg B] at h; cases h
 rw [if_pos A, if_pos B] at h; obtain ⟨res, hres⟩ : ∃ res, res = canon_dense.go z 0 (List.replicate z.length 0) [] := ⟨_, rfl⟩; rw [← hres] at h; simp only [Option.some.injEq, Prod.mk.injEq] at h; obtain ⟨rfl, rfl⟩ := h; have HRES := aM hres.symm; clear hres; have P := aM E; have HW := aM B; have HL := aM A; have HC := aM F; have hmm := @run_makeMap Try.prog; have HN0 := aM (Names_.new Try.prog 3 3 (fun x : Int => Value.int .i64 x) w); have HB0 := aM (below_alloc (Below.refl w.heap.size w) (.map #[] 0)); clear E A B F
 go_enter Try.func101, Try.ntmps101
 go_wp2_with (((with_reducible refine gate_dst (N := 13) rfl ?_); refine Kd.R_make (Kd.int .i64) _ 3 rfl (N := 13) rfl 42 _ _ rfl (z.length : Int) rfl rfl Try.underlying42 (.int .i64 0) 8 info3 rfl (by decide) (by omega) 0 (ok := fun _ => True) (okp := fun _ => True) rfl (fun _ hk => hk) trivial (by omega) (by have := HL.out; omega) (Below.refl _ _) (Nat.le_refl _) ?_; intro V Z ho hb hg hnew; have HN := aM (Names_.kept HN0.out hg (by simp)); have HB := aM (below_step HB0.out hb); rw [Int.toNat_natCast] at ho; have HO := aM (Kd.R_mono (Kd.R_lower (base' := w.heap.size) (Kd.R_bound ho) (by simp)) (fun k hk => (show k ≠ w.heap.size from by have A := hk.2.1; simp at A; omega))); clear ho hb hg hnew HN0 HB0))
 go_loopw [16] (fun Q wr => ∃ (j : Nat) (xs ms : List Int) (D : DataW Unit), j ≤ z.length ∧ Q = .int .i64 j ∧ Aside0 (canon_dense.go (z.drop j) j xs ms = res) ∧ Aside0 (xs.length = z.length) ∧ Aside0 (ms.length ≤ j) ∧ Aside0 (Names_ Try.prog 3 3 (fun x : Int => Value.int .i64 x) wr w.heap.size ms D) ∧ Aside0 (Kd.R (Kd.int .i64) 3 wr w.heap.size (fun k => k ≠ w.heap.size) V xs) ∧ BA w wr) (fun i _ => z.length - (intOf i).toNat)
 case atStart => exact ⟨0, _, _, _, Nat.zero_le _, rfl, HRES, ⟨List.length_replicate⟩, ⟨Nat.le_refl _⟩, HN, HO, HB⟩
 case round =>
  clear HRES HN HO HB; obtain ⟨j, xs, ms, D, hj, rfl, HRES, HX, HM, HN, HO, HB⟩ := hrel
  by_cases c : j < z.length
  ·have hwx : (Lit.int .i64 z[j]).wf = true := HW.out _ (List.getElem_mem c); have hkey : keyOf Try.prog 3 (.int .i64 z[j]) = some (.int .i64 z[j]) := Go.Maps.keyOf_int_mk Try.underlying3 hwx; obtain ⟨ad, e, hx⟩ := Kd.at_int (Kd.C_below P.out HB.out) (j : Int) (by omega) (by omega)
   have hrd : rd z (j : Int) = z[j] := by simp [rd, List.getD_eq_getElem?_getD, List.getElem?_eq_getElem c]
   rw [hrd, Int.toNat_natCast] at hx; cases e; have cb : decide ((j : Int) < (z.length : Int)) = true := dT (by omega); obtain ⟨go, co, eo, gb, gl, cl, HG⟩ := Kd.R_form HO.out (by have := HX.out; omega); rw [HX.out] at eo; subst eo; obtain ⟨hy, hz⟩ := Kd.R_celln 0 HO.out (j : Int) (by omega) (by omega); rw [Int.toNat_natCast] at hy hz
   have hne : w.heap.size ≠ go := fun e_ => HO.out.1 go (by simp [Value.ownBlock]) e_.symm
   have hstep : ∀ (v : Int) (ms' : List Int), names1 ms z[j] = ms' → v = ((num1 ms' z[j] : Nat) : Int) → canon_dense.go (z.drop (j + 1)) (j + 1) (xs.set j v) ms' = res := by
    intro v ms' W Y; have := HRES.out; rw [List.drop_eq_getElem_cons c, canon_dense.go, W, ← Y] at this; exact this
   have hwr : wrap64 ((j : Int) + 1) = ((j + 1 : Nat) : Int) := by have := HL.out; unfold wrap64; omega
   by_cases hm : z[j] ∈ ms
   ·have hh : Go.Maps.has D (.int .i64 z[j]) = true := by rw [HN.out.has _ _ hkey]; simp [hm]
    have hat := HN.out.at_ _ _ hkey hm (.lit (.int .i64 0))
    go_wp2_with (first
     | (at_lookup; refine wpList_lookup_own_ok_int _ rfl _ _ 144 rfl 3 3 .i64 canon_dense.law Try.underlying144 Try.underlying3 (canon_dense.zero _) w.heap.size ms.length D rfl HN.out.own _ _ rfl hkey ?_; intro c' hat' hwc; rw [hat] at hat'; injection hat' with hat'; injection hat' with _ hat'; subst hat'; rw [hh]))
    have HP := Kd.R_putg HO.out (j : Int) (((num1 ms z[j] : Nat) : Int)); rw [Int.toNat_natCast] at HP
    go_roundw
    case rel => exact ⟨j + 1, _, ms, D, c, by rw [hwr], ⟨hstep _ ms (by simp [names1, hm]) rfl⟩, ⟨by rw [List.length_set]; exact HX.out⟩, ⟨by have := HM.out; omega⟩, ⟨HN.out.kept HP.2 (by simp; exact hne)⟩, ⟨HP.1⟩, ⟨below_set HB.out gb⟩⟩
    case measure => rw [hwr]; simp [intOf]; omega
   ·have hh : Go.Maps.has D (.int .i64 z[j]) = false := by rw [HN.out.has _ _ hkey]; simp [hm]
    have hsz := HN.out.size
    have hlen : ms.length < 35184372088832 := by have := HM.out; have := HL.out; omega
    go_wp2_with (first
     | (at_lookup; refine wpList_lookup_own_ok_int _ rfl _ _ 144 rfl 3 3 .i64 canon_dense.law Try.underlying144 Try.underlying3 (canon_dense.zero _) w.heap.size ms.length D rfl HN.out.own _ _ rfl hkey ?_; intro c' hat' hwc; rw [hh])
     | (at_len; refine wpList_len_own _ rfl _ 144 rfl 3 3 Try.underlying144 (plainElem Try.prog 3) w.heap.size ms.length D rfl HN.out.own ?_; rw [hsz])
     | (at_mapUpdate; refine wpList_mapUpdate_own _ rfl _ _ _ 144 rfl 3 3 canon_dense.law Try.underlying144 _ w.heap.size ms.length D rfl HN.out.own (by unfold maxLen; omega) _ _ _ rfl rfl hkey _ [] (plainElem_int Try.underlying3 (canon_dense.wf (by omega))) ?_; intro w1 hown1 hgrow1; have HN1 := aM (Names_.put canon_dense.law (fun x y e_ => by injection e_) HN.out hkey hm hown1); have I := aM (Kd.R_step HO.out (fun k hk U => hgrow1.block k U (by simp; exact hk))); have HB1 := aM (HB.out.grown hgrow1 (below_size HB.out) (fun k_ hk_ => by cases hk_; exact Nat.le_refl _)); clear hown1 HN HO HB hy hz; obtain ⟨hy, hz⟩ := Kd.R_celln 0 I.out (j : Int) (by omega) (by omega); rw [Int.toNat_natCast] at hy hz))
    have HP := Kd.R_putg I.out (j : Int) ((ms.length : Nat) : Int); rw [Int.toNat_natCast] at HP
    go_roundw
    case rel => exact ⟨j + 1, _, ms ++ [z[j]], _, c, by rw [hwr], ⟨hstep _ _ (by simp [names1, hm]) (by rw [num1, List.idxOf_append, if_neg hm]; simp)⟩, ⟨by rw [List.length_set]; exact HX.out⟩, ⟨by have := HM.out; rw [List.length_append]; simp; omega⟩, ⟨HN1.out.kept HP.2 (by simp; exact hne)⟩, ⟨HP.1⟩, ⟨below_set HB1.out gb⟩⟩
    case measure => rw [hwr]; simp [intOf]; omega
  ·have hj' : j = z.length := by omega
   subst hj'; have hfin := HRES.out; rw [List.drop_length, canon_dense.go] at hfin; subst hfin; have hsz := HN.out.size
   go_wp2_with (first
    | (at_len; refine wpList_len_own _ rfl _ 144 rfl 3 3 Try.underlying144 (plainElem Try.prog 3) w.heap.size ms.length D rfl HN.out.own ?_; rw [hsz]))
   go_ret2
   exact ⟨_, rfl, Kd.R_mono (rP HO) (fun _ _ => trivial), bO HB.out⟩

end Go.Proofs.Ythgoonohpfoagaa.X
