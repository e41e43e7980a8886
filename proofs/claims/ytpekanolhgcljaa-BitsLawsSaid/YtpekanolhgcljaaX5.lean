/- What the functions of this seat compute, and that the program's calls come to just that: written by this session's own program out of the translation; no condition. -/
import Derived.Test.YtpekanolhgcljaaX0
import Derived.Test.YtpekanolhgcljaaX1
namespace Go.Proofs.Ytpekanolhgcljaa.X
open Go.RowKit Go.Proofs.YtpekanolhgcljaaW.PrintWords Go.Proofs.YtpekanolhgcljaaW.PrintLast Go.Proofs.YtpekanolhgcljaaW.PrintMore
attribute [local go_sem] max2_int min2_int max_two min_two max_three min_three max_four min_four   -- for this text's walks alone
set_option linter.unusedVariables false
set_option linter.unusedSimpArgs false

/-! ### tabardlaw02_fixed: function 11 -/
/-- A set of 70 numbers in two words that the call has made: block q holds the words, the next one the set. -/
structure tabardlaw02_fixed.At (w w' : World) (q : Nat) (a b : Int) : Prop where
 ge : w.heap.size ≤ q
 ws : w'.heap[q]? = some (.cells #[.int .u64 a, .int .u64 b] 61 (0, 0))
 st : w'.heap[q + 1]? = some (.cells #[.int .i64 70, .slice (some ⟨q, 0, none⟩) 2 2] 59 (0, 0))
 below : Below w.heap.size w w'
def tabardlaw02_fixed.f : Option Bool := some true
theorem tabardlaw02_fixed.At.c0 {w w' : World} {q : Nat} {a b : Int} (h : tabardlaw02_fixed.At w w' q a b) : w'.cell? ⟨q + 1, 0, none⟩ = some (.int .i64 70) := (blk_cell h.st 0).trans rfl
theorem tabardlaw02_fixed.At.c1 {w w' : World} {q : Nat} {a b : Int} (h : tabardlaw02_fixed.At w w' q a b) : w'.cell? ⟨q + 1, 1, none⟩ = some (.slice (some ⟨q, 0, none⟩) 2 2) := (blk_cell h.st 1).trans rfl
theorem tabardlaw02_fixed.At.d0 {w w' : World} {q : Nat} {a b : Int} (h : tabardlaw02_fixed.At w w' q a b) : w'.cell? ⟨q, 0, none⟩ = some (.int .u64 a) := (blk_cell h.ws 0).trans rfl
theorem tabardlaw02_fixed.At.d1 {w w' : World} {q : Nat} {a b : Int} (h : tabardlaw02_fixed.At w w' q a b) : w'.cell? ⟨q, 1, none⟩ = some (.int .u64 b) := (blk_cell h.ws 1).trans rfl
theorem tabardlaw02_fixed.new (w : World) : Calls Try.prog 31 #[.int .i64 70] w fun e w' => ∃ q, e = .returned (.tuple #[.pointer (some ⟨q + 1, 0, none⟩), .int .i64 0]) ∧ tabardlaw02_fixed.At w w' q 0 0 := by
 have hmk : ∀ W : World, (Instr.makeSlice 57 (.int .i64 2) (.int .i64 2)).run Try.prog W = .ok (.slice (some ⟨W.heap.size, 0, none⟩) 2 2) (W.alloc (.cells #[.int .u64 0, .int .u64 0] 61)) := fun W => by kernel_rfl
 go_enter Try.func31, Try.ntmps31
 go_wp2
 go_ret2
 refine ⟨w.heap.size, rfl, Nat.le_refl _, ?_, ?_, below_alloc (below_alloc (Below.refl _ _) _) _⟩
 ·have h1 := heap_alloc_new w (.cells #[.int .u64 0, .int .u64 0] 61)
  have h2 := (below_alloc (Below.refl (w.alloc (.cells #[.int .u64 0, .int .u64 0] 61)).heap.size _) (.cells #[.int .i64 70, .slice (some ⟨w.heap.size, 0, none⟩) 2 2] 59)).block w.heap.size (by simp)
  exact h2.trans (by simpa using h1)
 ·have h1 := heap_alloc_new (w.alloc (.cells #[.int .u64 0, .int .u64 0] 61)) (.cells #[.int .i64 70, .slice (some ⟨w.heap.size, 0, none⟩) 2 2] 59)
  have h2 : (w.alloc (.cells #[.int .u64 0, .int .u64 0] 61)).heap.size = w.heap.size + 1 := by simp
  rw [h2] at h1
  simpa using h1
theorem tabardlaw02_fixed.may (w W : World) (q : Nat) (a b i : Int) (hi : i = 69 ∨ i = 70) (h : tabardlaw02_fixed.At w W q a b) : Calls Try.prog 38 #[.pointer (some ⟨q + 1, 0, none⟩), .int .i64 i] W fun e w' => e = .returned (.int .i64 (if i = 69 then 0 else 2)) ∧ W = w' := by
 have hc0 := h.c0
 have hf0 := blk_frozen h.st 0
 clear h
 rcases hi with rfl | rfl
 ·go_enter Try.func38, Try.ntmps38
  go_wp2
  go_ret
  exact ⟨rfl, rfl⟩
 ·go_enter Try.func38, Try.ntmps38
  go_wp2
  go_ret
  exact ⟨rfl, rfl⟩
theorem tabardlaw02_fixed.put70 (w W : World) (q : Nat) (a b : Int) (h : tabardlaw02_fixed.At w W q a b) : Calls Try.prog 32 #[.pointer (some ⟨q + 1, 0, none⟩), .int .i64 70] W fun e w' => e = .returned (.int .i64 2) ∧ W = w' := by
 have H := Aside0.mk h
 clear h
 go_enter Try.func32, Try.ntmps32
 go_wp2_with (go_at_call 38; (with_reducible refine (tabardlaw02_fixed.may w W q a b 70 (.inr rfl) H.out).mono ?_); rintro e w' ⟨rfl, rfl⟩)
 go_ret
 exact ⟨rfl, rfl⟩
theorem tabardlaw02_fixed.w1 : wrap64 1 = 1 := by unfold wrap64; decide
theorem tabardlaw02_fixed.w5 : wrap64 5 = 5 := by unfold wrap64; decide
theorem tabardlaw02_fixed.put69 (w W : World) (q : Nat) (h : tabardlaw02_fixed.At w W q 0 0) : Calls Try.prog 32 #[.pointer (some ⟨q + 1, 0, none⟩), .int .i64 69] W fun e w' => e = .returned (.int .i64 0) ∧ tabardlaw02_fixed.At w w' q 0 32 := by
 have H := Aside0.mk h
 have hc1 := h.c1
 have hf0 := blk_frozen h.st 0
 have hd1 := h.d1
 have hg0 := blk_frozen h.ws 0
 have hg1 := blk_frozen h.ws 1
 have hw1 := tabardlaw02_fixed.w1
 have hw5 := tabardlaw02_fixed.w5
 clear h
 go_enter Try.func32, Try.ntmps32
 go_wp2_with (go_at_call 38; (with_reducible refine (tabardlaw02_fixed.may w W q 0 0 69 (.inl rfl) H.out).mono ?_); rintro e w' ⟨rfl, rfl⟩)
 refine start_ (n := 14) (S := fun w' => w'.cell? ⟨q + 1, 1, none⟩ = some (.slice (some ⟨q, 0, none⟩) 2 2) ∧ w'.cell? ⟨q, 1, none⟩ = some (.int .u64 0)) (ds := [13]) #[false, false, false, false, false, false, false, false, false, false, false, false, false, false] (by kernel_rfl) rfl rfl ⟨hc1, hd1⟩ (fun hHeld => ?_)
 refine pure_ (i := 0) (N := some 12) (v := ?_) (a' := ?_) #[true, false, false, false, false, false, false, false, false, false, false, false, false, false] rfl rfl (by kernel_rfl) (fun _ _ _ h => h) (Or.inl ⟨by rfl, ?_⟩) ?_ ?_
 rotate_left
 ·intro w'
  go_simp
  with_reducible rfl
 rotate_left
 ·simp only [Act.put, List.setIfInBounds_toArray, List.set_cons_zero, List.set_cons_succ, i64_w, i32_w]
  rfl
 refine pure_ (i := 1) (N := some 13) (v := ?_) (a' := ?_) #[true, true, false, false, false, false, false, false, false, false, false, false, false, false] rfl rfl (by kernel_rfl) (fun _ _ _ h => h) (Or.inl ⟨by rfl, ?_⟩) ?_ ?_
 rotate_left
 ·intro w'
  go_simp
  with_reducible rfl
 rotate_left
 ·simp only [Act.put, List.setIfInBounds_toArray, List.set_cons_zero, List.set_cons_succ, i64_w, i32_w]
  rfl
 refine pure_ (i := 2) (N := some 14) (v := ?_) (a' := ?_) #[true, true, true, false, false, false, false, false, false, false, false, false, false, false] rfl rfl (by kernel_rfl) (fun _ _ _ h => h) (Or.inl ⟨by rfl, ?_⟩) ?_ ?_
 rotate_left
 ·intro w'
  go_simp
  with_reducible rfl
 rotate_left
 ·simp only [Act.put, List.setIfInBounds_toArray, List.set_cons_zero, List.set_cons_succ, i64_w, i32_w]
  rfl
 refine pure_ (i := 4) (N := some 16) (v := ?_) (a' := ?_) #[true, true, true, false, true, false, false, false, false, false, false, false, false, false] rfl rfl (by kernel_rfl) (fun _ _ _ h => h) (Or.inl ⟨by rfl, ?_⟩) ?_ ?_
 rotate_left
 ·intro w'
  go_simp
  with_reducible rfl
 rotate_left
 ·simp only [Act.put, List.setIfInBounds_toArray, List.set_cons_zero, List.set_cons_succ, i64_w, i32_w]
  rfl
 refine pure_ (i := 5) (N := some 17) (v := ?_) (a' := ?_) #[true, true, true, false, true, true, false, false, false, false, false, false, false, false] rfl rfl (by kernel_rfl) (fun _ _ _ h => h) (Or.inl ⟨by rfl, ?_⟩) ?_ ?_
 rotate_left
 ·intro w'
  go_simp
  with_reducible rfl
 rotate_left
 ·simp only [Act.put, List.setIfInBounds_toArray, List.set_cons_zero, List.set_cons_succ, i64_w, i32_w]
  rfl
 refine pure_ (i := 8) (N := some 20) (v := ?_) (a' := ?_) #[true, true, true, false, true, true, false, false, true, false, false, false, false, false] rfl rfl (by kernel_rfl) (fun _ _ _ h => h) (Or.inl ⟨by rfl, ?_⟩) ?_ ?_
 rotate_left
 ·intro w'
  go_simp
  with_reducible rfl
 rotate_left
 ·simp only [Act.put, List.setIfInBounds_toArray, List.set_cons_zero, List.set_cons_succ, i64_w, i32_w]
  rfl
 refine pure_ (i := 9) (N := some 21) (v := ?_) (a' := ?_) #[true, true, true, false, true, true, false, false, true, true, false, false, false, false] rfl rfl (by kernel_rfl) (fun _ _ _ h => h) (Or.inl ⟨by rfl, ?_⟩) ?_ ?_
 rotate_left
 ·intro w'
  go_simp
  with_reducible rfl
 rotate_left
 ·simp only [Act.put, List.setIfInBounds_toArray, List.set_cons_zero, List.set_cons_succ, i64_w, i32_w]
  rfl
 refine pure_ (i := 10) (N := some 22) (v := ?_) (a' := ?_) #[true, true, true, false, true, true, false, false, true, true, true, false, false, false] rfl rfl (by kernel_rfl) (fun _ _ _ h => h) (Or.inl ⟨by rfl, ?_⟩) ?_ ?_
 rotate_left
 ·intro w'
  go_simp
  with_reducible rfl
 rotate_left
 ·simp only [Act.put, List.setIfInBounds_toArray, List.set_cons_zero, List.set_cons_succ, i64_w, i32_w]
  rfl
 refine take_ (i := 3) (N := some 15) (v := ?_) (a' := ?_) #[true, true, true, true, true, true, false, false, true, true, true, false, false, false] rfl rfl (by kernel_rfl) (fun _ _ _ h => h) (Or.inl ⟨by rfl, ?_⟩) hHeld ?_ ?_
 rotate_left
 ·rintro w' ⟨s0, s1⟩
  go_simp
  with_reducible rfl
 rotate_left
 ·simp only [Act.put, List.setIfInBounds_toArray, List.set_cons_zero, List.set_cons_succ, i64_w, i32_w]
  rfl
 refine pure_ (i := 6) (N := some 18) (v := ?_) (a' := ?_) #[true, true, true, true, true, true, true, false, true, true, true, false, false, false] rfl rfl (by kernel_rfl) (fun _ _ _ h => h) (Or.inl ⟨by rfl, ?_⟩) ?_ ?_
 rotate_left
 ·intro w'
  go_simp
  with_reducible rfl
 rotate_left
 ·simp only [Act.put, List.setIfInBounds_toArray, List.set_cons_zero, List.set_cons_succ, i64_w, i32_w]
  rfl
 refine take_ (i := 7) (N := some 19) (v := ?_) (a' := ?_) #[true, true, true, true, true, true, true, true, true, true, true, false, false, false] rfl rfl (by kernel_rfl) (fun _ _ _ h => h) (Or.inl ⟨by rfl, ?_⟩) hHeld ?_ ?_
 rotate_left
 ·rintro w' ⟨s0, s1⟩
  go_simp
  with_reducible rfl
 rotate_left
 ·simp only [Act.put, List.setIfInBounds_toArray, List.set_cons_zero, List.set_cons_succ, i64_w, i32_w]
  rfl
 refine pure_ (i := 11) (N := some 23) (v := ?_) (a' := ?_) #[true, true, true, true, true, true, true, true, true, true, true, true, false, false] rfl rfl (by kernel_rfl) (fun _ _ _ h => h) (Or.inl ⟨by rfl, ?_⟩) ?_ ?_
 rotate_left
 ·intro w'
  go_simp
  with_reducible rfl
 rotate_left
 ·simp only [Act.put, List.setIfInBounds_toArray, List.set_cons_zero, List.set_cons_succ, i64_w, i32_w]
  rfl
 refine pure_ (i := 12) (N := some 24) (v := ?_) (a' := ?_) #[true, true, true, true, true, true, true, true, true, true, true, true, true, false] rfl rfl (by kernel_rfl) (fun _ _ _ h => h) (Or.inl ⟨by rfl, ?_⟩) ?_ ?_
 rotate_left
 ·intro w'
  go_simp
  with_reducible rfl
 rotate_left
 ·simp only [Act.put, List.setIfInBounds_toArray, List.set_cons_zero, List.set_cons_succ, i64_w, i32_w]
  rfl
 refine last_ (i := 13) (N := none) #[true, true, true, true, true, true, true, true, true, true, true, true, true, true] rfl rfl (by kernel_rfl) (by decide) (fun K hK => ?_)
 refine skip_ (w1 := ?_) (by rfl) rfl ?_ ?_
 rotate_left
 ·go_simp
  rfl
 refine hK.out _ _ ?_
 clear hK K
 refine done_ (by kernel_rfl) ?_
 try go_wp2
 go_ret
 have e32 : Go.bits .or .u64 0 (IntKind.u64.wrap 32) = 32 := by decide
 rw [e32]
 refine ⟨rfl, H.out.ge, ?_, ?_, ?_⟩
 ·have := blk_set H.out.ws 1 (.int .u64 32)
  exact this
 ·exact blk_far H.out.st (by simp) _
 ·exact below_drew1 (below_set H.out.below H.out.ge)
theorem tabardlaw02_fixed.has (w W : World) (q : Nat) (h : tabardlaw02_fixed.At w W q 0 32) : Calls Try.prog 33 #[.pointer (some ⟨q + 1, 0, none⟩), .int .i64 69] W fun e w' => e = .returned (.bool true) ∧ W = w' := by
 have H := Aside0.mk h
 have hc1 := h.c1
 have hf0 := blk_frozen h.st 0
 have hd1 := h.d1
 have hg0 := blk_frozen h.ws 0
 have hg1 := blk_frozen h.ws 1
 have hw1 := tabardlaw02_fixed.w1
 have hw5 := tabardlaw02_fixed.w5
 clear h
 go_enter Try.func33, Try.ntmps33
 go_wp2_with (go_at_call 38; (with_reducible refine (tabardlaw02_fixed.may w W q 0 32 69 (.inl rfl) H.out).mono ?_); rintro e w' ⟨rfl, rfl⟩)
 go_ret
 exact ⟨rfl, rfl⟩
theorem tabardlaw02_fixed.ones (x n : Int) (hx : x = 0 ∧ n = 0 ∨ x = 32 ∧ n = 1) (w : World) : Calls Try.prog 37 #[.int .u64 x] w fun e w' => e = .returned (.int .i64 n) ∧ w = w' := by
 rcases hx with ⟨rfl, rfl⟩ | ⟨rfl, rfl⟩
 ·go_enter Try.func37, Try.ntmps37
  go_wp2
  go_ret
  exact ⟨by kernel_rfl, rfl⟩
 ·go_enter Try.func37, Try.ntmps37
  go_wp2
  go_ret
  exact ⟨by kernel_rfl, rfl⟩
theorem tabardlaw02_fixed.count (w W : World) (q : Nat) (h : tabardlaw02_fixed.At w W q 0 32) : Calls Try.prog 26 #[.pointer (some ⟨q + 1, 0, none⟩)] W fun e w' => e = .returned (.int .i64 1) ∧ W = w' := by
 have hc1 := h.c1
 have hf0 := blk_frozen h.st 0
 have hd0 := h.d0
 have hd1 := h.d1
 have hg0 := blk_frozen h.ws 0
 have hg1 := blk_frozen h.ws 1
 clear h
 go_enter Try.func26, Try.ntmps26
 go_wp2
 go_loop [3, 13] (fun v3 v13 => v3 = .int .i64 0 ∧ v13 = .int .i64 0 ∨ v3 = .int .i64 0 ∧ v13 = .int .i64 1 ∨ v3 = .int .i64 1 ∧ v13 = .int .i64 2) (fun v3 v13 => 2 - (intOf v13).toNat)
 case atStart => exact .inl ⟨rfl, rfl⟩
 case round =>
  rcases hrel with ⟨rfl, rfl⟩ | ⟨rfl, rfl⟩ | ⟨rfl, rfl⟩
  ·go_wp2_with (go_at_call 37; (with_reducible refine (tabardlaw02_fixed.ones 0 0 (.inl ⟨rfl, rfl⟩) _).mono ?_); rintro e w' ⟨rfl, rfl⟩)
   go_round
   case rel => exact .inr (.inl ⟨rfl, by go_num⟩)
   case measure => decide
  ·go_wp2_with (go_at_call 37; (with_reducible refine (tabardlaw02_fixed.ones 32 1 (.inr ⟨rfl, rfl⟩) _).mono ?_); rintro e w' ⟨rfl, rfl⟩)
   go_round
   case rel => exact .inr (.inr ⟨rfl, by go_num⟩)
   case measure => decide
  ·go_wp2
   go_ret
   exact ⟨rfl, rfl⟩
theorem tabardlaw02_fixed.At.drewN {w w' : World} {q : Nat} {a b : Int} (h : tabardlaw02_fixed.At w w' q a b) (n : Nat) : tabardlaw02_fixed.At w (w'.drewN n) q a b := ⟨h.ge, h.ws, h.st, pw_below_drewN h.below n⟩
set_option maxHeartbeats 8000000 in
set_option maxRecDepth 100000 in
theorem tabardlaw02_fixed.calls (r : Bool) (w : World) (h : tabardlaw02_fixed.f = some r) : Calls Try.prog 11 #[] w fun e w' => e = .returned (.bool r) ∧ Below w.heap.size w w' := by
 obtain rfl := Option.some.inj h
 clear h
 go_enter Try.func11, Try.ntmps11
 go_wp2_with (first
  | (go_at_call 31; (with_reducible refine (tabardlaw02_fixed.new _).mono ?_); rintro e w1 ⟨q, rfl, h1⟩; have H1 := Aside0.mk h1; clear h1)
  | (go_at_call 32; (with_reducible refine (tabardlaw02_fixed.put69 w _ q H1.out).mono ?_); rintro e w2 ⟨rfl, h2⟩; have H2 := Aside0.mk h2; clear h2 H1)
  | (go_at_call 32; (with_reducible refine (tabardlaw02_fixed.put70 w _ q 0 32 H2.out).mono ?_); rintro e w3 ⟨rfl, rfl⟩)
  | (go_at_call 33; (with_reducible refine (tabardlaw02_fixed.has w _ q H2.out).mono ?_); rintro e w3 ⟨rfl, rfl⟩)
  | (go_at_call 26; (with_reducible refine (tabardlaw02_fixed.count w _ q H2.out).mono ?_); rintro e w3 ⟨rfl, rfl⟩)
  | (go_at_call 7; (with_reducible refine (bits_Insert.calls 5 1 1 11 0 _ (by kernel_rfl)).mono ?_); rintro e w4 ⟨rfl, ⟨nd, rfl⟩⟩; have n0_ := Aside0.mk (tabardlaw02_fixed.At.drewN H2.out nd); clear H2; have H2 := n0_; clear n0_))
 go_ret
 exact ⟨rfl, H2.out.below⟩

/-! ### bits_Digit: function 12 -/
def bits_Digit.f (a0 : Int) (a1 : Int) : Option (Int) := if a0 < 0 then (some 0) else (if a1 < 0 then (some 0) else (if a1 > 61 then (some 0) else (if 0 ≤ a1 then (some (Go.bits .and .i64 (shr .i64 a0 a1) 1)) else (none))))
set_option maxHeartbeats 8000000 in
set_option maxRecDepth 100000 in
theorem bits_Digit.calls (a0 : Int) (a1 : Int) (r : Int) (w : World) (h : bits_Digit.f a0 a1 = some r) :
  Calls Try.prog 12 #[.int .i64 a0, .int .i64 a1] w fun e w' => e = .returned (.int .i64 r) ∧ Drawn0 w w' := by
 have H : (if a0 < 0 then (some 0) else (if a1 < 0 then (some 0) else (if a1 > 61 then (some 0) else (if 0 ≤ a1 then (some (Go.bits .and .i64 (shr .i64 a0 a1) 1)) else (none))))) = some r := h
 clear h
 by_cases c3 : a0 < 0
 ·rw [if_pos c3] at H
  have c3b0 : decide (a0 < 0) = true := decide_eq_true c3
  clear c3
  obtain rfl := Option.some.inj H
  go_enter Try.func12, Try.ntmps12
  go_wp2
  go_ret
  exact ⟨by first | rfl | (simp; done) | (simp [*]; done), by repeat (first | exact Drawn0.refl _ | apply Drawn0.step)⟩
 ·rw [if_neg c3] at H
  have c3b0 : decide (a0 < 0) = false := decide_eq_false c3
  clear c3
  by_cases c4 : a1 < 0
  ·rw [if_pos c4] at H
   have c4b0 : decide (a1 < 0) = true := decide_eq_true c4
   clear c4
   obtain rfl := Option.some.inj H
   go_enter Try.func12, Try.ntmps12
   go_wp2
   go_ret
   exact ⟨by first | rfl | (simp; done) | (simp [*]; done), by repeat (first | exact Drawn0.refl _ | apply Drawn0.step)⟩
  ·rw [if_neg c4] at H
   have c4b0 : decide (a1 < 0) = false := decide_eq_false c4
   clear c4
   by_cases c5 : a1 > 61
   ·rw [if_pos c5] at H
    have c5b0 : decide (61 < a1) = true := decide_eq_true c5
    clear c5
    obtain rfl := Option.some.inj H
    go_enter Try.func12, Try.ntmps12
    go_wp2
    go_ret
    exact ⟨by first | rfl | (simp; done) | (simp [*]; done), by repeat (first | exact Drawn0.refl _ | apply Drawn0.step)⟩
   ·rw [if_neg c5] at H
    have c5b0 : decide (61 < a1) = false := decide_eq_false c5
    clear c5
    by_cases c6 : 0 ≤ a1
    ·rw [if_pos c6] at H
     have c6b0 := eq_true c6
     have c6b1 : decide (0 ≤ a1) = true := decide_eq_true c6
     clear c6
     obtain ⟨ji7, hji7⟩ : ∃ j_ : Int, (shr .i64 a0 a1) = j_ := ⟨_, rfl⟩
     replace H : (some (Go.bits .and .i64 (ji7) 1)) = some r := by first | (rw [hji7] at H; exact H) | (simp only [hji7] at H ⊢; exact H)
     have hji7_ : (a0 / 2 ^ min a1.toNat 64) = ji7 := hji7
     have hji7z : a1 ≤ 64 → (a0 / 2 ^ a1.toNat) = ji7 := shr_small hji7
     obtain rfl := Option.some.inj H
     go_enter Try.func12, Try.ntmps12
     go_wp2
     go_ret
     exact ⟨by first | rfl | (simp; done) | (simp only [← hji7] <;> (first | rfl | simp)) | (simp [*]; done), by repeat (first | exact Drawn0.refl _ | apply Drawn0.step)⟩
    ·rw [if_neg c6] at H
     exact absurd H (by simp)

end Go.Proofs.Ytpekanolhgcljaa.X
