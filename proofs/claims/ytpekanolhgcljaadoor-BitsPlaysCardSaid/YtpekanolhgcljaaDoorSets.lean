/- What the program's calls on sets come to, by hand: each call's own contract; no condition beyond what each contract says. -/
import Derived.Test.YtpekanolhgcljaaDoorX0
import Derived.Test.YtpekanolhgcljaaDoorBitP
import Derived.Laws.BitsAllLaws
import Derived.Lib.SlBuf
import Derived.Laws.Bits64b
import Derived.Laws.CopyRow
import Derived.Laws.CopyOwn
import Derived.LoopTactic
import Derived.RegionTactic
import Derived.ChangeAlike
namespace Go.Proofs.YtpekanolhgcljaaDoor.X
open Go.RowKit Go.Proofs.YtpekanolhgcljaaDoorW.PrintWords Go.Proofs.YtpekanolhgcljaaDoorW.PrintLast Go.Proofs.YtpekanolhgcljaaDoorW.PrintMore
set_option linter.unusedVariables false
set_option linter.unusedSimpArgs false
def bitset.oA (x : Int) : Int := IntKind.u64.wrap (bits .and .u64 (x / 2) 6148914691236517205 + bits .and .u64 x 6148914691236517205)
def bitset.oB (x : Int) : Int := IntKind.u64.wrap (bits .and .u64 (x / 4) 3689348814741910323 + bits .and .u64 x 3689348814741910323)
def bitset.oC (x : Int) : Int := bits .and .u64 (IntKind.u64.wrap (x / 16 + x)) 1085102592571150095
def bitset.oD (d x : Int) : Int := IntKind.u64.wrap (x + x / d)
theorem bitset.and_nat (a b : Nat) (ha : a < 18446744073709551616) (hb : b < 18446744073709551616) : bits .and .u64 (a : Int) (b : Int) = ((a &&& b : Nat) : Int) := bits_and_u64_nat a b ha hb
theorem bitset.u64_in (a : Nat) (h : a < 18446744073709551616) : IntKind.u64.wrap (a : Int) = (a : Int) := by
  simp [IntKind.wrap, IntKind.bits, IntKind.signed]; omega
theorem bitset.oA_nat (x y : Nat) (hx : x < 18446744073709551616) (e : (x >>> 1 &&& 6148914691236517205) + (x &&& 6148914691236517205) = y) (hy : y < 18446744073709551616) : bitset.oA (x : Int) = (y : Int) := by
  rw [Nat.shiftRight_eq_div_pow] at e
  unfold bitset.oA
  have h1 := bitset.and_nat (x / 2) 6148914691236517205 (by omega) (by omega)
  have h2 := bitset.and_nat x 6148914691236517205 (by omega) (by omega)
  rw [show ((x / 2 : Nat) : Int) = (x : Int) / 2 by omega] at h1
  rw [show ((6148914691236517205 : Nat) : Int) = 6148914691236517205 from rfl] at h1 h2
  rw [h1, h2, ← Int.natCast_add]
  simp only [Nat.pow_one] at e
  rw [e]
  exact bitset.u64_in y hy
theorem bitset.oB_nat (x y : Nat) (hx : x < 18446744073709551616) (e : (x >>> 2 &&& 3689348814741910323) + (x &&& 3689348814741910323) = y) (hy : y < 18446744073709551616) : bitset.oB (x : Int) = (y : Int) := by
  rw [Nat.shiftRight_eq_div_pow] at e
  unfold bitset.oB
  have h1 := bitset.and_nat (x / 4) 3689348814741910323 (by omega) (by omega)
  have h2 := bitset.and_nat x 3689348814741910323 (by omega) (by omega)
  rw [show ((x / 4 : Nat) : Int) = (x : Int) / 4 by omega] at h1
  rw [show ((3689348814741910323 : Nat) : Int) = 3689348814741910323 from rfl] at h1 h2
  rw [h1, h2, ← Int.natCast_add]
  rw [show 2 ^ 2 = 4 from rfl] at e
  rw [e]
  exact bitset.u64_in y hy
theorem bitset.oC_nat (x y : Nat) (h : x >>> 4 + x < 18446744073709551616) (e : (x >>> 4 + x) &&& 1085102592571150095 = y) : bitset.oC (x : Int) = (y : Int) := by
  rw [Nat.shiftRight_eq_div_pow, show 2 ^ 4 = 16 from rfl] at e h
  unfold bitset.oC
  have h1 := bitset.and_nat (x / 16 + x) 1085102592571150095 h (by omega)
  have h0 := bitset.u64_in _ h
  rw [show ((x / 16 + x : Nat) : Int) = (x : Int) / 16 + x by omega] at h1 h0
  rw [show ((1085102592571150095 : Nat) : Int) = 1085102592571150095 from rfl] at h1
  rw [h0, h1, e]
theorem bitset.oD_nat (d x : Nat) (h : x + x / d < 18446744073709551616) : bitset.oD (d : Int) (x : Int) = ((x + x / d : Nat) : Int) := by
  unfold bitset.oD
  have h0 := bitset.u64_in _ h
  rw [show ((x + x / d : Nat) : Int) = (x : Int) + x / d by rw [Int.natCast_add, Int.natCast_ediv]] at h0 ⊢
  exact h0
theorem bitset.oF (x : Nat) (hx : x < 18446744073709551616) : bits .and .i64 (wrap64 (bitset.oD 4294967296 (bitset.oD 65536 (bitset.oD 256 (bitset.oC (bitset.oB (bitset.oA (x : Int)))))))) 127 = (Go.Lib.onesCount x : Int) := by
  obtain ⟨y, z, t, e1, h1, e2, h2, h3, e3, h4, h5, h6, h7, h8⟩ := BitP.count_steps x hx
  rw [bitset.oA_nat x y hx e1 h1, bitset.oB_nat y z h1 e2 h2, bitset.oC_nat z t h3 e3]
  have d1 := bitset.oD_nat 256 t h4
  have d2 := bitset.oD_nat 65536 _ h5
  have d3 := bitset.oD_nat 4294967296 _ h6
  rw [show ((256 : Nat) : Int) = 256 from rfl] at d1
  rw [show ((65536 : Nat) : Int) = 65536 from rfl] at d2
  rw [show ((4294967296 : Nat) : Int) = 4294967296 from rfl] at d3
  rw [d1, d2, d3]
  obtain ⟨u, hu⟩ : ∃ u, u = t + t / 256 + (t + t / 256) / 65536 + (t + t / 256 + (t + t / 256) / 65536) / 4294967296 := ⟨_, rfl⟩
  rw [← hu] at h7 ⊢
  have hu' : u < 2 ^ 63 := by
    have e4 : t ≤ 1085102592571150095 := by rw [← e3]; exact Nat.and_le_right
    clear e1 e2 e3 h1 h2 h3 h7 h8 d1 d2 d3
    omega
  clear hu e1 e2 e3 h1 h2 h3 h4 h5 h6 h8 d1 d2 d3 hx
  have hw : wrap64 (u : Int) = (u : Int) := by unfold wrap64; omega
  have hm := bits_mask .i64 63 (by decide) (fun n a b => (by rw [IntKind.wrap_i64]; omega)) 7 (by decide) (u : Int) (by omega) (by omega)
  rw [hw]
  rw [show ((2 : Int) ^ 7 - 1) = 127 from rfl] at hm
  rw [hm, ← h7]
  omega
theorem bitset.ones (x : Nat) (hx : x < 18446744073709551616) (w : World) : Calls Tryd.prog 35 #[.int .u64 (x : Int)] w fun e w' => e = .returned (.int .i64 (Go.Lib.onesCount x : Int)) ∧ w = w' := by
  have H := Aside0.mk (bitset.oF x hx)
  have HX := Aside0.mk hx
  clear hx
  go_enter Tryd.func35, Tryd.ntmps35
  go_wp2
  go_ret
  rw [← H.out]
  exact ⟨rfl, rfl⟩
/-- The cells of a set's words. -/
def bitset.ws (xs : List Nat) : Array Value := (xs.map fun x : Nat => Value.int .u64 (x : Int)).toArray
/-- A set of numbers below n: block q holds its words, the next block the struct. -/
structure bitset.At (W : World) (q n : Nat) (xs : List Nat) : Prop where
  ws : W.heap[q]? = some (.cells (bitset.ws xs) 66 (0, 0))
  st : W.heap[q + 1]? = some (.cells #[.int .i64 (n : Int), .slice (some ⟨q, 0, none⟩) xs.length xs.length] 65 (0, 0))
  len : xs.length = (n + 63) / 64
  lt : ∀ x ∈ xs, x < 18446744073709551616
  nle : n ≤ 4096
/-- All blocks but one stand as they were. -/
structure bitset.Fr (p : Nat) (w W : World) : Prop where
  size : W.heap.size = w.heap.size
  os : W.os = w.os
  tape : W.tape = w.tape
  output : W.output = w.output
  block : ∀ g, g ≠ p → W.heap[g]? = w.heap[g]?
theorem bitset.Fr.refl (p : Nat) (w : World) : bitset.Fr p w w := ⟨rfl, rfl, rfl, rfl, fun _ _ => rfl⟩
theorem bitset.Fr.drewN {p : Nat} {w W : World} (h : bitset.Fr p w W) (n : Nat) : bitset.Fr p w (W.drewN n) := ⟨h.size, h.os, h.tape, h.output, h.block⟩
theorem bitset.Fr.drew {p : Nat} {w W : World} (h : bitset.Fr p w W) : bitset.Fr p w W.drew := ⟨h.size, h.os, h.tape, h.output, h.block⟩
theorem bitset.Fr.set {p : Nat} {w W : World} (h : bitset.Fr p w W) (i : Nat) (u : Value) : bitset.Fr p w (W.setCell ⟨p, i, none⟩ u) :=
  ⟨by rw [World.size_setCell]; exact h.size, h.os, h.tape, h.output, fun g hg => (Below.heap_setCell W _ u g hg).trans (h.block g hg)⟩
theorem bitset.Fr.trans {p : Nat} {w W V : World} (h : bitset.Fr p w W) (k : bitset.Fr p W V) : bitset.Fr p w V :=
  ⟨k.size.trans h.size, k.os.trans h.os, k.tape.trans h.tape, k.output.trans h.output, fun g hg => (k.block g hg).trans (h.block g hg)⟩
theorem bitset.Fr.below {p : Nat} {w0 w W : World} {B : Nat} (h : bitset.Fr p w W) (hp : B ≤ p) (k : Below B w0 w) : Below B w0 W :=
  ⟨h.os.trans k.os, h.tape.trans k.tape, h.output.trans k.output, by rw [h.size]; exact k.size, fun g hg => (h.block g (by omega)).trans (k.block g hg)⟩
theorem bitset.Fr.of_drawn (p : Nat) {w W : World} (h : Drawn0 w W) : bitset.Fr p w W := by
  obtain ⟨n, rfl⟩ := h.out
  exact (bitset.Fr.refl p w).drewN n
section
variable {W V : World} {q n p : Nat} {xs : List Nat}
theorem bitset.At.drewN (h : bitset.At W q n xs) (m : Nat) : bitset.At (W.drewN m) q n xs := ⟨h.ws, h.st, h.len, h.lt, h.nle⟩
theorem bitset.At.drew (h : bitset.At W q n xs) : bitset.At W.drew q n xs := ⟨h.ws, h.st, h.len, h.lt, h.nle⟩
theorem bitset.At.drawn (h : bitset.At W q n xs) (k : Drawn0 W V) : bitset.At V q n xs := by
  obtain ⟨m, rfl⟩ := k.out
  exact h.drewN m
theorem bitset.At.c0 (h : bitset.At W q n xs) : W.cell? ⟨q + 1, 0, none⟩ = some (.int .i64 (n : Int)) := (blk_cell h.st 0).trans rfl
theorem bitset.At.c1 (h : bitset.At W q n xs) : W.cell? ⟨q + 1, 1, none⟩ = some (.slice (some ⟨q, 0, none⟩) xs.length xs.length) := (blk_cell h.st 1).trans rfl
theorem bitset.ws_get (xs : List Nat) (i : Nat) (hi : i < xs.length) : (bitset.ws xs)[i]? = some (.int .u64 ((xs.getD i 0 : Nat) : Int)) := by
  simp [bitset.ws, List.getD, List.getElem?_eq_getElem hi]
theorem bitset.At.d (h : bitset.At W q n xs) (i : Nat) (hi : i < xs.length) : W.cell? ⟨q, i, none⟩ = some (.int .u64 ((xs.getD i 0 : Nat) : Int)) := (blk_cell h.ws i).trans (bitset.ws_get xs i hi)
theorem bitset.At.fz (h : bitset.At W q n xs) (i : Nat) : W.frozen? ⟨q, i, none⟩ = false := blk_frozen h.ws i
theorem bitset.At.fs (h : bitset.At W q n xs) (i : Nat) : W.frozen? ⟨q + 1, i, none⟩ = false := blk_frozen h.st i
theorem bitset.At.lt_size (h : bitset.At W q n xs) : q + 1 < W.heap.size := by
  have := h.st
  rcases Nat.lt_or_ge (q + 1) W.heap.size with k | k
  · exact k
  · rw [Array.getElem?_eq_none k] at this; cases this
theorem bitset.At.le (h : bitset.At W q n xs) : xs.length ≤ 64 := by have := h.len; have := h.nle; omega
theorem bitset.At.get_lt (h : bitset.At W q n xs) (i : Nat) : xs.getD i 0 < 18446744073709551616 := by
  by_cases hi : i < xs.length
  · rw [List.getD, List.getElem?_eq_getElem hi]; exact h.lt _ (List.getElem_mem hi)
  · rw [List.getD, List.getElem?_eq_none (by omega)]; exact Nat.succ_pos _
/-- A set whose words' block is another one stays. -/
theorem bitset.At.far (h : bitset.At W q n xs) (k : bitset.Fr p W V) (hs : ∃ zs : List Nat, ∃ m, bitset.At W p m zs) (hp : q ≠ p) : bitset.At V q n xs := by
  obtain ⟨zs, m, hz⟩ := hs
  have : q + 1 ≠ p := by
    rintro rfl
    have := h.st.symm.trans hz.ws
    simp [bitset.ws] at this
  exact ⟨(k.block q hp).trans h.ws, (k.block _ this).trans h.st, h.len, h.lt, h.nle⟩
theorem bitset.ws_set (xs : List Nat) (i x : Nat) : (bitset.ws xs).setIfInBounds i (.int .u64 (x : Int)) = bitset.ws (xs.set i x) := by
  simp [bitset.ws, List.map_set]
theorem bitset.At.put (h : bitset.At W q n xs) (i x : Nat) (hx : x < 18446744073709551616) : bitset.At (W.setCell ⟨q, i, none⟩ (.int .u64 (x : Int))) q n (xs.set i x) := by
  refine ⟨?_, ?_, by simpa using h.len, ?_, h.nle⟩
  · rw [← bitset.ws_set]; exact blk_set h.ws i _
  · rw [List.length_set]; exact blk_far h.st (by show q + 1 ≠ q; omega) _
  · intro y hy
    rcases List.mem_or_eq_of_mem_set hy with hy | rfl
    · exact h.lt y hy
    · exact hx
theorem bitset.At.below (h : bitset.At W q n xs) (k : Below W.heap.size W V) : bitset.At V q n xs :=
  ⟨(k.block q (by have := h.lt_size; omega)).trans h.ws, (k.block _ h.lt_size).trans h.st, h.len, h.lt, h.nle⟩
end
theorem bitset.info : (Tryd.prog.info? 66).map (fun i => (i.zero, i.size, i.bytes)) = some (some (.int .u64 0), 1, 8) := by kernel_rfl
theorem bitset.made (m : Nat) : madeCells #[.int .u64 0] m = bitset.ws (List.replicate m 0) := by
  rw [← Array.toList_inj, toList_madeCells_one]
  simp [bitset.ws]
theorem bitset.new (n : Nat) (hn : n ≤ 4096) (w : World) : Calls Tryd.prog 6 #[.int .i64 (n : Int)] w fun e w' => ∃ q, e = .returned (.tuple #[.pointer (some ⟨q + 1, 0, none⟩), .int .i64 0]) ∧ bitset.At w' q n (List.replicate ((n + 63) / 64) 0) ∧ w.heap.size ≤ q ∧ Below w.heap.size w w' := by
  have hmk := print_make (P := Tryd.prog) 63 66 .u64 8 Tryd.underlying63 bitset.info (by decide) ((n + 63) / 64) (by omega)
  rw [bitset.made, show (((n + 63) / 64 : Nat) : Int) = ((n : Int) + 63) / 64 by omega] at hmk
  have h1 : ¬ ((n : Int) < 0) := by omega
  have h2 : (n : Int) ≤ 4096 := by omega
  have HN := Aside0.mk hn
  clear hn
  go_enter Tryd.func6, Tryd.ntmps6
  go_wp2
  go_ret2
  have e1 := heap_alloc_new w (.cells (bitset.ws (List.replicate ((n + 63) / 64) 0)) 66)
  have e2 := heap_alloc_new (w.alloc (.cells (bitset.ws (List.replicate ((n + 63) / 64) 0)) 66)) (.cells #[.int .i64 (n : Int), .slice (some ⟨w.heap.size, 0, none⟩) ((n + 63) / 64) ((n + 63) / 64)] 65)
  refine ⟨w.heap.size, rfl, ⟨?_, ?_, by simp, ?_, HN.out⟩, Nat.le_refl _, below_alloc (below_alloc (Below.refl _ _) _) _⟩
  · exact blk_alloc e1 _
  · rw [List.length_replicate]
    simpa using e2
  · intro x hx; rw [List.eq_of_mem_replicate hx]; omega
theorem bitset.may (W : World) (q n : Nat) (xs : List Nat) (i : Int) (h : bitset.At W q n xs) : Calls Tryd.prog 29 #[.pointer (some ⟨q + 1, 0, none⟩), .int .i64 i] W fun e w' => e = .returned (.int .i64 (if 0 ≤ i ∧ i < n then 0 else 2)) ∧ W = w' := by
  have hc0 := h.c0
  have hf0 := h.fs 0
  clear h
  by_cases h0 : i < 0
  · rw [if_neg (by omega)]
    go_enter Tryd.func29, Tryd.ntmps29
    go_wp2
    go_ret
    exact ⟨rfl, rfl⟩
  · by_cases h1 : i ≥ (n : Int)
    · rw [if_neg (by omega)]
      go_enter Tryd.func29, Tryd.ntmps29
      go_wp2
      go_ret
      exact ⟨rfl, rfl⟩
    · rw [if_pos (by omega)]
      go_enter Tryd.func29, Tryd.ntmps29
      go_wp2
      go_ret
      exact ⟨rfl, rfl⟩
theorem bitset.two (W : World) (p q n m : Nat) (xs ys : List Nat) (h : bitset.At W p n xs) (k : bitset.At W q m ys) : Calls Tryd.prog 30 #[.pointer (some ⟨p + 1, 0, none⟩), .pointer (some ⟨q + 1, 0, none⟩)] W fun e w' => e = .returned (.int .i64 (if n = m then 0 else 3)) ∧ Drawn0 W w' := by
  have hc0 := h.c0
  have hf0 := h.fs 0
  have kc0 := k.c0
  have kf0 := k.fs 0
  clear h k
  by_cases h0 : n = m
  · rw [if_pos h0]
    subst h0
    go_enter Tryd.func30, Tryd.ntmps30
    go_wp2
    go_quiet (fail)
    go_wp2
    go_ret
    exact ⟨rfl, dRw⟩
  · rw [if_neg h0]
    have h1 : ((n : Int) != (m : Int)) = true := by simp; omega
    go_enter Tryd.func30, Tryd.ntmps30
    go_wp2
    go_quiet (fail)
    go_wp2
    go_ret
    exact ⟨rfl, dRw⟩
/-- How many bits the words have. -/
def bitset.cnt (xs : List Nat) : Nat := (xs.map Go.Lib.onesCount).sum
theorem bitset.cnt_snoc (xs : List Nat) (k : Nat) (hk : k < xs.length) : bitset.cnt (xs.take (k + 1)) = bitset.cnt (xs.take k) + Go.Lib.onesCount (xs.getD k 0) := by
  unfold bitset.cnt
  rw [List.take_succ_eq_append_getElem hk, List.map_append, List.sum_append]
  simp [List.getD, List.getElem?_eq_getElem hk]
theorem bitset.one64 (x : Nat) (hx : x < 18446744073709551616) : Go.Lib.onesCount x ≤ 64 := by
  obtain ⟨_, _, _, _, _, _, _, _, _, _, _, _, _, hz⟩ := BitP.count_steps x hx
  exact hz
theorem bitset.cnt_le (xs : List Nat) (h : ∀ x ∈ xs, x < 18446744073709551616) : ∀ k, k ≤ xs.length → bitset.cnt (xs.take k) ≤ 64 * k := by
  intro k
  induction k with
  | zero => intro _; simp [bitset.cnt]
  | succ k ih =>
    intro hk
    have := ih (by omega)
    rw [bitset.cnt_snoc xs k (by omega)]
    have : Go.Lib.onesCount (xs.getD k 0) ≤ 64 := bitset.one64 _ (by rw [List.getD, List.getElem?_eq_getElem (by omega)]; exact h _ (List.getElem_mem _))
    omega
theorem bitset.count (W : World) (q n : Nat) (xs : List Nat) (h : bitset.At W q n xs) : Calls Tryd.prog 28 #[.pointer (some ⟨q + 1, 0, none⟩)] W fun e w' => e = .returned (.int .i64 (bitset.cnt xs : Nat)) ∧ W = w' := by
  have H := Aside0.mk h
  have hc1 := h.c1
  have hf0 := h.fs 0
  have hL := h.le
  have HS := Aside0.mk (bitset.cnt_le xs h.lt)
  clear h
  go_enter Tryd.func28, Tryd.ntmps28
  go_wp2
  go_loop [3, 13] (fun v3 v13 => ∃ k : Nat, k ≤ xs.length ∧ v13 = .int .i64 (k : Int) ∧ v3 = .int .i64 (bitset.cnt (xs.take k) : Nat)) (fun v3 v13 => xs.length - (intOf v13).toNat)
  case atStart => exact ⟨0, Nat.zero_le _, rfl, rfl⟩
  case round =>
    obtain ⟨k, hk, rfl, rfl⟩ := hrel
    by_cases hlt : k < xs.length
    · have hcell := H.out.d k hlt
      have hfz := H.out.fz k
      have hs := HS.out k hk
      have HX := Aside0.mk (H.out.get_lt k)
      have E := Aside0.mk (bitset.cnt_snoc xs k hlt)
      have hx64 := bitset.one64 _ HX.out
      generalize xs.getD k 0 = x at *
      generalize bitset.cnt (xs.take k) = c at *
      go_wp2_with (go_at_call 35; (with_reducible refine (bitset.ones x HX.out _).mono ?_); rintro e w' ⟨rfl, rfl⟩)
      go_round
      case rel => exact ⟨k + 1, by omega, by go_num, by rw [E.out]; go_num⟩
      case measure => simp [intOf]; omega
    · go_wp2
      go_ret
      rw [List.take_of_length_le (by omega)]
      exact ⟨rfl, rfl⟩
theorem bitset.or_pow (x b : Nat) (hx : x < 18446744073709551616) (hb : b < 64) : bits .or .u64 (x : Int) (IntKind.u64.wrap (2 ^ b)) = ((x ||| 2 ^ b : Nat) : Int) := by
  have h2 : 2 ^ b < 18446744073709551616 := (show 2 ^ b < 2 ^ 64 from Nat.pow_lt_pow_right (by decide) hb)
  have e : (2 : Int) ^ b = ((2 ^ b : Nat) : Int) := by simp
  rw [e, bitset.u64_in _ h2]
  exact bits_or_u64_nat x (2 ^ b) hx h2
theorem bitset.put (W : World) (q n : Nat) (xs : List Nat) (i a b : Nat) (h : bitset.At W q n xs) (hi : i < n) (hab : i = 64 * a + b) (hb : b < 64) : Calls Tryd.prog 9 #[.pointer (some ⟨q + 1, 0, none⟩), .int .i64 (i : Int)] W fun e w' => e = .returned (.int .i64 0) ∧ bitset.At w' q n (xs.set a (xs.getD a 0 ||| 2 ^ b)) ∧ bitset.Fr q W w' := by
  have H := Aside0.mk h
  have hL : a < xs.length := by have := h.len; omega
  have hL2 := h.le
  have hi0 : 0 ≤ (i : Int) := by omega
  have hq : (i : Int) / 64 = (a : Int) := by omega
  have hr : (i : Int) % 64 = (b : Int) := by omega
  have hc1 := h.c1
  have hf0 := h.fs 0
  have hd := h.d a hL
  have hg := h.fz a
  have hnle := h.nle
  have him : (i : Int) ≤ 4096 := by omega
  have E : Aside0 ((0 : Int) ≤ i ∧ (i : Int) < n) := ⟨by omega⟩
  have hx := Aside0.mk (h.get_lt a)
  clear h hab hnle
  generalize xs.getD a 0 = x at *
  go_enter Tryd.func9, Tryd.ntmps9
  go_wp2_with (go_at_call 29; (with_reducible refine (bitset.may W q n xs i H.out).mono ?_); rw [if_pos E.out]; rintro e w' ⟨rfl, rfl⟩)
  go_region
  go_wp2
  go_ret
  have e1 := bitset.or_pow x b hx.out hb
  rw [e1]
  exact ⟨rfl, (H.out.put a _ (Nat.or_lt_two_pow (n := 64) hx.out (Nat.pow_lt_pow_right (by decide) hb))).drew, ((bitset.Fr.refl q W).set a _).drew⟩
def bitset.less (x y : Nat) : Nat := (BitVec.ofNat 64 x &&& ~~~ BitVec.ofNat 64 y).toNat
/-- So many words put together, the others as they were. -/
def bitset.mix (f : Nat → Nat → Nat) (xs ys : List Nat) (k : Nat) : List Nat := List.zipWith f (xs.take k) (ys.take k) ++ xs.drop k
theorem bitset.mix_zero (f : Nat → Nat → Nat) (xs ys : List Nat) : bitset.mix f xs ys 0 = xs := by simp [bitset.mix]
theorem bitset.mix_all (f : Nat → Nat → Nat) (xs ys : List Nat) (h : xs.length = ys.length) : bitset.mix f xs ys xs.length = List.zipWith f xs ys := by
  simp [bitset.mix, h]; rw [← h]; simp
theorem bitset.mix_len (f : Nat → Nat → Nat) (xs ys : List Nat) (h : xs.length = ys.length) (k : Nat) (hk : k ≤ xs.length) : (bitset.mix f xs ys k).length = xs.length := by
  simp [bitset.mix]; omega
theorem bitset.mix_at (f : Nat → Nat → Nat) (xs ys : List Nat) (h : xs.length = ys.length) (k : Nat) (hk : k < xs.length) : (bitset.mix f xs ys k).getD k 0 = xs.getD k 0 := by
  have : (List.zipWith f (xs.take k) (ys.take k)).length = k := by simp; omega
  rw [bitset.mix, List.getD, List.getElem?_append_right (by omega), this, Nat.sub_self, List.getElem?_drop, Nat.add_zero, List.getD]
theorem bitset.mix_step (f : Nat → Nat → Nat) (xs ys : List Nat) (h : xs.length = ys.length) (k : Nat) (hk : k < xs.length) : (bitset.mix f xs ys k).set k (f (xs.getD k 0) (ys.getD k 0)) = bitset.mix f xs ys (k + 1) := by
  have hz : (List.zipWith f (xs.take k) (ys.take k)).length = k := by simp; omega
  rw [bitset.mix, List.set_append_right _ _ (by omega), hz, Nat.sub_self, List.drop_eq_getElem_cons hk, List.set_cons_zero]
  rw [bitset.mix, List.take_succ_eq_append_getElem hk, List.take_succ_eq_append_getElem (by omega), List.zipWith_append (by simp; omega)]
  simp [List.getD, List.getElem?_eq_getElem hk, List.getElem?_eq_getElem (show k < ys.length by omega)]
theorem bitset.less_lt (x y : Nat) : bitset.less x y < 18446744073709551616 := (BitVec.ofNat 64 x &&& ~~~ BitVec.ofNat 64 y).isLt
theorem bitset.less_eq (x y : Nat) (hx : x < 18446744073709551616) (hy : y < 18446744073709551616) : bits .andNot .u64 (x : Int) (y : Int) = ((bitset.less x y : Nat) : Int) := by
  have h : bits .andNot .u64 (x : Int) (y : Int) = IntKind.u64.wrap ((bitset.less x y : Nat) : Int) := by
    simp only [bits, bitset.less, IntKind.bits]
    rfl
  rw [h]
  exact bitset.u64_in _ (bitset.less_lt x y)
/-- The words of one set go through, those of the other are read: what holds at each round. -/
structure bitset.Go (f : Nat → Nat → Nat) (W wr : World) (p q n : Nat) (xs ys : List Nat) (k : Nat) : Prop where
  at_ : bitset.At wr p n (bitset.mix f xs ys k)
  rd : ∀ j, k ≤ j → j < ys.length → wr.cell? ⟨q, j, none⟩ = some (.int .u64 ((ys.getD j 0 : Nat) : Int))
  fr : bitset.Fr p W wr
theorem bitset.Go.start (f : Nat → Nat → Nat) {W V : World} {p q n : Nat} {xs ys : List Nat} (h : bitset.At W p n xs) (k : bitset.At W q n ys) (d : Drawn0 W V) : bitset.Go f W V p q n xs ys 0 :=
  ⟨by rw [bitset.mix_zero]; exact h.drawn d, fun j _ hj => (k.drawn d).d j hj, bitset.Fr.of_drawn p d⟩
theorem bitset.Go.step {f : Nat → Nat → Nat} {W wr : World} {p q n : Nat} {xs ys : List Nat} {k : Nat} (h : bitset.Go f W wr p q n xs ys k) (e : xs.length = ys.length) (hk : k < xs.length)
    (hf : f (xs.getD k 0) (ys.getD k 0) < 18446744073709551616) : bitset.Go f W (wr.setCell ⟨p, k, none⟩ (.int .u64 ((f (xs.getD k 0) (ys.getD k 0) : Nat) : Int))) p q n xs ys (k + 1) := by
  refine ⟨?_, fun j hj hj2 => ?_, h.fr.set k _⟩
  · rw [← bitset.mix_step f xs ys e k hk]
    exact h.at_.put k _ hf
  · by_cases c : q = p
    · subst c
      rw [World.cell?_setCell_other (h := by intro c; injection c with _ c; omega)]
      exact h.rd j (by omega) hj2
    · rw [World.cell?_setCell_other (h := by intro c2; injection c2 with c2 _; exact c c2.symm)]
      exact h.rd j (by omega) hj2
theorem bitset.join (W : World) (p q n : Nat) (xs ys : List Nat) (h : bitset.At W p n xs) (k : bitset.At W q n ys) : Calls Tryd.prog 12 #[.pointer (some ⟨p + 1, 0, none⟩), .pointer (some ⟨q + 1, 0, none⟩)] W fun e w' => e = .returned (.int .i64 0) ∧ bitset.At w' p n (List.zipWith Nat.lor xs ys) ∧ bitset.Fr p W w' := by
  have hl : Aside0 (xs.length = ys.length) := ⟨h.len.trans k.len.symm⟩
  have hm := h.le
  have hm2 := k.le
  have hy := Aside0.mk k.get_lt
  have hx := Aside0.mk h.get_lt
  have H := Aside0.mk h
  have K := Aside0.mk k
  have T := Aside0.mk (bitset.two W p q n n xs ys h k)
  clear h k
  go_enter Tryd.func12, Tryd.ntmps12
  go_wp2_with (go_at_call 30; (with_reducible refine T.out.mono ?_); rw [if_pos rfl]; rintro e w1 ⟨rfl, hd⟩; have D := Aside0.mk hd; have kc1 := (K.out.drawn hd).c1; have kf0 := (K.out.drawn hd).fs 0; clear hd)
  go_loopw [19] (fun v19 wr => ∃ k : Nat, k ≤ ys.length ∧ v19 = .int .i64 (k : Int) ∧ Aside0 (bitset.Go Nat.lor W wr p q n xs ys k)) (fun v19 _ => ys.length - (intOf v19).toNat)
  case atStart => exact ⟨0, Nat.zero_le _, rfl, ⟨bitset.Go.start Nat.lor H.out K.out D.out⟩⟩
  case round =>
    obtain ⟨k, hk, rfl, G⟩ := hrel
    clear kc1 kf0 D
    by_cases hlt : k < ys.length
    · have hkx : k < xs.length := by have := hl.out; omega
      have c1 := G.out.at_.c1
      rw [bitset.mix_len Nat.lor xs ys hl.out k (by omega)] at c1
      have f0 := G.out.at_.fs 0
      have hrd := G.out.rd k (Nat.le_refl _) hlt
      have hwr := G.out.at_.d k (by rw [bitset.mix_len Nat.lor xs ys hl.out k (by omega)]; exact hkx)
      rw [bitset.mix_at Nat.lor xs ys hl.out k hkx] at hwr
      have hfz := G.out.at_.fz k
      have E : Aside0 (bits .or .u64 ((xs.getD k 0 : Nat) : Int) ((ys.getD k 0 : Nat) : Int) = ((Nat.lor (xs.getD k 0) (ys.getD k 0) : Nat) : Int)) := ⟨bits_or_u64_nat _ _ (hx.out k) (hy.out k)⟩
      have G2 := Aside0.mk (G.out.step hl.out hkx (Nat.or_lt_two_pow (n := 64) (hx.out k) (hy.out k)))
      clear G
      generalize xs.getD k 0 = x at *
      generalize ys.getD k 0 = y at *
      go_wp2
      rw [E.out]
      go_roundw
      case rel => exact ⟨k + 1, by omega, by go_num, G2⟩
      case measure => simp [intOf]; omega
    · have ek : k = xs.length := by have := hl.out; omega
      go_wp2
      go_ret
      refine ⟨rfl, ?_, G.out.fr⟩
      have := G.out.at_
      rw [ek, bitset.mix_all Nat.lor xs ys hl.out] at this
      exact this
theorem bitset.meet (W : World) (p q n : Nat) (xs ys : List Nat) (h : bitset.At W p n xs) (k : bitset.At W q n ys) : Calls Tryd.prog 14 #[.pointer (some ⟨p + 1, 0, none⟩), .pointer (some ⟨q + 1, 0, none⟩)] W fun e w' => e = .returned (.int .i64 0) ∧ bitset.At w' p n (List.zipWith Nat.land xs ys) ∧ bitset.Fr p W w' := by
  have hl : Aside0 (xs.length = ys.length) := ⟨h.len.trans k.len.symm⟩
  have hm := h.le
  have hm2 := k.le
  have hy := Aside0.mk k.get_lt
  have hx := Aside0.mk h.get_lt
  have H := Aside0.mk h
  have K := Aside0.mk k
  have T := Aside0.mk (bitset.two W p q n n xs ys h k)
  clear h k
  go_enter Tryd.func14, Tryd.ntmps14
  go_wp2_with (go_at_call 30; (with_reducible refine T.out.mono ?_); rw [if_pos rfl]; rintro e w1 ⟨rfl, hd⟩; have D := Aside0.mk hd; have kc1 := (K.out.drawn hd).c1; have kf0 := (K.out.drawn hd).fs 0; clear hd)
  go_loopw [19] (fun v19 wr => ∃ k : Nat, k ≤ ys.length ∧ v19 = .int .i64 (k : Int) ∧ Aside0 (bitset.Go Nat.land W wr p q n xs ys k)) (fun v19 _ => ys.length - (intOf v19).toNat)
  case atStart => exact ⟨0, Nat.zero_le _, rfl, ⟨bitset.Go.start Nat.land H.out K.out D.out⟩⟩
  case round =>
    obtain ⟨k, hk, rfl, G⟩ := hrel
    clear kc1 kf0 D
    by_cases hlt : k < ys.length
    · have hkx : k < xs.length := by have := hl.out; omega
      have c1 := G.out.at_.c1
      rw [bitset.mix_len Nat.land xs ys hl.out k (by omega)] at c1
      have f0 := G.out.at_.fs 0
      have hrd := G.out.rd k (Nat.le_refl _) hlt
      have hwr := G.out.at_.d k (by rw [bitset.mix_len Nat.land xs ys hl.out k (by omega)]; exact hkx)
      rw [bitset.mix_at Nat.land xs ys hl.out k hkx] at hwr
      have hfz := G.out.at_.fz k
      have E : Aside0 (bits .and .u64 ((xs.getD k 0 : Nat) : Int) ((ys.getD k 0 : Nat) : Int) = ((Nat.land (xs.getD k 0) (ys.getD k 0) : Nat) : Int)) := ⟨bits_and_u64_nat _ _ (hx.out k) (hy.out k)⟩
      have G2 := Aside0.mk (G.out.step hl.out hkx (Nat.and_lt_two_pow (n := 64) _ (hy.out k)))
      clear G
      generalize xs.getD k 0 = x at *
      generalize ys.getD k 0 = y at *
      go_wp2
      rw [E.out]
      go_roundw
      case rel => exact ⟨k + 1, by omega, by go_num, G2⟩
      case measure => simp [intOf]; omega
    · have ek : k = xs.length := by have := hl.out; omega
      go_wp2
      go_ret
      refine ⟨rfl, ?_, G.out.fr⟩
      have := G.out.at_
      rw [ek, bitset.mix_all Nat.land xs ys hl.out] at this
      exact this
theorem bitset.lessc (W : World) (p q n : Nat) (xs ys : List Nat) (h : bitset.At W p n xs) (k : bitset.At W q n ys) : Calls Tryd.prog 15 #[.pointer (some ⟨p + 1, 0, none⟩), .pointer (some ⟨q + 1, 0, none⟩)] W fun e w' => e = .returned (.int .i64 0) ∧ bitset.At w' p n (List.zipWith bitset.less xs ys) ∧ bitset.Fr p W w' := by
  have hl : Aside0 (xs.length = ys.length) := ⟨h.len.trans k.len.symm⟩
  have hm := h.le
  have hm2 := k.le
  have hy := Aside0.mk k.get_lt
  have hx := Aside0.mk h.get_lt
  have H := Aside0.mk h
  have K := Aside0.mk k
  have T := Aside0.mk (bitset.two W p q n n xs ys h k)
  clear h k
  go_enter Tryd.func15, Tryd.ntmps15
  go_wp2_with (go_at_call 30; (with_reducible refine T.out.mono ?_); rw [if_pos rfl]; rintro e w1 ⟨rfl, hd⟩; have D := Aside0.mk hd; have kc1 := (K.out.drawn hd).c1; have kf0 := (K.out.drawn hd).fs 0; clear hd)
  go_loopw [19] (fun v19 wr => ∃ k : Nat, k ≤ ys.length ∧ v19 = .int .i64 (k : Int) ∧ Aside0 (bitset.Go bitset.less W wr p q n xs ys k)) (fun v19 _ => ys.length - (intOf v19).toNat)
  case atStart => exact ⟨0, Nat.zero_le _, rfl, ⟨bitset.Go.start bitset.less H.out K.out D.out⟩⟩
  case round =>
    obtain ⟨k, hk, rfl, G⟩ := hrel
    clear kc1 kf0 D
    by_cases hlt : k < ys.length
    · have hkx : k < xs.length := by have := hl.out; omega
      have c1 := G.out.at_.c1
      rw [bitset.mix_len bitset.less xs ys hl.out k (by omega)] at c1
      have f0 := G.out.at_.fs 0
      have hrd := G.out.rd k (Nat.le_refl _) hlt
      have hwr := G.out.at_.d k (by rw [bitset.mix_len bitset.less xs ys hl.out k (by omega)]; exact hkx)
      rw [bitset.mix_at bitset.less xs ys hl.out k hkx] at hwr
      have hfz := G.out.at_.fz k
      have E : Aside0 (bits .andNot .u64 ((xs.getD k 0 : Nat) : Int) ((ys.getD k 0 : Nat) : Int) = ((bitset.less (xs.getD k 0) (ys.getD k 0) : Nat) : Int)) := ⟨bitset.less_eq _ _ (hx.out k) (hy.out k)⟩
      have G2 := Aside0.mk (G.out.step hl.out hkx (bitset.less_lt _ _))
      clear G
      generalize xs.getD k 0 = x at *
      generalize ys.getD k 0 = y at *
      go_wp2
      rw [E.out]
      go_roundw
      case rel => exact ⟨k + 1, by omega, by go_num, G2⟩
      case measure => simp [intOf]; omega
    · have ek : k = xs.length := by have := hl.out; omega
      go_wp2
      go_ret
      refine ⟨rfl, ?_, G.out.fr⟩
      have := G.out.at_
      rw [ek, bitset.mix_all bitset.less xs ys hl.out] at this
      exact this
theorem bitset.same (W : World) (p q n m : Nat) (xs ys : List Nat) (h : bitset.At W p n xs) (k : bitset.At W q m ys) : Calls Tryd.prog 20 #[.pointer (some ⟨p + 1, 0, none⟩), .pointer (some ⟨q + 1, 0, none⟩)] W fun e w' => e = .returned (.bool (decide (n = m ∧ xs = ys))) ∧ Drawn0 W w' := by
  have T := Aside0.mk (bitset.two W p q n m xs ys h k)
  by_cases hnm : n = m
  · subst hnm
    have hl : Aside0 (xs.length = ys.length) := ⟨h.len.trans k.len.symm⟩
    have hm := h.le
    have hm2 := k.le
    have H := Aside0.mk h
    have K := Aside0.mk k
    clear h k
    by_cases hxy : xs = ys
    · have e : decide (n = n ∧ xs = ys) = true := by simp [hxy]
      rw [e]
      have HE := Aside0.mk hxy
      clear hxy e
      go_enter Tryd.func20, Tryd.ntmps20
      go_wp2_with (go_at_call 30; (with_reducible refine T.out.mono ?_); rw [if_pos rfl]; rintro e w1 ⟨rfl, hd⟩; have D := Aside0.mk hd; have kc1 := (K.out.drawn hd).c1; have kf0 := (K.out.drawn hd).fs 0; have hc1 := (H.out.drawn hd).c1; have hf0 := (H.out.drawn hd).fs 0; clear hd)
      go_loop [16] (fun v16 => ∃ k : Nat, k ≤ ys.length ∧ v16 = .int .i64 (k : Int)) (fun v16 => ys.length - (intOf v16).toNat)
      case atStart => exact ⟨0, Nat.zero_le _, rfl⟩
      case round =>
        obtain ⟨k, hk, rfl⟩ := hrel
        by_cases hlt : k < ys.length
        · have hrd := (K.out.drawn D.out).d k hlt
          have hwr := (H.out.drawn D.out).d k (by have := hl.out; omega)
          have hkx : k < xs.length := by have := hl.out; omega
          have E : xs.getD k 0 = ys.getD k 0 := by rw [HE.out]
          rw [E] at hwr
          clear E
          generalize ys.getD k 0 = y at *
          go_wp2
          go_round
          case rel => exact ⟨k + 1, by omega, by go_num⟩
          case measure => simp [intOf]; omega
        · go_wp2
          go_ret
          exact ⟨rfl, D.out⟩
    · have e : decide (n = n ∧ xs = ys) = false := by simp [hxy]
      rw [e]
      have HE := Aside0.mk hxy
      clear hxy e
      go_enter Tryd.func20, Tryd.ntmps20
      go_wp2_with (go_at_call 30; (with_reducible refine T.out.mono ?_); rw [if_pos rfl]; rintro e w1 ⟨rfl, hd⟩; have D := Aside0.mk hd; have kc1 := (K.out.drawn hd).c1; have kf0 := (K.out.drawn hd).fs 0; have hc1 := (H.out.drawn hd).c1; have hf0 := (H.out.drawn hd).fs 0; clear hd)
      go_loop [16] (fun v16 => ∃ k : Nat, k ≤ ys.length ∧ v16 = .int .i64 (k : Int) ∧ Aside0 (xs.take k = ys.take k)) (fun v16 => ys.length - (intOf v16).toNat)
      case atStart => exact ⟨0, Nat.zero_le _, rfl, ⟨by simp⟩⟩
      case round =>
        obtain ⟨k, hk, rfl, HK⟩ := hrel
        by_cases hlt : k < ys.length
        · have hrd := (K.out.drawn D.out).d k hlt
          have hkx : k < xs.length := by have := hl.out; omega
          have hwr := (H.out.drawn D.out).d k hkx
          have GX : Aside0 (xs[k] = xs.getD k 0) := ⟨by simp [List.getD, List.getElem?_eq_getElem hkx]⟩
          have GY : Aside0 (ys[k] = ys.getD k 0) := ⟨by simp [List.getD, List.getElem?_eq_getElem hlt]⟩
          generalize ys.getD k 0 = y at *
          generalize xs.getD k 0 = x at *
          by_cases hc : x = y
          · subst hc
            have HK2 : Aside0 (xs.take (k + 1) = ys.take (k + 1)) := ⟨by rw [List.take_succ_eq_append_getElem hkx, List.take_succ_eq_append_getElem hlt, HK.out, GX.out, GY.out]⟩
            clear GX GY
            go_wp2
            go_round
            case rel => exact ⟨k + 1, by omega, by go_num, HK2⟩
            case measure => simp [intOf]; omega
          · have hb : ((x : Int) != (y : Int)) = true := by simp; omega
            clear hc GX GY
            go_wp2
            go_ret
            exact ⟨rfl, D.out⟩
        · have hk2 : k = ys.length := by omega
          exact absurd (by have := HK.out; rw [hk2] at this; rwa [List.take_length, ← hl.out, List.take_length] at this) HE.out
  · have e : decide (n = m ∧ xs = ys) = false := by simp [hnm]
    rw [e]
    have HN := Aside0.mk hnm
    clear hnm e h k
    go_enter Tryd.func20, Tryd.ntmps20
    go_wp2_with (go_at_call 30; (with_reducible refine T.out.mono ?_); rw [if_neg HN.out]; rintro e w1 ⟨rfl, hd⟩)
    go_ret
    exact ⟨rfl, hd⟩
theorem bitset.copy (W : World) (q n : Nat) (xs : List Nat) (h : bitset.At W q n xs) : Calls Tryd.prog 16 #[.pointer (some ⟨q + 1, 0, none⟩)] W fun e w' => ∃ p, e = .returned (.pointer (some ⟨p + 1, 0, none⟩)) ∧ bitset.At w' p n xs ∧ W.heap.size ≤ p ∧ Below W.heap.size W w' := by
  have hL := h.le
  have hmk := print_make (P := Tryd.prog) 63 66 .u64 8 Tryd.underlying63 bitset.info (by decide) xs.length (by omega)
  rw [bitset.made] at hmk
  have hc0 := h.c0
  have hc1 := h.c1
  have hf0 := h.fs 0
  have hz := h.lt_size
  have e1 := heap_alloc_new W (.cells (bitset.ws (List.replicate xs.length 0)) 66)
  have hr := run_copy_row (P := Tryd.prog) (W.alloc (.cells (bitset.ws (List.replicate xs.length 0)) 66)) 63 63 3 66 W.heap.size 0 xs.length xs.length ⟨q, 0, none⟩ xs.length xs.length (bitset.ws (List.replicate xs.length 0)) 66 (bitset.ws xs).toList
    Tryd.underlying63 (by have := bitset.info; cases hi : Tryd.prog.info? 66 with | none => rw [hi] at this; simp at this | some i => rw [hi] at this; simp at this ⊢; exact this.2.1) e1 (by simp [bitset.ws])
    (fun j v hj => by
      have hj2 : j < xs.length := by
        rcases Nat.lt_or_ge j xs.length with c | c
        · exact c
        · rw [List.getElem?_eq_none (by simpa [bitset.ws] using c)] at hj; cases hj
      have ha : (⟨q, 0, none⟩ : Addr).add j = ⟨q, j, none⟩ := by unfold Addr.add; split <;> simp_all
      rw [ha, Below.cell (below_alloc (Below.refl _ _) _) (by show q < W.heap.size; omega), h.d j hj2]
      have := bitset.ws_get xs j hj2
      rw [← Array.getElem?_toList] at this
      rw [this] at hj
      exact hj)
    (by simp [bitset.ws])
    (by intro v hv; simp only [bitset.ws, List.mem_map] at hv; obtain ⟨x, _, rfl⟩ := hv; rfl)
  have er : (List.take 0 (bitset.ws (List.replicate xs.length 0)).toList ++ (bitset.ws xs).toList ++ List.drop (0 + (bitset.ws xs).toList.length) (bitset.ws (List.replicate xs.length 0)).toList).toArray = bitset.ws xs := by
    simp [bitset.ws]
  rw [er] at hr
  obtain ⟨w1, ew⟩ : ∃ w1, w1 = (W.alloc (.cells (bitset.ws (List.replicate xs.length 0)) 66)).setRow W.heap.size (bitset.ws xs) := ⟨_, rfl⟩
  rw [← ew] at hr
  have b1 : w1.heap[W.heap.size]? = some (.cells (bitset.ws xs) 66 (0, 0)) := by rw [ew]; exact setRow_heap _ _ _ _ _ _ e1
  have b2 : Below W.heap.size W w1 := by rw [ew]; exact below_setRow (below_alloc (Below.refl _ _) _) (Nat.le_refl _) _
  have b3 : w1.heap.size = W.heap.size + 1 := by rw [ew]; simp
  have d0 : w1.cell? ⟨q + 1, 0, none⟩ = some (.int .i64 (n : Int)) := (Below.cell b2 hz).trans hc0
  have d1 : w1.frozen? ⟨q + 1, 0, none⟩ = false := (Below.frozen b2 hz).trans hf0
  have H := Aside0.mk h
  have HR := Aside0.mk hr
  have B1 := Aside0.mk b1
  have B2 := Aside0.mk b2
  have B3 := Aside0.mk b3
  have C1 := Aside0.mk (heap_alloc_new w1 (.cells #[.int .i64 (n : Int), .slice (some ⟨W.heap.size, 0, none⟩) xs.length xs.length] 65))
  clear h hr e1 er b1 b2 b3 ew
  go_enter Tryd.func16, Tryd.ntmps16
  go_wp2_with ((with_reducible refine gate_builtin (b := .copy) (xs := #[.tmp 12, .tmp 16]) rfl ?_); refine Lib.wpList_copy_run _ rfl (.tmp 12) (.tmp 16) 63 63 rfl _ _ rfl rfl HR.out ?_)
  go_ret
  refine ⟨W.heap.size, by first | rfl | (rw [B3.out]; rfl), ⟨blk_alloc B1.out _, ?_, H.out.len, H.out.lt, H.out.nle⟩, Nat.le_refl _, below_alloc B2.out _⟩
  have := C1.out
  rw [B3.out] at this
  exact this
def bitset.byts (x : Nat) : List Int := (List.range 8).map fun j => (x : Int) / 2 ^ (8 * j) % 256
def bitset.keyB (xs : List Nat) : List Int := xs.flatMap bitset.byts
theorem bitset.byts_snoc (x j : Nat) (hj : j < 8) : (bitset.byts x).take (j + 1) = (bitset.byts x).take j ++ [(x : Int) / 2 ^ (8 * j) % 256] := by
  rw [List.take_succ_eq_append_getElem (by simp [bitset.byts]; exact hj)]
  simp [bitset.byts]
theorem bitset.keyB_snoc (xs : List Nat) (k : Nat) (hk : k < xs.length) : bitset.keyB (xs.take (k + 1)) = bitset.keyB (xs.take k) ++ bitset.byts (xs.getD k 0) := by
  unfold bitset.keyB
  rw [List.take_succ_eq_append_getElem hk, List.flatMap_append]
  simp [List.getD, List.getElem?_eq_getElem hk]
theorem bitset.keyB_len (xs : List Nat) : (bitset.keyB xs).length = 8 * xs.length := by
  induction xs with
  | nil => rfl
  | cons x xs ih => 
    have : bitset.keyB (x :: xs) = bitset.byts x ++ bitset.keyB xs := rfl
    rw [this, List.length_append, ih]
    simp [bitset.byts]
    omega
theorem bitset.info8 : (Tryd.prog.info? 5).map (fun i => (i.zero, i.size, i.bytes)) = some (some (.int .u8 0), 1, 1) := by kernel_rfl
theorem bitset.key (W : World) (q n : Nat) (xs : List Nat) (h : bitset.At W q n xs) : Calls Tryd.prog 23 #[.pointer (some ⟨q + 1, 0, none⟩)] W fun e w' => e = .returned (.string (strOfNums (bitset.keyB xs))) ∧ Below W.heap.size W w' := by
  have hL := h.le
  have hmk : ∃ w1, (Instr.makeSlice 68 (.int .i64 0) (.int .i64 (8 * (xs.length : Int)))).run Tryd.prog W = .ok (.slice (some ⟨W.heap.size, 0, none⟩) 0 (8 * xs.length)) w1 ∧
      w1.ownsRow W.heap.size 5 1 (.slice (some ⟨W.heap.size, 0, none⟩) 0 (8 * xs.length)) 0 [] ∧ W.grownBy w1 none := by
    obtain ⟨i0, hi, hz0, hz1, hz2⟩ := info_parts bitset.info8
    have := run_make_own (P := Tryd.prog) W W.heap.size 68 5 i0 (.int .u8 0) 1 Tryd.underlying68 hi hz0 hz1 .i64 .i64 (8 * xs.length) (by rw [hz2]; omega) (by simp [maxLen]; omega) (Nat.le_refl _)
    rw [show ((8 * xs.length : Nat) : Int) = 8 * (xs.length : Int) by omega] at this
    exact this
  obtain ⟨w1, hr, ho, hg⟩ := hmk
  have hb : Below W.heap.size W w1 := (Below.refl _ _).grown hg (Nat.le_refl _) (fun k hk => by cases hk)
  have hc1 := h.c1
  have hf0 := h.fs 0
  have hz := h.lt_size
  have d1 : w1.cell? ⟨q + 1, 1, none⟩ = some (.slice (some ⟨q, 0, none⟩) xs.length xs.length) := (Below.cell hb hz).trans hc1
  have d2 : w1.frozen? ⟨q + 1, 0, none⟩ = false := (Below.frozen hb hz).trans hf0
  have H := Aside0.mk h
  have HO := Aside0.mk ho
  have HB := Aside0.mk hb
  clear h ho hb hg
  go_enter Tryd.func23, Tryd.ntmps23
  go_wp2
  clear hr
  go_loopw [3, 21] (fun v3 v21 wr => ∃ k : Nat, k ≤ xs.length ∧ v21 = .int .i64 (k : Int) ∧ Aside0 (wr.ownsRow W.heap.size 5 1 v3 (bitset.keyB (xs.take k)).length (nums .u8 (bitset.keyB (xs.take k)))) ∧ Aside0 (Below W.heap.size W wr)) (fun _ v21 _ => xs.length - (intOf v21).toNat)
  case atStart => exact ⟨0, Nat.zero_le _, rfl, ⟨HO.out⟩, HB⟩
  case round =>
    obtain ⟨k, hk, rfl, G, B⟩ := hrel
    by_cases hlt : k < xs.length
    · have hrd := (Below.cell B.out (p := ⟨q, k, none⟩) (by show q < _; omega)).trans (H.out.d k hlt)
      have E := Aside0.mk (bitset.keyB_snoc xs k hlt)
      have hx := Aside0.mk (H.out.get_lt k)
      generalize xs.getD k 0 = x at *
      go_wp2
      obtain ⟨wo, ewo⟩ : ∃ wo : World, wo = wr := ⟨_, rfl⟩
      subst ewo
      clear hrd
      go_loopw [3, 25] (fun v3 v25 wr => ∃ j : Nat, j ≤ 8 ∧ v25 = .int .i64 (j : Int) ∧ Aside0 (wr.ownsRow W.heap.size 5 1 v3 (bitset.keyB (xs.take k) ++ (bitset.byts x).take j).length (nums .u8 (bitset.keyB (xs.take k) ++ (bitset.byts x).take j))) ∧ Aside0 (Below W.heap.size W wr)) (fun _ v25 _ => 8 - (intOf v25).toNat)
      case atStart => exact ⟨0, by omega, rfl, ⟨by simpa using G.out⟩, B⟩
      case round =>
        clear G B
        obtain ⟨j, hj, rfl, G, B⟩ := hrel
        by_cases hlt2 : j < 8
        · have E2 := Aside0.mk (bitset.byts_snoc x j hlt2)
          have EL : Aside0 ((bitset.keyB (xs.take k) ++ (bitset.byts x).take j).length + 1 ≤ 1000) := ⟨by
            have := bitset.keyB_len (xs.take k)
            rw [List.length_append, this, List.length_take, List.length_take]
            omega⟩
          go_wp2_with ((with_reducible refine gate_builtin (b := .append) (xs := #[.tmp 28, .tmp 34]) rfl ?_); at_builtin; refine print_append_num (w0 := W) W.heap.size rfl (.tmp 28) (.tmp 34) 68 5 .u8 1 rfl Tryd.underlying68 bitset.info8 (by decide) _ (bitset.keyB (xs.take k) ++ (bitset.byts x).take j) ((x : Int) / 2 ^ (8 * j) % 256) rfl ?aX G.out B.out (B.out.size) ?aL ?_; (case aX => rfl); (case aL => have := EL.out; omega); intro v1 w1 ho hb hg hat; have G2 := Aside0.mk ho; have B2 := Aside0.mk hb; clear ho hb hg hat)
          go_roundw
          case rel => exact ⟨j + 1, by omega, by go_num, ⟨by have := G2.out; rw [List.append_assoc, ← E2.out] at this; exact this⟩, B2⟩
          case measure => simp [intOf]; omega
        · have ej : j = 8 := by omega
          have e8 : (bitset.byts x).take 8 = bitset.byts x := List.take_of_length_le (by simp [bitset.byts])
          have G2 := G.out
          rw [ej, e8, ← E.out] at G2
          have G3 := Aside0.mk G2
          clear G2 e8
          go_wp2
          go_roundw
          case rel => exact ⟨k + 1, by omega, by go_num, G3, B⟩
          case measure => simp [intOf]; omega
    · have ek : k = xs.length := by omega
      have G2 := G.out
      rw [ek, List.take_length] at G2
      have hcv := own_string (P := Tryd.prog) (src := 68) (dst := 9) Tryd.underlying68 Tryd.underlying5 Tryd.underlying9 G2
      clear G2
      go_wp2
      go_ret
      exact ⟨rfl, B.out⟩

end Go.Proofs.YtpekanolhgcljaaDoor.X
