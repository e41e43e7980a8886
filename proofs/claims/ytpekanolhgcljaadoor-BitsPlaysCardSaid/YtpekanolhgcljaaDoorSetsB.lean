/- What the program's calls on sets come to, by hand: each call's own contract; no condition beyond what each contract says. -/
import Derived.Test.YtpekanolhgcljaaDoorSets
import Derived.Test.YtpekanolhgcljaaDoorBitL
import Derived.Lib.OthersKept
namespace Go.Proofs.YtpekanolhgcljaaDoor.X
open Go.RowKit Go.Proofs.YtpekanolhgcljaaDoorW.PrintWords Go.Proofs.YtpekanolhgcljaaDoorW.PrintLast Go.Proofs.YtpekanolhgcljaaDoorW.PrintMore
set_option linter.unusedVariables false
set_option linter.unusedSimpArgs false
/-- The library's table lies in the first block. -/
structure bitset.Tab (W : World) : Prop where
  cell : ∀ i : Nat, i < 64 → W.cell? ⟨0, i, none⟩ = some (.int .u8 ((BitP.tab.getD i 0 : Nat) : Int))
  pos : 0 < W.heap.size
theorem bitset.Tab.below {W V : World} (h : bitset.Tab W) (k : Below W.heap.size W V) : bitset.Tab V :=
  ⟨fun i hi => (Below.cell k (p := ⟨0, i, none⟩) h.pos).trans (h.cell i hi), Nat.lt_of_lt_of_le h.pos k.size⟩
theorem bitset.Tab.fr {W V : World} {p : Nat} (h : bitset.Tab W) (k : bitset.Fr p W V) (hp : 0 < p) : bitset.Tab V :=
  ⟨fun i hi => (World.cell?_of_block (w := W) (k.block 0 (by omega))).trans (h.cell i hi), by rw [k.size]; exact h.pos⟩
theorem bitset.ntz_num (y k : Nat) (hy : y < 18446744073709551616) (h0 : y ≠ 0) (hk : k < 64) (e : y &&& (18446744073709551616 - y) = 2 ^ k) :
    ∃ i : Nat, i < 64 ∧ IntKind.u64.wrap (bits .and .u64 (y : Int) (IntKind.u64.wrap (-(y : Int))) * 285870213051353865) / 288230376151711744 = (i : Int) ∧ BitP.tab.getD i 0 = k := by
  have e1 : IntKind.u64.wrap (-(y : Int)) = ((18446744073709551616 - y : Nat) : Int) := by
    simp only [IntKind.wrap, IntKind.bits, IntKind.signed]; simp; omega
  rw [e1, bits_and_u64_nat y _ hy (by omega), e]
  obtain ⟨t1, t2⟩ := BitP.tab_all ⟨k, hk⟩
  simp only [] at t1 t2
  refine ⟨_, t2, ?_, t1⟩
  have e2 : IntKind.u64.wrap (((2 ^ k : Nat) : Int) * 285870213051353865) = ((2 ^ k * 285870213051353865 % 18446744073709551616 : Nat) : Int) := by
    simp only [IntKind.wrap, IntKind.bits, IntKind.signed]
    have : ((2 ^ k : Nat) : Int) * 285870213051353865 = ((2 ^ k * 285870213051353865 : Nat) : Int) := by rw [Int.natCast_mul]; rfl
    rw [this]
    generalize 2 ^ k * 285870213051353865 = u
    simp
  rw [e2]
  generalize 2 ^ k * 285870213051353865 % 18446744073709551616 = u
  omega
theorem bitset.ntz (y k : Nat) (hy : y < 18446744073709551616) (h0 : y ≠ 0) (hk : k < 64) (e : y &&& (18446744073709551616 - y) = 2 ^ k) (W : World) (T : bitset.Tab W) : Calls Tryd.prog 33 #[.int .u64 (y : Int)] W fun e w' => e = .returned (.int .i64 (k : Int)) ∧ W = w' := by
  obtain ⟨i, hi, ei, et⟩ := bitset.ntz_num y k hy h0 hk e
  have hc := T.cell i hi
  rw [et] at hc
  have hi0 : (i : Int) < 64 := by omega
  have hb : ((y : Int) == 0) = false := by simp; omega
  have hk0 : (k : Int) < 64 := by omega
  clear T e et h0
  go_enter Tryd.func33, Tryd.ntmps33
  go_wp2
  go_ret
  exact ⟨rfl, rfl⟩
/-- The numbers in the first so many words. -/
def bitset.lst (xs : List Nat) (k : Nat) : List Int := (List.range k).flatMap fun j => (BitP.lb (xs.getD j 0)).map fun i : Nat => 64 * (j : Int) + (i : Int)
theorem bitset.lst_succ (xs : List Nat) (k : Nat) : bitset.lst xs (k + 1) = bitset.lst xs k ++ (BitP.lb (xs.getD k 0)).map fun i : Nat => 64 * (k : Int) + (i : Int) := by
  unfold bitset.lst
  rw [List.range_succ, List.flatMap_append]
  simp
theorem bitset.lst_len (xs : List Nat) (k : Nat) : (bitset.lst xs k).length ≤ 64 * k := by
  induction k with
  | zero => simp [bitset.lst]
  | succ k ih =>
    rw [bitset.lst_succ, List.length_append, List.length_map]
    have := BitP.lb_len (xs.getD k 0)
    omega
theorem bitset.info_int : (Tryd.prog.info? 3).map (fun i => (i.zero, i.size, i.bytes)) = some (some (.int .i64 0), 1, 8) := by kernel_rfl
theorem bitset.list (W : World) (q n : Nat) (xs : List Nat) (h : bitset.At W q n xs) (T : bitset.Tab W) : Calls Tryd.prog 25 #[.pointer (some ⟨q + 1, 0, none⟩)] W fun e w' => ∃ v, e = .returned v ∧ w'.ownsRow W.heap.size 3 1 v (bitset.lst xs xs.length).length (nums .i64 (bitset.lst xs xs.length)) ∧ Below W.heap.size W w' := by
  have hL := h.le
  have hc1 := h.c1
  have hf0 := h.fs 0
  have hz := h.lt_size
  have H := Aside0.mk h
  have HT := Aside0.mk T
  clear h T
  go_enter Tryd.func25, Tryd.ntmps25
  go_wp2
  go_loopw [3, 13] (fun v3 v13 wr => ∃ k : Nat, k ≤ xs.length ∧ v13 = .int .i64 (k : Int) ∧ Aside0 (wr.ownsRow W.heap.size 3 1 v3 (bitset.lst xs k).length (nums .i64 (bitset.lst xs k))) ∧ Aside0 (Below W.heap.size W wr)) (fun _ v13 _ => xs.length - (intOf v13).toNat)
  case atStart => exact ⟨0, Nat.zero_le _, rfl, ⟨⟨rfl, .inl ⟨rfl, rfl⟩⟩⟩, ⟨Below.refl _ _⟩⟩
  case round =>
    obtain ⟨k, hk, rfl, G, B⟩ := hrel
    by_cases hlt : k < xs.length
    · have hrd := (Below.cell B.out (p := ⟨q, k, none⟩) (by show q < _; omega)).trans (H.out.d k hlt)
      have E := Aside0.mk (bitset.lst_succ xs k)
      have hx := Aside0.mk (H.out.get_lt k)
      generalize xs.getD k 0 = x at *
      go_wp2
      obtain ⟨wo, ewo⟩ : ∃ wo : World, wo = wr := ⟨_, rfl⟩
      subst ewo
      clear hrd
      go_loopw [3, 5] (fun v3 v5 wr => ∃ y : Nat, v5 = .int .u64 (y : Int) ∧ Aside0 (y < 18446744073709551616) ∧ Aside0 (∃ ds : List Int, ds ++ (BitP.lb y).map (fun i : Nat => 64 * (k : Int) + (i : Int)) = (BitP.lb x).map (fun i : Nat => 64 * (k : Int) + (i : Int)) ∧ wr.ownsRow W.heap.size 3 1 v3 (bitset.lst xs k ++ ds).length (nums .i64 (bitset.lst xs k ++ ds))) ∧ Aside0 (Below W.heap.size W wr)) (fun _ v5 _ => (intOf v5).toNat)
      case atStart => exact ⟨x, rfl, hx, ⟨[], rfl, by rw [List.append_nil]; exact G.out⟩, B⟩
      case round =>
        clear G B
        obtain ⟨y, rfl, hy, G, B⟩ := hrel
        by_cases h0 : y = 0
        · subst h0
          obtain ⟨ds, ed, G2⟩ := G.out
          rw [BitP.lb_zero, List.map_nil, List.append_nil] at ed
          rw [ed, ← E.out] at G2
          have G3 := Aside0.mk G2
          clear G2 ed G
          go_wp2
          go_roundw
          case rel => exact ⟨k + 1, by omega, by go_num, G3, B⟩
          case measure => simp [intOf]; omega
        · obtain ⟨c, hc, e1, e2, e3⟩ := BitP.low y h0 hy.out
          obtain ⟨ds, ed, G2⟩ := G.out
          have EL : Aside0 ((bitset.lst xs k ++ ds).length + 1 ≤ 100000) := ⟨by
            have a := bitset.lst_len xs k
            have b := congrArg List.length ed
            rw [List.length_append, List.length_map, List.length_map] at b
            have d := BitP.lb_len x
            rw [List.length_append]
            omega⟩
          have hyne : ((y : Int) != 0) = true := by simp; omega
          have hy1 : 1 ≤ (y : Int) := by omega
          have hkb : (k : Int) ≤ 64 := by omega
          have hcb : (c : Int) < 64 := by omega
          have E1 := Aside0.mk e1
          have H0 := Aside0.mk h0
          have G4 := Aside0.mk G2
          have ED : Aside0 ((ds ++ [64 * (k : Int) + (c : Int)]) ++ (BitP.lb (y &&& (y - 1))).map (fun i : Nat => 64 * (k : Int) + (i : Int)) = (BitP.lb x).map (fun i : Nat => 64 * (k : Int) + (i : Int))) := ⟨by
            rw [e2, List.map_cons] at ed
            rw [List.append_assoc]; exact ed⟩
          have E3 := Aside0.mk e3
          have EA : Aside0 (bits .and .u64 (y : Int) (IntKind.u64.wrap ((y : Int) - 1)) = ((y &&& (y - 1) : Nat) : Int)) := ⟨by
            rw [← bits_and_u64_nat y (y - 1) hy.out (by have := hy.out; omega), show (y : Int) - 1 = ((y - 1 : Nat) : Int) by omega, bitset.u64_in _ (by have := hy.out; omega)]⟩
          clear ed G2 G e1 e2 e3 h0
          have TT := Aside0.mk (fun V hV => bitset.ntz y c hy.out H0.out hc E1.out V hV)
          go_wp2_with (first
            | (go_at_call 33; (with_reducible refine (TT.out _ (HT.out.below B.out)).mono ?_); rintro e w' ⟨rfl, rfl⟩)
            | ((with_reducible refine gate_builtin (b := .append) (xs := #[.tmp 24, .tmp 30]) rfl ?_); at_builtin; refine print_append_num (w0 := W) W.heap.size rfl (.tmp 24) (.tmp 30) 54 3 .i64 8 rfl Tryd.underlying54 bitset.info_int (by decide) _ (bitset.lst xs k ++ ds) (64 * (k : Int) + (c : Int)) rfl ?aX G4.out B.out (B.out.size) ?aL ?_; (case aX => rfl); (case aL => have := EL.out; omega); intro v1 w1 ho hb hg hat; have G5 := Aside0.mk ho; have B2 := Aside0.mk hb; clear ho hb hg hat))
          rw [EA.out]
          go_roundw
          case rel => exact ⟨_, rfl, ⟨Nat.lt_of_lt_of_le E3.out (by have := hy.out; omega)⟩, ⟨_, ED.out, by rw [← List.append_assoc]; exact G5.out⟩, B2⟩
          case measure => have := E3.out; simp [intOf]; omega
    · have ek : k = xs.length := by omega
      subst ek
      go_wp2
      go_ret
      exact ⟨_, rfl, G.out, B.out⟩
theorem bitset.or0 (x b : Nat) (hb : b < 64) : (x / 2 ^ b) % 2 = (if x.testBit b then 1 else 0) := by
  rw [Nat.testBit_eq_decide_div_mod_eq]
  by_cases c : x / 2 ^ b % 2 = 1
  · simp [c]
  · have : x / 2 ^ b % 2 = 0 := by omega
    simp [this]
theorem bitset.has (W : World) (q n : Nat) (xs : List Nat) (i : Int) (h : bitset.At W q n xs) : Calls Tryd.prog 18 #[.pointer (some ⟨q + 1, 0, none⟩), .int .i64 i] W fun e w' => e = .returned (.bool (decide (0 ≤ i ∧ i < n) && (xs.getD (i / 64).toNat 0).testBit (i % 64).toNat)) ∧ W = w' := by
  have M := Aside0.mk (bitset.may W q n xs i h)
  by_cases hi : 0 ≤ i ∧ i < n
  · obtain ⟨j, rfl⟩ := Int.eq_ofNat_of_zero_le hi.1
    have hj : j < n := by omega
    obtain ⟨a, b, hab, hb⟩ : ∃ a b, j = 64 * a + b ∧ b < 64 := ⟨j / 64, j % 64, by omega, by omega⟩
    have ha : a < xs.length := by have := h.len; omega
    have e0 : decide (0 ≤ (j : Int) ∧ (j : Int) < n) = true := by simp; omega
    have ea : ((j : Int) / 64).toNat = a := by omega
    have eb : ((j : Int) % 64).toNat = b := by omega
    rw [e0, Bool.true_and, ea, eb]
    have hL := h.le
    have hj0 : 0 ≤ (j : Int) := by omega
    have hq : (j : Int) / 64 = (a : Int) := by omega
    have hr : (j : Int) % 64 = (b : Int) := by omega
    have hc1 := h.c1
    have hf0 := h.fs 0
    have hd := h.d a ha
    have hnle := h.nle
    have him : (j : Int) ≤ 4096 := by omega
    have E : Aside0 ((0 : Int) ≤ j ∧ (j : Int) < n) := ⟨by omega⟩
    have hx := Aside0.mk (h.get_lt a)
    clear h hab hnle hi e0 ea eb
    generalize xs.getD a 0 = x at *
    have EB : Aside0 ((bits .and .u64 ((x : Int) / 2 ^ b) 1 == 1) = x.testBit b) := ⟨by
      have h2 : x / 2 ^ b < 18446744073709551616 := Nat.lt_of_le_of_lt (Nat.div_le_self _ _) hx.out
      have e1 : (x : Int) / 2 ^ b = ((x / 2 ^ b : Nat) : Int) := by rw [Int.natCast_ediv]; simp
      have e2 := bits_and_u64_nat (x / 2 ^ b) 1 h2 (by omega)
      rw [e1]
      rw [show ((1 : Nat) : Int) = 1 from rfl] at e2
      rw [e2, Nat.and_one_is_mod, bitset.or0 x b hb]
      cases x.testBit b <;> rfl⟩
    go_enter Tryd.func18, Tryd.ntmps18
    go_wp2_with (go_at_call 29; (with_reducible refine M.out.mono ?_); rw [if_pos E.out]; rintro e w' ⟨rfl, rfl⟩)
    go_ret
    exact ⟨by rw [← EB.out]; rfl, rfl⟩
  · have e0 : decide (0 ≤ i ∧ i < (n : Int)) = false := by simp; omega
    rw [e0, Bool.false_and]
    have E := Aside0.mk hi
    clear hi e0 h
    go_enter Tryd.func18, Tryd.ntmps18
    go_wp2_with (go_at_call 29; (with_reducible refine M.out.mono ?_); rw [if_neg E.out]; rintro e w' ⟨rfl, rfl⟩)
    go_ret
    exact ⟨rfl, rfl⟩
theorem bitset.put_out (W : World) (q n : Nat) (xs : List Nat) (i : Int) (h : bitset.At W q n xs) (hi : ¬ (0 ≤ i ∧ i < n)) : Calls Tryd.prog 9 #[.pointer (some ⟨q + 1, 0, none⟩), .int .i64 i] W fun e w' => e = .returned (.int .i64 2) ∧ W = w' := by
  have M := Aside0.mk (bitset.may W q n xs i h)
  have E := Aside0.mk hi
  clear hi h
  go_enter Tryd.func9, Tryd.ntmps9
  go_wp2_with (go_at_call 29; (with_reducible refine M.out.mono ?_); rw [if_neg E.out]; rintro e w' ⟨rfl, rfl⟩)
  go_ret
  exact ⟨rfl, rfl⟩
theorem bitset.drop_out (W : World) (q n : Nat) (xs : List Nat) (i : Int) (h : bitset.At W q n xs) (hi : ¬ (0 ≤ i ∧ i < n)) : Calls Tryd.prog 11 #[.pointer (some ⟨q + 1, 0, none⟩), .int .i64 i] W fun e w' => e = .returned (.int .i64 2) ∧ W = w' := by
  have M := Aside0.mk (bitset.may W q n xs i h)
  have E := Aside0.mk hi
  clear hi h
  go_enter Tryd.func11, Tryd.ntmps11
  go_wp2_with (go_at_call 29; (with_reducible refine M.out.mono ?_); rw [if_neg E.out]; rintro e w' ⟨rfl, rfl⟩)
  go_ret
  exact ⟨rfl, rfl⟩
theorem bitset.less_pow (x b : Nat) (hx : x < 18446744073709551616) (hb : b < 64) : bits .andNot .u64 (x : Int) (IntKind.u64.wrap (2 ^ b)) = ((bitset.less x (2 ^ b) : Nat) : Int) := by
  have h2 : 2 ^ b < 18446744073709551616 := (show 2 ^ b < 2 ^ 64 from Nat.pow_lt_pow_right (by decide) hb)
  have e : (2 : Int) ^ b = ((2 ^ b : Nat) : Int) := by simp
  rw [e, bitset.u64_in _ h2]
  exact bitset.less_eq x (2 ^ b) hx h2
theorem bitset.drop (W : World) (q n : Nat) (xs : List Nat) (i a b : Nat) (h : bitset.At W q n xs) (hi : i < n) (hab : i = 64 * a + b) (hb : b < 64) : Calls Tryd.prog 11 #[.pointer (some ⟨q + 1, 0, none⟩), .int .i64 (i : Int)] W fun e w' => e = .returned (.int .i64 0) ∧ bitset.At w' q n (xs.set a (bitset.less (xs.getD a 0) (2 ^ b))) ∧ bitset.Fr q W w' := by
  have H := Aside0.mk h
  have hL : a < xs.length := by have := h.len; omega
  have hL2 := h.le
  have hi0 : 0 ≤ (i : Int) := by omega
  have hq : (i : Int) / 64 = (a : Int) := by omega
  have hr : (i : Int) % 64 = (b : Int) := by omega
  have hc1 := h.c1
  have hf0 := h.fs 0
  have hd := h.d a hL
  have hg := h.fz a
  have hnle := h.nle
  have him : (i : Int) ≤ 4096 := by omega
  have E : Aside0 ((0 : Int) ≤ i ∧ (i : Int) < n) := ⟨by omega⟩
  have hx := Aside0.mk (h.get_lt a)
  clear h hab hnle
  generalize xs.getD a 0 = x at *
  go_enter Tryd.func11, Tryd.ntmps11
  go_wp2_with (go_at_call 29; (with_reducible refine (bitset.may W q n xs i H.out).mono ?_); rw [if_pos E.out]; rintro e w' ⟨rfl, rfl⟩)
  go_region
  go_wp2
  go_ret
  have e1 := bitset.less_pow x b hx.out hb
  rw [e1]
  exact ⟨rfl, (H.out.put a _ (bitset.less_lt _ _)).drew, ((bitset.Fr.refl q W).set a _).drew⟩
theorem bitset.size (W : World) (q n : Nat) (xs : List Nat) (h : bitset.At W q n xs) : Calls Tryd.prog 32 #[.pointer (some ⟨q + 1, 0, none⟩)] W fun e w' => e = .returned (.int .i64 (n : Int)) ∧ W = w' := by
  have hc0 := h.c0
  have hf0 := h.fs 0
  clear h
  go_enter Tryd.func32, Tryd.ntmps32
  go_wp2
  go_ret
  exact ⟨rfl, rfl⟩
theorem bitset.join_ne (W : World) (p q n m : Nat) (xs ys : List Nat) (h : bitset.At W p n xs) (k : bitset.At W q m ys) (hn : n ≠ m) : Calls Tryd.prog 12 #[.pointer (some ⟨p + 1, 0, none⟩), .pointer (some ⟨q + 1, 0, none⟩)] W fun e w' => e = .returned (.int .i64 3) ∧ Drawn0 W w' := by
  have T := Aside0.mk (bitset.two W p q n m xs ys h k)
  have E := Aside0.mk hn
  clear h k hn
  go_enter Tryd.func12, Tryd.ntmps12
  go_wp2_with (go_at_call 30; (with_reducible refine T.out.mono ?_); rw [if_neg E.out]; rintro e w1 ⟨rfl, hd⟩)
  go_ret
  exact ⟨rfl, hd⟩
theorem bitset.meet_ne (W : World) (p q n m : Nat) (xs ys : List Nat) (h : bitset.At W p n xs) (k : bitset.At W q m ys) (hn : n ≠ m) : Calls Tryd.prog 14 #[.pointer (some ⟨p + 1, 0, none⟩), .pointer (some ⟨q + 1, 0, none⟩)] W fun e w' => e = .returned (.int .i64 3) ∧ Drawn0 W w' := by
  have T := Aside0.mk (bitset.two W p q n m xs ys h k)
  have E := Aside0.mk hn
  clear h k hn
  go_enter Tryd.func14, Tryd.ntmps14
  go_wp2_with (go_at_call 30; (with_reducible refine T.out.mono ?_); rw [if_neg E.out]; rintro e w1 ⟨rfl, hd⟩)
  go_ret
  exact ⟨rfl, hd⟩
theorem bitset.less_ne (W : World) (p q n m : Nat) (xs ys : List Nat) (h : bitset.At W p n xs) (k : bitset.At W q m ys) (hn : n ≠ m) : Calls Tryd.prog 15 #[.pointer (some ⟨p + 1, 0, none⟩), .pointer (some ⟨q + 1, 0, none⟩)] W fun e w' => e = .returned (.int .i64 3) ∧ Drawn0 W w' := by
  have T := Aside0.mk (bitset.two W p q n m xs ys h k)
  have E := Aside0.mk hn
  clear h k hn
  go_enter Tryd.func15, Tryd.ntmps15
  go_wp2_with (go_at_call 30; (with_reducible refine T.out.mono ?_); rw [if_neg E.out]; rintro e w1 ⟨rfl, hd⟩)
  go_ret
  exact ⟨rfl, hd⟩
theorem bitset.two_nil1 (W : World) (v : Option Addr) : Calls Tryd.prog 30 #[.pointer none, .pointer v] W fun e w' => e = .returned (.int .i64 1) ∧ W = w' := by
  go_enter Tryd.func30, Tryd.ntmps30
  go_wp2
  go_ret
  exact ⟨rfl, rfl⟩
theorem bitset.two_nil2 (W : World) (a : Addr) : Calls Tryd.prog 30 #[.pointer (some a), .pointer none] W fun e w' => e = .returned (.int .i64 1) ∧ W = w' := by
  go_enter Tryd.func30, Tryd.ntmps30
  go_wp2
  go_ret
  exact ⟨rfl, rfl⟩
theorem bitset.join_nil1 (W : World) (v : Option Addr) : Calls Tryd.prog 12 #[.pointer none, .pointer v] W fun e w' => e = .returned (.int .i64 1) ∧ W = w' := by
  go_enter Tryd.func12, Tryd.ntmps12
  go_wp2_with (go_at_call 30; (with_reducible refine (bitset.two_nil1 _ _).mono ?_); rintro e w1 ⟨rfl, rfl⟩)
  go_ret
  exact ⟨rfl, rfl⟩
theorem bitset.join_nil2 (W : World) (a : Addr) : Calls Tryd.prog 12 #[.pointer (some a), .pointer none] W fun e w' => e = .returned (.int .i64 1) ∧ W = w' := by
  go_enter Tryd.func12, Tryd.ntmps12
  go_wp2_with (go_at_call 30; (with_reducible refine (bitset.two_nil2 _ _).mono ?_); rintro e w1 ⟨rfl, rfl⟩)
  go_ret
  exact ⟨rfl, rfl⟩
theorem bitset.meet_nil1 (W : World) (v : Option Addr) : Calls Tryd.prog 14 #[.pointer none, .pointer v] W fun e w' => e = .returned (.int .i64 1) ∧ W = w' := by
  go_enter Tryd.func14, Tryd.ntmps14
  go_wp2_with (go_at_call 30; (with_reducible refine (bitset.two_nil1 _ _).mono ?_); rintro e w1 ⟨rfl, rfl⟩)
  go_ret
  exact ⟨rfl, rfl⟩
theorem bitset.meet_nil2 (W : World) (a : Addr) : Calls Tryd.prog 14 #[.pointer (some a), .pointer none] W fun e w' => e = .returned (.int .i64 1) ∧ W = w' := by
  go_enter Tryd.func14, Tryd.ntmps14
  go_wp2_with (go_at_call 30; (with_reducible refine (bitset.two_nil2 _ _).mono ?_); rintro e w1 ⟨rfl, rfl⟩)
  go_ret
  exact ⟨rfl, rfl⟩
theorem bitset.less_nil1 (W : World) (v : Option Addr) : Calls Tryd.prog 15 #[.pointer none, .pointer v] W fun e w' => e = .returned (.int .i64 1) ∧ W = w' := by
  go_enter Tryd.func15, Tryd.ntmps15
  go_wp2_with (go_at_call 30; (with_reducible refine (bitset.two_nil1 _ _).mono ?_); rintro e w1 ⟨rfl, rfl⟩)
  go_ret
  exact ⟨rfl, rfl⟩
theorem bitset.less_nil2 (W : World) (a : Addr) : Calls Tryd.prog 15 #[.pointer (some a), .pointer none] W fun e w' => e = .returned (.int .i64 1) ∧ W = w' := by
  go_enter Tryd.func15, Tryd.ntmps15
  go_wp2_with (go_at_call 30; (with_reducible refine (bitset.two_nil2 _ _).mono ?_); rintro e w1 ⟨rfl, rfl⟩)
  go_ret
  exact ⟨rfl, rfl⟩
theorem bitset.same_nil1 (W : World) (v : Option Addr) : Calls Tryd.prog 20 #[.pointer none, .pointer v] W fun e w' => e = .returned (.bool false) ∧ W = w' := by
  go_enter Tryd.func20, Tryd.ntmps20
  go_wp2_with (go_at_call 30; (with_reducible refine (bitset.two_nil1 _ _).mono ?_); rintro e w1 ⟨rfl, rfl⟩)
  go_ret
  exact ⟨rfl, rfl⟩
theorem bitset.same_nil2 (W : World) (a : Addr) : Calls Tryd.prog 20 #[.pointer (some a), .pointer none] W fun e w' => e = .returned (.bool false) ∧ W = w' := by
  go_enter Tryd.func20, Tryd.ntmps20
  go_wp2_with (go_at_call 30; (with_reducible refine (bitset.two_nil2 _ _).mono ?_); rintro e w1 ⟨rfl, rfl⟩)
  go_ret
  exact ⟨rfl, rfl⟩
theorem bitset.may_nil (W : World) (i : Int) : Calls Tryd.prog 29 #[.pointer none, .int .i64 i] W fun e w' => e = .returned (.int .i64 1) ∧ W = w' := by
  go_enter Tryd.func29, Tryd.ntmps29
  go_wp2
  go_ret
  exact ⟨rfl, rfl⟩
theorem bitset.put_nil (W : World) (i : Int) : Calls Tryd.prog 9 #[.pointer none, .int .i64 i] W fun e w' => e = .returned (.int .i64 1) ∧ W = w' := by
  go_enter Tryd.func9, Tryd.ntmps9
  go_wp2_with (go_at_call 29; (with_reducible refine (bitset.may_nil _ _).mono ?_); rintro e w1 ⟨rfl, rfl⟩)
  go_ret
  exact ⟨rfl, rfl⟩
theorem bitset.drop_nil (W : World) (i : Int) : Calls Tryd.prog 11 #[.pointer none, .int .i64 i] W fun e w' => e = .returned (.int .i64 1) ∧ W = w' := by
  go_enter Tryd.func11, Tryd.ntmps11
  go_wp2_with (go_at_call 29; (with_reducible refine (bitset.may_nil _ _).mono ?_); rintro e w1 ⟨rfl, rfl⟩)
  go_ret
  exact ⟨rfl, rfl⟩
theorem bitset.has_nil (W : World) (i : Int) : Calls Tryd.prog 18 #[.pointer none, .int .i64 i] W fun e w' => e = .returned (.bool false) ∧ W = w' := by
  go_enter Tryd.func18, Tryd.ntmps18
  go_wp2_with (go_at_call 29; (with_reducible refine (bitset.may_nil _ _).mono ?_); rintro e w1 ⟨rfl, rfl⟩)
  go_ret
  exact ⟨rfl, rfl⟩
theorem bitset.size_nil (W : World) : Calls Tryd.prog 32 #[.pointer none] W fun e w' => e = .returned (.int .i64 0) ∧ W = w' := by
  go_enter Tryd.func32, Tryd.ntmps32
  go_wp2
  go_ret
  exact ⟨rfl, rfl⟩
theorem bitset.count_nil (W : World) : Calls Tryd.prog 28 #[.pointer none] W fun e w' => e = .returned (.int .i64 0) ∧ W = w' := by
  go_enter Tryd.func28, Tryd.ntmps28
  go_wp2
  go_ret
  exact ⟨rfl, rfl⟩
theorem bitset.list_nil (W : World) : Calls Tryd.prog 25 #[.pointer none] W fun e w' => e = .returned (.slice none 0 0) ∧ W = w' := by
  go_enter Tryd.func25, Tryd.ntmps25
  go_wp2
  go_ret
  exact ⟨rfl, rfl⟩
theorem bitset.key_nil (W : World) : Calls Tryd.prog 23 #[.pointer none] W fun e w' => e = .returned (.string ⟨#[]⟩) ∧ W = w' := by
  go_enter Tryd.func23, Tryd.ntmps23
  go_wp2
  go_ret
  exact ⟨rfl, rfl⟩
theorem bitset.copy_nil (W : World) : Calls Tryd.prog 16 #[.pointer none] W fun e w' => e = .returned (.pointer none) ∧ W = w' := by
  go_enter Tryd.func16, Tryd.ntmps16
  go_wp2
  go_ret
  exact ⟨rfl, rfl⟩
set_option maxHeartbeats 4000000 in
set_option maxRecDepth 100000 in
theorem bitset.nones (W : World) (i : Int) (a : Addr) : Calls Tryd.prog 24 #[.int .i64 i, .pointer (some a)] W fun e w' => e = .returned (.bool true) ∧ W = w' := by
  go_enter Tryd.func24, Tryd.ntmps24
  go_wp2_with (first
    | (go_at_call 32; (with_reducible refine (bitset.size_nil _).mono ?_); rintro e w1 ⟨rfl, rfl⟩)
    | (go_at_call 28; (with_reducible refine (bitset.count_nil _).mono ?_); rintro e w1 ⟨rfl, rfl⟩)
    | (go_at_call 18; (with_reducible refine (bitset.has_nil _ _).mono ?_); rintro e w1 ⟨rfl, rfl⟩)
    | (go_at_call 25; (with_reducible refine (bitset.list_nil _).mono ?_); rintro e w1 ⟨rfl, rfl⟩)
    | (go_at_call 23; (with_reducible refine (bitset.key_nil _).mono ?_); rintro e w1 ⟨rfl, rfl⟩)
    | (go_at_call 16; (with_reducible refine (bitset.copy_nil _).mono ?_); rintro e w1 ⟨rfl, rfl⟩)
    | (go_at_call 9; (with_reducible refine (bitset.put_nil _ _).mono ?_); rintro e w1 ⟨rfl, rfl⟩)
    | (go_at_call 11; (with_reducible refine (bitset.drop_nil _ _).mono ?_); rintro e w1 ⟨rfl, rfl⟩)
    | (go_at_call 12; (with_reducible refine (bitset.join_nil1 _ _).mono ?_); rintro e w1 ⟨rfl, rfl⟩)
    | (go_at_call 12; (with_reducible refine (bitset.join_nil2 _ _).mono ?_); rintro e w1 ⟨rfl, rfl⟩)
    | (go_at_call 14; (with_reducible refine (bitset.meet_nil1 _ _).mono ?_); rintro e w1 ⟨rfl, rfl⟩)
    | (go_at_call 14; (with_reducible refine (bitset.meet_nil2 _ _).mono ?_); rintro e w1 ⟨rfl, rfl⟩)
    | (go_at_call 15; (with_reducible refine (bitset.less_nil1 _ _).mono ?_); rintro e w1 ⟨rfl, rfl⟩)
    | (go_at_call 15; (with_reducible refine (bitset.less_nil2 _ _).mono ?_); rintro e w1 ⟨rfl, rfl⟩)
    | (go_at_call 20; (with_reducible refine (bitset.same_nil1 _ _).mono ?_); rintro e w1 ⟨rfl, rfl⟩)
    | (go_at_call 20; (with_reducible refine (bitset.same_nil2 _ _).mono ?_); rintro e w1 ⟨rfl, rfl⟩))
  go_ret
  exact ⟨rfl, rfl⟩
theorem bitset.letters5 (W : World) : Calls Tryd.prog 34 #[.int .i64 5, .int .i64 5] W fun e w' => e = .returned (.bool true) ∧ W = w' := by
  go_enter Tryd.func34, Tryd.ntmps34
  go_wp2
  go_ret
  exact ⟨rfl, rfl⟩
theorem bitset.insert5 (W : World) : Calls Tryd.prog 27 #[.int .i64 5, .int .i64 1, .int .i64 1] W fun e w' => e = .returned (.tuple #[.int .i64 11, .int .i64 0]) ∧ W = w' := by
  go_enter Tryd.func27, Tryd.ntmps27
  go_wp2_with (go_at_call 34; (with_reducible refine (bitset.letters5 _).mono ?_); rintro e w1 ⟨rfl, rfl⟩)
  go_ret2
  exact ⟨by kernel_rfl, rfl⟩
set_option maxHeartbeats 4000000 in
set_option maxRecDepth 100000 in
theorem bitset.fixed (W : World) : Calls Tryd.prog 5 #[] W fun e w' => e = .returned (.bool true) ∧ Below W.heap.size W w' := by
  have N := Aside0.mk (fun V => bitset.new 70 (by decide) V)
  have P1 := Aside0.mk (fun (V : World) (q : Nat) (h : bitset.At V q 70 [0, 0]) => bitset.put V q 70 [0, 0] 69 1 5 h (by decide) (by decide) (by decide))
  have P2 := Aside0.mk (fun (V : World) (q : Nat) (h : bitset.At V q 70 [0, 32]) => bitset.put_out V q 70 [0, 32] 70 h (by decide))
  have P3 : Aside0 (∀ (V : World) (q : Nat) (h : bitset.At V q 70 [0, 32]), Calls Tryd.prog 18 #[.pointer (some ⟨q + 1, 0, none⟩), .int .i64 69] V fun e w' => e = .returned (.bool true) ∧ V = w') := ⟨fun V q h => bitset.has V q 70 [0, 32] 69 h⟩
  have P4 : Aside0 (∀ (V : World) (q : Nat) (h : bitset.At V q 70 [0, 32]), Calls Tryd.prog 28 #[.pointer (some ⟨q + 1, 0, none⟩)] V fun e w' => e = .returned (.int .i64 1) ∧ V = w') := ⟨fun V q h => bitset.count V q 70 [0, 32] h⟩
  rw [show ((70 : Nat) : Int) = 70 from rfl, show List.replicate ((70 + 63) / 64) 0 = [0, 0] from rfl] at N
  rw [show ((69 : Nat) : Int) = 69 from rfl, show ([0, 0] : List Nat).set 1 (([0, 0] : List Nat).getD 1 0 ||| 2 ^ 5) = [0, 32] from rfl] at P1
  go_enter Tryd.func5, Tryd.ntmps5
  go_wp2_with (first
    | (go_at_call 6; (with_reducible refine (N.out _).mono ?_); rintro e w1 ⟨q, rfl, h1, h2, h3⟩; have H1 := Aside0.mk h1; have H2 := Aside0.mk h2; have H3 := Aside0.mk h3; clear h1 h2 h3)
    | (go_at_call 9; (with_reducible refine (P1.out _ q H1.out).mono ?_); rintro e w2 ⟨rfl, h1, h2⟩; have H4 := Aside0.mk h1; have H5 := Aside0.mk (h2.below H2.out H3.out); clear h1 h2 H1 H3)
    | (go_at_call 9; (with_reducible refine (P2.out _ q H4.out).mono ?_); rintro e w3 ⟨rfl, rfl⟩)
    | (go_at_call 18; (with_reducible refine (P3.out _ q H4.out).mono ?_); rintro e w3 ⟨rfl, rfl⟩)
    | (go_at_call 28; (with_reducible refine (P4.out _ q H4.out).mono ?_); rintro e w3 ⟨rfl, rfl⟩)
    | (go_at_call 27; (with_reducible refine (bitset.insert5 _).mono ?_); rintro e w4 ⟨rfl, rfl⟩))
  go_ret
  exact ⟨rfl, H5.out⟩
theorem bitset.ints (W : World) (A1 A2 : Option Addr) (c1 c2 : Nat) (xs ys : List Int) (h : ReadsInt W .i64 A1 xs.length xs) (k : ReadsInt W .i64 A2 ys.length ys) :
    Calls Tryd.prog 26 #[.slice A1 xs.length c1, .slice A2 ys.length c2] W fun e w' => e = .returned (.bool (decide (xs = ys))) ∧ Drawn0 W w' := by
  have hm : xs.length ≤ 9223372036854775807 := h.2.1
  have hm2 : ys.length ≤ 9223372036854775807 := k.2.1
  have H := Aside0.mk h
  have K := Aside0.mk k
  clear h k
  by_cases hl : xs.length = ys.length
  · have HL := Aside0.mk hl
    have hb : ((xs.length : Int) != (ys.length : Int)) = false := by simp; omega
    clear hl
    go_enter Tryd.func26, Tryd.ntmps26
    go_wp2
    go_loopw [13] (fun v13 wr => ∃ k : Nat, k ≤ xs.length ∧ v13 = .int .i64 (k : Int) ∧ Aside0 (Drawn0 W wr) ∧ Aside0 (xs.take k = ys.take k)) (fun v13 _ => xs.length - (intOf v13).toNat)
    case atStart => exact ⟨0, Nat.zero_le _, rfl, ⟨Drawn0.refl _⟩, ⟨by simp⟩⟩
    case round =>
      obtain ⟨k, hk, rfl, D, E⟩ := hrel
      by_cases hlt : k < xs.length
      · have hlt2 : k < ys.length := by have := HL.out; omega
        obtain ⟨a1, e1, hc1⟩ := H.out.2.2 (by omega)
        obtain ⟨a2, e2, hc2⟩ := K.out.2.2 (by omega)
        subst e1 e2
        have hx : wr.cell? (a1.add k) = some (.int .i64 (xs.getD k 0)) := by obtain ⟨m, rfl⟩ := D.out.out; exact hc1 k hlt
        have hy : wr.cell? (a2.add k) = some (.int .i64 (ys.getD k 0)) := by obtain ⟨m, rfl⟩ := D.out.out; exact hc2 k hlt2
        clear hc1 hc2
        have GX : Aside0 (xs[k] = xs.getD k 0) := ⟨by simp [List.getD, List.getElem?_eq_getElem hlt]⟩
        have GY : Aside0 (ys[k] = ys.getD k 0) := ⟨by simp [List.getD, List.getElem?_eq_getElem hlt2]⟩
        generalize ys.getD k 0 = y at *
        generalize xs.getD k 0 = x at *
        by_cases hc : x = y
        · subst hc
          have E2 : Aside0 (xs.take (k + 1) = ys.take (k + 1)) := ⟨by rw [List.take_succ_eq_append_getElem hlt, List.take_succ_eq_append_getElem hlt2, E.out, GX.out, GY.out]⟩
          clear GX GY
          go_wp2
          go_quiet (fail)
          go_wp2
          go_roundw
          case rel => exact ⟨k + 1, by omega, by go_num, ⟨D.out.step _⟩, E2⟩
          case measure => simp [intOf]; omega
        · have hb2 : (x != y) = true := by simpa using hc
          have HN : Aside0 (xs ≠ ys) := ⟨fun e => hc (by rw [← GX.out, ← GY.out]; subst e; rfl)⟩
          clear hc GX GY
          go_wp2
          go_quiet (fail)
          go_wp2
          go_ret
          rw [decide_eq_false HN.out]
          exact ⟨rfl, D.out.step _⟩
      · have hk2 : k = xs.length := by omega
        have he : xs = ys := by
          have := E.out
          rw [hk2, List.take_length, HL.out, List.take_length] at this
          exact this
        have HE := Aside0.mk he
        clear he
        go_wp2
        go_ret
        rw [decide_eq_true HE.out]
        exact ⟨rfl, D.out⟩
  · have hb : ((xs.length : Int) != (ys.length : Int)) = true := by simp; omega
    have e : decide (xs = ys) = false := decide_eq_false (fun e => hl (by rw [e]))
    rw [e]
    clear hl e
    go_enter Tryd.func26, Tryd.ntmps26
    go_wp2
    go_ret
    exact ⟨rfl, Drawn0.refl _⟩
/-- append onto what the call owns: what is answered is owned, and what was appended to reads as it did. -/
theorem bitset.append_keep (w : World) (base : Nat) (ty : TypeId) (v : Value) (xs : List Int) (hown : w.ownsRow base 3 1 v xs.length (nums .i64 xs))
    (a : Addr) (m c : Nat) (ys : List Int) (hl : ys.length = m) (h0 : 0 < m) (hnews : ∀ j u, (nums .i64 ys)[j]? = some u → w.cell? (a.add j) = some u)
    (hbytes : (xs.length + m) * 8 ≤ 140737488355328) (hbase : base ≤ w.heap.size) :
    ∃ A' c' w', (Builtin.append_ #[54, 54] ty #[v, .slice (some a) m c]).run Tryd.prog w = .ok (.slice A' (xs.length + m) c') w' ∧ w'.ownsRow base 3 1 (.slice A' (xs.length + m) c') (xs ++ ys).length (nums .i64 (xs ++ ys)) ∧ w'.ownsRow base 3 1 v xs.length (nums .i64 xs) ∧ w.grownBy w' v.ownBlock ∧
      ((Value.slice A' (xs.length + m) c').ownBlock = v.ownBlock ∨ (Value.slice A' (xs.length + m) c').ownBlock = some w.heap.size) := by
  obtain ⟨i, hi, hz, hsize, hby⟩ := info_parts bitset.info_int
  have ht := Tryd.underlying54
  have hxl : (nums .i64 xs).length = xs.length := nums_length ..
  have hyl : (nums .i64 ys).length = m := by rw [nums_length]; exact hl
  have h63 : xs.length + m ≤ maxLen := by simp only [maxLen]; omega
  have hlen : (nums .i64 (xs ++ ys)).length = (xs ++ ys).length * 1 := by rw [nums_length, Nat.mul_one]
  have hap : nums .i64 (xs ++ ys) = nums .i64 xs ++ nums .i64 ys := by simp [nums]
  have hn : (xs ++ ys).length = xs.length + m := by rw [List.length_append, hl]
  have h1 : ∀ u ∈ nums .i64 ys, u.oneCell' = true := by intro u hu; simp only [nums, List.mem_map] at hu; obtain ⟨x, _, rfl⟩ := hu; rfl
  have grown : ∀ (old : Nat), old < xs.length + m → 
      (w.drew.alloc (.cells ((nums .i64 xs).toArray ++ (nums .i64 ys).toArray ++ Builtin.zeroCells (Value.int .i64 0).cells (grownCap w (xs.length + m) old 3 - (xs.length + m))) 3)).ownsRow base 3 1
        (.slice (some ⟨w.heap.size, 0, none⟩) (xs.length + m) (grownCap w (xs.length + m) old 3)) (xs ++ ys).length (nums .i64 (xs ++ ys)) := by
    intro old ho
    have hge := grownCap_ge w (xs.length + m) old 3
    have hcm : grownCap w (xs.length + m) old 3 ≤ maxLen := grownCap_le_maxLen w (xs.length + m) old 3 h63
    rw [hn]
    refine ⟨by rw [hlen, hn], .inr ⟨w.heap.size, _, _, rfl, hbase, heap_alloc_new w.drew _, hge, hcm, ?_, ?_⟩⟩
    · simp only [Array.size_append, List.size_toArray, size_zeroCells, hxl, hyl]
      have : (Value.int .i64 0).cells.size = 1 := rfl
      rw [this]; omega
    · simp only [Array.toList_append, List.append_assoc]
      rw [← List.append_assoc, ← hap, Nat.mul_one, ← hn, ← Nat.mul_one (xs ++ ys).length, ← hlen]
      exact List.take_left
  have kept : ∀ (o : Obj), w.grownBy (w.drew.alloc o) v.ownBlock ∧ (w.drew.alloc o).ownsRow base 3 1 v xs.length (nums .i64 xs) := fun o =>
    ⟨⟨rfl, rfl, rfl, by simp, fun k hk _ => Below.heap_alloc w.drew _ k hk⟩, hown.kept (row := none) ⟨rfl, rfl, rfl, by simp, fun k hk _ => Below.heap_alloc w.drew _ k hk⟩ (by cases v.ownBlock <;> simp)⟩
  rcases hown.2 with ⟨rfl, h00⟩ | ⟨g, cap, cur, rfl, hbg, hg, hnc, hcm, hcs, htake⟩
  · obtain rfl : xs = [] := List.eq_nil_of_length_eq_zero h00
    have hr := run_append_nil (P := Tryd.prog) w 54 ty 3 i (.int .i64 0) ht hi hz a m c (nums .i64 ys) (by rw [hsize]; omega) hnews (by omega) (by omega) (by rw [hby]; simp at hbytes; omega)
    have hgr := grown 0 (by simp; omega)
    have hk := kept (.cells ((nums .i64 ys).toArray ++ Builtin.zeroCells (Value.int .i64 0).cells (grownCap w m 0 3 - m)) 3)
    simp only [List.length_nil, Nat.zero_add, List.nil_append, nums, List.map_nil, Array.empty_append] at hgr ⊢
    exact ⟨_, _, _, hr, hgr, hk.2, hk.1, .inr rfl⟩
  · by_cases hroom : xs.length + m ≤ cap
    · have hfit : xs.length * i.size + (nums .i64 ys).length ≤ cur.size := by rw [hyl, hcs, hsize]; omega
      have hr := run_append_room (P := Tryd.prog) w 54 ty 3 i ht hi g xs.length cap cur hg a m c (nums .i64 ys) (by rw [hsize]; omega) hnews h1 hroom hfit
      rw [hsize, Nat.mul_one] at hr
      rw [Nat.mul_one] at htake
      rw [htake] at hr
      have hset := setRow_heap w g cur (nums .i64 xs ++ nums .i64 ys ++ cur.toList.drop (xs.length + (nums .i64 ys).length)).toArray 3 (0, 0) hg
      have hsz : (nums .i64 xs ++ nums .i64 ys ++ cur.toList.drop (xs.length + (nums .i64 ys).length)).toArray.size = cap * 1 := by
        simp only [List.size_toArray, List.length_append, List.length_drop, Array.length_toList, hxl, hyl, hcs]; omega
      refine ⟨_, _, _, hr, ⟨by rw [hlen, hn], .inr ⟨g, cap, _, by rw [hn], hbg, hset, by rw [hn]; exact hroom, hcm, hsz, ?_⟩⟩, ⟨by rw [hxl, Nat.mul_one], .inr ⟨g, cap, _, rfl, hbg, hset, hnc, hcm, hsz, ?_⟩⟩, ⟨rfl, rfl, rfl, by simp, fun k _ hk => setRow_other w g k _ (fun e => hk (by simp [Value.ownBlock, e]))⟩, .inl rfl⟩
      · show List.take _ (nums .i64 xs ++ nums .i64 ys ++ _) = _
        rw [← hap, ← hlen]; exact List.take_left
      · show List.take _ (nums .i64 xs ++ nums .i64 ys ++ _) = _
        rw [List.append_assoc, Nat.mul_one]
        have e : xs.length = (nums .i64 xs).length := hxl.symm
        rw [e]; exact List.take_left
    · have holds : ∀ j u, (nums .i64 xs)[j]? = some u → w.cell? ((⟨g, 0, none⟩ : Addr).add j) = some u := hown.cells (g := g) rfl
      have hr := run_append_grow (P := Tryd.prog) w 54 ty 3 i (.int .i64 0) ht hi hz ⟨g, 0, none⟩ xs.length cap (nums .i64 xs) (by rw [hsize]; omega) holds a m c (nums .i64 ys) (by rw [hsize]; omega) hnews (by omega) (by omega) (growslice_fits (by omega) (by rw [hby]; exact hbytes))
      exact ⟨_, _, _, hr, grown cap (by omega), (kept _).2, (kept _).1, .inr rfl⟩

end Go.Proofs.YtpekanolhgcljaaDoor.X
