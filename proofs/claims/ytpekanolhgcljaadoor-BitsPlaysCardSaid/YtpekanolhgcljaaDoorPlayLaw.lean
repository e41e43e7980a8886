/- What the program's calls on sets come to, by hand: each call's own contract; no condition beyond what each contract says. -/
import Derived.Test.YtpekanolhgcljaaDoorSetsC
import Derived.Deep.CutBlock
import Derived.Deep.DeepCutAuto
namespace Go.Proofs.YtpekanolhgcljaaDoor.X
open Go.RowKit Go.Proofs.YtpekanolhgcljaaDoorW.PrintWords Go.Proofs.YtpekanolhgcljaaDoorW.PrintLast Go.Proofs.YtpekanolhgcljaaDoorW.PrintMore
set_option linter.unusedVariables false
set_option linter.unusedSimpArgs false
theorem blk_below_ {w W : World} {g : Nat} {o : Obj} (h : w.heap[g]? = some o) (k : Below w.heap.size w W) : W.heap[g]? = some o := (k.block g (blk_lt h)).trans h
theorem cell_far (w : World) {s t : Nat} (h : s ≠ t) (i j : Nat) (x : Value) : (w.setCell ⟨s, i, none⟩ x).cell? ⟨t, j, none⟩ = w.cell? ⟨t, j, none⟩ :=
  World.cell?_setCell_other w _ _ _ (by intro e; injection e with e _; exact h e)
theorem own_lower {W : World} {B B' : Nat} {v : Value} {n : Nat} {xs : List Value} {e : TypeId} {z : Nat} (h : W.ownsRow B e z v n xs) (hb : B' ≤ B) : W.ownsRow B' e z v n xs := by
  rcases h.2 with e1 | ⟨g, cap, cur, e1, hg, r⟩
  · exact ⟨h.1, .inl e1⟩
  · exact ⟨h.1, .inr ⟨g, cap, cur, e1, Nat.le_trans hb hg, r⟩⟩
theorem Pl.st {w0 W : World} {s t k : Nat} {c d : Nat → Value} {q n : Nat → Nat} {xs : Nat → List Nat} {v : Nat → Value} {bs : Nat → List Bool} (h : Pl w0 W s t k c d q n xs v bs) : s ≠ t := by
  rintro rfl
  have := h.cs.symm.trans h.ct
  injection this with this
  injection this with _ this _
  exact absurd this (by decide)
theorem Pl.stored {w0 W : World} {s t k K : Nat} {c d : Nat → Value} {q n : Nat → Nat} {xs : Nat → List Nat} {v : Nat → Value} {bs : Nat → List Bool} (h : Pl w0 W s t k c d q n xs v bs) {i p m : Nat} {ys : List Nat} {u : Value} {cs : List Bool} (hi : i < 3) (hK : ∀ j, j < K → j ≠ i → j < k)
    (a : bitset.At W p m ys) (b : W.ownsRow w0.heap.size 4 1 u cs.length (refset.bv cs)) (hl : cs.length = m) (hp : w0.heap.size ≤ p) (hq : ∀ j, j < k → q j ≠ p) (hv : ∀ j, j < k → ∀ g, (v j).ownBlock = some g → u.ownBlock = some g → False) :
    Pl w0 ((W.setCell ⟨s, i, none⟩ (.pointer (some ⟨p + 1, 0, none⟩))).setCell ⟨t, i, none⟩ u).drew s t K (upd c i (.pointer (some ⟨p + 1, 0, none⟩))) (upd d i u) (upd q i p) (upd n i m) (upd xs i ys) (upd v i u) (upd bs i cs) := by
  refine h.store hi hK a b hl hp hq hv ?_ ?_ ?_ (below_drew1 (below_set (below_set h.below h.s_ge) h.t_ge))
  · have := blk_far (blk_set h.cs i (.pointer (some ⟨p + 1, 0, none⟩))) (p := ⟨t, i, none⟩) h.st u
    rw [upd3 c hi] at this
    exact this
  · have := blk_set (blk_far h.ct (p := ⟨s, i, none⟩) (fun e => h.st e.symm) (.pointer (some ⟨p + 1, 0, none⟩))) i u
    rw [upd3 d hi] at this
    exact this
  · intro g cs ty hg h1 h2
    have n1 : g ≠ s := by
      rintro rfl
      have := hg.symm.trans h.cs
      injection this with this
      injection this with _ this _
      exact h1 this
    have n2 : g ≠ t := by
      rintro rfl
      have := hg.symm.trans h.ct
      injection this with this
      injection this with _ this _
      exact h2 this
    exact blk_far (blk_far hg (p := ⟨s, i, none⟩) n1 _) (p := ⟨t, i, none⟩) n2 _
theorem Pl.of_drew {w0 W : World} {s t k : Nat} {c d : Nat → Value} {q n : Nat → Nat} {xs : Nat → List Nat} {v : Nat → Value} {bs : Nat → List Bool} (h : Pl w0 W.drew s t k c d q n xs v bs) : Pl w0 W s t k c d q n xs v bs :=
  ⟨h.s_ge, h.t_ge, h.cs, h.ct, h.ptr, h.in_, fun i hi => ⟨(h.at_ i hi).ws, (h.at_ i hi).st, (h.at_ i hi).len, (h.at_ i hi).lt, (h.at_ i hi).nle⟩, fun i hi => ⟨(h.own i hi).1, (h.own i hi).2⟩, h.q_ge, h.qne, h.vne, h.len, ⟨h.below.os, h.below.tape, h.below.output, h.below.size, h.below.block⟩⟩
theorem Pl.cells4 {w0 W : World} {s t : Nat} {c d : Nat → Value} {q n : Nat → Nat} {xs : Nat → List Nat} {v : Nat → Value} {bs : Nat → List Bool} (h : Pl w0 W s t 3 c d q n xs v bs) {a b : Nat} (ha : a < 3) (hb : b < 3) {A1 A2 : Option Addr} {n1 n2 c1 c2 : Nat} (e1 : v a = .slice A1 n1 c1) (e2 : v b = .slice A2 n2 c2) :
    W.cell? ⟨s, a, none⟩ = some (.pointer (some ⟨q a + 1, 0, none⟩)) ∧ W.cell? ⟨s, b, none⟩ = some (.pointer (some ⟨q b + 1, 0, none⟩)) ∧ W.cell? ⟨t, a, none⟩ = some (.slice A1 n1 c1) ∧ W.cell? ⟨t, b, none⟩ = some (.slice A2 n2 c2) :=
  ⟨h.cs_cell ha, h.cs_cell hb, by rw [← e1]; exact (h.ref ha).cell, by rw [← e2]; exact (h.ref hb).cell⟩
section
variable {P : Program} {ops : Array Oper} {Q : Exit → Act → World → Prop} {md : Region.Mode} {S : World → Prop} {ds : List Nat} {oi : Oper} {v : Value} {fuel : Nat} {l : Array Bool} {a a' : Act} {w : World}
theorem uw_ (i : Nat) (N : Tmp) (l' : Array Bool) (hS : S w) (h : wpAnyLast P md ops Q S ds fuel l' a' w) (hi : ops[i]? = some oi := by rfl) (hN : oi.dst = N := by rfl) (hc : takeB md ops ds l l' i = true := by kernel_rfl)
    (hQ : ∀ c a w, Q (.panic c) (a.put oi.dst undef) w → Q (.panic c) a w := by exact fun _ _ _ h => h) (hy : Region.wanted oi (yielded ops a.tmps) = false := by rfl) (ha : a.put (some N) undef = a' := by simp only [Act.put, sA, sB, sC, i64_w, i32_w]; rfl) :
    wpAnyLast P md ops Q S ds (fuel + 1) l a w := take_ l' hi hN hc hQ (Or.inr ⟨hy, rfl⟩) hS ha h
end
theorem beq_ba {a b : ByteArray} (h : a ≠ b) : (a.toList == b.toList) = false := by
  rw [beq_eq_false_iff_ne]
  intro e
  rw [ByteArray.toList_eq, ByteArray.toList_eq] at e
  obtain ⟨x⟩ := a
  obtain ⟨y⟩ := b
  exact h (congrArg ByteArray.mk (Array.toList_inj.1 e))
theorem stored_pb {w : World} {s t g i j : Nat} {o : Obj} {x y : Value} (h : w.heap[g]? = some o) (h1 : s ≠ g) (h2 : t ≠ g) : (((w.setCell ⟨s, i, none⟩ x).setCell ⟨t, j, none⟩ y).drew).heap[g]? = some o :=
  (Below.heap_setCell _ ⟨t, j, none⟩ y g (fun e => h2 e.symm)).trans ((Below.heap_setCell w ⟨s, i, none⟩ x g (fun e => h1 e.symm)).trans h)
theorem dRd {w w' : World} (h : Drawn0 w w' := by repeat (first | exact Drawn0.refl _ | apply Drawn0.step)) : Drawn0 w w'.drew := by
  obtain ⟨n, rfl⟩ := h.out
  exact ⟨⟨n + 1, rfl⟩⟩
theorem add_spell (a : Addr) (m j : Nat) (h : 0 < j) : a.add (m + j) = ⟨(a.add m).block, (a.add m).off + j, none⟩ := by
  unfold Addr.add
  rw [if_neg (by omega)]
  by_cases c : m = 0
  · subst c; simp
  · rw [if_neg c]; simp [Nat.add_assoc]
theorem info_ptr : (Tryd.prog.info? 29).map (fun i => (i.zero, i.size, i.bytes)) = some (some (.pointer none), 1, 8) := by kernel_rfl
theorem info_ref : (Tryd.prog.info? 35).map (fun i => (i.zero, i.size, i.bytes)) = some (some (.agg #[.slice none 0 0]), 1, 24) := by kernel_rfl
set_option maxHeartbeats 400000000 in
set_option maxRecDepth 100000 in
theorem tabardlaw02_BitsPlays.calls (w0 : World) (T : bitset.Tab w0) (s0 s1 s2 : Int) (A : Option Addr) (c len : Nat) (hlen : len ≤ 9223372036854775807)
    (RD : ∀ i, i < len → ∃ ad : Addr, A = some ad ∧ ∃ x0 x1 x2 x3 : Int, w0.cell? (ad.add (i * 4)) = some (.int .i64 x0) ∧ w0.cell? (ad.add (i * 4 + 1)) = some (.int .i64 x1) ∧ w0.cell? (ad.add (i * 4 + 2)) = some (.int .i64 x2) ∧ w0.cell? (ad.add (i * 4 + 3)) = some (.int .i64 x3)) :
    Calls Tryd.prog 3 #[.agg #[.int .i64 s0, .int .i64 s1, .int .i64 s2, .slice A len c]] w0 fun e w' => e = .returned (.bool true) ∧ Below w0.heap.size w0 w' := by
  have HT := Aside0.mk T
  have HR := Aside0.mk RD
  clear T RD
  have mk1 : ∀ W : World, (Instr.makeSlice 27 (.int .i64 3) (.int .i64 3)).run Tryd.prog W = .ok (.slice (some ⟨W.heap.size, 0, none⟩) 3 3) (W.alloc (.cells #[.pointer none, .pointer none, .pointer none] 29)) := fun W => by kernel_rfl
  have mk2 : ∀ W : World, (Instr.makeSlice 28 (.int .i64 3) (.int .i64 3)).run Tryd.prog W = .ok (.slice (some ⟨W.heap.size, 0, none⟩) 3 3) (W.alloc (.cells #[.slice none 0 0, .slice none 0 0, .slice none 0 0] 35)) := fun W => by kernel_rfl
  go_enter Tryd.func3, Tryd.ntmps3
  go_wp2_with (go_at_call 5; (with_reducible refine (bitset.fixed _).mono ?_); rintro e w1 ⟨rfl, h1⟩; have B1 := Aside0.mk h1; clear h1)
  obtain ⟨wp, ewp⟩ : ∃ wp : World, wp = w0.alloc (.cells #[.int .i64 s0, .int .i64 s1, .int .i64 s2, .slice A len c] 25) := ⟨_, rfl⟩
  have hP0 : w1.heap[w0.heap.size]? = some (.cells #[.int .i64 s0, .int .i64 s1, .int .i64 s2, .slice A len c] 25 (0, 0)) := (B1.out.block _ (by simp)).trans (heap_alloc_new w0 _)
  have B2 : Aside0 (Below w0.heap.size w0 w1) := ⟨Below.trans (below_alloc (Below.refl _ _) _) (B1.out.mono (by simp))⟩
  have PL0 : Pl w0 ((w1.alloc (.cells #[.pointer none, .pointer none, .pointer none] 29)).alloc (.cells #[.slice none 0 0, .slice none 0 0, .slice none 0 0] 35)) w1.heap.size (w1.heap.size + 1) 0 (fun _ => .pointer none) (fun _ => .slice none 0 0) (fun _ => 0) (fun _ => 0) (fun _ => []) (fun _ => .slice none 0 0) (fun _ => []) :=
    ⟨B2.out.size, Nat.le_succ_of_le B2.out.size, blk_alloc (heap_alloc_new w1 _) _, by have := heap_alloc_new (w1.alloc (.cells #[.pointer none, .pointer none, .pointer none] 29)) (.cells #[.slice none 0 0, .slice none 0 0, .slice none 0 0] 35); simpa using this,
      fun i hi => by omega, fun i hi => by omega, fun i hi => by omega, fun i hi => by omega, fun i hi => by omega, fun i j hi => by omega, fun i j hi => by omega, fun i hi => by omega, below_alloc (below_alloc B2.out _) _⟩
  have HP0 := Aside0.mk hP0
  have HPL0 := Aside0.mk PL0
  obtain ⟨s, es⟩ : ∃ s, s = w1.heap.size := ⟨_, rfl⟩
  obtain ⟨t, et⟩ : ∃ t, t = s + 1 := ⟨_, rfl⟩
  obtain ⟨pb, ep⟩ : ∃ pb, pb = w0.heap.size := ⟨_, rfl⟩
  rw [← es, ← et] at HPL0
  rw [← ep] at HP0
  have SP : Aside0 (s ≠ pb ∧ t ≠ pb) := ⟨by have := blk_lt hP0; omega⟩
  clear PL0 hP0 ewp
  have KP : Aside0 (((w1.alloc (.cells #[.pointer none, .pointer none, .pointer none] 29)).alloc (.cells #[.slice none 0 0, .slice none 0 0, .slice none 0 0] 35)).heap[pb]? = some (.cells #[.int .i64 s0, .int .i64 s1, .int .i64 s2, .slice A len c] 25 (0, 0))) := ⟨blk_alloc (blk_alloc HP0.out _) _⟩
  rw [← es, ← et, ← ep]
  clear es et ep B1
  go_loopw [25] (fun v25 wr => ∃ k : Nat, k ≤ 3 ∧ v25 = .int .i64 (k : Int) ∧ Aside0 (∃ c d q n xs v bs, Pl w0 wr s t k c d q n xs v bs ∧ ∀ i, i < k → bitset.Rep (xs i) (bs i)) ∧ Aside0 (wr.heap[pb]? = some (.cells #[.int .i64 s0, .int .i64 s1, .int .i64 s2, .slice A len c] 25 (0, 0)))) (fun v25 _ => 3 - (intOf v25).toNat)
  case atStart => exact ⟨0, by omega, rfl, ⟨_, _, _, _, _, _, _, HPL0.out, fun i hi => by omega⟩, KP⟩
  case round =>
    obtain ⟨k, hk, rfl, G, PB⟩ := hrel
    by_cases hlt : k < 3
    · obtain ⟨c', d', q, n, xs, v, bs, P, R⟩ := G.out
      have HPK := Aside0.mk P
      have HRK := Aside0.mk R
      clear P R G
      obtain ⟨p0, p1, p2, p3⟩ := bC4 PB.out
      have k3 : k = 0 ∨ k = 1 ∨ k = 2 := by omega
      rcases k3 with rfl | rfl | rfl
      · as_aux_lemma =>
          by_cases hN : s0 < 0 ∨ 4096 < s0
          · have NO := Aside0.mk (fun V => bitset.new_out s0 hN V)
            have RO := Aside0.mk (fun V => refset.new_out s0 hN V)
            clear hN
            go_wp2_with (first
              | (go_at_call 6; (with_reducible refine (NO.out _).mono ?_); rintro e w2 ⟨rfl, rfl⟩)
              | (go_at_call 7; (with_reducible refine (RO.out _).mono ?_); rintro e w2 ⟨rfl, h2⟩; have B3 := Aside0.mk h2; clear h2))
            go_ret
            exact ⟨rfl, below_alloc (Below.trans HPK.out.below (B3.out.mono HPK.out.below.size)) _⟩
          · obtain ⟨m, rfl⟩ := Int.eq_ofNat_of_zero_le (show 0 ≤ s0 by omega)
            have NO := Aside0.mk (fun V => bitset.new m (by omega) V)
            have RO := Aside0.mk (fun V => refset.new m (by omega) V)
            clear hN
            go_wp2_with (first
              | (go_at_call 6; (with_reducible refine (NO.out _).mono ?_); rintro e w2 ⟨q', rfl, h1, h2, h3⟩; have S2 := Aside0.mk h1; have Q2 := Aside0.mk h2; have B2_ := Aside0.mk h3; have PB2 := blk_below_ PB.out h3; obtain ⟨p0, p1, p2, p3⟩ := bC4 PB2; have PB2 := Aside0.mk PB2; clear h1 h2 h3)
              | (go_at_call 7; (with_reducible refine (RO.out _).mono ?_); rintro e w3 ⟨v', rfl, h1, h2⟩; obtain ⟨A', c3, e3⟩ := own_slice (by have := h1; rw [show m = (List.replicate m false).length by simp] at this; exact this); rw [List.length_replicate] at e3; subst e3; have O3 := Aside0.mk h1; have B3 := Aside0.mk h2; have PB3 := Aside0.mk (blk_below_ PB2.out h2); clear h1 h2))
            obtain ⟨w4, ew4⟩ : ∃ w4, w4 = w3.alloc (.cells #[.slice A' m c3] 35) := ⟨_, rfl⟩
            obtain ⟨ob, eob⟩ : ∃ ob, ob = w3.heap.size := ⟨_, rfl⟩
            have b4 : Below wr.heap.size wr w4 := by rw [ew4]; exact below_alloc (Below.trans B2_.out (B3.out.mono B2_.out.size)) _
            have P4 := HPK.out.kept b4
            have hob : w4.cell? ⟨ob, 0, none⟩ = some (.slice A' m c3) := by rw [ew4, eob]; exact (blk_cell (heap_alloc_new w3 _) 0).trans rfl
            have a4 : bitset.At w4 q' m (List.replicate ((m + 63) / 64) 0) := (S2.out.below B3.out).below (by rw [ew4]; exact below_alloc (Below.refl _ _) _)
            have o4 : w4.ownsRow w0.heap.size 4 1 (.slice A' m c3) (List.replicate m false).length (refset.bv (List.replicate m false)) := by
              rw [ew4, List.length_replicate]; exact (own_lower O3.out (Nat.le_trans HPK.out.below.size B2_.out.size)).alloc _
            have st4 : s ≠ t := P4.st
            have lq : ∀ j, j < 0 → q j ≠ q' := fun j hj e => by have := (HPK.out.at_ j hj).lt_size; have := Q2.out; omega
            have lv : ∀ j, j < 0 → ∀ g, (v j).ownBlock = some g → (Value.slice A' m c3).ownBlock = some g → False := fun j hj g h1 h2 => by have := ((HPK.out.own j hj).lt g h1).2; have := (O3.out.lt g h2).1; have := B2_.out.size; omega
            have pb4 := blk_below_ PB.out b4
            have c0 := (blk_cell P4.cs 0).trans rfl
            have c1 := (blk_cell P4.ct 0).trans rfl
            have c2 := blk_frozen P4.cs 0
            have c4 := blk_frozen P4.ct 0
            have sob : s ≠ ob := fun e => by have := blk_lt HPK.out.cs; have := B2_.out.size; have := B3.out.size; omega
            have c5 := (cell_far w4 sob 0 0 (.pointer (some ⟨q' + 1, 0, none⟩))).trans hob
            have c6 := (cell_far w4 st4 0 0 (.pointer (some ⟨q' + 1, 0, none⟩))).trans c1
            rw [← eob, ← ew4]
            have P4_ := Aside0.mk P4
            have A4_ := Aside0.mk a4
            have O4_ := Aside0.mk o4
            have LQ := Aside0.mk lq
            have LV := Aside0.mk lv
            have PB4 := Aside0.mk pb4
            have ST := Aside0.mk st4
            clear sob P4 a4 o4 lq lv pb4 st4 b4 ew4 eob B3 O3 PB3 PB2 S2 B2_ p0 p1 p2 p3 NO RO
            go_region
            have G4 : Aside0 (∃ c d q n xs v bs, Pl w0 ((w4.setCell ⟨s, 0, none⟩ (.pointer (some ⟨q' + 1, 0, none⟩))).setCell ⟨t, 0, none⟩ (.slice A' m c3)).drew s t 1 c d q n xs v bs ∧ ∀ i, i < 1 → bitset.Rep (xs i) (bs i)) := ⟨_, _, _, _, _, _, _, P4_.out.stored (i := 0) (by decide) (fun j h1 h2 => by omega) A4_.out O4_.out (by simp) (Nat.le_trans HPK.out.below.size Q2.out) LQ.out LV.out, fun i hi => by
              by_cases e : i = 0
              · subst e; rw [upd_same, upd_same]; exact bitset.rep_new m
              · rw [upd_ne _ _ e, upd_ne _ _ e]; exact HRK.out i (by omega)⟩
            have PB5 := Aside0.mk (stored_pb (i := 0) (j := 0) (x := .pointer (some ⟨q' + 1, 0, none⟩)) (y := .slice A' m c3) PB4.out SP.out.1 SP.out.2)
            go_wp2
            go_roundw
            case rel => exact ⟨1, by omega, by go_num, G4, PB5⟩
            case measure => simp [intOf]
      · as_aux_lemma =>
          by_cases hN : s1 < 0 ∨ 4096 < s1
          · have NO := Aside0.mk (fun V => bitset.new_out s1 hN V)
            have RO := Aside0.mk (fun V => refset.new_out s1 hN V)
            clear hN
            go_wp2_with (first
              | (go_at_call 6; (with_reducible refine (NO.out _).mono ?_); rintro e w2 ⟨rfl, rfl⟩)
              | (go_at_call 7; (with_reducible refine (RO.out _).mono ?_); rintro e w2 ⟨rfl, h2⟩; have B3 := Aside0.mk h2; clear h2))
            go_ret
            exact ⟨rfl, below_alloc (Below.trans HPK.out.below (B3.out.mono HPK.out.below.size)) _⟩
          · obtain ⟨m, rfl⟩ := Int.eq_ofNat_of_zero_le (show 0 ≤ s1 by omega)
            have NO := Aside0.mk (fun V => bitset.new m (by omega) V)
            have RO := Aside0.mk (fun V => refset.new m (by omega) V)
            clear hN
            go_wp2_with (first
              | (go_at_call 6; (with_reducible refine (NO.out _).mono ?_); rintro e w2 ⟨q', rfl, h1, h2, h3⟩; have S2 := Aside0.mk h1; have Q2 := Aside0.mk h2; have B2_ := Aside0.mk h3; have PB2 := blk_below_ PB.out h3; obtain ⟨p0, p1, p2, p3⟩ := bC4 PB2; have PB2 := Aside0.mk PB2; clear h1 h2 h3)
              | (go_at_call 7; (with_reducible refine (RO.out _).mono ?_); rintro e w3 ⟨v', rfl, h1, h2⟩; obtain ⟨A', c3, e3⟩ := own_slice (by have := h1; rw [show m = (List.replicate m false).length by simp] at this; exact this); rw [List.length_replicate] at e3; subst e3; have O3 := Aside0.mk h1; have B3 := Aside0.mk h2; have PB3 := Aside0.mk (blk_below_ PB2.out h2); clear h1 h2))
            obtain ⟨w4, ew4⟩ : ∃ w4, w4 = w3.alloc (.cells #[.slice A' m c3] 35) := ⟨_, rfl⟩
            obtain ⟨ob, eob⟩ : ∃ ob, ob = w3.heap.size := ⟨_, rfl⟩
            have b4 : Below wr.heap.size wr w4 := by rw [ew4]; exact below_alloc (Below.trans B2_.out (B3.out.mono B2_.out.size)) _
            have P4 := HPK.out.kept b4
            have hob : w4.cell? ⟨ob, 0, none⟩ = some (.slice A' m c3) := by rw [ew4, eob]; exact (blk_cell (heap_alloc_new w3 _) 0).trans rfl
            have a4 : bitset.At w4 q' m (List.replicate ((m + 63) / 64) 0) := (S2.out.below B3.out).below (by rw [ew4]; exact below_alloc (Below.refl _ _) _)
            have o4 : w4.ownsRow w0.heap.size 4 1 (.slice A' m c3) (List.replicate m false).length (refset.bv (List.replicate m false)) := by
              rw [ew4, List.length_replicate]; exact (own_lower O3.out (Nat.le_trans HPK.out.below.size B2_.out.size)).alloc _
            have st4 : s ≠ t := P4.st
            have lq : ∀ j, j < 1 → q j ≠ q' := fun j hj e => by have := (HPK.out.at_ j hj).lt_size; have := Q2.out; omega
            have lv : ∀ j, j < 1 → ∀ g, (v j).ownBlock = some g → (Value.slice A' m c3).ownBlock = some g → False := fun j hj g h1 h2 => by have := ((HPK.out.own j hj).lt g h1).2; have := (O3.out.lt g h2).1; have := B2_.out.size; omega
            have pb4 := blk_below_ PB.out b4
            have c0 := (blk_cell P4.cs 1).trans rfl
            have c1 := (blk_cell P4.ct 1).trans rfl
            have c2 := blk_frozen P4.cs 1
            have c4 := blk_frozen P4.ct 1
            have sob : s ≠ ob := fun e => by have := blk_lt HPK.out.cs; have := B2_.out.size; have := B3.out.size; omega
            have c5 := (cell_far w4 sob 1 0 (.pointer (some ⟨q' + 1, 0, none⟩))).trans hob
            have c6 := (cell_far w4 st4 1 1 (.pointer (some ⟨q' + 1, 0, none⟩))).trans c1
            rw [← eob, ← ew4]
            have P4_ := Aside0.mk P4
            have A4_ := Aside0.mk a4
            have O4_ := Aside0.mk o4
            have LQ := Aside0.mk lq
            have LV := Aside0.mk lv
            have PB4 := Aside0.mk pb4
            have ST := Aside0.mk st4
            clear sob P4 a4 o4 lq lv pb4 st4 b4 ew4 eob B3 O3 PB3 PB2 S2 B2_ p0 p1 p2 p3 NO RO
            go_region
            have G4 : Aside0 (∃ c d q n xs v bs, Pl w0 ((w4.setCell ⟨s, 1, none⟩ (.pointer (some ⟨q' + 1, 0, none⟩))).setCell ⟨t, 1, none⟩ (.slice A' m c3)).drew s t 2 c d q n xs v bs ∧ ∀ i, i < 2 → bitset.Rep (xs i) (bs i)) := ⟨_, _, _, _, _, _, _, P4_.out.stored (i := 1) (by decide) (fun j h1 h2 => by omega) A4_.out O4_.out (by simp) (Nat.le_trans HPK.out.below.size Q2.out) LQ.out LV.out, fun i hi => by
              by_cases e : i = 1
              · subst e; rw [upd_same, upd_same]; exact bitset.rep_new m
              · rw [upd_ne _ _ e, upd_ne _ _ e]; exact HRK.out i (by omega)⟩
            have PB5 := Aside0.mk (stored_pb (i := 1) (j := 1) (x := .pointer (some ⟨q' + 1, 0, none⟩)) (y := .slice A' m c3) PB4.out SP.out.1 SP.out.2)
            go_wp2
            go_roundw
            case rel => exact ⟨2, by omega, by go_num, G4, PB5⟩
            case measure => simp [intOf]
      · as_aux_lemma =>
          by_cases hN : s2 < 0 ∨ 4096 < s2
          · have NO := Aside0.mk (fun V => bitset.new_out s2 hN V)
            have RO := Aside0.mk (fun V => refset.new_out s2 hN V)
            clear hN
            go_wp2_with (first
              | (go_at_call 6; (with_reducible refine (NO.out _).mono ?_); rintro e w2 ⟨rfl, rfl⟩)
              | (go_at_call 7; (with_reducible refine (RO.out _).mono ?_); rintro e w2 ⟨rfl, h2⟩; have B3 := Aside0.mk h2; clear h2))
            go_ret
            exact ⟨rfl, below_alloc (Below.trans HPK.out.below (B3.out.mono HPK.out.below.size)) _⟩
          · obtain ⟨m, rfl⟩ := Int.eq_ofNat_of_zero_le (show 0 ≤ s2 by omega)
            have NO := Aside0.mk (fun V => bitset.new m (by omega) V)
            have RO := Aside0.mk (fun V => refset.new m (by omega) V)
            clear hN
            go_wp2_with (first
              | (go_at_call 6; (with_reducible refine (NO.out _).mono ?_); rintro e w2 ⟨q', rfl, h1, h2, h3⟩; have S2 := Aside0.mk h1; have Q2 := Aside0.mk h2; have B2_ := Aside0.mk h3; have PB2 := blk_below_ PB.out h3; obtain ⟨p0, p1, p2, p3⟩ := bC4 PB2; have PB2 := Aside0.mk PB2; clear h1 h2 h3)
              | (go_at_call 7; (with_reducible refine (RO.out _).mono ?_); rintro e w3 ⟨v', rfl, h1, h2⟩; obtain ⟨A', c3, e3⟩ := own_slice (by have := h1; rw [show m = (List.replicate m false).length by simp] at this; exact this); rw [List.length_replicate] at e3; subst e3; have O3 := Aside0.mk h1; have B3 := Aside0.mk h2; have PB3 := Aside0.mk (blk_below_ PB2.out h2); clear h1 h2))
            obtain ⟨w4, ew4⟩ : ∃ w4, w4 = w3.alloc (.cells #[.slice A' m c3] 35) := ⟨_, rfl⟩
            obtain ⟨ob, eob⟩ : ∃ ob, ob = w3.heap.size := ⟨_, rfl⟩
            have b4 : Below wr.heap.size wr w4 := by rw [ew4]; exact below_alloc (Below.trans B2_.out (B3.out.mono B2_.out.size)) _
            have P4 := HPK.out.kept b4
            have hob : w4.cell? ⟨ob, 0, none⟩ = some (.slice A' m c3) := by rw [ew4, eob]; exact (blk_cell (heap_alloc_new w3 _) 0).trans rfl
            have a4 : bitset.At w4 q' m (List.replicate ((m + 63) / 64) 0) := (S2.out.below B3.out).below (by rw [ew4]; exact below_alloc (Below.refl _ _) _)
            have o4 : w4.ownsRow w0.heap.size 4 1 (.slice A' m c3) (List.replicate m false).length (refset.bv (List.replicate m false)) := by
              rw [ew4, List.length_replicate]; exact (own_lower O3.out (Nat.le_trans HPK.out.below.size B2_.out.size)).alloc _
            have st4 : s ≠ t := P4.st
            have lq : ∀ j, j < 2 → q j ≠ q' := fun j hj e => by have := (HPK.out.at_ j hj).lt_size; have := Q2.out; omega
            have lv : ∀ j, j < 2 → ∀ g, (v j).ownBlock = some g → (Value.slice A' m c3).ownBlock = some g → False := fun j hj g h1 h2 => by have := ((HPK.out.own j hj).lt g h1).2; have := (O3.out.lt g h2).1; have := B2_.out.size; omega
            have pb4 := blk_below_ PB.out b4
            have c0 := (blk_cell P4.cs 2).trans rfl
            have c1 := (blk_cell P4.ct 2).trans rfl
            have c2 := blk_frozen P4.cs 2
            have c4 := blk_frozen P4.ct 2
            have sob : s ≠ ob := fun e => by have := blk_lt HPK.out.cs; have := B2_.out.size; have := B3.out.size; omega
            have c5 := (cell_far w4 sob 2 0 (.pointer (some ⟨q' + 1, 0, none⟩))).trans hob
            have c6 := (cell_far w4 st4 2 2 (.pointer (some ⟨q' + 1, 0, none⟩))).trans c1
            rw [← eob, ← ew4]
            have P4_ := Aside0.mk P4
            have A4_ := Aside0.mk a4
            have O4_ := Aside0.mk o4
            have LQ := Aside0.mk lq
            have LV := Aside0.mk lv
            have PB4 := Aside0.mk pb4
            have ST := Aside0.mk st4
            clear sob P4 a4 o4 lq lv pb4 st4 b4 ew4 eob B3 O3 PB3 PB2 S2 B2_ p0 p1 p2 p3 NO RO
            go_region
            have G4 : Aside0 (∃ c d q n xs v bs, Pl w0 ((w4.setCell ⟨s, 2, none⟩ (.pointer (some ⟨q' + 1, 0, none⟩))).setCell ⟨t, 2, none⟩ (.slice A' m c3)).drew s t 3 c d q n xs v bs ∧ ∀ i, i < 3 → bitset.Rep (xs i) (bs i)) := ⟨_, _, _, _, _, _, _, P4_.out.stored (i := 2) (by decide) (fun j h1 h2 => by omega) A4_.out O4_.out (by simp) (Nat.le_trans HPK.out.below.size Q2.out) LQ.out LV.out, fun i hi => by
              by_cases e : i = 2
              · subst e; rw [upd_same, upd_same]; exact bitset.rep_new m
              · rw [upd_ne _ _ e, upd_ne _ _ e]; exact HRK.out i (by omega)⟩
            have PB5 := Aside0.mk (stored_pb (i := 2) (j := 2) (x := .pointer (some ⟨q' + 1, 0, none⟩)) (y := .slice A' m c3) PB4.out SP.out.1 SP.out.2)
            go_wp2
            go_roundw
            case rel => exact ⟨3, by omega, by go_num, G4, PB5⟩
            case measure => simp [intOf]
    · obtain rfl : k = 3 := by omega
      obtain ⟨c', d', q, n, xs, v, bs, P, R⟩ := G.out
      have HP := Aside0.mk P
      have HRK : Aside0 (Reps xs bs) := ⟨R⟩
      clear P R G hlt hk HP0 HPL0 KP B2
      obtain ⟨p0, p1, p2, p3⟩ := bC4 PB.out
      go_upto_block 2 with (fail)
      clear p0 p1 p2 p3
      rw [show ((3 : Nat) : Int) = 3 from rfl]
      obtain ⟨wv, ewv⟩ : ∃ wv : World, wv = wr := ⟨_, rfl⟩
      subst ewv
      go_cut [] (fun wc => Aside0 (∃ c d q n xs v bs, Pl w0 wc s t 3 c d q n xs v bs ∧ Reps xs bs))
      case first =>
       go_wp2_with (fail)
       go_loopw [70] (fun v70 wr => ∃ k : Nat, k ≤ len ∧ v70 = .int .i64 (k : Int) ∧ Aside0 (∃ c d q n xs v bs, Pl w0 wr s t 3 c d q n xs v bs ∧ Reps xs bs)) (fun v70 _ => len - (intOf v70).toNat)
       case atStart => exact ⟨0, by omega, rfl, ⟨_, _, _, _, _, _, _, HP.out, HRK.out⟩⟩
       case round =>
         clear HP HRK c' d' q n xs v bs
         obtain ⟨k, hk, rfl, G⟩ := hrel
         obtain ⟨c', d', q, n, xs, v, bs, P, R⟩ := G.out
         have HP := Aside0.mk P
         have HRK := Aside0.mk R
         clear P R G
         by_cases hlt : k < len ∧ k < 300
         · obtain ⟨hk1, hk2⟩ := hlt
           obtain ⟨ad, rfl, x0, x1, x2, x3, hx0, hx1, hx2, hx3⟩ := HR.out k hk1
           replace hx0 := (Below.cell HP.out.below (World.block_lt_of_cell? w0 _ hx0)).trans hx0
           replace hx1 := (Below.cell HP.out.below (World.block_lt_of_cell? w0 _ hx1)).trans hx1
           replace hx2 := (Below.cell HP.out.below (World.block_lt_of_cell? w0 _ hx2)).trans hx2
           replace hx3 := (Below.cell HP.out.below (World.block_lt_of_cell? w0 _ hx3)).trans hx3
           rw [add_spell ad (k * 4) 1 (by decide)] at hx1
           rw [add_spell ad (k * 4) 2 (by decide)] at hx2
           rw [add_spell ad (k * 4) 3 (by decide)] at hx3
           have k1 : (k : Int) < 300 := by omega
           go_wp2
           clear hx0 hx1 hx2 hx3
           obtain ⟨ob, eob⟩ : ∃ ob, ob = wr.heap.size := ⟨_, rfl⟩
           have bo := heap_alloc_new wr (.cells #[.int .i64 x0, .int .i64 x1, .int .i64 x2, .int .i64 x3] 39)
           have P5 := HP.out.kept (below_alloc (Below.refl _ _) (.cells #[.int .i64 x0, .int .i64 x1, .int .i64 x2, .int .i64 x3] 39))
           rw [← eob] at bo ⊢
           obtain ⟨w5, ew5⟩ : ∃ w5, w5 = wr.alloc (.cells #[.int .i64 x0, .int .i64 x1, .int .i64 x2, .int .i64 x3] 39) := ⟨_, rfl⟩
           rw [← ew5] at bo P5 ⊢
           clear ew5 eob
           obtain ⟨o0, o1, o2, o3⟩ := bC4 bo
           have BO := Aside0.mk bo
           have HP5 := Aside0.mk P5
           clear bo P5 HP
           go_quiet ((go_at_call 8; exact Calls.quiet_of_same ((bitset.which _ _).mono fun e w' h => ⟨h.1, h.2.symm⟩)))
           go_wp2
           obtain ⟨i, ei, hi⟩ : ∃ i, i = (x1 % 3).toNat ∧ i < 3 := ⟨_, rfl, by omega⟩
           obtain ⟨j, ej, hj⟩ : ∃ j, j = (x2 % 3).toNat ∧ j < 3 := ⟨_, rfl, by omega⟩
           rw [← ei, ← ej]
           clear ei ej o1 o2
           have si := HP5.out.cs_cell hi
           have hiI : (i : Int) < 3 := by omega
           go_quiet (fail)
           clear si hiI
           have hx : x0 = 1 ∨ x0 = 2 ∨ x0 = 3 ∨ x0 = 4 ∨ x0 = 5 ∨ x0 = 6 ∨ x0 = 7 ∨ x0 = 8 ∨ ((x0 == 1) = false ∧ (x0 == 2) = false ∧ (x0 == 3) = false ∧ (x0 == 4) = false ∧ (x0 == 5) = false ∧ (x0 == 6) = false ∧ (x0 == 7) = false ∧ (x0 == 8) = false) := by
             simp only [beq_eq_false_iff_ne]; omega
           rcases hx with rfl | rfl | rfl | rfl | rfl | rfl | rfl | rfl | ⟨n1, n2, n3, n4, n5, n6, n7, n8⟩
           · as_aux_lemma =>
               go_wp2
               go_region_held3 (fun w' => w'.cell? ⟨ob, 3, none⟩ = some (.int .i64 x3)) (first | exact o3 | exact q3 | exact r3)
                 (first
                   | (go_at_call 9; refine ((HP5.out.drawn dRw).cPut HRK.out hi x3).mono ?_; rintro e w6 ⟨rfl, ys, h1, h2, h3⟩; have P6 := Aside0.mk h1; have R6 := Aside0.mk h2; have b6 := h3 _ _ _ BO.out (by decide) (by decide); have q3 := (bC4 b6).2.2.2; have B6 := Aside0.mk b6; clear h1 h2 h3 b6)
                   | (go_at_call 10; refine (P6.out.cTurn hi x3 true).mono ?_; rintro e w7 ⟨rfl, h1, h3⟩; have PF := Aside0.mk h1; have b7 := h3 _ _ _ B6.out (by decide) (by decide); have r3 := (bC4 b7).2.2.2; clear h1 h3 b7))
               have RF := Aside0.mk (HRK.out.upd i R6.out)
               clear q3 r3
               have si7 := PF.out.cs_cell hi
               have TF := Aside0.mk (HT.out.below PF.out.below)
               clear o0 o3
               have hiI : (i : Int) < 3 := by omega
               go_wp2
               go_region_held3 (fun w' => w'.cell? ⟨s, i, none⟩ = some (.pointer (some ⟨q i + 1, 0, none⟩))) (first | exact si7 | exact si8)
                 (first
                   | (go_at_call 22; refine ((PF.out.drawn dRw).cAlike RF.out (HT.out.below (PF.out.drawn dRw).below) hi).mono ?_; rintro e w8 ⟨rfl, h⟩; have P8 := Aside0.mk ((PF.out.drawn dRw).kept h); have si8 := P8.out.cs_cell hi; clear h))
               go_wp2
               all_goals (go_roundw; (case rel => exact ⟨k + 1, by omega, by go_num, ⟨_, _, _, _, _, _, _, P8.out, RF.out⟩⟩); (case measure => simp [intOf]; omega))
           · as_aux_lemma =>
               go_wp2
               go_region_held3 (fun w' => w'.cell? ⟨ob, 3, none⟩ = some (.int .i64 x3)) (first | exact o3 | exact q3 | exact r3)
                 (first
                   | (go_at_call 11; refine ((HP5.out.drawn dRw).cDrop HRK.out hi x3).mono ?_; rintro e w6 ⟨rfl, ys, h1, h2, h3⟩; have P6 := Aside0.mk h1; have R6 := Aside0.mk h2; have b6 := h3 _ _ _ BO.out (by decide) (by decide); have q3 := (bC4 b6).2.2.2; have B6 := Aside0.mk b6; clear h1 h2 h3 b6)
                   | (go_at_call 10; refine (P6.out.cTurn hi x3 false).mono ?_; rintro e w7 ⟨rfl, h1, h3⟩; have PF := Aside0.mk h1; have b7 := h3 _ _ _ B6.out (by decide) (by decide); have r3 := (bC4 b7).2.2.2; clear h1 h3 b7))
               have RF := Aside0.mk (HRK.out.upd i R6.out)
               clear q3 r3
               have si7 := PF.out.cs_cell hi
               have TF := Aside0.mk (HT.out.below PF.out.below)
               clear o0 o3
               have hiI : (i : Int) < 3 := by omega
               go_wp2
               go_region_held3 (fun w' => w'.cell? ⟨s, i, none⟩ = some (.pointer (some ⟨q i + 1, 0, none⟩))) (first | exact si7 | exact si8)
                 (first
                   | (go_at_call 22; refine ((PF.out.drawn dRw).cAlike RF.out (HT.out.below (PF.out.drawn dRw).below) hi).mono ?_; rintro e w8 ⟨rfl, h⟩; have P8 := Aside0.mk ((PF.out.drawn dRw).kept h); have si8 := P8.out.cs_cell hi; clear h))
               go_wp2
               all_goals (go_roundw; (case rel => exact ⟨k + 1, by omega, by go_num, ⟨_, _, _, _, _, _, _, P8.out, RF.out⟩⟩); (case measure => simp [intOf]; omega))
           · as_aux_lemma =>
               have sj := HP5.out.cs_cell hj
               have hjI : (j : Int) < 3 := by omega
               go_wp2
               go_region_held3 (fun w' => w'.cell? ⟨s, j, none⟩ = some (.pointer (some ⟨q j + 1, 0, none⟩))) (first | exact sj | exact sj6 | exact sj7)
                 (first
                   | (go_at_call 12; refine ((HP5.out.drawn dRw).cJoin HRK.out hi hj).mono ?_; rintro e w6 ⟨rfl, ys, h1, h2, h3⟩; have P6 := Aside0.mk h1; have R6 := Aside0.mk h2; have sj6 := P6.out.cs_cell hj; clear h1 h2 h3)
                   | (go_at_call 13; refine (P6.out.cRJoin hi hj).mono ?_; rintro e w7 ⟨rfl, h1, h3⟩; have PF := Aside0.mk h1; have sj7 := PF.out.cs_cell hj; clear h1 h3))
               have RF := Aside0.mk (HRK.out.upd i R6.out)
               clear sj sj6 sj7 hjI
               have si7 := PF.out.cs_cell hi
               have TF := Aside0.mk (HT.out.below PF.out.below)
               clear o0 o3
               have hiI : (i : Int) < 3 := by omega
               go_wp2
               go_region_held3 (fun w' => w'.cell? ⟨s, i, none⟩ = some (.pointer (some ⟨q i + 1, 0, none⟩))) (first | exact si7 | exact si8)
                 (first
                   | (go_at_call 22; refine ((PF.out.drawn dRw).cAlike RF.out (HT.out.below (PF.out.drawn dRw).below) hi).mono ?_; rintro e w8 ⟨rfl, h⟩; have P8 := Aside0.mk ((PF.out.drawn dRw).kept h); have si8 := P8.out.cs_cell hi; clear h))
               go_wp2
               all_goals (go_roundw; (case rel => exact ⟨k + 1, by omega, by go_num, ⟨_, _, _, _, _, _, _, P8.out, RF.out⟩⟩); (case measure => simp [intOf]; omega))
           · as_aux_lemma =>
               have sj := HP5.out.cs_cell hj
               have hjI : (j : Int) < 3 := by omega
               go_wp2
               go_region_held3 (fun w' => w'.cell? ⟨s, j, none⟩ = some (.pointer (some ⟨q j + 1, 0, none⟩))) (first | exact sj | exact sj6 | exact sj7)
                 (first
                   | (go_at_call 14; refine ((HP5.out.drawn dRw).cMeet HRK.out hi hj).mono ?_; rintro e w6 ⟨rfl, ys, h1, h2, h3⟩; have P6 := Aside0.mk h1; have R6 := Aside0.mk h2; have sj6 := P6.out.cs_cell hj; clear h1 h2 h3)
                   | (go_at_call 13; refine (P6.out.cRMeet hi hj).mono ?_; rintro e w7 ⟨rfl, h1, h3⟩; have PF := Aside0.mk h1; have sj7 := PF.out.cs_cell hj; clear h1 h3))
               have RF := Aside0.mk (HRK.out.upd i R6.out)
               clear sj sj6 sj7 hjI
               have si7 := PF.out.cs_cell hi
               have TF := Aside0.mk (HT.out.below PF.out.below)
               clear o0 o3
               have hiI : (i : Int) < 3 := by omega
               go_wp2
               go_region_held3 (fun w' => w'.cell? ⟨s, i, none⟩ = some (.pointer (some ⟨q i + 1, 0, none⟩))) (first | exact si7 | exact si8)
                 (first
                   | (go_at_call 22; refine ((PF.out.drawn dRw).cAlike RF.out (HT.out.below (PF.out.drawn dRw).below) hi).mono ?_; rintro e w8 ⟨rfl, h⟩; have P8 := Aside0.mk ((PF.out.drawn dRw).kept h); have si8 := P8.out.cs_cell hi; clear h))
               go_wp2
               all_goals (go_roundw; (case rel => exact ⟨k + 1, by omega, by go_num, ⟨_, _, _, _, _, _, _, P8.out, RF.out⟩⟩); (case measure => simp [intOf]; omega))
           · as_aux_lemma =>
               have sj := HP5.out.cs_cell hj
               have hjI : (j : Int) < 3 := by omega
               go_wp2
               go_region_held3 (fun w' => w'.cell? ⟨s, j, none⟩ = some (.pointer (some ⟨q j + 1, 0, none⟩))) (first | exact sj | exact sj6 | exact sj7)
                 (first
                   | (go_at_call 15; refine ((HP5.out.drawn dRw).cLess HRK.out hi hj).mono ?_; rintro e w6 ⟨rfl, ys, h1, h2, h3⟩; have P6 := Aside0.mk h1; have R6 := Aside0.mk h2; have sj6 := P6.out.cs_cell hj; clear h1 h2 h3)
                   | (go_at_call 13; refine (P6.out.cRLess hi hj).mono ?_; rintro e w7 ⟨rfl, h1, h3⟩; have PF := Aside0.mk h1; have sj7 := PF.out.cs_cell hj; clear h1 h3))
               have RF := Aside0.mk (HRK.out.upd i R6.out)
               clear sj sj6 sj7 hjI
               have si7 := PF.out.cs_cell hi
               have TF := Aside0.mk (HT.out.below PF.out.below)
               clear o0 o3
               have hiI : (i : Int) < 3 := by omega
               go_wp2
               go_region_held3 (fun w' => w'.cell? ⟨s, i, none⟩ = some (.pointer (some ⟨q i + 1, 0, none⟩))) (first | exact si7 | exact si8)
                 (first
                   | (go_at_call 22; refine ((PF.out.drawn dRw).cAlike RF.out (HT.out.below (PF.out.drawn dRw).below) hi).mono ?_; rintro e w8 ⟨rfl, h⟩; have P8 := Aside0.mk ((PF.out.drawn dRw).kept h); have si8 := P8.out.cs_cell hi; clear h))
               go_wp2
               all_goals (go_roundw; (case rel => exact ⟨k + 1, by omega, by go_num, ⟨_, _, _, _, _, _, _, P8.out, RF.out⟩⟩); (case measure => simp [intOf]; omega))
           · as_aux_lemma =>
               have sj := HP5.out.cs_cell hj
               have hjI : (j : Int) < 3 := by omega
               have hiI : (i : Int) < 3 := by omega
               have st5 := Aside0.mk HP5.out.st
               go_wp2
               refine start_ (n := 17) (S := fun w' => w'.cell? ⟨s, j, none⟩ = some (.pointer (some ⟨q j + 1, 0, none⟩))) (ds := [14, 16]) #[false, false, false, false, false, false, false, false, false, false, false, false, false, false, false, false, false] (by kernel_rfl) rfl rfl (sj) (fun hHeld => ?_)
               refine pure_ (i := 0) (N := some 153) (v := ?_) (a' := ?_) #[true, false, false, false, false, false, false, false, false, false, false, false, false, false, false, false, false] rfl rfl (by kernel_rfl) (fun _ _ _ h => h) (Or.inl ⟨by rfl, ?_⟩) ?_ ?_
               rotate_left
               · intro w'
                 go_simp
                 with_reducible rfl
               rotate_left
               · simp only [Act.put, List.setIfInBounds_toArray, List.set_cons_zero, List.set_cons_succ, i64_w, i32_w]
                 rfl
               refine pure_ (i := 1) (N := some 154) (v := ?_) (a' := ?_) #[true, true, false, false, false, false, false, false, false, false, false, false, false, false, false, false, false] rfl rfl (by kernel_rfl) (fun _ _ _ h => h) (Or.inl ⟨by rfl, ?_⟩) ?_ ?_
               rotate_left
               · intro w'
                 go_simp
                 with_reducible rfl
               rotate_left
               · simp only [Act.put, List.setIfInBounds_toArray, List.set_cons_zero, List.set_cons_succ, i64_w, i32_w]
                 rfl
               refine pure_ (i := 2) (N := some 155) (v := ?_) (a' := ?_) #[true, true, true, false, false, false, false, false, false, false, false, false, false, false, false, false, false] rfl rfl (by kernel_rfl) (fun _ _ _ h => h) (Or.inl ⟨by rfl, ?_⟩) ?_ ?_
               rotate_left
               · intro w'
                 go_simp
                 with_reducible rfl
               rotate_left
               · simp only [Act.put, List.setIfInBounds_toArray, List.set_cons_zero, List.set_cons_succ, i64_w, i32_w]
                 rfl
               refine pure_ (i := 3) (N := some 156) (v := ?_) (a' := ?_) #[true, true, true, true, false, false, false, false, false, false, false, false, false, false, false, false, false] rfl rfl (by kernel_rfl) (fun _ _ _ h => h) (Or.inl ⟨by rfl, ?_⟩) ?_ ?_
               rotate_left
               · intro w'
                 go_simp
                 with_reducible rfl
               rotate_left
               · simp only [Act.put, List.setIfInBounds_toArray, List.set_cons_zero, List.set_cons_succ, i64_w, i32_w]
                 rfl
               refine pure_ (i := 4) (N := some 157) (v := ?_) (a' := ?_) #[true, true, true, true, true, false, false, false, false, false, false, false, false, false, false, false, false] rfl rfl (by kernel_rfl) (fun _ _ _ h => h) (Or.inl ⟨by rfl, ?_⟩) ?_ ?_
               rotate_left
               · intro w'
                 go_simp
                 with_reducible rfl
               rotate_left
               · simp only [Act.put, List.setIfInBounds_toArray, List.set_cons_zero, List.set_cons_succ, i64_w, i32_w]
                 rfl
               refine pure_ (i := 5) (N := some 158) (v := ?_) (a' := ?_) #[true, true, true, true, true, true, false, false, false, false, false, false, false, false, false, false, false] rfl rfl (by kernel_rfl) (fun _ _ _ h => h) (Or.inl ⟨by rfl, ?_⟩) ?_ ?_
               rotate_left
               · intro w'
                 go_simp
                 with_reducible rfl
               rotate_left
               · simp only [Act.put, List.setIfInBounds_toArray, List.set_cons_zero, List.set_cons_succ, i64_w, i32_w]
                 rfl
               refine pure_ (i := 6) (N := some 159) (v := ?_) (a' := ?_) #[true, true, true, true, true, true, true, false, false, false, false, false, false, false, false, false, false] rfl rfl (by kernel_rfl) (fun _ _ _ h => h) (Or.inl ⟨by rfl, ?_⟩) ?_ ?_
               rotate_left
               · intro w'
                 go_simp
                 with_reducible rfl
               rotate_left
               · simp only [Act.put, List.setIfInBounds_toArray, List.set_cons_zero, List.set_cons_succ, i64_w, i32_w]
                 rfl
               refine pure_ (i := 9) (N := some 162) (v := ?_) (a' := ?_) #[true, true, true, true, true, true, true, false, false, true, false, false, false, false, false, false, false] rfl rfl (by kernel_rfl) (fun _ _ _ h => h) (Or.inl ⟨by rfl, ?_⟩) ?_ ?_
               rotate_left
               · intro w'
                 go_simp
                 with_reducible rfl
               rotate_left
               · simp only [Act.put, List.setIfInBounds_toArray, List.set_cons_zero, List.set_cons_succ, i64_w, i32_w]
                 rfl
               refine pure_ (i := 10) (N := some 163) (v := ?_) (a' := ?_) #[true, true, true, true, true, true, true, false, false, true, true, false, false, false, false, false, false] rfl rfl (by kernel_rfl) (fun _ _ _ h => h) (Or.inl ⟨by rfl, ?_⟩) ?_ ?_
               rotate_left
               · intro w'
                 go_simp
                 with_reducible rfl
               rotate_left
               · simp only [Act.put, List.setIfInBounds_toArray, List.set_cons_zero, List.set_cons_succ, i64_w, i32_w]
                 rfl
               refine pure_ (i := 11) (N := some 164) (v := ?_) (a' := ?_) #[true, true, true, true, true, true, true, false, false, true, true, true, false, false, false, false, false] rfl rfl (by kernel_rfl) (fun _ _ _ h => h) (Or.inl ⟨by rfl, ?_⟩) ?_ ?_
               rotate_left
               · intro w'
                 go_simp
                 with_reducible rfl
               rotate_left
               · simp only [Act.put, List.setIfInBounds_toArray, List.set_cons_zero, List.set_cons_succ, i64_w, i32_w]
                 rfl
               refine take_ (i := 7) (N := some 160) (v := ?_) (a' := ?_) #[true, true, true, true, true, true, true, true, false, true, true, true, false, false, false, false, false] rfl rfl (by kernel_rfl) (fun _ _ _ h => h) (Or.inl ⟨by rfl, ?_⟩) hHeld ?_ ?_
               rotate_left
               · intro w' s0
                 go_simp
                 with_reducible rfl
               rotate_left
               · simp only [Act.put, List.setIfInBounds_toArray, List.set_cons_zero, List.set_cons_succ, i64_w, i32_w]
                 rfl
               refine one_ (i := 8) (N := some 161) #[true, true, true, true, true, true, true, true, true, true, true, true, false, false, false, false, false] rfl rfl (by kernel_rfl) (by decide) (fun K hK => ?_)
               refine goes_ Tryd.func16 (by kernel_rfl) rfl #[.pointer (some ⟨q j + 1, 0, none⟩)] (by rfl) rfl rfl (by simp only [List.map_toArray, List.map_cons, List.map_nil]; rfl) ?_
               with_reducible refine (bitset.copy _ (q j) (n j) (xs j) ((HP5.out.drawn dRd).at_ j hj)).mono ?_
               rintro e w6 ⟨p, rfl, h1, h2, h3⟩
               have P6 := Aside0.mk ((HP5.out.drawn dRd).kept h3)
               have A6 := Aside0.mk h1
               have Q6 := Aside0.mk (show w5.heap.size ≤ p from h2)
               have S6 := Aside0.mk (show w5.heap.size ≤ w6.heap.size from h3.size)
               clear h1 h2 h3
               refine ⟨_, rfl, ?_⟩
               refine hK.out _ _ (P6.out.cs_cell hj) (fun hHeld => ?_)
               clear hK K
               refine norm_ (a' := ?_) ?_ ?_
               rotate_left
               · show Act.put _ (some 161) _ = _
                 simp only [Act.put, List.setIfInBounds_toArray, List.set_cons_zero, List.set_cons_succ, i64_w, i32_w]
                 rfl
               refine one_ (i := 12) (N := some 165) #[true, true, true, true, true, true, true, true, true, true, true, true, true, false, false, false, false] rfl rfl (by kernel_rfl) (by decide) (fun K hK => ?_)
               refine goes_ Tryd.func17 (by kernel_rfl) rfl #[.pointer (some ⟨t, j, none⟩)] (by rfl) rfl rfl (by simp only [List.map_toArray, List.map_cons, List.map_nil]; rfl) ?_
               with_reducible refine (refset.copy w6 w0.heap.size ⟨t, j, none⟩ (v j) (bs j) (P6.out.ref hj)).mono ?_
               rintro e w7 ⟨v', rfl, h1, h3⟩
               obtain ⟨A', c3, e3⟩ := own_slice h1
               subst e3
               have P7 := Aside0.mk (P6.out.kept h3)
               have A7 := Aside0.mk (A6.out.below h3)
               have O7 := Aside0.mk h1
               have c0 := P7.out.cs_cell hi
               have c1 := (P7.out.ref hi).cell
               have c6 := (cell_far w7 st5.out i i (.pointer (some ⟨p + 1, 0, none⟩))).trans c1
               have c2 := blk_frozen P7.out.cs i
               have c4 := blk_frozen P7.out.ct i
               clear h1 h3
               refine ⟨_, rfl, ?_⟩
               refine hK.out _ _ (P7.out.cs_cell hj) (fun hHeld => ?_)
               clear hK K
               refine norm_ (a' := ?_) ?_ ?_
               rotate_left
               · show Act.put _ (some 165) _ = _
                 simp only [Act.put, List.setIfInBounds_toArray, List.set_cons_zero, List.set_cons_succ, i64_w, i32_w]
                 rfl
               refine pure_ (i := 13) (N := some 166) (v := ?_) (a' := ?_) #[true, true, true, true, true, true, true, true, true, true, true, true, true, true, false, false, false] rfl rfl (by kernel_rfl) (fun _ _ _ h => h) (Or.inl ⟨by rfl, ?_⟩) ?_ ?_
               rotate_left
               · intro w'
                 go_simp
                 with_reducible rfl
               rotate_left
               · simp only [Act.put, List.setIfInBounds_toArray, List.set_cons_zero, List.set_cons_succ, i64_w, i32_w]
                 rfl
               refine last_ (i := 14) (N := none) #[true, true, true, true, true, true, true, true, true, true, true, true, true, true, true, false, false] rfl rfl (by kernel_rfl) (by decide) (fun K hK => ?_)
               refine skip_ (w1 := ?_) (by rfl) rfl ?_ ?_
               rotate_left
               · go_simp
                 rfl
               refine hK.out _ _ ?_
               clear hK K
               refine pure_ (i := 15) (N := some 167) (v := ?_) (a' := ?_) #[true, true, true, true, true, true, true, true, true, true, true, true, true, true, true, true, false] rfl rfl (by kernel_rfl) (fun _ _ _ h => h) (Or.inl ⟨by rfl, ?_⟩) ?_ ?_
               rotate_left
               · intro w'
                 go_simp
                 with_reducible rfl
               rotate_left
               · simp only [Act.put, List.setIfInBounds_toArray, List.set_cons_zero, List.set_cons_succ, i64_w, i32_w]
                 rfl
               refine last_ (i := 16) (N := none) #[true, true, true, true, true, true, true, true, true, true, true, true, true, true, true, true, true] rfl rfl (by kernel_rfl) (by decide) (fun K hK => ?_)
               refine skip_ (w1 := ?_) (by rfl) rfl ?_ ?_
               rotate_left
               · go_simp
                 rfl
               refine hK.out _ _ ?_
               clear hK K
               refine done_ (by kernel_rfl) ?_
               have PF := Aside0.mk (Pl.of_drew (P7.out.stored (i := i) (K := 3) hi (fun l h1 _ => h1) A7.out (own_lower O7.out (Nat.le_trans (Nat.le_trans HP5.out.below.size S6.out) (Nat.le_refl _))) (HP5.out.len j hj) (Nat.le_trans HP5.out.below.size Q6.out) (fun l hl e => by have := (HP5.out.at_ l hl).lt_size; have := Q6.out; omega) (fun l hl g h1 h2 => by have := ((HP5.out.own l hl).lt g h1).2; have := (O7.out.lt g h2).1; have := S6.out; omega)))
               have RF := Aside0.mk (HRK.out.upd i (HRK.out j hj))
               clear c0 c1 c2 c4 c6 sj hjI hiI
               obtain ⟨w9, ew9⟩ : ∃ w9, w9 = (w7.setCell ⟨s, i, none⟩ (.pointer (some ⟨p + 1, 0, none⟩))).setCell ⟨t, i, none⟩ (.slice A' (bs j).length c3) := ⟨_, rfl⟩
               rw [← ew9] at PF ⊢
               clear ew9
               have si7 := PF.out.cs_cell hi
               have TF := Aside0.mk (HT.out.below PF.out.below)
               clear o0 o3
               have hiI : (i : Int) < 3 := by omega
               go_wp2
               go_region_held3 (fun w' => w'.cell? ⟨s, i, none⟩ = some (.pointer (some ⟨upd q i p i + 1, 0, none⟩))) (first | exact si7 | exact si8)
                 (first
                   | (go_at_call 22; refine ((PF.out.drawn dRw).cAlike RF.out (HT.out.below (PF.out.drawn dRw).below) hi).mono ?_; rintro e w8 ⟨rfl, h⟩; have P8 := Aside0.mk ((PF.out.drawn dRw).kept h); have si8 := P8.out.cs_cell hi; clear h))
               go_wp2
               all_goals (go_roundw; (case rel => exact ⟨k + 1, by omega, by go_num, ⟨_, _, _, _, _, _, _, P8.out, RF.out⟩⟩); (case measure => simp [intOf]; omega))
           · as_aux_lemma =>
               go_wp2
               go_region_held3 (fun w' => w'.cell? ⟨ob, 3, none⟩ = some (.int .i64 x3)) (first | exact o3)
                 (first
                   | (go_at_call 18; refine ((HP5.out.drawn dRw).cHas HRK.out hi x3).mono ?_; rintro e w6 ⟨rfl, rfl⟩)
                   | (go_at_call 19; refine ((HP5.out.drawn dRw).cRHas hi x3).mono ?_; rintro e w7 ⟨rfl, rfl⟩))
               have PF := HP5
               have RF := HRK
               have si7 := PF.out.cs_cell hi
               have TF := Aside0.mk (HT.out.below PF.out.below)
               clear o0 o3
               have hiI : (i : Int) < 3 := by omega
               go_wp2
               go_region_held3 (fun w' => w'.cell? ⟨s, i, none⟩ = some (.pointer (some ⟨q i + 1, 0, none⟩))) (first | exact si7 | exact si8)
                 (first
                   | (go_at_call 22; refine ((PF.out.drawn dRw).cAlike RF.out (HT.out.below (PF.out.drawn dRw).below) hi).mono ?_; rintro e w8 ⟨rfl, h⟩; have P8 := Aside0.mk ((PF.out.drawn dRw).kept h); have si8 := P8.out.cs_cell hi; clear h))
               go_wp2
               all_goals (go_roundw; (case rel => exact ⟨k + 1, by omega, by go_num, ⟨_, _, _, _, _, _, _, P8.out, RF.out⟩⟩); (case measure => simp [intOf]; omega))
           · as_aux_lemma =>
               have sj := HP5.out.cs_cell hj
               have hjI : (j : Int) < 3 := by omega
               go_wp2
               go_region_held3 (fun w' => w'.cell? ⟨s, j, none⟩ = some (.pointer (some ⟨q j + 1, 0, none⟩))) (first | exact sj | exact sj6 | exact sj7)
                 (first
                   | (go_at_call 20; refine ((HP5.out.drawn dRw).cSame HRK.out hi hj).mono ?_; rintro e w6 ⟨rfl, h1⟩; have P6 := Aside0.mk ((HP5.out.drawn dRw).drawn h1); have sj6 := P6.out.cs_cell hj; clear h1)
                   | (go_at_call 21; refine (P6.out.cRSame hi hj).mono ?_; rintro e w7 ⟨rfl, h1⟩; have PF := Aside0.mk (P6.out.drawn h1); have sj7 := PF.out.cs_cell hj; clear h1))
               have RF := HRK
               clear sj sj6 sj7 hjI
               have si7 := PF.out.cs_cell hi
               have TF := Aside0.mk (HT.out.below PF.out.below)
               clear o0 o3
               have hiI : (i : Int) < 3 := by omega
               go_wp2
               go_region_held3 (fun w' => w'.cell? ⟨s, i, none⟩ = some (.pointer (some ⟨q i + 1, 0, none⟩))) (first | exact si7 | exact si8)
                 (first
                   | (go_at_call 22; refine ((PF.out.drawn dRw).cAlike RF.out (HT.out.below (PF.out.drawn dRw).below) hi).mono ?_; rintro e w8 ⟨rfl, h⟩; have P8 := Aside0.mk ((PF.out.drawn dRw).kept h); have si8 := P8.out.cs_cell hi; clear h))
               go_wp2
               all_goals (go_roundw; (case rel => exact ⟨k + 1, by omega, by go_num, ⟨_, _, _, _, _, _, _, P8.out, RF.out⟩⟩); (case measure => simp [intOf]; omega))
           · as_aux_lemma =>
               have PF := HP5
               have RF := HRK
               go_wp2
               have si7 := PF.out.cs_cell hi
               have TF := Aside0.mk (HT.out.below PF.out.below)
               clear o0 o3
               have hiI : (i : Int) < 3 := by omega
               go_wp2
               go_region_held3 (fun w' => w'.cell? ⟨s, i, none⟩ = some (.pointer (some ⟨q i + 1, 0, none⟩))) (first | exact si7 | exact si8)
                 (first
                   | (go_at_call 22; refine ((PF.out.drawn dRw).cAlike RF.out (HT.out.below (PF.out.drawn dRw).below) hi).mono ?_; rintro e w8 ⟨rfl, h⟩; have P8 := Aside0.mk ((PF.out.drawn dRw).kept h); have si8 := P8.out.cs_cell hi; clear h))
               go_wp2
               all_goals (go_roundw; (case rel => exact ⟨k + 1, by omega, by go_num, ⟨_, _, _, _, _, _, _, P8.out, RF.out⟩⟩); (case measure => simp [intOf]; omega))
         · by_cases hlt2 : k < len
           · have h300 : 300 ≤ k := by omega
             obtain ⟨ad, rfl, x0, x1, x2, x3, hx0, hx1, hx2, hx3⟩ := HR.out k hlt2
             replace hx0 := (Below.cell HP.out.below (World.block_lt_of_cell? w0 _ hx0)).trans hx0
             replace hx1 := (Below.cell HP.out.below (World.block_lt_of_cell? w0 _ hx1)).trans hx1
             replace hx2 := (Below.cell HP.out.below (World.block_lt_of_cell? w0 _ hx2)).trans hx2
             replace hx3 := (Below.cell HP.out.below (World.block_lt_of_cell? w0 _ hx3)).trans hx3
             rw [add_spell ad (k * 4) 1 (by decide)] at hx1
             rw [add_spell ad (k * 4) 2 (by decide)] at hx2
             rw [add_spell ad (k * 4) 3 (by decide)] at hx3
             have k1 : (300 : Int) ≤ (k : Int) := by omega
             have k2 : decide ((300 : Int) ≤ (k : Int)) = true := decide_eq_true k1
             have hdk : decide (k < len) = true := decide_eq_true hlt2
             have HPT := Aside0.mk (HP.out.kept (below_alloc (Below.refl _ _) (.cells #[.int .i64 x0, .int .i64 x1, .int .i64 x2, .int .i64 x3] 39)))
             clear hlt hk HP
             go_wp2
             clear hx0 hx1 hx2 hx3
             go_meet
             case rel => exact ⟨_, _, _, _, _, _, _, HPT.out, HRK.out⟩
           · have hdk : decide (k < len) = false := by simpa using hlt2
             clear hlt hk
             go_wp2
             go_meet
             case rel => exact ⟨_, _, _, _, _, _, _, HP.out, HRK.out⟩
      case rest =>
        clear HP HRK c' d' q n xs v bs
        obtain ⟨c', d', q, n, xs, v, bs, P, R⟩ := hcut.out
        have HPT := Aside0.mk P
        have HRK := Aside0.mk R
        clear P R hcut
        go_wp2
        go_loopw [208] (fun v208 wr => ∃ k : Nat, k ≤ 3 ∧ v208 = .int .i64 (k : Int) ∧ Aside0 (Pl w0 wr s t 3 c' d' q n xs v bs)) (fun v208 _ => 3 - (intOf v208).toNat)
        case atStart => exact ⟨0, by omega, rfl, HPT⟩
        case round =>
          clear HPT
          obtain ⟨a, ha, rfl, PA⟩ := hrel
          by_cases ha3 : a < 3
          · have haI : (a : Int) < 3 := by omega
            have hda : decide ((a : Int) < 3) = true := decide_eq_true haI
            go_wp2
            obtain ⟨wu, ewu⟩ : ∃ wu : World, wu = wr := ⟨_, rfl⟩
            subst ewu
            go_loopw [211] (fun v211 wr => ∃ b : Nat, b ≤ 3 ∧ v211 = .int .i64 (b : Int) ∧ Aside0 (Pl w0 wr s t 3 c' d' q n xs v bs)) (fun v211 _ => 3 - (intOf v211).toNat)
            case atStart => exact ⟨0, by omega, rfl, PA⟩
            case round =>
              clear PA
              obtain ⟨b, hb, rfl, PB_⟩ := hrel
              by_cases hb3 : b < 3
              · have hbI : (b : Int) < 3 := by omega
                have sa := PB_.out.cs_cell ha3
                have sb := PB_.out.cs_cell hb3
                obtain ⟨A1, c1, e1⟩ := (PB_.out.ref ha3).slice
                obtain ⟨A2, c2, e2⟩ := (PB_.out.ref hb3).slice
                have K0 := Aside0.mk (PB_.out.cells4 ha3 hb3 e1 e2)
                have CE := Aside0.mk (fun (V : World) (h : Pl w0 V s t 3 c' d' q n xs v bs) => h.cells4 ha3 hb3 e1 e2)
                have la := (PB_.out.ref ha3).le
                have lb_ := (PB_.out.ref hb3).le
                clear sa sb e1 e2
                have hcase : (bs a = bs b ∧ xs a = xs b) ∨ (bs a ≠ bs b ∧ (bs a).length = (bs b).length ∧ xs a ≠ xs b) ∨ (bs a ≠ bs b ∧ (bs a).length ≠ (bs b).length) := by
                  by_cases h1 : (bs a).length = (bs b).length
                  · have := bitset.rep_same (HRK.out a ha3) (HRK.out b hb3) h1 (PB_.out.at_ a ha3).lt (PB_.out.at_ b hb3).lt
                    by_cases h2 : bs a = bs b
                    · exact .inl ⟨h2, this.2 h2⟩
                    · exact .inr (.inl ⟨h2, h1, fun h => h2 (this.1 h)⟩)
                  · exact .inr (.inr ⟨fun h => h1 (by rw [h]), h1⟩)
                have hlx : (bs a).length = (bs b).length → (xs a).length = (xs b).length := fun h => by rw [(HRK.out a ha3).len, (HRK.out b hb3).len, h]
                rcases hcase with ⟨hE, hX⟩ | ⟨hE, hl, hX⟩ | ⟨hE, hl⟩
                · as_aux_lemma =>
                    obtain ⟨Sa, hSa⟩ : ∃ S, S = strOfNums (bitset.keyB (xs a)) := ⟨_, rfl⟩
                    have hSb : Sa = strOfNums (bitset.keyB (xs b)) := by rw [hSa, hX]
                    have hb1 : (((bs a).length : Int) == ((bs b).length : Int)) = true := by rw [hE]; simp
                    have hb2 : ((bs a).length == (bs b).length) = true := by rw [hE]; simp
                    have hb4 : decide ((bs a).length = (bs b).length) = true := by rw [hE]; simp
                    have HSa := Aside0.mk hSa
                    have HSb := Aside0.mk hSb
                    clear hSa hSb hX
                    have HE := Aside0.mk hE
                    clear hE hlx
                    go_wp2
                    go_region_held3 (fun w' => True) (first | exact trivial)
                      (first
                        | (go_at_call 21; refine ((PB_.out.drawn dRw).cRSame ha3 hb3).mono ?_; rintro e w11 ⟨rfl, h1⟩; rw [decide_eq_true HE.out]; have P1 := Aside0.mk ((PB_.out.drawn dRw).drawn h1); have K1 := Aside0.mk (CE.out _ P1.out); clear h1))
                    go_wp2
                    go_region_held3 (fun w' => w'.cell? ⟨s, a, none⟩ = some (.pointer (some ⟨q a + 1, 0, none⟩)) ∧ w'.cell? ⟨s, b, none⟩ = some (.pointer (some ⟨q b + 1, 0, none⟩)) ∧ w'.cell? ⟨t, a, none⟩ = some (.slice A1 (bs a).length c1) ∧ w'.cell? ⟨t, b, none⟩ = some (.slice A2 (bs b).length c2))
                      (first | exact K1.out | exact K2.out | exact K3.out | exact K4.out | exact K5.out)
                      (first
                        | (go_at_call 22; refine ((P1.out.drawn dRw).cAlike HRK.out (HT.out.below (P1.out.drawn dRw).below) ha3).mono ?_; rintro e w12 ⟨rfl, h⟩; have P2 := Aside0.mk ((P1.out.drawn dRw).kept h); have K2 := Aside0.mk (CE.out _ P2.out); clear h)
                        | (go_at_call 20; refine (P2.out.cSame HRK.out ha3 hb3).mono ?_; rintro e w13 ⟨rfl, h⟩; rw [decide_eq_true HE.out]; have P3 := Aside0.mk (P2.out.drawn h); have K3 := Aside0.mk (CE.out _ P3.out); have tok := Aside0.mk trivial; clear h)
                        | (go_at_call 23; have _t := tok; refine (bitset.key _ (q a) (n a) (xs a) (P3.out.at_ a ha3)).mono ?_; rintro e w14 ⟨rfl, h⟩; rw [← HSa.out]; have P4 := Aside0.mk (P3.out.kept h); have K4 := Aside0.mk (CE.out _ P4.out); clear h tok _t)
                        | (go_at_call 23; refine (bitset.key _ (q b) (n b) (xs b) (P4.out.at_ b hb3)).mono ?_; rintro e w15 ⟨rfl, h⟩; rw [← HSb.out]; have P5 := Aside0.mk (P4.out.kept h); have K5 := Aside0.mk (CE.out _ P5.out); clear h))
                    go_wp2
                    all_goals (go_roundw; (case rel => exact ⟨b + 1, by omega, by go_num, P5⟩); (case measure => simp [intOf]; omega))
                · as_aux_lemma =>
                    obtain ⟨Sa, hSa⟩ : ∃ S, S = strOfNums (bitset.keyB (xs a)) := ⟨_, rfl⟩
                    obtain ⟨Sb, hSb⟩ : ∃ S, S = strOfNums (bitset.keyB (xs b)) := ⟨_, rfl⟩
                    have hb1 : (((bs a).length : Int) == ((bs b).length : Int)) = true := by rw [hl]; simp
                    have hb2 : ((bs a).length == (bs b).length) = true := by rw [hl]; simp
                    have hb4 : decide ((bs a).length = (bs b).length) = true := by simp [hl]
                    have hne : Sa ≠ Sb := fun h => hX ((bitset.key_same (hlx hl) (PB_.out.at_ a ha3).lt (PB_.out.at_ b hb3).lt).1 (by rw [← hSa, ← hSb, h]))
                    have hn1 : (Sa.toList == Sb.toList) = false := beq_ba hne
                    have hn2 : decide (Sa = Sb) = false := decide_eq_false hne
                    have HSa := Aside0.mk hSa
                    have HSb := Aside0.mk hSb
                    clear hSa hSb hX hl hne
                    have HE := Aside0.mk hE
                    clear hE hlx
                    go_wp2
                    go_region_held3 (fun w' => True) (first | exact trivial)
                      (first
                        | (go_at_call 21; refine ((PB_.out.drawn dRw).cRSame ha3 hb3).mono ?_; rintro e w11 ⟨rfl, h1⟩; rw [decide_eq_false HE.out]; have P1 := Aside0.mk ((PB_.out.drawn dRw).drawn h1); have K1 := Aside0.mk (CE.out _ P1.out); clear h1))
                    go_wp2
                    go_region_held3 (fun w' => w'.cell? ⟨s, a, none⟩ = some (.pointer (some ⟨q a + 1, 0, none⟩)) ∧ w'.cell? ⟨s, b, none⟩ = some (.pointer (some ⟨q b + 1, 0, none⟩)) ∧ w'.cell? ⟨t, a, none⟩ = some (.slice A1 (bs a).length c1) ∧ w'.cell? ⟨t, b, none⟩ = some (.slice A2 (bs b).length c2))
                      (first | exact K1.out | exact K2.out | exact K3.out | exact K4.out | exact K5.out)
                      (first
                        | (go_at_call 22; refine ((P1.out.drawn dRw).cAlike HRK.out (HT.out.below (P1.out.drawn dRw).below) ha3).mono ?_; rintro e w12 ⟨rfl, h⟩; have P2 := Aside0.mk ((P1.out.drawn dRw).kept h); have K2 := Aside0.mk (CE.out _ P2.out); clear h)
                        | (go_at_call 20; refine (P2.out.cSame HRK.out ha3 hb3).mono ?_; rintro e w13 ⟨rfl, h⟩; rw [decide_eq_false HE.out]; have P3 := Aside0.mk (P2.out.drawn h); have K3 := Aside0.mk (CE.out _ P3.out); have tok := Aside0.mk trivial; clear h)
                        | (go_at_call 23; have _t := tok; refine (bitset.key _ (q a) (n a) (xs a) (P3.out.at_ a ha3)).mono ?_; rintro e w14 ⟨rfl, h⟩; rw [← HSa.out]; have P4 := Aside0.mk (P3.out.kept h); have K4 := Aside0.mk (CE.out _ P4.out); clear h tok _t)
                        | (go_at_call 23; refine (bitset.key _ (q b) (n b) (xs b) (P4.out.at_ b hb3)).mono ?_; rintro e w15 ⟨rfl, h⟩; rw [← HSb.out]; have P5 := Aside0.mk (P4.out.kept h); have K5 := Aside0.mk (CE.out _ P5.out); clear h))
                    go_wp2
                    all_goals (go_roundw; (case rel => exact ⟨b + 1, by omega, by go_num, P5⟩); (case measure => simp [intOf]; omega))
                · as_aux_lemma =>
                    have hb1 : (((bs a).length : Int) == ((bs b).length : Int)) = false := by simp; omega
                    have hb2 : ((bs a).length == (bs b).length) = false := by simp; omega
                    have hb4 : decide ((bs a).length = (bs b).length) = false := by simp [hl]
                    clear hl
                    have HE := Aside0.mk hE
                    clear hE hlx
                    go_wp2
                    go_region_held3 (fun w' => True) (first | exact trivial)
                      (first
                        | (go_at_call 21; refine ((PB_.out.drawn dRw).cRSame ha3 hb3).mono ?_; rintro e w11 ⟨rfl, h1⟩; rw [decide_eq_false HE.out]; have P1 := Aside0.mk ((PB_.out.drawn dRw).drawn h1); have K1 := Aside0.mk (CE.out _ P1.out); clear h1))
                    go_wp2
                    refine start_ (n := 52) (S := (fun w' => w'.cell? ⟨s, a, none⟩ = some (.pointer (some ⟨q a + 1, 0, none⟩)) ∧ w'.cell? ⟨s, b, none⟩ = some (.pointer (some ⟨q b + 1, 0, none⟩)) ∧ w'.cell? ⟨t, a, none⟩ = some (.slice A1 (bs a).length c1) ∧ w'.cell? ⟨t, b, none⟩ = some (.slice A2 (bs b).length c2))) (ds := []) (bl 52 0) (by kernel_rfl) rfl rfl K1.out (fun hHeld => ?_)
                    refine tw_ 0 221 (bl 52 1) hHeld ?_
                    refine tw_ 1 222 (bl 52 3) hHeld ?_
                    refine tw_ 2 223 (bl 52 7) hHeld ?_
                    refine tw_ 3 224 (bl 52 15) hHeld ?_
                    refine tw_ 4 225 (bl 52 31) hHeld ?_
                    refine tw_ 5 226 (bl 52 63) hHeld ?_
                    refine tw_ 6 227 (bl 52 127) hHeld ?_
                    refine one_ (i := 7) (N := some 228) (bl 52 255) rfl rfl (by kernel_rfl) (by decide) (fun K hK => ?_)
                    refine goes_ Tryd.func22 (by kernel_rfl) rfl #[.pointer (some ⟨q a + 1, 0, none⟩), .pointer (some ⟨t, a, none⟩)] (by rfl) rfl rfl (by simp only [List.map_toArray, List.map_cons, List.map_nil]; rfl) ?_
                    refine ((P1.out.drawn dRw).cAlike HRK.out (HT.out.below (P1.out.drawn dRw).below) ha3).mono ?_
                    rintro e w12 ⟨rfl, h⟩
                    have P2 := Aside0.mk ((P1.out.drawn dRw).kept h)
                    have K2 := Aside0.mk (CE.out _ P2.out)
                    clear h
                    refine ⟨_, rfl, ?_⟩
                    refine hK.out _ _ K2.out (fun hHeld => ?_)
                    clear hK K
                    refine norm_ (a' := ?_) ?_ ?_
                    rotate_left
                    · show Act.put _ (some 228) _ = _
                      simp only [Act.put, List.setIfInBounds_toArray, List.set_cons_zero, List.set_cons_succ, i64_w, i32_w]
                      rfl
                    refine tw_ 8 229 (bl 52 511) hHeld ?_
                    refine tw_ 9 230 (bl 52 1023) hHeld ?_
                    as_aux_lemma =>
                      refine tw_ 10 231 (bl 52 2047) hHeld ?_
                      refine tw_ 11 232 (bl 52 4095) hHeld ?_
                      refine tw_ 12 233 (bl 52 8191) hHeld ?_
                      refine tw_ 13 234 (bl 52 16383) hHeld ?_
                      refine tw_ 14 235 (bl 52 32767) hHeld ?_
                      refine tw_ 15 236 (bl 52 65535) hHeld ?_
                      refine tw_ 16 237 (bl 52 131071) hHeld ?_
                      refine tw_ 17 238 (bl 52 262143) hHeld ?_
                      refine tw_ 19 240 (bl 52 786431) hHeld ?_
                      as_aux_lemma =>
                        refine one_ (i := 18) (N := some 239) (bl 52 1048575) rfl rfl (by kernel_rfl) (by decide) (fun K hK => ?_)
                        refine goes_ Tryd.func20 (by kernel_rfl) rfl #[.pointer (some ⟨q a + 1, 0, none⟩), .pointer (some ⟨q b + 1, 0, none⟩)] (by rfl) rfl rfl (by simp only [List.map_toArray, List.map_cons, List.map_nil]; rfl) ?_
                        refine (P2.out.cSame HRK.out ha3 hb3).mono ?_
                        rintro e w13 ⟨rfl, h⟩
                        rw [decide_eq_false HE.out]
                        have P3 := Aside0.mk (P2.out.drawn h)
                        have K3 := Aside0.mk (CE.out _ P3.out)
                        clear h
                        refine ⟨_, rfl, ?_⟩
                        refine hK.out _ _ K3.out (fun hHeld => ?_)
                        clear hK K
                        refine norm_ (a' := ?_) ?_ ?_
                        rotate_left
                        · show Act.put _ (some 239) _ = _
                          simp only [Act.put, List.setIfInBounds_toArray, List.set_cons_zero, List.set_cons_succ, i64_w, i32_w]
                          rfl
                        refine tw_ 20 241 (bl 52 2097151) hHeld ?_
                        refine tw_ 21 242 (bl 52 4194303) hHeld ?_
                        refine tw_ 22 243 (bl 52 8388607) hHeld ?_
                        refine tw_ 23 244 (bl 52 16777215) hHeld ?_
                        refine tw_ 24 245 (bl 52 33554431) hHeld ?_
                        refine tw_ 25 246 (bl 52 67108863) hHeld ?_
                        refine tw_ 26 247 (bl 52 134217727) hHeld ?_
                        refine tw_ 27 248 (bl 52 268435455) hHeld ?_
                        refine tw_ 28 249 (bl 52 536870911) hHeld ?_
                        refine tw_ 29 250 (bl 52 1073741823) hHeld ?_
                        refine tw_ 30 251 (bl 52 2147483647) hHeld ?_
                        as_aux_lemma =>
                          refine tw_ 31 252 (bl 52 4294967295) hHeld ?_
                          refine tw_ 32 253 (bl 52 8589934591) hHeld ?_
                          refine tw_ 33 254 (bl 52 17179869183) hHeld ?_
                          refine tw_ 34 255 (bl 52 34359738367) hHeld ?_
                          refine tw_ 35 256 (bl 52 68719476735) hHeld ?_
                          refine tw_ 36 257 (bl 52 137438953471) hHeld ?_
                          refine uw_ 37 258 (bl 52 274877906943) hHeld ?_
                          refine uw_ 38 259 (bl 52 549755813887) hHeld ?_
                          refine uw_ 39 260 (bl 52 1099511627775) hHeld ?_
                          refine uw_ 40 261 (bl 52 2199023255551) hHeld ?_
                          as_aux_lemma =>
                            refine uw_ 41 262 (bl 52 4398046511103) hHeld ?_
                            refine uw_ 42 263 (bl 52 8796093022207) hHeld ?_
                            refine uw_ 43 264 (bl 52 17592186044415) hHeld ?_
                            refine uw_ 44 265 (bl 52 35184372088831) hHeld ?_
                            refine uw_ 45 266 (bl 52 70368744177663) hHeld ?_
                            refine uw_ 46 267 (bl 52 140737488355327) hHeld ?_
                            refine uw_ 47 268 (bl 52 281474976710655) hHeld ?_
                            refine uw_ 48 269 (bl 52 562949953421311) hHeld ?_
                            refine uw_ 49 270 (bl 52 1125899906842623) hHeld ?_
                            refine tw_ 50 271 (bl 52 2251799813685247) hHeld ?_
                            refine tw_ 51 272 (bl 52 4503599627370495) hHeld ?_
                            refine done_ (by kernel_rfl) ?_
                            go_wp2
                            all_goals (go_roundw; (case rel => exact ⟨b + 1, by omega, by go_num, P3⟩); (case measure => simp [intOf]; omega))
              · go_wp2
                go_roundw
                case rel => exact ⟨a + 1, by omega, by go_num, PB_⟩
                case measure => simp [intOf]; omega
          · go_wp2
            go_ret
            exact ⟨rfl, PA.out.below⟩

end Go.Proofs.YtpekanolhgcljaaDoor.X
