/- What the program's calls on sets come to, by hand: each call's own contract; no condition beyond what each contract says. -/
import Derived.Test.YthgoonohpfoagaaX
import Derived.Test.YthgoonohpfoagaaWk
namespace Go.Proofs.Ythgoonohpfoagaa.X
open Go.RowKit Go.Proofs.YthgoonohpfoagaaW.PrintWords Go.Proofs.YthgoonohpfoagaaW.PrintLast Go.Proofs.YthgoonohpfoagaaW.PrintMore
set_option linter.unusedVariables false
set_option linter.unusedSimpArgs false
/-- What stands beside the first answer: nothing of it is written. -/
structure Led (w0 W : World) (okp : Nat → Prop) (g1 g3 g6 g8 : Nat) (c1 c3 : Array Value) (vm1 vm2 vb1 vb2 vb3 vk1 vk2 vk3 : Value) (names : List ByteArray) (coefs : List Int) (tr : List ByteArray) (ac : List Bool) (nx : List (List Int)) : Prop where
  bel : Below w0.heap.size w0 W
  b1 : W.heap[g1]? = some (.cells c1 26 (0, 0))
  b3 : W.heap[g3]? = some (.cells c3 26 (0, 0))
  m1 : Kd.string.R 9 W w0.heap.size (fun k => ¬ okp k) vm1 names
  m2 : (Kd.int .i64).R 2 W w0.heap.size (fun k => ¬ okp k) vm2 coefs
  b6 : W.heap[g6]? = some (.cells #[vb1, vb2, vb3] 31 (0, 0))
  r1 : Kd.string.R 9 W w0.heap.size (fun k => ¬ okp k) vb1 tr
  r2 : Kd.bool.R 4 W w0.heap.size (fun k => ¬ okp k) vb2 ac
  r3 : Kd.S (Kd.slice 3 (Kd.int .i64)) 42 W w0.heap.size (fun k => ¬ okp k) vb3 nx
  b8 : W.heap[g8]? = some (.cells #[vk1, vk2, vk3] 31 (0, 0))
  k1 : Kd.string.R 9 W w0.heap.size (fun k => ¬ okp k) vk1 tr
  k2 : Kd.bool.R 4 W w0.heap.size (fun k => ¬ okp k) vk2 ac
  k3 : Kd.S (Kd.slice 3 (Kd.int .i64)) 42 W w0.heap.size (fun k => ¬ okp k) vk3 nx
  n1 : ¬ okp g1
  n3 : ¬ okp g3
  n6 : ¬ okp g6
  n8 : ¬ okp g8
  hp : ∀ k, okp k → w0.heap.size ≤ k
section
variable {w0 W W1 : World} {okp : Nat → Prop} {g1 g3 g6 g8 : Nat} {c1 c3 : Array Value} {vm1 vm2 vb1 vb2 vb3 vk1 vk2 vk3 : Value} {names : List ByteArray} {coefs : List Int} {tr : List ByteArray} {ac : List Bool} {nx : List (List Int)}
theorem Led.kept (h : Led w0 W okp g1 g3 g6 g8 c1 c3 vm1 vm2 vb1 vb2 vb3 vk1 vk2 vk3 names coefs tr ac nx) (hb : Below W.heap.size W W1) : Led w0 W1 okp g1 g3 g6 g8 c1 c3 vm1 vm2 vb1 vb2 vb3 vk1 vk2 vk3 names coefs tr ac nx :=
  ⟨below_step h.bel hb, blk_below h.b1 hb, blk_below h.b3 hb, Kd.R_below h.m1 hb, Kd.R_below h.m2 hb, blk_below h.b6 hb, Kd.R_below h.r1 hb, Kd.R_below h.r2 hb, Kd.S_below h.r3 hb, blk_below h.b8 hb, Kd.R_below h.k1 hb, Kd.R_below h.k2 hb, Kd.S_below h.k3 hb, h.n1, h.n3, h.n6, h.n8, h.hp⟩
theorem Led.fr (h : Led w0 W okp g1 g3 g6 g8 c1 c3 vm1 vm2 vb1 vb2 vb3 vk1 vk2 vk3 names coefs tr ac nx) (f : Fr okp W W1) : Led w0 W1 okp g1 g3 g6 g8 c1 c3 vm1 vm2 vb1 vb2 vb3 vk1 vk2 vk3 names coefs tr ac nx :=
  ⟨f.bel h.bel h.hp, f.blk h.b1 h.n1, f.blk h.b3 h.n3, f.R h.m1 (fun _ h => h), f.R h.m2 (fun _ h => h), f.blk h.b6 h.n6, f.R h.r1 (fun _ h => h), f.R h.r2 (fun _ h => h), f.S h.r3 (fun _ h => h), f.blk h.b8 h.n8, f.R h.k1 (fun _ h => h), f.R h.k2 (fun _ h => h), f.S h.k3 (fun _ h => h), h.n1, h.n3, h.n6, h.n8, h.hp⟩
end
theorem R_in {α : Type} {d : Kd α} {e : TypeId} {W : World} {base b2 : Nat} {ok ok' : Nat → Prop} {v : Value} {xs : List α} (h : d.R e W base ok v xs) (hb : b2 ≤ base) (hk : ∀ k, base ≤ k → k < W.heap.size → ok' k) : d.R e W b2 ok' v xs := Kd.R_mono (Kd.R_lower (Kd.R_bound h) hb) (fun k hk' => hk k hk'.2.1 hk'.2.2.1)
theorem S_in {α : Type} {d : Kd α} {e : TypeId} {W : World} {base b2 : Nat} {ok ok' : Nat → Prop} {v : Value} {xs : List α} (h : Kd.S d e W base ok v xs) (hb : b2 ≤ base) (hk : ∀ k, base ≤ k → k < W.heap.size → ok' k) : Kd.S d e W b2 ok' v xs := by
  obtain ⟨f, h⟩ := Kd.S_bound h
  exact Kd.S_mono ⟨f, Kd.R_lower h hb⟩ (fun k hk' => hk k hk'.2.1 hk'.2.2.1)
set_option maxHeartbeats 400000000 in
set_option maxRecDepth 100000 in
theorem tabardlaw14_AtomMemory.calls (k : Nat) (a0_0 : Int) (A0_1 : Option Addr) (c0_1 : Nat) (l0_1 : List ByteArray) (A0_2 : Option Addr) (c0_2 : Nat) (l0_2 : List Int) (a0_3 : Int) (a0_4 : Int) (tr : List ByteArray) (ac : List Bool) (nx : List (List Int)) (er : Int) (w : World)
    (hr0_1 : Kd.C Kd.string w A0_1 l0_1.length l0_1) (hc0_1 : l0_1.length ≤ c0_1) (hr0_2 : Kd.C (Kd.int .i64) w A0_2 l0_2.length l0_2) (hc0_2 : l0_2.length ≤ c0_2)
    (hF : tabardlaw14_fixed.f k = some true) (hcop : tabardlaw14_copied.f a0_0 l0_1 l0_2 a0_3 a0_4 = some (a0_0, l0_1, l0_2, a0_3, a0_4))
    (hraw : atom_Raw.f k a0_0 l0_1 l0_2 a0_3 a0_4 = some (tr, ac, nx, er)) (hcd : tabardref12_CopyDense.f k tr ac nx = some (tr, ac, nx)) (hsd : tabardref12_SameDense.f k tr ac nx tr ac nx = some true)
    (hsame : tabardlaw14_same.f k a0_0 l0_1 l0_2 a0_3 a0_4 a0_0 l0_1 l0_2 a0_3 a0_4 = some true) (hlen : ∀ i, i < nx.length → (nx.getD i []).length ≤ 1073741824) :
    Calls Try.prog 4 #[.agg #[.int .i64 a0_0, .slice A0_1 l0_1.length c0_1, .slice A0_2 l0_2.length c0_2, .int .i64 a0_3, .int .i64 a0_4]] w fun e w' => e = .returned (.bool true) ∧ Below w.heap.size w w' := by
  have H1 := Aside0.mk hr0_1
  have H2 := Aside0.mk hr0_2
  have C1 := Aside0.mk hc0_1
  have C2 := Aside0.mk hc0_2
  have HF := Aside0.mk hF
  have HCOP := Aside0.mk hcop
  have HRAW := Aside0.mk hraw
  have HCD := Aside0.mk hcd
  have HSD := Aside0.mk hsd
  have HSM := Aside0.mk hsame
  have HLEN := Aside0.mk hlen
  clear hr0_1 hr0_2 hc0_1 hc0_2 hF hcop hraw hcd hsd hsame hlen
  go_enter Try.func4, Try.ntmps4
  go_upto_region 3 with (first
    | ((with_reducible refine gate_dst (N := 1) rfl ?_); refine be_ (cs := #[.int .i64 a0_0, .slice A0_1 l0_1.length c0_1, .slice A0_2 l0_2.length c0_2, .int .i64 a0_3, .int .i64 a0_4]) (t := 26) ?_; intro g1 hg wa hbox hb; have N1 := Aside0.mk hbox; have HB := Aside0.mk hb; have LO1 := Aside0.mk (show w.heap.size ≤ g1 from Nat.le_of_eq hg.symm); clear hb hbox hg)
    | (go_at_call 11; (with_reducible refine (tabardlaw14_fixed.calls k true _ HF.out).mono ?_); rintro _ wb ⟨rfl, hb⟩; have N1' := Aside0.mk (blk_below N1.out hb); have HB' := Aside0.mk (below_step HB.out hb); clear hb N1 HB))
  obtain ⟨hz0, hz1, hz2, hz3, hz4, hf0, hf1, hf2, hf3, hf4⟩ := bF5 N1'.out
  clear hf0 hf1 hf2 hf3 hf4
  go_upto_region 4 with (first
    | (go_at_call 8; (with_reducible refine (tabardlaw14_copied.calls a0_0 _ _ l0_1 _ _ l0_2 a0_3 a0_4 a0_0 l0_1 l0_2 a0_3 a0_4 _ ?s0 C1.out ?s1 C2.out HCOP.out).mono ?_); (case s0 => exact Kd.C_below H1.out HB'.out); (case s1 => exact Kd.C_below H2.out HB'.out); rintro _ wc ⟨vm1, vm2, rfl, h1, h2, hb⟩; obtain ⟨Am1, cm1, em1⟩ := Kd.R_slice h1; obtain ⟨Am2, cm2, em2⟩ := Kd.R_slice h2; subst em1 em2; have RM1 := Aside0.mk (Kd.R_lower h1 (below_size HB'.out)); have RM2 := Aside0.mk (Kd.R_lower h2 (below_size HB'.out)); have N2 := Aside0.mk (blk_below N1'.out hb); have HB2 := Aside0.mk (below_step HB'.out hb); clear h1 h2 hb N1' HB' hz0 hz1 hz2 hz3 hz4)
    | ((with_reducible refine gate_dst (N := 3) rfl ?_); refine be_ (cs := #[.int .i64 0, .slice none 0 0, .slice none 0 0, .int .i64 0, .int .i64 0]) (t := 26) ?_; intro g3 hg wd hbox hb; have K3 := Aside0.mk hbox; have HG3 := Aside0.mk hg; have HBD := Aside0.mk hb; clear hb hbox hg; obtain ⟨pz0, pz1, pz2, pz3, pz4, pf0, pf1, pf2, pf3, pf4⟩ := bF5 K3.out))
  have le3 := Nat.le_of_eq HG3.out.symm
  have hB3 := below_set (g := g3) (j := 4) (v := .int .i64 a0_4) (below_set (g := g3) (j := 3) (v := .int .i64 a0_3) (below_set (g := g3) (j := 2) (v := .slice Am2 l0_2.length cm2) (below_set (g := g3) (j := 1) (v := .slice Am1 l0_1.length cm1) (below_set (g := g3) (j := 0) (v := .int .i64 a0_0) HBD.out le3) le3) le3) le3) le3
  have hK3 := blk_put (blk_put (blk_put (blk_put (blk_put K3.out 0 (.int .i64 a0_0) rfl) 1 (.slice Am1 l0_1.length cm1) rfl) 2 (.slice Am2 l0_2.length cm2) rfl) 3 (.int .i64 a0_3) rfl) 4 (.int .i64 a0_4) rfl
  generalize (((((wd.setCell ⟨g3, 0, none⟩ (.int .i64 a0_0)).setCell ⟨g3, 1, none⟩ (.slice Am1 l0_1.length cm1)).setCell ⟨g3, 2, none⟩ (.slice Am2 l0_2.length cm2)).setCell ⟨g3, 3, none⟩ (.int .i64 a0_3)).setCell ⟨g3, 4, none⟩ (.int .i64 a0_4)) = w3 at hB3 hK3 ⊢
  replace RM1 := Aside0.mk (Kd.R_below RM1.out hB3)
  replace RM2 := Aside0.mk (Kd.R_below RM2.out hB3)
  replace N2 := Aside0.mk (blk_below N2.out hB3)
  have HB3 := Aside0.mk (below_step HB2.out hB3)
  have L3 := Aside0.mk (blk_lt hK3)
  obtain ⟨hz0, hz1, hz2, hz3, hz4, hf0, hf1, hf2, hf3, hf4⟩ := bF5 hK3
  replace K3 := Aside0.mk hK3
  clear hB3 hK3 HB2 HBD HG3 le3 pz0 pz1 pz2 pz3 pz4 pf0 pf1 pf2 pf3 pf4 hf0 hf1 hf2 hf3 hf4
  obtain ⟨s1, es1⟩ : ∃ s1, s1 = w3.heap.size := ⟨_, rfl⟩
  have LS1 := Aside0.mk (show w.heap.size ≤ s1 by rw [es1]; exact below_size HB3.out)
  have LG1 := Aside0.mk (show g1 < s1 by rw [es1]; exact blk_lt N2.out)
  have LG3 := Aside0.mk (show g3 < s1 by rw [es1]; exact L3.out)
  have ES1 := Aside0.mk es1
  clear es1 L3
  go_upto_region 5 with (first
    | (go_at_call 9; (with_reducible refine (atom_Raw.calls k a0_0 _ _ l0_1 _ _ l0_2 a0_3 a0_4 tr ac nx er _ ?s0 ?s1 ?s2 ?s3 HRAW.out).mono ?_); (case s0 => exact (Kd.R_reads' RM1.out).2.2); (case s1 => exact (Kd.R_reads' RM1.out).2.1); (case s2 => exact (Kd.R_reads' RM2.out).2.2); (case s3 => exact (Kd.R_reads' RM2.out).2.1); rintro _ wc ⟨va1, va2, va3, rfl, h1, h2, h3, hb⟩; obtain ⟨Aa1, ca1, ea1⟩ := Kd.R_slice h1; obtain ⟨Aa2, ca2, ea2⟩ := Kd.R_slice h2; obtain ⟨An, cn, ea3⟩ := Kd.R_slice (Kd.S_R h3); subst ea1 ea2 ea3; have RA1 := Aside0.mk h1; have RA2 := Aside0.mk h2; have SA3 := Aside0.mk h3; have HBC := Aside0.mk hb; clear h1 h2 h3 hb)
    | ((with_reducible refine gate_dst (N := 4) rfl ?_); refine be_ (cs := #[.slice none 0 0, .slice none 0 0, .slice none 0 0]) (t := 31) ?_; intro g4 hg wd' hbox hb; have K4 := Aside0.mk hbox; have HG4 := Aside0.mk hg; have HBD := Aside0.mk hb; clear hb hbox hg; obtain ⟨pz0, pz1, pz2, pf0, pf1, pf2⟩ := bF3 K4.out))
  have le4 := Nat.le_of_eq HG4.out.symm
  have hB4 := below_set (g := g4) (j := 2) (v := .slice An nx.length cn) (below_set (g := g4) (j := 1) (v := .slice Aa2 ac.length ca2) (below_set (g := g4) (j := 0) (v := .slice Aa1 tr.length ca1) HBD.out le4) le4) le4
  have hK4 := blk_put (blk_put (blk_put K4.out 0 (.slice Aa1 tr.length ca1) rfl) 1 (.slice Aa2 ac.length ca2) rfl) 2 (.slice An nx.length cn) rfl
  generalize (((wd'.setCell ⟨g4, 0, none⟩ (.slice Aa1 tr.length ca1)).setCell ⟨g4, 1, none⟩ (.slice Aa2 ac.length ca2)).setCell ⟨g4, 2, none⟩ (.slice An nx.length cn)) = w4 at hB4 hK4 ⊢
  have b34 := below_step HBC.out hB4
  replace RA1 := Aside0.mk (Kd.R_below RA1.out hB4)
  replace SA3 := Aside0.mk (Kd.S_below SA3.out hB4)
  replace RA2 := Aside0.mk (Kd.R_below RA2.out hB4)
  replace RM1 := Aside0.mk (R_in (ok' := fun k => ¬ (s1 ≤ k ∧ k < w4.heap.size)) RM1.out (Nat.le_refl _) (fun k _ h2 h3 => by have := ES1.out; omega))
  replace RM2 := Aside0.mk (R_in (ok' := fun k => ¬ (s1 ≤ k ∧ k < w4.heap.size)) RM2.out (Nat.le_refl _) (fun k _ h2 h3 => by have := ES1.out; omega))
  replace RM1 := Aside0.mk (Kd.R_below RM1.out b34)
  replace RM2 := Aside0.mk (Kd.R_below RM2.out b34)
  replace N2 := Aside0.mk (blk_below N2.out b34)
  replace K3 := Aside0.mk (blk_below K3.out b34)
  replace HB3 := Aside0.mk (below_step HB3.out b34)
  have LG4 := Aside0.mk (show s1 ≤ g4 by rw [ES1.out, HG4.out]; exact below_size HBC.out)
  replace K4 := Aside0.mk hK4
  have L4 := Aside0.mk (show g4 < w4.heap.size from blk_lt hK4)
  replace RA1 := Aside0.mk (R_in (ok' := fun k => s1 ≤ k ∧ k < w4.heap.size) RA1.out (Nat.le_refl _) (fun k h1 h2 => ⟨by rw [ES1.out]; exact h1, h2⟩))
  replace SA3 := Aside0.mk (S_in (ok' := fun k => s1 ≤ k ∧ k < w4.heap.size) SA3.out (Nat.le_refl _) (fun k h1 h2 => ⟨by rw [ES1.out]; exact h1, h2⟩))
  clear hB4 hK4 le4 HG4 HBD HBC b34 pz0 pz1 pz2 pf0 pf1 pf2 hz0 hz1 hz2 hz3 hz4
  rw [← ES1.out] at RA1 SA3
  obtain ⟨s2, es2⟩ : ∃ s2, s2 = w4.heap.size := ⟨_, rfl⟩
  rw [← es2] at RA1 SA3 RM1 RM2 L4
  have ES2 := Aside0.mk es2
  clear es2
  obtain ⟨hz0, hz1, hz2, hz3, hz4, hf0, hf1, hf2, hf3, hf4⟩ := bF5 K3.out
  clear hf0 hf1 hf2 hf3 hf4
  go_upto_region 6 with (first
    | (go_at_call 9; (with_reducible refine (atom_Raw.calls k a0_0 _ _ l0_1 _ _ l0_2 a0_3 a0_4 tr ac nx er _ ?s0 ?s1 ?s2 ?s3 HRAW.out).mono ?_); (case s0 => exact (Kd.R_reads' RM1.out).2.2); (case s1 => exact (Kd.R_reads' RM1.out).2.1); (case s2 => exact (Kd.R_reads' RM2.out).2.2); (case s3 => exact (Kd.R_reads' RM2.out).2.1); rintro _ wc ⟨vb1, vb2, vb3, rfl, h1, h2, h3, hb⟩; obtain ⟨Ab1, cb1, eb1⟩ := Kd.R_slice h1; obtain ⟨Ab2, cb2, eb2⟩ := Kd.R_slice h2; obtain ⟨Ab3, cb3, eb3⟩ := Kd.R_slice (Kd.S_R h3); subst eb1 eb2 eb3; have RB1 := Aside0.mk h1; have RB2 := Aside0.mk h2; have SB3 := Aside0.mk h3; have HBC := Aside0.mk hb; clear h1 h2 h3 hb)
    | ((with_reducible refine gate_dst (N := 6) rfl ?_); refine be_ (cs := #[.slice none 0 0, .slice none 0 0, .slice none 0 0]) (t := 31) ?_; intro g6 hg wd' hbox hb; have K6 := Aside0.mk hbox; have HG6 := Aside0.mk hg; have HBD := Aside0.mk hb; clear hb hbox hg; obtain ⟨pz0, pz1, pz2, pf0, pf1, pf2⟩ := bF3 K6.out))
  have le6 := Nat.le_of_eq HG6.out.symm
  have hB6 := below_set (g := g6) (j := 2) (v := .slice Ab3 nx.length cb3) (below_set (g := g6) (j := 1) (v := .slice Ab2 ac.length cb2) (below_set (g := g6) (j := 0) (v := .slice Ab1 tr.length cb1) HBD.out le6) le6) le6
  have hK6 := blk_put (blk_put (blk_put K6.out 0 (.slice Ab1 tr.length cb1) rfl) 1 (.slice Ab2 ac.length cb2) rfl) 2 (.slice Ab3 nx.length cb3) rfl
  generalize (((wd'.setCell ⟨g6, 0, none⟩ (.slice Ab1 tr.length cb1)).setCell ⟨g6, 1, none⟩ (.slice Ab2 ac.length cb2)).setCell ⟨g6, 2, none⟩ (.slice Ab3 nx.length cb3)) = w5 at hB6 hK6 ⊢
  have b45 := below_step HBC.out hB6
  have LG6 := Aside0.mk (show s2 ≤ g6 by rw [ES2.out, HG6.out]; exact below_size HBC.out)
  have n1 : ∀ k, w4.heap.size ≤ k → k < w5.heap.size → ¬ (s1 ≤ k ∧ k < s2) := fun k h1 _ h3 => by have := ES2.out; omega
  have LW4 := below_size HB3.out
  replace RB1 := Aside0.mk (R_in (b2 := w.heap.size) (Kd.R_below RB1.out hB6) LW4 n1)
  replace RB2 := Aside0.mk (R_in (b2 := w.heap.size) (Kd.R_below RB2.out hB6) LW4 n1)
  replace SB3 := Aside0.mk (S_in (b2 := w.heap.size) (Kd.S_below SB3.out hB6) LW4 n1)
  replace RA1 := Aside0.mk (Kd.R_below RA1.out b45)
  replace SA3 := Aside0.mk (Kd.S_below SA3.out b45)
  replace RA2 := Aside0.mk (Kd.R_below RA2.out b45)
  replace RM1 := Aside0.mk (Kd.R_below RM1.out b45)
  replace RM2 := Aside0.mk (Kd.R_below RM2.out b45)
  replace N2 := Aside0.mk (blk_below N2.out b45)
  replace K3 := Aside0.mk (blk_below K3.out b45)
  replace K4 := Aside0.mk (blk_below K4.out b45)
  replace HB3 := Aside0.mk (below_step HB3.out b45)
  have LS2 := Aside0.mk (show s2 ≤ w5.heap.size by rw [ES2.out]; exact below_size b45)
  replace K6 := Aside0.mk hK6
  clear hB6 hK6 le6 HG6 HBD HBC b45 n1 LW4 pz0 pz1 pz2 pf0 pf1 pf2 hz0 hz1 hz2 hz3 hz4
  obtain ⟨hz0, hz1, hz2, _, _, _⟩ := bF3 K6.out
  go_upto_region 7 with (first
    | (go_at_call 14; (with_reducible refine (tabardref12_CopyDense.calls k _ _ tr _ _ ac _ _ nx tr ac nx _ ?s0 ?s1 ?s2 ?s3 ?s4 ?s5 HCD.out).mono ?_); (case s0 => exact (Kd.R_reads' RB1.out).2.2); (case s1 => exact (Kd.R_reads' RB1.out).2.1); (case s2 => exact (Kd.R_reads' RB2.out).2.2); (case s3 => exact (Kd.R_reads' RB2.out).2.1); (case s4 => exact (Kd.R_reads' (Kd.S_R SB3.out)).2.2); (case s5 => exact (Kd.R_reads' (Kd.S_R SB3.out)).2.1); rintro _ wc ⟨vk1, vk2, vk3, rfl, h1, h2, h3, hb⟩; obtain ⟨Ak1, ck1, ek1⟩ := Kd.R_slice h1; obtain ⟨Ak2, ck2, ek2⟩ := Kd.R_slice h2; obtain ⟨Ak3, ck3, ek3⟩ := Kd.R_slice (Kd.S_R h3); subst ek1 ek2 ek3; have RK1 := Aside0.mk h1; have RK2 := Aside0.mk h2; have SK3 := Aside0.mk h3; have HBC := Aside0.mk hb; clear h1 h2 h3 hb)
    | ((with_reducible refine gate_dst (N := 8) rfl ?_); refine be_ (cs := #[.slice none 0 0, .slice none 0 0, .slice none 0 0]) (t := 31) ?_; intro g8 hg wd' hbox hb; have K8 := Aside0.mk hbox; have HG8 := Aside0.mk hg; have HBD := Aside0.mk hb; clear hb hbox hg; obtain ⟨pz0, pz1, pz2, pf0, pf1, pf2⟩ := bF3 K8.out))
  have le8 := Nat.le_of_eq HG8.out.symm
  have hB8 := below_set (g := g8) (j := 2) (v := .slice Ak3 nx.length ck3) (below_set (g := g8) (j := 1) (v := .slice Ak2 ac.length ck2) (below_set (g := g8) (j := 0) (v := .slice Ak1 tr.length ck1) HBD.out le8) le8) le8
  have hK8 := blk_put (blk_put (blk_put K8.out 0 (.slice Ak1 tr.length ck1) rfl) 1 (.slice Ak2 ac.length ck2) rfl) 2 (.slice Ak3 nx.length ck3) rfl
  generalize (((wd'.setCell ⟨g8, 0, none⟩ (.slice Ak1 tr.length ck1)).setCell ⟨g8, 1, none⟩ (.slice Ak2 ac.length ck2)).setCell ⟨g8, 2, none⟩ (.slice Ak3 nx.length ck3)) = w6 at hB8 hK8 ⊢
  have b56 := below_step HBC.out hB8
  have LG8 := Aside0.mk (show s2 ≤ g8 by rw [HG8.out]; exact Nat.le_trans LS2.out (below_size HBC.out))
  have n1 : ∀ k, w5.heap.size ≤ k → k < w6.heap.size → ¬ (s1 ≤ k ∧ k < s2) := fun k h1 _ h3 => by have := LS2.out; omega
  have LW5 := below_size HB3.out
  have LED := Aside0.mk (show Led w w6 (fun k => s1 ≤ k ∧ k < s2) g1 g3 g6 g8 _ _ _ _ _ _ _ (.slice Ak1 tr.length ck1) (.slice Ak2 ac.length ck2) (.slice Ak3 nx.length ck3) l0_1 l0_2 tr ac nx from ⟨below_step HB3.out b56, blk_below N2.out b56, blk_below K3.out b56, Kd.R_below RM1.out b56, Kd.R_below RM2.out b56, blk_below K6.out b56, Kd.R_below RB1.out b56, Kd.R_below RB2.out b56, Kd.S_below SB3.out b56, hK8, R_in (Kd.R_below RK1.out hB8) LW5 n1, R_in (Kd.R_below RK2.out hB8) LW5 n1, S_in (Kd.S_below SK3.out hB8) LW5 n1, fun h => by have := LG1.out; omega, fun h => by have := LG3.out; omega, fun h => by have := LG6.out; omega, fun h => by have := LG8.out; omega, fun k h => Nat.le_trans LS1.out h.1⟩)
  replace RA1 := Aside0.mk (Kd.R_below RA1.out b56)
  replace SA3 := Aside0.mk (Kd.S_below SA3.out b56)
  replace RA2 := Aside0.mk (Kd.R_below RA2.out b56)
  replace K4 := Aside0.mk (blk_below K4.out b56)
  replace LS2 := Aside0.mk (Nat.le_trans LS2.out (below_size b56))
  clear hB8 hK8 le8 HG8 HBD HBC b56 n1 LW5 pz0 pz1 pz2 pf0 pf1 pf2 hz0 hz1 hz2 RM1 RM2 N2 K3 HB3 K6 RB1 RB2 SB3 K8 RK1 RK2 SK3 ES1 ES2 LG1 LG3 LG6 LG8
  obtain ⟨az0, az1, az2, _, _, _⟩ := bF3 K4.out
  obtain ⟨bz0, bz1, bz2, _, _, _⟩ := bF3 LED.out.b6
  have hne : (er != er) = false := by simp
  go_upto_region 9 with (go_at_call 12; (with_reducible refine (tabardref12_SameDense.calls k _ _ tr _ _ ac _ _ nx _ _ tr _ _ ac _ _ nx true _ (Kd.R_reads' RA1.out).2.2 (Kd.R_reads' RA1.out).2.1 (Kd.R_reads' RA2.out).2.2 (Kd.R_reads' RA2.out).2.1 (Kd.R_reads' (Kd.S_R SA3.out)).2.2 (Kd.R_reads' (Kd.S_R SA3.out)).2.1 (Kd.R_reads' LED.out.r1).2.2 (Kd.R_reads' LED.out.r1).2.1 (Kd.R_reads' LED.out.r2).2.2 (Kd.R_reads' LED.out.r2).2.1 (Kd.R_reads' (Kd.S_R LED.out.r3)).2.2 (Kd.R_reads' (Kd.S_R LED.out.r3)).2.1 HSD.out).mono ?_); rintro _ w7 ⟨rfl, hb⟩; have LED7 := Aside0.mk (LED.out.kept hb); have RA17 := Aside0.mk (Kd.R_below RA1.out hb); have SA37 := Aside0.mk (Kd.S_below SA3.out hb); have K47 := Aside0.mk (blk_below K4.out hb); have LS27 := Aside0.mk (Nat.le_trans LS2.out (below_size hb)); clear hb LED RA1 SA3 K4 LS2)
  clear az0 az1 az2 bz0 bz1 bz2 RA2 hne
  have HS17 := Aside0.mk (Nat.le_trans (show s1 ≤ s2 from Nat.le_of_lt (Nat.lt_of_le_of_lt LG4.out L4.out)) LS27.out)
  obtain ⟨gn, row, len, hwk⟩ := Wk.of_S' (Kd.S_mono (ok' := fun k => (s1 ≤ k ∧ k < s2) ∨ w7.heap.size ≤ k) SA37.out (fun k h => .inl h))
  have WK := Aside0.mk (fun h => (hwk h).2.1)
  have AN := Aside0.mk (fun h => (hwk h).1)
  have LEN : Aside0 (∀ j, 0 ≤ j → j < nx.length → len j ≤ 1073741824) := ⟨fun j _ hj => by rw [(hwk (by omega)).2.2 j hj]; exact HLEN.out j hj⟩
  have RA := Aside0.mk (Kd.R_mono (ok' := fun k => (s1 ≤ k ∧ k < s2) ∨ w7.heap.size ≤ k) RA17.out (fun k h => .inl h))
  have FR := Aside0.mk (Fr.refl (fun k => s1 ≤ k ∧ k < s2) w7)
  have BK4 := K47
  have hmt : (tr.length : Int) ≤ 9223372036854775807 := by have := (Kd.R_reads' RA17.out).2.2.2.1; omega
  have hmn : (nx.length : Int) ≤ 9223372036854775807 := by have := (Kd.R_reads' (Kd.S_R SA37.out)).2.2.2.1; omega
  clear hwk RA17 SA37 HLEN K47
  obtain ⟨az0, az1, az2, _, _, _⟩ := bF3 BK4.out
  go_wp2
  clear az0 az1 az2
  go_loopw [42] (fun v42 wq => ∃ (i : Nat) (tr' : List ByteArray), v42 = .int .i64 (i : Int) ∧ i ≤ tr.length ∧ Aside0 (tr'.length = tr.length) ∧ Aside0 (Kd.string.R 9 wq s1 (fun k => (s1 ≤ k ∧ k < s2) ∨ w7.heap.size ≤ k) (.slice Aa1 tr.length ca1) tr') ∧ Aside0 (wq.heap[g4]? = some (.cells #[.slice Aa1 tr.length ca1, .slice Aa2 ac.length ca2, .slice An nx.length cn] 31 (0, 0))) ∧ Aside0 (0 < nx.length → Wk 3 42 wq s1 (fun k => (s1 ≤ k ∧ k < s2) ∨ w7.heap.size ≤ k) gn nx.length row len) ∧ Aside0 (Fr (fun k => s1 ≤ k ∧ k < s2) w7 wq)) (fun v42 _ => tr.length - (intOf v42).toNat)
  case atStart => exact ⟨0, tr, rfl, Nat.zero_le _, ⟨rfl⟩, RA, BK4, WK, FR⟩
  case round =>
    clear RA BK4 WK FR
    obtain ⟨i, tr', rfl, hi, HT, RA, BK4, WK, FR⟩ := hrel
    by_cases ci : i < tr.length
    · obtain ⟨gt, ct_, et, _⟩ := Kd.R_form RA.out (by rw [HT.out]; omega)
      rw [HT.out] at et
      injection et with et1 et2 et3
      subst et1 et3
      obtain ⟨hy, hz⟩ := Kd.R_celln ⟨#[]⟩ RA.out (i : Int) (by omega) (by omega)
      rw [Int.toNat_natCast] at hy hz
      have cb : decide ((i : Int) < (tr.length : Int)) = true := decide_eq_true (by omega)
      obtain ⟨az0, az1, az2, _, _, _⟩ := bF3 BK4.out
      have hwi : wrap64 ((i : Int) + 1) = ((i + 1 : Nat) : Int) := by unfold wrap64; omega
      clear et2
      go_wp2
      have HP := Kd.R_putg RA.out (i : Int) (⟨#[115, 112, 111, 105, 108, 116]⟩ : ByteArray)
      rw [Int.toNat_natCast] at HP
      have TY := Kd.R_typed RA.out
      have TY' : ∀ k, some gt = some k → ∃ cells, wr.heap[k]? = some (.cells cells 9 (0, 0)) := fun k e => TY k (by rw [← e]; rfl)
      go_roundw
      case rel => exact ⟨i + 1, _, (by first | (rw [hwi]) | (simp)), by omega, ⟨by rw [List.length_set]; exact HT.out⟩, ⟨HP.1⟩, ⟨blk_off BK4.out HP.2 (Off.typed (T := [31]) TY' (by decide)) (by simp)⟩, ⟨fun h => (WK.out h).off HP.2 (fun b e q hq cs => Off.typed (T := [42, 3]) TY' (by decide) b e q (by simpa using hq) cs)⟩, ⟨FR.out.set (RA.out.1 gt (by simp [Value.ownBlock])) i _⟩⟩
      case measure => (try rw [hwi]); simp [intOf]; omega
    · obtain rfl : i = tr.length := by omega
      have cb : decide ((tr.length : Int) < (tr.length : Int)) = false := by simp
      clear RA HT hi ci
      obtain ⟨az0, az1, az2, _, _, _⟩ := bF3 BK4.out
      go_wp2
      clear az0 az1 az2 cb
      go_loopw [53] (fun v53 wq => ∃ (i : Nat) (row : Nat → Value) (len : Nat → Nat), v53 = .int .i64 (i : Int) ∧ i ≤ nx.length ∧ Aside0 (∀ j, i ≤ j → j < nx.length → len j ≤ 1073741824) ∧ Aside0 (wq.heap[g4]? = some (.cells #[.slice Aa1 tr.length ca1, .slice Aa2 ac.length ca2, .slice An nx.length cn] 31 (0, 0))) ∧ Aside0 (0 < nx.length → Wk 3 42 wq s1 (fun k => (s1 ≤ k ∧ k < s2) ∨ w7.heap.size ≤ k) gn nx.length row len) ∧ Aside0 (Fr (fun k => s1 ≤ k ∧ k < s2) w7 wq)) (fun v53 _ => nx.length - (intOf v53).toNat)
      case atStart => exact ⟨0, row, len, rfl, Nat.zero_le _, LEN, BK4, WK, FR⟩
      case round =>
        clear BK4 WK FR LEN
        obtain ⟨i, row, len, rfl, hin, LEN, BK4, WK, FR⟩ := hrel
        by_cases hi : i < nx.length
        · obtain rfl := AN.out (by omega)
          replace WK := Aside0.mk (WK.out (by omega))
          obtain ⟨Ai, ci, er_, _⟩ := WK.out.form hi
          obtain ⟨hc1, hf1⟩ := WK.out.cell hi
          rw [er_] at hc1
          have EROW := Aside0.mk er_
          have hli : (len i : Int) ≤ 1073741824 := by have := LEN.out i (Nat.le_refl _) hi; omega
          have hlN : len i ≤ 1073741824 := by omega
          have cb : decide ((i : Int) < (nx.length : Int)) = true := decide_eq_true (by omega)
          obtain ⟨az0, az1, az2, _, _, _⟩ := bF3 BK4.out
          have hwi : wrap64 ((i : Int) + 1) = ((i + 1 : Nat) : Int) := by unfold wrap64; omega
          clear er_ hin
          go_wp2
          clear az0 az1 az2 hc1 hf1
          go_loopw [62] (fun v62 wq => ∃ (j : Nat), v62 = .int .i64 (j : Int) ∧ j ≤ len i ∧ Aside0 (wq.heap[g4]? = some (.cells #[.slice Aa1 tr.length ca1, .slice Aa2 ac.length ca2, .slice (some ⟨gn, 0, none⟩) nx.length cn] 31 (0, 0))) ∧ Aside0 (Wk 3 42 wq s1 (fun k => (s1 ≤ k ∧ k < s2) ∨ w7.heap.size ≤ k) gn nx.length row len) ∧ Aside0 (Fr (fun k => s1 ≤ k ∧ k < s2) w7 wq)) (fun v62 _ => len i - (intOf v62).toNat)
          case atStart => exact ⟨0, rfl, Nat.zero_le _, BK4, WK, FR⟩
          case round =>
            clear BK4 WK FR
            obtain ⟨j, rfl, hj, BK4, WK, FR⟩ := hrel
            obtain ⟨az0, az1, az2, _, _, _⟩ := bF3 BK4.out
            obtain ⟨hc1, hf1⟩ := WK.out.cell hi
            rw [EROW.out] at hc1
            by_cases cj : j < len i
            · obtain ⟨A', c', e', hcell⟩ := WK.out.form hi
              rw [EROW.out] at e'
              injection e' with e1 e2 e3
              subst e1 e3
              obtain ⟨b, rfl, hbok, ⟨x, hx⟩, hxf⟩ := hcell j cj
              obtain ⟨xsi, hxi⟩ := WK.out.own i hi
              have TYb : ∀ k, some b = some k → ∃ cells, wr.heap[k]? = some (.cells cells 3 (0, 0)) := fun k e => own_typed hxi k (by rw [EROW.out]; exact e)
              have HBO := Aside0.mk hbok
              have TYB := Aside0.mk TYb
              have cb2 : decide ((j : Int) < (len i : Int)) = true := decide_eq_true (by omega)
              have hwj : wrap64 ((j : Int) + 1) = ((j + 1 : Nat) : Int) := by unfold wrap64; omega
              clear e2 hcell hbok hxi TYb
              go_wp2
              go_roundw
              case rel => exact ⟨j + 1, (by first | (rw [hwj]) | (simp)), by omega, ⟨blk_off BK4.out (grown_cell wr b j _) (Off.typed (T := [31]) TYB.out (by decide)) (by simp)⟩, ⟨WK.out.put (by decide) hi EROW.out j _⟩, ⟨FR.out.set HBO.out j _⟩⟩
              case measure => (try rw [hwj]); simp [intOf]; omega
            · obtain rfl : j = len i := by omega
              have cb2 : decide ((len i : Int) < (len i : Int)) = false := by simp
              obtain ⟨xsi, hxi⟩ := WK.out.own i hi
              rw [EROW.out] at hxi
              have HOI : Aside0 (wr.drew.ownsRow s1 3 1 (.slice Ai (len i) ci) (len i) xsi) := ⟨hxi⟩
              have HS1 : Aside0 (s1 ≤ wr.drew.heap.size) := ⟨Nat.le_trans HS17.out FR.out.size⟩
              have hb4 := az2
              have hrow := hc1
              clear hxi cj hj
              go_upto_region 22 with (fail)
              clear az0 az1 az2 hc1 hf1
              refine start_ (n := 12) (S := fun w' => w'.cell? ⟨g4, 2, none⟩ = some (.slice (some ⟨gn, 0, none⟩) nx.length cn) ∧ w'.cell? ⟨gn, i, none⟩ = some (.slice Ai (len i) ci)) (ds := [11]) #[false, false, false, false, false, false, false, false, false, false, false, false] (by kernel_rfl) rfl rfl ⟨hb4, hrow⟩ (fun hHeld => ?_)
              refine pure_ (i := 0) (N := some 73) (v := ?_) (a' := ?_) #[true, false, false, false, false, false, false, false, false, false, false, false] rfl rfl (by kernel_rfl) (fun _ _ _ h => h) (Or.inl ⟨by rfl, ?_⟩) ?_ ?_
              rotate_left
              · intro w'
                go_simp
                with_reducible rfl
              rotate_left
              · simp only [Act.put, List.setIfInBounds_toArray, List.set_cons_zero, List.set_cons_succ, i64_w, i32_w]
                rfl
              refine pure_ (i := 2) (N := some 75) (v := ?_) (a' := ?_) #[true, false, true, false, false, false, false, false, false, false, false, false] rfl rfl (by kernel_rfl) (fun _ _ _ h => h) (Or.inl ⟨by rfl, ?_⟩) ?_ ?_
              rotate_left
              · intro w'
                go_simp
                with_reducible rfl
              rotate_left
              · simp only [Act.put, List.setIfInBounds_toArray, List.set_cons_zero, List.set_cons_succ, i64_w, i32_w]
                rfl
              refine pure_ (i := 3) (N := some 76) (v := ?_) (a' := ?_) #[true, false, true, true, false, false, false, false, false, false, false, false] rfl rfl (by kernel_rfl) (fun _ _ _ h => h) (Or.inl ⟨by rfl, ?_⟩) ?_ ?_
              rotate_left
              · intro w'
                go_simp
                with_reducible rfl
              rotate_left
              · simp only [Act.put, List.setIfInBounds_toArray, List.set_cons_zero, List.set_cons_succ, i64_w, i32_w]
                rfl
              refine pure_ (i := 5) (N := some 78) (v := ?_) (a' := ?_) #[true, false, true, true, false, true, false, false, false, false, false, false] rfl rfl (by kernel_rfl) (fun _ _ _ h => h) (Or.inl ⟨by rfl, ?_⟩) ?_ ?_
              rotate_left
              · intro w'
                go_simp
                with_reducible rfl
              rotate_left
              · simp only [Act.put, List.setIfInBounds_toArray, List.set_cons_zero, List.set_cons_succ, i64_w, i32_w]
                rfl
              refine take_ (i := 1) (N := some 74) (v := ?_) (a' := ?_) #[true, true, true, true, false, true, false, false, false, false, false, false] rfl rfl (by kernel_rfl) (fun _ _ _ h => h) (Or.inl ⟨by rfl, ?_⟩) hHeld ?_ ?_
              rotate_left
              · rintro w' ⟨s0, s1⟩
                go_simp
                with_reducible rfl
              rotate_left
              · simp only [Act.put, List.setIfInBounds_toArray, List.set_cons_zero, List.set_cons_succ, i64_w, i32_w]
                rfl
              refine take_ (i := 4) (N := some 77) (v := ?_) (a' := ?_) #[true, true, true, true, true, true, false, false, false, false, false, false] rfl rfl (by kernel_rfl) (fun _ _ _ h => h) (Or.inl ⟨by rfl, ?_⟩) hHeld ?_ ?_
              rotate_left
              · rintro w' ⟨s0, s1⟩
                go_simp
                with_reducible rfl
              rotate_left
              · simp only [Act.put, List.setIfInBounds_toArray, List.set_cons_zero, List.set_cons_succ, i64_w, i32_w]
                rfl
              refine pure_ (i := 6) (N := some 79) (v := ?_) (a' := ?_) #[true, true, true, true, true, true, true, false, false, false, false, false] rfl rfl (by kernel_rfl) (fun _ _ _ h => h) (Or.inl ⟨by rfl, ?_⟩) ?_ ?_
              rotate_left
              · intro w'
                go_simp
                with_reducible rfl
              rotate_left
              · simp only [Act.put, List.setIfInBounds_toArray, List.set_cons_zero, List.set_cons_succ, i64_w, i32_w]
                rfl
              refine take_ (i := 7) (N := some 80) (v := ?_) (a' := ?_) #[true, true, true, true, true, true, true, true, false, false, false, false] rfl rfl (by kernel_rfl) (fun _ _ _ h => h) (Or.inl ⟨by rfl, ?_⟩) hHeld ?_ ?_
              rotate_left
              · rintro w' ⟨s0, s1⟩
                go_simp
                with_reducible rfl
              rotate_left
              · simp only [Act.put, List.setIfInBounds_toArray, List.set_cons_zero, List.set_cons_succ, i64_w, i32_w]
                rfl
              refine one_ (i := 8) (N := some 81) #[true, true, true, true, true, true, true, true, true, false, false, false] rfl rfl (by kernel_rfl) (by decide) (fun K hK => ?_)
              refine value_ (w1 := ?_) (v := ?_) (by rfl) rfl ?_ ?_
              rotate_left 2
              · go_simp
                constructor
                · rfl
                · rfl
              refine hK.out _ _ ⟨pw_cell_below (below_alloc (Below.refl _ _) _) hb4, pw_cell_below (below_alloc (Below.refl _ _) _) hrow⟩ (fun hHeld => ?_)
              clear hK K
              refine norm_ (a' := ?_) ?_ ?_
              rotate_left
              · show Act.put _ (some 81) _ = _
                simp only [Act.put, List.setIfInBounds_toArray, List.set_cons_zero, List.set_cons_succ, i64_w, i32_w]
                rfl
              refine one_ (i := 9) (N := some 82) #[true, true, true, true, true, true, true, true, true, true, false, false] rfl rfl (by kernel_rfl) (by decide) (fun K hK => ?_)
              refine step_append_cells (w0 := wr.drew) s1 (by rfl) (.tmp 80) (.tmp 81) 42 3 (.int .i64 0) 1 8 rfl Try.underlying42 info3 rfl (by decide) (by omega) (.slice Ai (len i) ci) (len i) xsi [.int .i64 (-2)] ?aS ?aX rfl (fun u hu => by rw [List.mem_singleton.1 hu]; rfl) HOI.out (Below.refl _ _) HS1.out (by omega) ?_
              case aS => rfl
              case aX => rfl
              intro v1 w17 ho _ hg hat
              obtain ⟨A1, c1_, e1_⟩ := own_slice ho
              subst e1_
              have hg' : wr.drew.grownBy w17 (row i).ownBlock := by rw [EROW.out]; exact hg
              have hat' : (Value.slice A1 (len i + 1) c1_).ownBlock = (row i).ownBlock ∨ ∃ b, (Value.slice A1 (len i + 1) c1_).ownBlock = some b ∧ wr.drew.heap.size ≤ b := by rw [EROW.out]; exact hat
              have TY := own_typed HOI.out
              have K4 := blk_grown (blk_below BK4.out (below_drew (Below.refl _ _))) hg (fun e1 => by obtain ⟨cs, hc⟩ := TY g4 e1.symm; have h2 := blk_below BK4.out (below_drew (Below.refl wr.heap.size wr)); rw [hc] at h2; injection h2 with h2; injection h2 with _ h2 _; exact absurd h2 (by decide))
              have WK1 := Aside0.mk ((WK.out.below (below_drew (Below.refl _ _))).next (by decide) hi hg' ho hat' (fun k hk => .inr (Nat.le_trans FR.out.size hk)))
              have FR1 := Aside0.mk (((FR.out.below (below_drew (Below.refl _ _))).grown hg' (fun b hb => WK.out.okk i hi b hb)).set WK.out.okg i (.slice A1 (len i + 1) c1_))
              obtain ⟨cur, hcur, hcr⟩ := (WK.out.below (below_drew (Below.refl _ _))).hd
              have hcur1 := blk_grown hcur hg (fun e1 => by obtain ⟨cs, hc⟩ := TY gn e1.symm; rw [hcur] at hc; injection hc with hc; injection hc with _ hc _; exact absurd hc (by decide))
              have hb4b : w17.cell? ⟨g4, 2, none⟩ = some (.slice (some ⟨gn, 0, none⟩) nx.length cn) := (blk_cell K4 2).trans rfl
              have hrowb : w17.cell? ⟨gn, i, none⟩ = some (.slice Ai (len i) ci) := (blk_cell hcur1 i).trans (by rw [hcr i hi, EROW.out])
              have hfb : w17.frozen? ⟨gn, i, none⟩ = false := blk_frozen hcur1 i
              have gn4 : g4 ≠ gn := fun e1 => by rw [← e1] at hcur1; rw [hcur1] at K4; injection K4 with K4; injection K4 with _ K4 _; exact absurd K4 (by decide)
              have BK41 := Aside0.mk (blk_grown K4 (grown_cell w17 gn i (.slice A1 (len i + 1) c1_)) (fun e1 => gn4 (Option.some.inj e1)))
              clear ho hg hat hg' hat' TY K4 hcur hcr hcur1 gn4
              refine hK.out _ _ ⟨hb4b, hrowb⟩ (fun hHeld => ?_)
              clear hK K
              refine norm_ (a' := ?_) ?_ ?_
              rotate_left
              · show Act.put _ (some 82) _ = _
                simp only [Act.put, List.setIfInBounds_toArray, List.set_cons_zero, List.set_cons_succ, i64_w, i32_w]
                rfl
              refine pure_ (i := 10) (N := some 83) (v := ?_) (a' := ?_) #[true, true, true, true, true, true, true, true, true, true, true, false] rfl rfl (by kernel_rfl) (fun _ _ _ h => h) (Or.inl ⟨by rfl, ?_⟩) ?_ ?_
              rotate_left
              · intro w'
                go_simp
                with_reducible rfl
              rotate_left
              · simp only [Act.put, List.setIfInBounds_toArray, List.set_cons_zero, List.set_cons_succ, i64_w, i32_w]
                rfl
              refine last_ (i := 11) (N := none) #[true, true, true, true, true, true, true, true, true, true, true, true] rfl rfl (by kernel_rfl) (by decide) (fun K hK => ?_)
              refine skip_ (w1 := ?_) (by rfl) rfl ?_ ?_
              rotate_left
              · go_simp
                rfl
              refine hK.out _ _ ?_
              clear hK K
              refine done_ (by kernel_rfl) ?_
              clear hb4 hrow hb4b hrowb hfb
              go_wp2
              go_roundw
              case rel => exact ⟨i + 1, _, _, (by first | (rw [hwi]) | (simp)), by omega, ⟨fun j h1 h2 => by rw [updn, if_neg (by omega)]; exact LEN.out j (by omega) h2⟩, BK41, ⟨fun _ => WK1.out⟩, FR1⟩
              case measure => (try rw [hwi]); simp [intOf]; omega
        · obtain rfl : i = nx.length := by omega
          have cb : decide ((nx.length : Int) < (nx.length : Int)) = false := by simp
          have LED := Aside0.mk (LED7.out.fr FR.out)
          clear LED7 FR BK4 WK LEN hin hi AN
          obtain ⟨mz0, mz1, mz2, mz3, mz4, _, _, _, _, _⟩ := bF5 LED.out.b3
          go_upto_region 25 with (first
            | (go_at_call 9; (with_reducible refine (atom_Raw.calls k a0_0 _ _ l0_1 _ _ l0_2 a0_3 a0_4 tr ac nx er _ (Kd.R_reads' LED.out.m1).2.2 (Kd.R_reads' LED.out.m1).2.1 (Kd.R_reads' LED.out.m2).2.2 (Kd.R_reads' LED.out.m2).2.1 HRAW.out).mono ?_); rintro _ wc ⟨vc1, vc2, vc3, rfl, h1, h2, h3, hb⟩; obtain ⟨Ac1, cc1, ec1⟩ := Kd.R_slice h1; obtain ⟨Ac2, cc2, ec2⟩ := Kd.R_slice h2; obtain ⟨Ac3, cc3, ec3⟩ := Kd.R_slice (Kd.S_R h3); subst ec1 ec2 ec3; have RC1 := Aside0.mk h1; have RC2 := Aside0.mk h2; have SC3 := Aside0.mk h3; have LEDC := Aside0.mk (LED.out.kept hb); clear h1 h2 h3 hb LED mz0 mz1 mz2 mz3 mz4)
            | ((with_reducible refine gate_dst (N := 12) rfl ?_); refine be_ (cs := #[.slice none 0 0, .slice none 0 0, .slice none 0 0]) (t := 31) ?_; intro g12 hg wd' hbox hb; have K12 := Aside0.mk hbox; have HG12 := Aside0.mk hg; have HBD := Aside0.mk hb; clear hb hbox hg; obtain ⟨pz0, pz1, pz2, pf0, pf1, pf2⟩ := bF3 K12.out))
          have le12 := Nat.le_of_eq HG12.out.symm
          have hB12 := below_set (g := g12) (j := 2) (v := .slice Ac3 nx.length cc3) (below_set (g := g12) (j := 1) (v := .slice Ac2 ac.length cc2) (below_set (g := g12) (j := 0) (v := .slice Ac1 tr.length cc1) HBD.out le12) le12) le12
          have hK12 := blk_put (blk_put (blk_put K12.out 0 (.slice Ac1 tr.length cc1) rfl) 1 (.slice Ac2 ac.length cc2) rfl) 2 (.slice Ac3 nx.length cc3) rfl
          generalize (((wd'.setCell ⟨g12, 0, none⟩ (.slice Ac1 tr.length cc1)).setCell ⟨g12, 1, none⟩ (.slice Ac2 ac.length cc2)).setCell ⟨g12, 2, none⟩ (.slice Ac3 nx.length cc3)) = w12 at hB12 hK12 ⊢
          have LED1 := Aside0.mk (LEDC.out.kept hB12)
          replace RC1 := Aside0.mk (Kd.R_below RC1.out hB12)
          replace RC2 := Aside0.mk (Kd.R_below RC2.out hB12)
          replace SC3 := Aside0.mk (Kd.S_below SC3.out hB12)
          replace K12 := Aside0.mk hK12
          clear hB12 hK12 le12 HG12 HBD LEDC pz0 pz1 pz2 pf0 pf1 pf2
          have heq : (er == er) = true := by simp
          obtain ⟨mz0, mz1, mz2, mz3, mz4, _, _, _, _, _⟩ := bF5 LED1.out.b3
          obtain ⟨nz0, nz1, nz2, nz3, nz4, _, _, _, _, _⟩ := bF5 LED1.out.b1
          go_wp2_with (first
            | (go_at_call 13; (with_reducible refine (tabardlaw14_same.calls k a0_0 _ _ l0_1 _ _ l0_2 a0_3 a0_4 a0_0 _ _ l0_1 _ _ l0_2 a0_3 a0_4 true _ (Kd.R_reads' LED1.out.m1).2.2 (Kd.R_reads' LED1.out.m1).2.1 (Kd.R_reads' LED1.out.m2).2.2 (Kd.R_reads' LED1.out.m2).2.1 (Kd.C_below H1.out LED1.out.bel) C1.out (Kd.C_below H2.out LED1.out.bel) C2.out HSM.out).mono ?_); rintro _ wc ⟨rfl, hb⟩; have LED2 := Aside0.mk (LED1.out.kept hb); have RC1' := Aside0.mk (Kd.R_below RC1.out hb); have RC2' := Aside0.mk (Kd.R_below RC2.out hb); have SC3' := Aside0.mk (Kd.S_below SC3.out hb); have K12' := Aside0.mk (blk_below K12.out hb); clear hb LED1 RC1 RC2 SC3 K12 mz0 mz1 mz2 mz3 mz4 nz0 nz1 nz2 nz3 nz4; obtain ⟨bz0, bz1, bz2, _, _, _⟩ := bF3 LED2.out.b6; obtain ⟨kz0, kz1, kz2, _, _, _⟩ := bF3 LED2.out.b8)
            | (go_at_call 12; (with_reducible refine (tabardref12_SameDense.calls k _ _ tr _ _ ac _ _ nx _ _ tr _ _ ac _ _ nx true _ (Kd.R_reads' LED2.out.r1).2.2 (Kd.R_reads' LED2.out.r1).2.1 (Kd.R_reads' LED2.out.r2).2.2 (Kd.R_reads' LED2.out.r2).2.1 (Kd.R_reads' (Kd.S_R LED2.out.r3)).2.2 (Kd.R_reads' (Kd.S_R LED2.out.r3)).2.1 (Kd.R_reads' LED2.out.k1).2.2 (Kd.R_reads' LED2.out.k1).2.1 (Kd.R_reads' LED2.out.k2).2.2 (Kd.R_reads' LED2.out.k2).2.1 (Kd.R_reads' (Kd.S_R LED2.out.k3)).2.2 (Kd.R_reads' (Kd.S_R LED2.out.k3)).2.1 HSD.out).mono ?_); rintro _ wc' ⟨rfl, hb⟩; have LED3 := Aside0.mk (LED2.out.kept hb); have RC1' := Aside0.mk (Kd.R_below RC1'.out hb); have RC2' := Aside0.mk (Kd.R_below RC2'.out hb); have SC3' := Aside0.mk (Kd.S_below SC3'.out hb); have K12' := Aside0.mk (blk_below K12'.out hb); clear hb LED2 bz0 bz1 bz2 kz0 kz1 kz2; obtain ⟨bz0, bz1, bz2, _, _, _⟩ := bF3 K12'.out; obtain ⟨kz0, kz1, kz2, _, _, _⟩ := bF3 LED3.out.b8)
            | (go_at_call 12; (with_reducible refine (tabardref12_SameDense.calls k _ _ tr _ _ ac _ _ nx _ _ tr _ _ ac _ _ nx true _ (Kd.R_reads' RC1'.out).2.2 (Kd.R_reads' RC1'.out).2.1 (Kd.R_reads' RC2'.out).2.2 (Kd.R_reads' RC2'.out).2.1 (Kd.R_reads' (Kd.S_R SC3'.out)).2.2 (Kd.R_reads' (Kd.S_R SC3'.out)).2.1 (Kd.R_reads' LED3.out.k1).2.2 (Kd.R_reads' LED3.out.k1).2.1 (Kd.R_reads' LED3.out.k2).2.2 (Kd.R_reads' LED3.out.k2).2.1 (Kd.R_reads' (Kd.S_R LED3.out.k3)).2.2 (Kd.R_reads' (Kd.S_R LED3.out.k3)).2.1 HSD.out).mono ?_); rintro _ wc'' ⟨rfl, hb⟩; have LED4 := Aside0.mk (LED3.out.kept hb); clear hb LED3))
          go_ret
          exact ⟨rfl, LED4.out.bel⟩

end Go.Proofs.Ythgoonohpfoagaa.X
