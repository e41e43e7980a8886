/- What the program's calls on sets come to, by hand: each call's own contract; no condition beyond what each contract says. -/
import Derived.Test.YthgoonohpfoagaaX
namespace Go.Proofs.Ythgoonohpfoagaa.X
open Go.RowKit Go.Proofs.YthgoonohpfoagaaW.PrintWords Go.Proofs.YthgoonohpfoagaaW.PrintLast Go.Proofs.YthgoonohpfoagaaW.PrintMore
set_option linter.unusedVariables false
set_option linter.unusedSimpArgs false
theorem S_low {α : Type} {d : Kd α} {e : TypeId} {W : World} {base b2 : Nat} {ok : Nat → Prop} {v : Value} {xs : List α} (h : Kd.S d e W base ok v xs) (hb : b2 ≤ base) : Kd.S d e W b2 ok v xs := by
  obtain ⟨f, h⟩ := h
  exact ⟨f, Kd.R_lower h hb⟩
structure Tn (w0 W : World) (ga gb gc gq : Nat) (va1 va2 va3 vb1 vb2 vb3 vc1 vc2 vc3 vq1 vq2 vq3 : Value) (ta : List ByteArray) (aa : List Bool) (na : List (List Int)) (tb : List ByteArray) (ab : List Bool) (nb : List (List Int)) (tc : List ByteArray) (ac : List Bool) (nc : List (List Int)) (tq : List ByteArray) (aq : List Bool) (nq : List (List Int)) : Prop where
  bel : Below w0.heap.size w0 W
  ka : W.heap[ga]? = some (.cells #[va1, va2, va3] 31 (0, 0))
  a1 : Kd.string.R 9 W w0.heap.size (fun _ => True) va1 ta
  a2 : Kd.bool.R 4 W w0.heap.size (fun _ => True) va2 aa
  a3 : Kd.S (Kd.slice 3 (Kd.int .i64)) 42 W w0.heap.size (fun _ => True) va3 na
  kb : W.heap[gb]? = some (.cells #[vb1, vb2, vb3] 31 (0, 0))
  b1 : Kd.string.R 9 W w0.heap.size (fun _ => True) vb1 tb
  b2 : Kd.bool.R 4 W w0.heap.size (fun _ => True) vb2 ab
  b3 : Kd.S (Kd.slice 3 (Kd.int .i64)) 42 W w0.heap.size (fun _ => True) vb3 nb
  kc : W.heap[gc]? = some (.cells #[vc1, vc2, vc3] 31 (0, 0))
  c1 : Kd.string.R 9 W w0.heap.size (fun _ => True) vc1 tc
  c2 : Kd.bool.R 4 W w0.heap.size (fun _ => True) vc2 ac
  c3 : Kd.S (Kd.slice 3 (Kd.int .i64)) 42 W w0.heap.size (fun _ => True) vc3 nc
  kq : W.heap[gq]? = some (.cells #[vq1, vq2, vq3] 31 (0, 0))
  q1 : Kd.string.R 9 W w0.heap.size (fun _ => True) vq1 tq
  q2 : Kd.bool.R 4 W w0.heap.size (fun _ => True) vq2 aq
  q3 : Kd.S (Kd.slice 3 (Kd.int .i64)) 42 W w0.heap.size (fun _ => True) vq3 nq
theorem Tn.kept {w0 W W1 : World} {ga gb gc gq : Nat} {va1 va2 va3 vb1 vb2 vb3 vc1 vc2 vc3 vq1 vq2 vq3 : Value} {ta : List ByteArray} {aa : List Bool} {na : List (List Int)} {tb : List ByteArray} {ab : List Bool} {nb : List (List Int)} {tc : List ByteArray} {ac : List Bool} {nc : List (List Int)} {tq : List ByteArray} {aq : List Bool} {nq : List (List Int)} (h : Tn w0 W ga gb gc gq va1 va2 va3 vb1 vb2 vb3 vc1 vc2 vc3 vq1 vq2 vq3 ta aa na tb ab nb tc ac nc tq aq nq) (hb : Below W.heap.size W W1) : Tn w0 W1 ga gb gc gq va1 va2 va3 vb1 vb2 vb3 vc1 vc2 vc3 vq1 vq2 vq3 ta aa na tb ab nb tc ac nc tq aq nq :=
  ⟨below_step h.bel hb, blk_below h.ka hb, Kd.R_below h.a1 hb, Kd.R_below h.a2 hb, Kd.S_below h.a3 hb, blk_below h.kb hb, Kd.R_below h.b1 hb, Kd.R_below h.b2 hb, Kd.S_below h.b3 hb, blk_below h.kc hb, Kd.R_below h.c1 hb, Kd.R_below h.c2 hb, Kd.S_below h.c3 hb, blk_below h.kq hb, Kd.R_below h.q1 hb, Kd.R_below h.q2 hb, Kd.S_below h.q3 hb⟩
theorem grown_on {W W1 : World} {g : Nat} (h : W.grownBy W1 (some g)) (j : Nat) (x : Value) : W.grownBy (W1.setCell ⟨g, j, none⟩ x) (some g) :=
  ⟨h.os, h.tape, h.output, by simpa using h.size, fun k hk hne => (Below.heap_setCell W1 _ x k (fun e => hne (by rw [e]))).trans (h.block k hk hne)⟩
set_option maxHeartbeats 400000000 in
set_option maxRecDepth 100000 in
theorem tabardlaw14_AtomTurns.calls (k : Nat) (a0_0 : Int) (A0_1 : Option Addr) (c0_1 : Nat) (l1 : List ByteArray) (A0_2 : Option Addr) (c0_2 : Nat) (l2 : List Int) (a0_3 : Int) (a0_4 : Int) (A1 : Option Addr) (c1 : Nat) (ws : List (List Int))
    (ta : List ByteArray) (aa : List Bool) (na : List (List Int)) (ea : Int) (l2' : List Int) (b' : Int) (okb : Bool) (tb : List ByteArray) (ab : List Bool) (nb : List (List Int)) (eb : Int) (tc : List ByteArray) (ac : List Bool) (nc : List (List Int)) (ec : Int) (tq : List ByteArray) (aq : List Bool) (nq : List (List Int)) (eq_ : Int) (w : World)
    (hr0_1 : Kd.C Kd.string w A0_1 l1.length l1) (hc0_1 : l1.length ≤ c0_1) (hr0_2 : Kd.C (Kd.int .i64) w A0_2 l2.length l2) (hc0_2 : l2.length ≤ c0_2) (hr1 : Kd.C (Kd.slice 3 (Kd.int .i64)) w A1 ws.length ws) (hc1 : ws.length ≤ c1)
    (hF : tabardlaw14_fixed.f k = some true) (hcop : tabardlaw14_copied.f a0_0 l1 l2 a0_3 a0_4 = some (a0_0, l1, l2, a0_3, a0_4)) (hcop0 : tabardlaw14_copied.f 0 l1 l2 a0_3 0 = some (0, l1, l2, a0_3, 0))
    (hra : atom_Raw.f k 0 l1 l2 a0_3 0 = some (ta, aa, na, ea)) (hng : tabardlaw14_negated.f k 0 l1 l2 a0_3 0 = some (0, l1, l2', b', 0, okb)) (hrb : atom_Raw.f k 0 l1 l2' b' 0 = some (tb, ab, nb, eb))
    (hmain : ea = 0 → eb = 0 → okb = true → tabardlaw14_copied.f 0 l1 l2' b' 0 = some (0, l1, l2', b', 0) ∧ atom_Raw.f k 0 l1 l2' (wrap64 (-a0_3)) 0 = some (tc, ac, nc, ec) ∧ atom_Raw.f k 1 l1 l2 a0_3 0 = some (tq, aq, nq, eq_) ∧ (ec = 0 → eq_ ≠ 0 → eq_ = 140) ∧
      (ec = 0 → eq_ = 0 → tabardref12_Right.f k ta aa na = some true ∧ tabardref12_Right.f k tb ab nb = some true ∧ tabardref12_Right.f k tc ac nc = some true ∧ tabardref12_Right.f k tq aq nq = some true ∧ tb.length = ta.length ∧ tc.length = ta.length ∧ tq.length = ta.length ∧
        ∀ v ∈ ws, v ≠ [] → ∃ wb, tabardref12_Word.f k v (ta.length : Int) = some wb ∧ (wb = true → ∃ x y, tabardref12_Takes.f k ta aa na v = some x ∧ tabardref12_Takes.f k tc ac nc v = some y ∧ tabardref12_Takes.f k tb ab nb v = some (!x) ∧ tabardref12_Takes.f k tq aq nq v = some (x && y)))) :
    Calls Try.prog 5 #[.agg #[.int .i64 a0_0, .slice A0_1 l1.length c0_1, .slice A0_2 l2.length c0_2, .int .i64 a0_3, .int .i64 a0_4], .slice A1 ws.length c1] w fun e w' => e = .returned (.bool true) ∧ Below w.heap.size w w' := by
  have H1 := Aside0.mk hr0_1
  have H2 := Aside0.mk hr0_2
  have H3 := Aside0.mk hr1
  have C1 := Aside0.mk hc0_1
  have C2 := Aside0.mk hc0_2
  have C3 := Aside0.mk hc1
  have HF := Aside0.mk hF
  have HCOP := Aside0.mk hcop
  have HCOP0 := Aside0.mk hcop0
  have HRA := Aside0.mk hra
  have HNG := Aside0.mk hng
  have HRB := Aside0.mk hrb
  have HMAIN := Aside0.mk hmain
  clear hr0_1 hr0_2 hr1 hc0_1 hc0_2 hc1 hF hcop hcop0 hra hng hrb hmain
  go_enter Try.func5, Try.ntmps5
  go_upto_region 3 with (first
    | ((with_reducible refine gate_dst (N := 2) rfl ?_); refine be_ (cs := #[.int .i64 a0_0, .slice A0_1 l1.length c0_1, .slice A0_2 l2.length c0_2, .int .i64 a0_3, .int .i64 a0_4]) (t := 26) ?_; intro g2 hg wa hbox hb; have N2 := Aside0.mk hbox; have HB := Aside0.mk hb; have LO2 := Aside0.mk (show w.heap.size ≤ g2 from Nat.le_of_eq hg.symm); clear hb hbox hg)
    | (go_at_call 11; (with_reducible refine (tabardlaw14_fixed.calls k true _ HF.out).mono ?_); rintro _ w0_ ⟨rfl, hb⟩; replace N2 := Aside0.mk (blk_below N2.out hb); replace HB := Aside0.mk (below_step HB.out hb); clear hb))
  obtain ⟨hz0, hz1, hz2, hz3, hz4, hf0, hf1, hf2, hf3, hf4⟩ := bF5 N2.out
  go_upto_region 4 with (go_at_call 8; (with_reducible refine (tabardlaw14_copied.calls a0_0 _ _ l1 _ _ l2 a0_3 a0_4 a0_0 l1 l2 a0_3 a0_4 _ ?s0 C1.out ?s1 C2.out HCOP.out).mono ?_); (case s0 => exact Kd.C_below H1.out HB.out); (case s1 => exact Kd.C_below H2.out HB.out); rintro _ wc ⟨vm1, vm2, rfl, h1, h2, hb⟩; obtain ⟨Am1, cm1, em1⟩ := Kd.R_slice h1; obtain ⟨Am2, cm2, em2⟩ := Kd.R_slice h2; subst em1 em2; have RM1 := Aside0.mk (Kd.R_lower h1 (below_size HB.out)); have RM2 := Aside0.mk (Kd.R_lower h2 (below_size HB.out)); replace N2 := Aside0.mk (blk_below N2.out hb); replace HB := Aside0.mk (below_step HB.out hb); clear h1 h2 hb hz0 hz1 hz2 hz3 hz4 hf0 hf1 hf2 hf3 hf4; obtain ⟨hz0, hz1, hz2, hz3, hz4, hf0, hf1, hf2, hf3, hf4⟩ := bF5 N2.out)
  clear hz0 hz1 hz2 hz3 hz4 hf0 hf1 hf2 hf3 hf4
  have gr0 := World.grownBy.refl wc (some g2)
  have gr1 := grown_on gr0 0 (.int .i64 a0_0)
  have gr2 := grown_on gr1 1 (.slice Am1 l1.length cm1)
  have gr3 := grown_on gr2 2 (.slice Am2 l2.length cm2)
  have gr4 := grown_on gr3 3 (.int .i64 a0_3)
  have gr5 := grown_on gr4 4 (.int .i64 a0_4)
  have hKX := (blk_put (blk_put (blk_put (blk_put (blk_put N2.out 0 (.int .i64 a0_0) rfl) 1 (.slice Am1 l1.length cm1) rfl) 2 (.slice Am2 l2.length cm2) rfl) 3 (.int .i64 a0_3) rfl) 4 (.int .i64 a0_4) rfl)
  have TYX : ∀ k, some g2 = some k → ∃ cells, wc.heap[k]? = some (.cells cells 26 (0, 0)) := fun k e => by obtain rfl := Option.some.inj e; exact ⟨_, N2.out⟩
  generalize (((((wc.setCell ⟨g2, 0, none⟩ (.int .i64 a0_0)).setCell ⟨g2, 1, none⟩ (.slice Am1 l1.length cm1)).setCell ⟨g2, 2, none⟩ (.slice Am2 l2.length cm2)).setCell ⟨g2, 3, none⟩ (.int .i64 a0_3)).setCell ⟨g2, 4, none⟩ (.int .i64 a0_4)) = w1 at gr5 hKX ⊢
  replace HB := Aside0.mk (pw_below_grown HB.out (some g2) (below_size HB.out) gr5 (fun k e => by obtain rfl := Option.some.inj e; exact LO2.out))
  replace RM1 := Aside0.mk (R_off RM1.out gr5 (fun g e _ => Off.typed (T := [9]) TYX (by decide) g e))
  replace RM2 := Aside0.mk (R_off RM2.out gr5 (fun g e _ => Off.typed (T := [2]) TYX (by decide) g e))
  replace N2 := Aside0.mk hKX
  clear hKX TYX gr0 gr1 gr2 gr3 gr4 gr5
  obtain ⟨hz0, hz1, hz2, hz3, hz4, hf0, hf1, hf2, hf3, hf4⟩ := bF5 N2.out
  go_upto_region 5 with (fail)
  clear hz0 hz1 hz2 hz3 hz4 hf0 hf1 hf2 hf3 hf4
  have gr0 := World.grownBy.refl w1 (some g2)
  have gr1 := grown_on gr0 0 (.int .i64 0)
  have gr2 := grown_on gr1 4 (.int .i64 0)
  have hKX := (blk_put (blk_put N2.out 0 (.int .i64 0) rfl) 4 (.int .i64 0) rfl)
  have TYX : ∀ k, some g2 = some k → ∃ cells, w1.heap[k]? = some (.cells cells 26 (0, 0)) := fun k e => by obtain rfl := Option.some.inj e; exact ⟨_, N2.out⟩
  generalize ((w1.setCell ⟨g2, 0, none⟩ (.int .i64 0)).setCell ⟨g2, 4, none⟩ (.int .i64 0)) = w2 at gr2 hKX ⊢
  replace HB := Aside0.mk (pw_below_grown HB.out (some g2) (below_size HB.out) gr2 (fun k e => by obtain rfl := Option.some.inj e; exact LO2.out))
  replace RM1 := Aside0.mk (R_off RM1.out gr2 (fun g e _ => Off.typed (T := [9]) TYX (by decide) g e))
  replace RM2 := Aside0.mk (R_off RM2.out gr2 (fun g e _ => Off.typed (T := [2]) TYX (by decide) g e))
  replace N2 := Aside0.mk hKX
  clear hKX TYX gr0 gr1 gr2
  obtain ⟨hz0, hz1, hz2, hz3, hz4, _, _, _, _, _⟩ := bF5 N2.out
  go_upto_region 6 with (first
    | (go_at_call 8; (with_reducible refine (tabardlaw14_copied.calls 0 _ _ l1 _ _ l2 a0_3 0 0 l1 l2 a0_3 0 _ (Kd.R_reads' RM1.out).2.2 (Kd.R_reads' RM1.out).2.1 (Kd.R_reads' RM2.out).2.2 (Kd.R_reads' RM2.out).2.1 HCOP0.out).mono ?_); rintro _ wp ⟨p1, p2, rfl, h1, h2, hb⟩; obtain ⟨ARP1, cRP1, eRP1⟩ := Kd.R_slice h1; subst eRP1; obtain ⟨ARP2, cRP2, eRP2⟩ := Kd.R_slice h2; subst eRP2; have RP1 := Aside0.mk (Kd.R_lower h1 (below_size HB.out)); have RP2 := Aside0.mk (Kd.R_lower h2 (below_size HB.out)); have HBC := Aside0.mk hb; clear hb h1 h2)
    | (go_at_call 9; (with_reducible refine (atom_Raw.calls k 0 _ _ l1 _ _ l2 a0_3 0 ta aa na ea _ (Kd.R_reads' RP1.out).2.2 (Kd.R_reads' RP1.out).2.1 (Kd.R_reads' RP2.out).2.2 (Kd.R_reads' RP2.out).2.1 HRA.out).mono ?_); rintro _ wc ⟨v1_, v2_, v3_, rfl, h1, h2, h3, hb⟩; obtain ⟨ARA1, cRA1, eRA1⟩ := Kd.R_slice h1; subst eRA1; obtain ⟨ARA2, cRA2, eRA2⟩ := Kd.R_slice h2; subst eRA2; obtain ⟨ARA3, cRA3, eRA3⟩ := Kd.R_slice (Kd.S_R h3); subst eRA3; have RA1 := Aside0.mk (Kd.R_lower h1 (below_size (below_step HB.out HBC.out))); have RA2 := Aside0.mk (Kd.R_lower h2 (below_size (below_step HB.out HBC.out))); have RA3 := Aside0.mk (S_low h3 (below_size (below_step HB.out HBC.out))); replace HBC := Aside0.mk (below_step HBC.out hb); clear hb h1 h2 h3)
    | ((with_reducible refine gate_dst (N := 5) rfl ?_); refine be_ (cs := #[.slice none 0 0, .slice none 0 0, .slice none 0 0]) (t := 31) ?_; intro g5 hg wd hbox hb; have KA := Aside0.mk hbox; have HG := Aside0.mk hg; have HBD := Aside0.mk hb; clear hb hbox hg; obtain ⟨pz0, pz1, pz2, pf0, pf1, pf2⟩ := bF3 KA.out))
  have le_ := Nat.le_of_eq HG.out.symm
  have hBX := (below_set (g := g5) (j := 2) (v := .slice ARA3 na.length cRA3) (below_set (g := g5) (j := 1) (v := .slice ARA2 aa.length cRA2) (below_set (g := g5) (j := 0) (v := .slice ARA1 ta.length cRA1) HBD.out le_) le_) le_)
  have hKX := (blk_put (blk_put (blk_put KA.out 0 (.slice ARA1 ta.length cRA1) rfl) 1 (.slice ARA2 aa.length cRA2) rfl) 2 (.slice ARA3 na.length cRA3) rfl)
  generalize (((wd.setCell ⟨g5, 0, none⟩ (.slice ARA1 ta.length cRA1)).setCell ⟨g5, 1, none⟩ (.slice ARA2 aa.length cRA2)).setCell ⟨g5, 2, none⟩ (.slice ARA3 na.length cRA3)) = w3 at hBX hKX ⊢
  have LOA := Aside0.mk (show w.heap.size ≤ g5 by rw [HG.out]; exact below_size (below_step HB.out HBC.out))
  have NEN2A := Aside0.mk (show g2 ≠ g5 by have h1 := blk_lt N2.out; have h2 := below_size HBC.out; have h3 := HG.out; omega)
  have b_ := below_step HBC.out hBX
  replace N2 := Aside0.mk (blk_below N2.out b_)
  replace HB := Aside0.mk (below_step HB.out b_)
  replace RM1 := Aside0.mk (Kd.R_below RM1.out b_)
  replace RM2 := Aside0.mk (Kd.R_below RM2.out b_)
  replace RA1 := Aside0.mk (Kd.R_below RA1.out hBX)
  replace RA2 := Aside0.mk (Kd.R_below RA2.out hBX)
  replace RA3 := Aside0.mk (Kd.S_below RA3.out hBX)
  replace KA := Aside0.mk hKX
  clear hBX hKX b_ le_ HG HBD HBC hz0 hz1 hz2 hz3 hz4 pz0 pz1 pz2 pf0 pf1 pf2
  clear RP1 RP2
  obtain ⟨hz0, hz1, hz2, hz3, hz4, _, _, _, _, _⟩ := bF5 N2.out
  go_upto_region 7 with (first
    | (go_at_call 15; (with_reducible refine (tabardlaw14_negated.calls k 0 _ _ l1 _ _ l2 a0_3 0 0 l1 l2' b' 0 okb _ (Kd.R_reads' RM1.out).2.2 (Kd.R_reads' RM1.out).2.1 (Kd.R_reads' RM2.out).2.2 (Kd.R_reads' RM2.out).2.1 HNG.out).mono ?_); rintro _ wc ⟨p1, p2, rfl, h1, h2, hb⟩; obtain ⟨ARG1, cRG1, eRG1⟩ := Kd.R_slice h1; subst eRG1; obtain ⟨ARG2, cRG2, eRG2⟩ := Kd.R_slice h2; subst eRG2; have RG1 := Aside0.mk (Kd.R_lower h1 (below_size HB.out)); have RG2 := Aside0.mk (Kd.R_lower h2 (below_size HB.out)); have HBC := Aside0.mk hb; clear hb h1 h2)
    | ((with_reducible refine gate_dst (N := 7) rfl ?_); refine be_ (cs := #[.int .i64 0, .slice none 0 0, .slice none 0 0, .int .i64 0, .int .i64 0]) (t := 26) ?_; intro g7 hg wd hbox hb; have KG := Aside0.mk hbox; have HG := Aside0.mk hg; have HBD := Aside0.mk hb; clear hb hbox hg; obtain ⟨pz0, pz1, pz2, pz3, pz4, pf0, pf1, pf2, pf3, pf4⟩ := bF5 KG.out))
  have le_ := Nat.le_of_eq HG.out.symm
  have hBX := (below_set (g := g7) (j := 4) (v := .int .i64 0) (below_set (g := g7) (j := 3) (v := .int .i64 b') (below_set (g := g7) (j := 2) (v := .slice ARG2 l2'.length cRG2) (below_set (g := g7) (j := 1) (v := .slice ARG1 l1.length cRG1) (below_set (g := g7) (j := 0) (v := .int .i64 0) HBD.out le_) le_) le_) le_) le_)
  have hKX := (blk_put (blk_put (blk_put (blk_put (blk_put KG.out 0 (.int .i64 0) rfl) 1 (.slice ARG1 l1.length cRG1) rfl) 2 (.slice ARG2 l2'.length cRG2) rfl) 3 (.int .i64 b') rfl) 4 (.int .i64 0) rfl)
  generalize (((((wd.setCell ⟨g7, 0, none⟩ (.int .i64 0)).setCell ⟨g7, 1, none⟩ (.slice ARG1 l1.length cRG1)).setCell ⟨g7, 2, none⟩ (.slice ARG2 l2'.length cRG2)).setCell ⟨g7, 3, none⟩ (.int .i64 b')).setCell ⟨g7, 4, none⟩ (.int .i64 0)) = w4 at hBX hKX ⊢
  have LOG := Aside0.mk (show w.heap.size ≤ g7 by rw [HG.out]; exact below_size (below_step HB.out HBC.out))
  have NEN2G := Aside0.mk (show g2 ≠ g7 by have h1 := blk_lt N2.out; have h2 := below_size HBC.out; have h3 := HG.out; omega)
  have NEKAG := Aside0.mk (show g5 ≠ g7 by have h1 := blk_lt KA.out; have h2 := below_size HBC.out; have h3 := HG.out; omega)
  have b_ := below_step HBC.out hBX
  replace N2 := Aside0.mk (blk_below N2.out b_)
  replace HB := Aside0.mk (below_step HB.out b_)
  replace RM1 := Aside0.mk (Kd.R_below RM1.out b_)
  replace RM2 := Aside0.mk (Kd.R_below RM2.out b_)
  replace RA1 := Aside0.mk (Kd.R_below RA1.out b_)
  replace RA2 := Aside0.mk (Kd.R_below RA2.out b_)
  replace RA3 := Aside0.mk (Kd.S_below RA3.out b_)
  replace KA := Aside0.mk (blk_below KA.out b_)
  replace RG1 := Aside0.mk (Kd.R_below RG1.out hBX)
  replace RG2 := Aside0.mk (Kd.R_below RG2.out hBX)
  replace KG := Aside0.mk hKX
  clear hBX hKX b_ le_ HG HBD HBC hz0 hz1 hz2 hz3 hz4 pz0 pz1 pz2 pz3 pz4 pf0 pf1 pf2 pf3 pf4
  obtain ⟨hz0, hz1, hz2, hz3, hz4, _, _, _, _, _⟩ := bF5 KG.out
  go_upto_region 8 with (first
    | (go_at_call 9; (with_reducible refine (atom_Raw.calls k 0 _ _ l1 _ _ l2' b' 0 tb ab nb eb _ (Kd.R_reads' RG1.out).2.2 (Kd.R_reads' RG1.out).2.1 (Kd.R_reads' RG2.out).2.2 (Kd.R_reads' RG2.out).2.1 HRB.out).mono ?_); rintro _ wc ⟨v1_, v2_, v3_, rfl, h1, h2, h3, hb⟩; obtain ⟨ARB1, cRB1, eRB1⟩ := Kd.R_slice h1; subst eRB1; obtain ⟨ARB2, cRB2, eRB2⟩ := Kd.R_slice h2; subst eRB2; obtain ⟨ARB3, cRB3, eRB3⟩ := Kd.R_slice (Kd.S_R h3); subst eRB3; have RB1 := Aside0.mk (Kd.R_lower h1 (below_size HB.out)); have RB2 := Aside0.mk (Kd.R_lower h2 (below_size HB.out)); have RB3 := Aside0.mk (S_low h3 (below_size HB.out)); have HBC := Aside0.mk hb; clear hb h1 h2 h3)
    | ((with_reducible refine gate_dst (N := 9) rfl ?_); refine be_ (cs := #[.slice none 0 0, .slice none 0 0, .slice none 0 0]) (t := 31) ?_; intro g9 hg wd hbox hb; have KB := Aside0.mk hbox; have HG := Aside0.mk hg; have HBD := Aside0.mk hb; clear hb hbox hg; obtain ⟨pz0, pz1, pz2, pf0, pf1, pf2⟩ := bF3 KB.out))
  have le_ := Nat.le_of_eq HG.out.symm
  have hBX := (below_set (g := g9) (j := 2) (v := .slice ARB3 nb.length cRB3) (below_set (g := g9) (j := 1) (v := .slice ARB2 ab.length cRB2) (below_set (g := g9) (j := 0) (v := .slice ARB1 tb.length cRB1) HBD.out le_) le_) le_)
  have hKX := (blk_put (blk_put (blk_put KB.out 0 (.slice ARB1 tb.length cRB1) rfl) 1 (.slice ARB2 ab.length cRB2) rfl) 2 (.slice ARB3 nb.length cRB3) rfl)
  generalize (((wd.setCell ⟨g9, 0, none⟩ (.slice ARB1 tb.length cRB1)).setCell ⟨g9, 1, none⟩ (.slice ARB2 ab.length cRB2)).setCell ⟨g9, 2, none⟩ (.slice ARB3 nb.length cRB3)) = w5 at hBX hKX ⊢
  have LOB := Aside0.mk (show w.heap.size ≤ g9 by rw [HG.out]; exact below_size (below_step HB.out HBC.out))
  have NEN2B := Aside0.mk (show g2 ≠ g9 by have h1 := blk_lt N2.out; have h2 := below_size HBC.out; have h3 := HG.out; omega)
  have NEKAB := Aside0.mk (show g5 ≠ g9 by have h1 := blk_lt KA.out; have h2 := below_size HBC.out; have h3 := HG.out; omega)
  have NEKGB := Aside0.mk (show g7 ≠ g9 by have h1 := blk_lt KG.out; have h2 := below_size HBC.out; have h3 := HG.out; omega)
  have b_ := below_step HBC.out hBX
  replace N2 := Aside0.mk (blk_below N2.out b_)
  replace HB := Aside0.mk (below_step HB.out b_)
  replace RM1 := Aside0.mk (Kd.R_below RM1.out b_)
  replace RM2 := Aside0.mk (Kd.R_below RM2.out b_)
  replace RA1 := Aside0.mk (Kd.R_below RA1.out b_)
  replace RA2 := Aside0.mk (Kd.R_below RA2.out b_)
  replace RA3 := Aside0.mk (Kd.S_below RA3.out b_)
  replace KA := Aside0.mk (blk_below KA.out b_)
  replace RG1 := Aside0.mk (Kd.R_below RG1.out b_)
  replace RG2 := Aside0.mk (Kd.R_below RG2.out b_)
  replace KG := Aside0.mk (blk_below KG.out b_)
  replace RB1 := Aside0.mk (Kd.R_below RB1.out hBX)
  replace RB2 := Aside0.mk (Kd.R_below RB2.out hBX)
  replace RB3 := Aside0.mk (Kd.S_below RB3.out hBX)
  replace KB := Aside0.mk hKX
  clear hBX hKX b_ le_ HG HBD HBC hz0 hz1 hz2 hz3 hz4 pz0 pz1 pz2 pf0 pf1 pf2
  by_cases hea : ea = 0
  case neg =>
    have e1 : (ea != 0) = true := by simpa using hea
    clear hea
    go_wp2
    go_ret
    exact ⟨rfl, HB.out⟩
  case pos =>
  by_cases heb : eb = 0
  case neg =>
    subst hea
    have e1 : (eb != 0) = true := by simpa using heb
    clear heb
    go_wp2
    go_ret
    exact ⟨rfl, HB.out⟩
  case pos =>
  cases okb with
  | false =>
    subst hea heb
    go_wp2
    go_ret
    exact ⟨rfl, HB.out⟩
  | true =>
  subst hea heb
  obtain ⟨hcm, hrc, hrq, hfl, hmn⟩ := HMAIN.out rfl rfl rfl
  have HCM := Aside0.mk hcm
  have HRC := Aside0.mk hrc
  have HRQ := Aside0.mk hrq
  have HFL := Aside0.mk hfl
  have HMN := Aside0.mk hmn
  clear hcm hrc hrq hfl hmn HMAIN
  go_upto_region 10 with (fail)
  obtain ⟨hz0, hz1, hz2, hz3, hz4, _, _, _, _, _⟩ := bF5 KG.out
  go_upto_region 11 with (first
    | (go_at_call 8; (with_reducible refine (tabardlaw14_copied.calls 0 _ _ l1 _ _ l2' b' 0 0 l1 l2' b' 0 _ (Kd.R_reads' RG1.out).2.2 (Kd.R_reads' RG1.out).2.1 (Kd.R_reads' RG2.out).2.2 (Kd.R_reads' RG2.out).2.1 HCM.out).mono ?_); rintro _ wc ⟨p1, p2, rfl, h1, h2, hb⟩; obtain ⟨ART1, cRT1, eRT1⟩ := Kd.R_slice h1; subst eRT1; obtain ⟨ART2, cRT2, eRT2⟩ := Kd.R_slice h2; subst eRT2; have RT1 := Aside0.mk (Kd.R_lower h1 (below_size HB.out)); have RT2 := Aside0.mk (Kd.R_lower h2 (below_size HB.out)); have HBC := Aside0.mk hb; clear hb h1 h2)
    | ((with_reducible refine gate_dst (N := 11) rfl ?_); refine be_ (cs := #[.int .i64 0, .slice none 0 0, .slice none 0 0, .int .i64 0, .int .i64 0]) (t := 26) ?_; intro g11 hg wd hbox hb; have KT := Aside0.mk hbox; have HG := Aside0.mk hg; have HBD := Aside0.mk hb; clear hb hbox hg; obtain ⟨pz0, pz1, pz2, pz3, pz4, pf0, pf1, pf2, pf3, pf4⟩ := bF5 KT.out))
  have le_ := Nat.le_of_eq HG.out.symm
  have hBX := (below_set (g := g11) (j := 4) (v := .int .i64 0) (below_set (g := g11) (j := 3) (v := .int .i64 b') (below_set (g := g11) (j := 2) (v := .slice ART2 l2'.length cRT2) (below_set (g := g11) (j := 1) (v := .slice ART1 l1.length cRT1) (below_set (g := g11) (j := 0) (v := .int .i64 0) HBD.out le_) le_) le_) le_) le_)
  have hKX := (blk_put (blk_put (blk_put (blk_put (blk_put KT.out 0 (.int .i64 0) rfl) 1 (.slice ART1 l1.length cRT1) rfl) 2 (.slice ART2 l2'.length cRT2) rfl) 3 (.int .i64 b') rfl) 4 (.int .i64 0) rfl)
  generalize (((((wd.setCell ⟨g11, 0, none⟩ (.int .i64 0)).setCell ⟨g11, 1, none⟩ (.slice ART1 l1.length cRT1)).setCell ⟨g11, 2, none⟩ (.slice ART2 l2'.length cRT2)).setCell ⟨g11, 3, none⟩ (.int .i64 b')).setCell ⟨g11, 4, none⟩ (.int .i64 0)) = w6 at hBX hKX ⊢
  have LOT := Aside0.mk (show w.heap.size ≤ g11 by rw [HG.out]; exact below_size (below_step HB.out HBC.out))
  have NEN2T := Aside0.mk (show g2 ≠ g11 by have h1 := blk_lt N2.out; have h2 := below_size HBC.out; have h3 := HG.out; omega)
  have NEKAT := Aside0.mk (show g5 ≠ g11 by have h1 := blk_lt KA.out; have h2 := below_size HBC.out; have h3 := HG.out; omega)
  have NEKGT := Aside0.mk (show g7 ≠ g11 by have h1 := blk_lt KG.out; have h2 := below_size HBC.out; have h3 := HG.out; omega)
  have NEKBT := Aside0.mk (show g9 ≠ g11 by have h1 := blk_lt KB.out; have h2 := below_size HBC.out; have h3 := HG.out; omega)
  have b_ := below_step HBC.out hBX
  replace N2 := Aside0.mk (blk_below N2.out b_)
  replace HB := Aside0.mk (below_step HB.out b_)
  replace RM1 := Aside0.mk (Kd.R_below RM1.out b_)
  replace RM2 := Aside0.mk (Kd.R_below RM2.out b_)
  replace RA1 := Aside0.mk (Kd.R_below RA1.out b_)
  replace RA2 := Aside0.mk (Kd.R_below RA2.out b_)
  replace RA3 := Aside0.mk (Kd.S_below RA3.out b_)
  replace KA := Aside0.mk (blk_below KA.out b_)
  replace RG1 := Aside0.mk (Kd.R_below RG1.out b_)
  replace RG2 := Aside0.mk (Kd.R_below RG2.out b_)
  replace KG := Aside0.mk (blk_below KG.out b_)
  replace RB1 := Aside0.mk (Kd.R_below RB1.out b_)
  replace RB2 := Aside0.mk (Kd.R_below RB2.out b_)
  replace RB3 := Aside0.mk (Kd.S_below RB3.out b_)
  replace KB := Aside0.mk (blk_below KB.out b_)
  replace RT1 := Aside0.mk (Kd.R_below RT1.out hBX)
  replace RT2 := Aside0.mk (Kd.R_below RT2.out hBX)
  replace KT := Aside0.mk hKX
  clear hBX hKX b_ le_ HG HBD HBC hz0 hz1 hz2 hz3 hz4 pz0 pz1 pz2 pz3 pz4 pf0 pf1 pf2 pf3 pf4
  obtain ⟨hz0, hz1, hz2, hz3, hz4, _, _, _, _, _⟩ := bF5 N2.out
  obtain ⟨pz0, pz1, pz2, pz3, pz4, pf0, pf1, pf2, pf3, pf4⟩ := bF5 KT.out
  go_upto_region 12 with (fail)
  clear hz0 hz1 hz2 hz3 hz4 pz0 pz1 pz2 pz3 pz4 pf0 pf1 pf2 pf3 pf4
  have gr0 := World.grownBy.refl w6 (some g11)
  have gr1 := grown_on gr0 3 (.int .i64 (wrap64 (-a0_3)))
  have hKX := (blk_put KT.out 3 (.int .i64 (wrap64 (-a0_3))) rfl)
  have TYX : ∀ k, some g11 = some k → ∃ cells, w6.heap[k]? = some (.cells cells 26 (0, 0)) := fun k e => by obtain rfl := Option.some.inj e; exact ⟨_, KT.out⟩
  generalize (w6.setCell ⟨g11, 3, none⟩ (.int .i64 (wrap64 (-a0_3)))) = w7 at gr1 hKX ⊢
  replace N2 := Aside0.mk (blk_grown N2.out gr1 (fun e => NEN2T.out (Option.some.inj e)))
  replace HB := Aside0.mk (pw_below_grown HB.out (some g11) (below_size HB.out) gr1 (fun k e => by obtain rfl := Option.some.inj e; exact LOT.out))
  replace RM1 := Aside0.mk (R_off RM1.out gr1 (fun g e _ => Off.typed (T := [9]) TYX (by decide) g e))
  replace RM2 := Aside0.mk (R_off RM2.out gr1 (fun g e _ => Off.typed (T := [2]) TYX (by decide) g e))
  replace RA1 := Aside0.mk (R_off RA1.out gr1 (fun g e _ => Off.typed (T := [9]) TYX (by decide) g e))
  replace RA2 := Aside0.mk (R_off RA2.out gr1 (fun g e _ => Off.typed (T := [4]) TYX (by decide) g e))
  replace RA3 := Aside0.mk (S_off RA3.out gr1 (fun g e _ => Off.typed (T := [42, 3]) TYX (by decide) g e))
  replace KA := Aside0.mk (blk_grown KA.out gr1 (fun e => NEKAT.out (Option.some.inj e)))
  replace RG1 := Aside0.mk (R_off RG1.out gr1 (fun g e _ => Off.typed (T := [9]) TYX (by decide) g e))
  replace RG2 := Aside0.mk (R_off RG2.out gr1 (fun g e _ => Off.typed (T := [2]) TYX (by decide) g e))
  replace KG := Aside0.mk (blk_grown KG.out gr1 (fun e => NEKGT.out (Option.some.inj e)))
  replace RB1 := Aside0.mk (R_off RB1.out gr1 (fun g e _ => Off.typed (T := [9]) TYX (by decide) g e))
  replace RB2 := Aside0.mk (R_off RB2.out gr1 (fun g e _ => Off.typed (T := [4]) TYX (by decide) g e))
  replace RB3 := Aside0.mk (S_off RB3.out gr1 (fun g e _ => Off.typed (T := [42, 3]) TYX (by decide) g e))
  replace KB := Aside0.mk (blk_grown KB.out gr1 (fun e => NEKBT.out (Option.some.inj e)))
  replace RT1 := Aside0.mk (R_off RT1.out gr1 (fun g e _ => Off.typed (T := [9]) TYX (by decide) g e))
  replace RT2 := Aside0.mk (R_off RT2.out gr1 (fun g e _ => Off.typed (T := [2]) TYX (by decide) g e))
  replace KT := Aside0.mk hKX
  clear hKX TYX gr0 gr1
  obtain ⟨hz0, hz1, hz2, hz3, hz4, _, _, _, _, _⟩ := bF5 KT.out
  go_upto_region 13 with (first
    | (go_at_call 9; (with_reducible refine (atom_Raw.calls k 0 _ _ l1 _ _ l2' (wrap64 (-a0_3)) 0 tc ac nc ec _ (Kd.R_reads' RT1.out).2.2 (Kd.R_reads' RT1.out).2.1 (Kd.R_reads' RT2.out).2.2 (Kd.R_reads' RT2.out).2.1 HRC.out).mono ?_); rintro _ wc ⟨v1_, v2_, v3_, rfl, h1, h2, h3, hb⟩; obtain ⟨ARC1, cRC1, eRC1⟩ := Kd.R_slice h1; subst eRC1; obtain ⟨ARC2, cRC2, eRC2⟩ := Kd.R_slice h2; subst eRC2; obtain ⟨ARC3, cRC3, eRC3⟩ := Kd.R_slice (Kd.S_R h3); subst eRC3; have RC1 := Aside0.mk (Kd.R_lower h1 (below_size HB.out)); have RC2 := Aside0.mk (Kd.R_lower h2 (below_size HB.out)); have RC3 := Aside0.mk (S_low h3 (below_size HB.out)); have HBC := Aside0.mk hb; clear hb h1 h2 h3)
    | ((with_reducible refine gate_dst (N := 12) rfl ?_); refine be_ (cs := #[.slice none 0 0, .slice none 0 0, .slice none 0 0]) (t := 31) ?_; intro g12 hg wd hbox hb; have KC := Aside0.mk hbox; have HG := Aside0.mk hg; have HBD := Aside0.mk hb; clear hb hbox hg; obtain ⟨pz0, pz1, pz2, pf0, pf1, pf2⟩ := bF3 KC.out))
  have le_ := Nat.le_of_eq HG.out.symm
  have hBX := (below_set (g := g12) (j := 2) (v := .slice ARC3 nc.length cRC3) (below_set (g := g12) (j := 1) (v := .slice ARC2 ac.length cRC2) (below_set (g := g12) (j := 0) (v := .slice ARC1 tc.length cRC1) HBD.out le_) le_) le_)
  have hKX := (blk_put (blk_put (blk_put KC.out 0 (.slice ARC1 tc.length cRC1) rfl) 1 (.slice ARC2 ac.length cRC2) rfl) 2 (.slice ARC3 nc.length cRC3) rfl)
  generalize (((wd.setCell ⟨g12, 0, none⟩ (.slice ARC1 tc.length cRC1)).setCell ⟨g12, 1, none⟩ (.slice ARC2 ac.length cRC2)).setCell ⟨g12, 2, none⟩ (.slice ARC3 nc.length cRC3)) = w8 at hBX hKX ⊢
  have LOC := Aside0.mk (show w.heap.size ≤ g12 by rw [HG.out]; exact below_size (below_step HB.out HBC.out))
  have NEN2C := Aside0.mk (show g2 ≠ g12 by have h1 := blk_lt N2.out; have h2 := below_size HBC.out; have h3 := HG.out; omega)
  have NEKAC := Aside0.mk (show g5 ≠ g12 by have h1 := blk_lt KA.out; have h2 := below_size HBC.out; have h3 := HG.out; omega)
  have NEKGC := Aside0.mk (show g7 ≠ g12 by have h1 := blk_lt KG.out; have h2 := below_size HBC.out; have h3 := HG.out; omega)
  have NEKBC := Aside0.mk (show g9 ≠ g12 by have h1 := blk_lt KB.out; have h2 := below_size HBC.out; have h3 := HG.out; omega)
  have NEKTC := Aside0.mk (show g11 ≠ g12 by have h1 := blk_lt KT.out; have h2 := below_size HBC.out; have h3 := HG.out; omega)
  have b_ := below_step HBC.out hBX
  replace N2 := Aside0.mk (blk_below N2.out b_)
  replace HB := Aside0.mk (below_step HB.out b_)
  replace RM1 := Aside0.mk (Kd.R_below RM1.out b_)
  replace RM2 := Aside0.mk (Kd.R_below RM2.out b_)
  replace RA1 := Aside0.mk (Kd.R_below RA1.out b_)
  replace RA2 := Aside0.mk (Kd.R_below RA2.out b_)
  replace RA3 := Aside0.mk (Kd.S_below RA3.out b_)
  replace KA := Aside0.mk (blk_below KA.out b_)
  replace RG1 := Aside0.mk (Kd.R_below RG1.out b_)
  replace RG2 := Aside0.mk (Kd.R_below RG2.out b_)
  replace KG := Aside0.mk (blk_below KG.out b_)
  replace RB1 := Aside0.mk (Kd.R_below RB1.out b_)
  replace RB2 := Aside0.mk (Kd.R_below RB2.out b_)
  replace RB3 := Aside0.mk (Kd.S_below RB3.out b_)
  replace KB := Aside0.mk (blk_below KB.out b_)
  replace RT1 := Aside0.mk (Kd.R_below RT1.out b_)
  replace RT2 := Aside0.mk (Kd.R_below RT2.out b_)
  replace KT := Aside0.mk (blk_below KT.out b_)
  replace RC1 := Aside0.mk (Kd.R_below RC1.out hBX)
  replace RC2 := Aside0.mk (Kd.R_below RC2.out hBX)
  replace RC3 := Aside0.mk (Kd.S_below RC3.out hBX)
  replace KC := Aside0.mk hKX
  clear hBX hKX b_ le_ HG HBD HBC hz0 hz1 hz2 hz3 hz4 pz0 pz1 pz2 pf0 pf1 pf2
  obtain ⟨pz0, pz1, pz2, pz3, pz4, pf0, pf1, pf2, pf3, pf4⟩ := bF5 N2.out
  go_upto_region 14 with (fail)
  clear pz0 pz1 pz2 pz3 pz4 pf0 pf1 pf2 pf3 pf4
  have gr0 := World.grownBy.refl w8 (some g2)
  have gr1 := grown_on gr0 0 (.int .i64 1)
  have hKX := (blk_put N2.out 0 (.int .i64 1) rfl)
  have TYX : ∀ k, some g2 = some k → ∃ cells, w8.heap[k]? = some (.cells cells 26 (0, 0)) := fun k e => by obtain rfl := Option.some.inj e; exact ⟨_, N2.out⟩
  generalize (w8.setCell ⟨g2, 0, none⟩ (.int .i64 1)) = w9 at gr1 hKX ⊢
  replace HB := Aside0.mk (pw_below_grown HB.out (some g2) (below_size HB.out) gr1 (fun k e => by obtain rfl := Option.some.inj e; exact LO2.out))
  replace RM1 := Aside0.mk (R_off RM1.out gr1 (fun g e _ => Off.typed (T := [9]) TYX (by decide) g e))
  replace RM2 := Aside0.mk (R_off RM2.out gr1 (fun g e _ => Off.typed (T := [2]) TYX (by decide) g e))
  replace RA1 := Aside0.mk (R_off RA1.out gr1 (fun g e _ => Off.typed (T := [9]) TYX (by decide) g e))
  replace RA2 := Aside0.mk (R_off RA2.out gr1 (fun g e _ => Off.typed (T := [4]) TYX (by decide) g e))
  replace RA3 := Aside0.mk (S_off RA3.out gr1 (fun g e _ => Off.typed (T := [42, 3]) TYX (by decide) g e))
  replace KA := Aside0.mk (blk_grown KA.out gr1 (fun e => NEN2A.out (Option.some.inj e).symm))
  replace RG1 := Aside0.mk (R_off RG1.out gr1 (fun g e _ => Off.typed (T := [9]) TYX (by decide) g e))
  replace RG2 := Aside0.mk (R_off RG2.out gr1 (fun g e _ => Off.typed (T := [2]) TYX (by decide) g e))
  replace KG := Aside0.mk (blk_grown KG.out gr1 (fun e => NEN2G.out (Option.some.inj e).symm))
  replace RB1 := Aside0.mk (R_off RB1.out gr1 (fun g e _ => Off.typed (T := [9]) TYX (by decide) g e))
  replace RB2 := Aside0.mk (R_off RB2.out gr1 (fun g e _ => Off.typed (T := [4]) TYX (by decide) g e))
  replace RB3 := Aside0.mk (S_off RB3.out gr1 (fun g e _ => Off.typed (T := [42, 3]) TYX (by decide) g e))
  replace KB := Aside0.mk (blk_grown KB.out gr1 (fun e => NEN2B.out (Option.some.inj e).symm))
  replace RT1 := Aside0.mk (R_off RT1.out gr1 (fun g e _ => Off.typed (T := [9]) TYX (by decide) g e))
  replace RT2 := Aside0.mk (R_off RT2.out gr1 (fun g e _ => Off.typed (T := [2]) TYX (by decide) g e))
  replace KT := Aside0.mk (blk_grown KT.out gr1 (fun e => NEN2T.out (Option.some.inj e).symm))
  replace RC1 := Aside0.mk (R_off RC1.out gr1 (fun g e _ => Off.typed (T := [9]) TYX (by decide) g e))
  replace RC2 := Aside0.mk (R_off RC2.out gr1 (fun g e _ => Off.typed (T := [4]) TYX (by decide) g e))
  replace RC3 := Aside0.mk (S_off RC3.out gr1 (fun g e _ => Off.typed (T := [42, 3]) TYX (by decide) g e))
  replace KC := Aside0.mk (blk_grown KC.out gr1 (fun e => NEN2C.out (Option.some.inj e).symm))
  replace N2 := Aside0.mk hKX
  clear hKX TYX gr0 gr1
  obtain ⟨hz0, hz1, hz2, hz3, hz4, _, _, _, _, _⟩ := bF5 N2.out
  go_upto_region 15 with (first
    | (go_at_call 9; (with_reducible refine (atom_Raw.calls k 1 _ _ l1 _ _ l2 a0_3 0 tq aq nq eq_ _ (Kd.R_reads' RM1.out).2.2 (Kd.R_reads' RM1.out).2.1 (Kd.R_reads' RM2.out).2.2 (Kd.R_reads' RM2.out).2.1 HRQ.out).mono ?_); rintro _ wc ⟨v1_, v2_, v3_, rfl, h1, h2, h3, hb⟩; obtain ⟨ARQ1, cRQ1, eRQ1⟩ := Kd.R_slice h1; subst eRQ1; obtain ⟨ARQ2, cRQ2, eRQ2⟩ := Kd.R_slice h2; subst eRQ2; obtain ⟨ARQ3, cRQ3, eRQ3⟩ := Kd.R_slice (Kd.S_R h3); subst eRQ3; have RQ1 := Aside0.mk (Kd.R_lower h1 (below_size HB.out)); have RQ2 := Aside0.mk (Kd.R_lower h2 (below_size HB.out)); have RQ3 := Aside0.mk (S_low h3 (below_size HB.out)); have HBC := Aside0.mk hb; clear hb h1 h2 h3)
    | ((with_reducible refine gate_dst (N := 14) rfl ?_); refine be_ (cs := #[.slice none 0 0, .slice none 0 0, .slice none 0 0]) (t := 31) ?_; intro g14 hg wd hbox hb; have KQ := Aside0.mk hbox; have HG := Aside0.mk hg; have HBD := Aside0.mk hb; clear hb hbox hg; obtain ⟨pz0, pz1, pz2, pf0, pf1, pf2⟩ := bF3 KQ.out))
  have le_ := Nat.le_of_eq HG.out.symm
  have hBX := (below_set (g := g14) (j := 2) (v := .slice ARQ3 nq.length cRQ3) (below_set (g := g14) (j := 1) (v := .slice ARQ2 aq.length cRQ2) (below_set (g := g14) (j := 0) (v := .slice ARQ1 tq.length cRQ1) HBD.out le_) le_) le_)
  have hKX := (blk_put (blk_put (blk_put KQ.out 0 (.slice ARQ1 tq.length cRQ1) rfl) 1 (.slice ARQ2 aq.length cRQ2) rfl) 2 (.slice ARQ3 nq.length cRQ3) rfl)
  generalize (((wd.setCell ⟨g14, 0, none⟩ (.slice ARQ1 tq.length cRQ1)).setCell ⟨g14, 1, none⟩ (.slice ARQ2 aq.length cRQ2)).setCell ⟨g14, 2, none⟩ (.slice ARQ3 nq.length cRQ3)) = w10 at hBX hKX ⊢
  have LOQ := Aside0.mk (show w.heap.size ≤ g14 by rw [HG.out]; exact below_size (below_step HB.out HBC.out))
  have NEN2Q := Aside0.mk (show g2 ≠ g14 by have h1 := blk_lt N2.out; have h2 := below_size HBC.out; have h3 := HG.out; omega)
  have NEKAQ := Aside0.mk (show g5 ≠ g14 by have h1 := blk_lt KA.out; have h2 := below_size HBC.out; have h3 := HG.out; omega)
  have NEKGQ := Aside0.mk (show g7 ≠ g14 by have h1 := blk_lt KG.out; have h2 := below_size HBC.out; have h3 := HG.out; omega)
  have NEKBQ := Aside0.mk (show g9 ≠ g14 by have h1 := blk_lt KB.out; have h2 := below_size HBC.out; have h3 := HG.out; omega)
  have NEKTQ := Aside0.mk (show g11 ≠ g14 by have h1 := blk_lt KT.out; have h2 := below_size HBC.out; have h3 := HG.out; omega)
  have NEKCQ := Aside0.mk (show g12 ≠ g14 by have h1 := blk_lt KC.out; have h2 := below_size HBC.out; have h3 := HG.out; omega)
  have b_ := below_step HBC.out hBX
  replace N2 := Aside0.mk (blk_below N2.out b_)
  replace HB := Aside0.mk (below_step HB.out b_)
  replace RM1 := Aside0.mk (Kd.R_below RM1.out b_)
  replace RM2 := Aside0.mk (Kd.R_below RM2.out b_)
  replace RA1 := Aside0.mk (Kd.R_below RA1.out b_)
  replace RA2 := Aside0.mk (Kd.R_below RA2.out b_)
  replace RA3 := Aside0.mk (Kd.S_below RA3.out b_)
  replace KA := Aside0.mk (blk_below KA.out b_)
  replace RG1 := Aside0.mk (Kd.R_below RG1.out b_)
  replace RG2 := Aside0.mk (Kd.R_below RG2.out b_)
  replace KG := Aside0.mk (blk_below KG.out b_)
  replace RB1 := Aside0.mk (Kd.R_below RB1.out b_)
  replace RB2 := Aside0.mk (Kd.R_below RB2.out b_)
  replace RB3 := Aside0.mk (Kd.S_below RB3.out b_)
  replace KB := Aside0.mk (blk_below KB.out b_)
  replace RT1 := Aside0.mk (Kd.R_below RT1.out b_)
  replace RT2 := Aside0.mk (Kd.R_below RT2.out b_)
  replace KT := Aside0.mk (blk_below KT.out b_)
  replace RC1 := Aside0.mk (Kd.R_below RC1.out b_)
  replace RC2 := Aside0.mk (Kd.R_below RC2.out b_)
  replace RC3 := Aside0.mk (Kd.S_below RC3.out b_)
  replace KC := Aside0.mk (blk_below KC.out b_)
  replace RQ1 := Aside0.mk (Kd.R_below RQ1.out hBX)
  replace RQ2 := Aside0.mk (Kd.R_below RQ2.out hBX)
  replace RQ3 := Aside0.mk (Kd.S_below RQ3.out hBX)
  replace KQ := Aside0.mk hKX
  clear hBX hKX b_ le_ HG HBD HBC hz0 hz1 hz2 hz3 hz4 pz0 pz1 pz2 pf0 pf1 pf2
  have TN := Aside0.mk (show Tn w w10 g5 g9 g12 g14 _ _ _ _ _ _ _ _ _ _ _ _ ta aa na tb ab nb tc ac nc tq aq nq from ⟨HB.out, KA.out, RA1.out, RA2.out, RA3.out, KB.out, RB1.out, RB2.out, RB3.out, KC.out, RC1.out, RC2.out, RC3.out, KQ.out, RQ1.out, RQ2.out, RQ3.out⟩)
  clear HB KA RA1 RA2 RA3 KB RB1 RB2 RB3 KC RC1 RC2 RC3 KQ RQ1 RQ2 RQ3 N2 RM1 RM2 KG RG1 RG2 KT RT1 RT2 HCM HRC HRQ HRA HRB HNG HCOP HCOP0 HF
  by_cases hec : ec = 0
  case neg =>
    have e1 : (ec != 0) = true := by simpa using hec
    clear hec
    go_wp2
    go_ret
    exact ⟨rfl, TN.out.bel⟩
  case pos =>
  by_cases heq : eq_ = 0
  case neg =>
    obtain rfl := HFL.out hec heq
    subst hec
    go_wp2
    go_ret
    exact ⟨rfl, TN.out.bel⟩
  case pos =>
  obtain ⟨q1, q2, q3, q4, q5, q6, q7, hws⟩ := HMN.out hec heq
  subst hec heq
  have Q1 := Aside0.mk q1
  have Q2 := Aside0.mk q2
  have Q3 := Aside0.mk q3
  have Q4 := Aside0.mk q4
  have HWS := Aside0.mk hws
  have b1 : ((tb.length : Int) != (ta.length : Int)) = false := by rw [q5]; simp
  have b2 : ((tc.length : Int) != (ta.length : Int)) = false := by rw [q6]; simp
  have b3 : ((tq.length : Int) != (ta.length : Int)) = false := by rw [q7]; simp
  clear q1 q2 q3 q4 q5 q6 q7 hws HMN HFL
  obtain ⟨az0, az1, az2, _, _, _⟩ := bF3 TN.out.ka
  obtain ⟨bz0, bz1, bz2, _, _, _⟩ := bF3 TN.out.kb
  obtain ⟨cz0, cz1, cz2, _, _, _⟩ := bF3 TN.out.kc
  obtain ⟨qz0, qz1, qz2, _, _, _⟩ := bF3 TN.out.kq
  go_upto_region 19 with (first
    | (go_at_call 16; (with_reducible refine (tabardref12_Right.calls k _ _ ta _ _ aa _ _ na true _ (Kd.R_reads' TN.out.a1).2.2 (Kd.R_reads' TN.out.a1).2.1 (Kd.R_reads' TN.out.a2).2.2 (Kd.R_reads' TN.out.a2).2.1 (Kd.R_reads' (Kd.S_R TN.out.a3)).2.2 (Kd.R_reads' (Kd.S_R TN.out.a3)).2.1 Q1.out).mono ?_); rintro _ wr_ ⟨rfl, hb⟩; replace TN := Aside0.mk (TN.out.kept hb); clear hb az0 az1 az2 bz0 bz1 bz2 cz0 cz1 cz2 qz0 qz1 qz2; obtain ⟨az0, az1, az2, _, _, _⟩ := bF3 TN.out.ka; obtain ⟨bz0, bz1, bz2, _, _, _⟩ := bF3 TN.out.kb; obtain ⟨cz0, cz1, cz2, _, _, _⟩ := bF3 TN.out.kc; obtain ⟨qz0, qz1, qz2, _, _, _⟩ := bF3 TN.out.kq)
    | (go_at_call 16; (with_reducible refine (tabardref12_Right.calls k _ _ tb _ _ ab _ _ nb true _ (Kd.R_reads' TN.out.b1).2.2 (Kd.R_reads' TN.out.b1).2.1 (Kd.R_reads' TN.out.b2).2.2 (Kd.R_reads' TN.out.b2).2.1 (Kd.R_reads' (Kd.S_R TN.out.b3)).2.2 (Kd.R_reads' (Kd.S_R TN.out.b3)).2.1 Q2.out).mono ?_); rintro _ wr_ ⟨rfl, hb⟩; replace TN := Aside0.mk (TN.out.kept hb); clear hb az0 az1 az2 bz0 bz1 bz2 cz0 cz1 cz2 qz0 qz1 qz2; obtain ⟨az0, az1, az2, _, _, _⟩ := bF3 TN.out.ka; obtain ⟨bz0, bz1, bz2, _, _, _⟩ := bF3 TN.out.kb; obtain ⟨cz0, cz1, cz2, _, _, _⟩ := bF3 TN.out.kc; obtain ⟨qz0, qz1, qz2, _, _, _⟩ := bF3 TN.out.kq)
    | (go_at_call 16; (with_reducible refine (tabardref12_Right.calls k _ _ tc _ _ ac _ _ nc true _ (Kd.R_reads' TN.out.c1).2.2 (Kd.R_reads' TN.out.c1).2.1 (Kd.R_reads' TN.out.c2).2.2 (Kd.R_reads' TN.out.c2).2.1 (Kd.R_reads' (Kd.S_R TN.out.c3)).2.2 (Kd.R_reads' (Kd.S_R TN.out.c3)).2.1 Q3.out).mono ?_); rintro _ wr_ ⟨rfl, hb⟩; replace TN := Aside0.mk (TN.out.kept hb); clear hb az0 az1 az2 bz0 bz1 bz2 cz0 cz1 cz2 qz0 qz1 qz2; obtain ⟨az0, az1, az2, _, _, _⟩ := bF3 TN.out.ka; obtain ⟨bz0, bz1, bz2, _, _, _⟩ := bF3 TN.out.kb; obtain ⟨cz0, cz1, cz2, _, _, _⟩ := bF3 TN.out.kc; obtain ⟨qz0, qz1, qz2, _, _, _⟩ := bF3 TN.out.kq)
    | (go_at_call 16; (with_reducible refine (tabardref12_Right.calls k _ _ tq _ _ aq _ _ nq true _ (Kd.R_reads' TN.out.q1).2.2 (Kd.R_reads' TN.out.q1).2.1 (Kd.R_reads' TN.out.q2).2.2 (Kd.R_reads' TN.out.q2).2.1 (Kd.R_reads' (Kd.S_R TN.out.q3)).2.2 (Kd.R_reads' (Kd.S_R TN.out.q3)).2.1 Q4.out).mono ?_); rintro _ wr_ ⟨rfl, hb⟩; replace TN := Aside0.mk (TN.out.kept hb); clear hb az0 az1 az2 bz0 bz1 bz2 cz0 cz1 cz2 qz0 qz1 qz2; obtain ⟨az0, az1, az2, _, _, _⟩ := bF3 TN.out.ka; obtain ⟨bz0, bz1, bz2, _, _, _⟩ := bF3 TN.out.kb; obtain ⟨cz0, cz1, cz2, _, _, _⟩ := bF3 TN.out.kc; obtain ⟨qz0, qz1, qz2, _, _, _⟩ := bF3 TN.out.kq))
  clear az0 az1 az2 bz0 bz1 bz2 cz0 cz1 cz2 qz0 qz1 qz2 b1 b2 b3
  have hmw : (ws.length : Int) ≤ 9223372036854775807 := by have := H3.out.2.1; omega
  go_wp2
  go_loopw [128] (fun v128 wq => ∃ (i : Nat), v128 = .int .i64 (i : Int) ∧ i ≤ ws.length ∧ Aside0 (Tn w wq g5 g9 g12 g14 (.slice ARA1 ta.length cRA1) (.slice ARA2 aa.length cRA2) (.slice ARA3 na.length cRA3) (.slice ARB1 tb.length cRB1) (.slice ARB2 ab.length cRB2) (.slice ARB3 nb.length cRB3) (.slice ARC1 tc.length cRC1) (.slice ARC2 ac.length cRC2) (.slice ARC3 nc.length cRC3) (.slice ARQ1 tq.length cRQ1) (.slice ARQ2 aq.length cRQ2) (.slice ARQ3 nq.length cRQ3) ta aa na tb ab nb tc ac nc tq aq nq)) (fun v128 _ => ws.length - (intOf v128).toNat)
  case atStart => exact ⟨0, rfl, Nat.zero_le _, TN⟩
  case round =>
    clear TN
    obtain ⟨i, rfl, hi, TN⟩ := hrel
    by_cases hi1 : i < ws.length
    · obtain ⟨ad, A2, c2, e0, hx0, hl2, hi2⟩ := at_L3 H3.out (i : Int) (by omega) (by omega)
      cases e0
      have r0 : rd_L3 ws (i : Int) = ws[i] := by simp [rd_L3, List.getD_eq_getElem?_getD, List.getElem?_eq_getElem hi1]
      rw [r0] at hx0 hl2 hi2
      obtain ⟨v, hv⟩ : ∃ v, v = ws[i] := ⟨_, rfl⟩
      rw [← hv, Int.toNat_natCast] at hx0
      rw [← hv] at hl2 hi2
      have hmem : v ∈ ws := by rw [hv]; exact List.getElem_mem hi1
      have hx := cX (Aside0.mk TN.out.bel) hx0
      have HL2 := Aside0.mk hl2
      have HI2 := Aside0.mk hi2
      have cb : decide ((i : Int) < (ws.length : Int)) = true := decide_eq_true (by omega)
      have HWI := Aside0.mk (show wrap64 ((i : Int) + 1) = ((i + 1 : Nat) : Int) by unfold wrap64; omega)
      have hi9 : i + 1 ≤ ws.length := by omega
      obtain ⟨az0, az1, az2, _, _, _⟩ := bF3 TN.out.ka
      obtain ⟨bz0, bz1, bz2, _, _, _⟩ := bF3 TN.out.kb
      obtain ⟨cz0, cz1, cz2, _, _, _⟩ := bF3 TN.out.kc
      obtain ⟨qz0, qz1, qz2, _, _, _⟩ := bF3 TN.out.kq
      clear hl2 hi2 hx0 r0 hv hi
      by_cases hv0 : v = []
      · subst hv0
        go_wp2
        go_roundw
        case rel => exact ⟨i + 1, (by first | (rw [HWI.out]) | (simp)), hi9, TN⟩
        case measure => (try rw [HWI.out]); simp [intOf]; omega
      · obtain ⟨wb, hwb, hx2⟩ := HWS.out v hmem hv0
        have HWB := Aside0.mk hwb
        have HX2 := Aside0.mk hx2
        have h0 : ((v.length : Int) == 0) = false := by rw [beq_eq_false_iff_ne]; intro h; exact hv0 (List.eq_nil_of_length_eq_zero (by omega))
        clear hwb hx2 hv0 hmem
        cases wb with
        | false =>
          go_wp2_with (go_at_call 17; (with_reducible refine (tabardref12_Word.calls k _ _ v (ta.length : Int) false _ (Kd.C_below HI2.out TN.out.bel) HL2.out HWB.out).mono ?_); rintro _ wr_ ⟨rfl, hd⟩; have hb := hd.below; replace TN := Aside0.mk (TN.out.kept hb); clear hb az0 az1 az2 bz0 bz1 bz2 cz0 cz1 cz2 qz0 qz1 qz2; obtain ⟨az0, az1, az2, _, _, _⟩ := bF3 TN.out.ka; obtain ⟨bz0, bz1, bz2, _, _, _⟩ := bF3 TN.out.kb; obtain ⟨cz0, cz1, cz2, _, _, _⟩ := bF3 TN.out.kc; obtain ⟨qz0, qz1, qz2, _, _, _⟩ := bF3 TN.out.kq)
          go_roundw
          case rel => exact ⟨i + 1, (by first | (rw [HWI.out]) | (simp)), hi9, TN⟩
          case measure => (try rw [HWI.out]); simp [intOf]; omega
        | true =>
          obtain ⟨x, y, t1_, t2_, t3_, t4_⟩ := HX2.out rfl
          have T1 := Aside0.mk t1_
          have T2 := Aside0.mk t2_
          have T3 := Aside0.mk t3_
          have T4 := Aside0.mk t4_
          clear t1_ t2_ t3_ t4_ HX2
          go_upto_region 23 with (go_at_call 17; (with_reducible refine (tabardref12_Word.calls k _ _ v (ta.length : Int) true _ (Kd.C_below HI2.out TN.out.bel) HL2.out HWB.out).mono ?_); rintro _ wr_ ⟨rfl, hd⟩; have hb := hd.below; replace TN := Aside0.mk (TN.out.kept hb); clear hb az0 az1 az2 bz0 bz1 bz2 cz0 cz1 cz2 qz0 qz1 qz2; obtain ⟨az0, az1, az2, _, _, _⟩ := bF3 TN.out.ka; obtain ⟨bz0, bz1, bz2, _, _, _⟩ := bF3 TN.out.kb; obtain ⟨cz0, cz1, cz2, _, _, _⟩ := bF3 TN.out.kc; obtain ⟨qz0, qz1, qz2, _, _, _⟩ := bF3 TN.out.kq)
          have TND := Aside0.mk (TN.out.kept (below_drew (Below.refl _ _)))
          refine start_ (n := 8) (S := fun w' => w'.cell? ⟨g5, 0, none⟩ = some (.slice ARA1 ta.length cRA1) ∧ w'.cell? ⟨g5, 1, none⟩ = some (.slice ARA2 aa.length cRA2) ∧ w'.cell? ⟨g5, 2, none⟩ = some (.slice ARA3 na.length cRA3) ∧ w'.cell? ⟨g12, 0, none⟩ = some (.slice ARC1 tc.length cRC1) ∧ w'.cell? ⟨g12, 1, none⟩ = some (.slice ARC2 ac.length cRC2) ∧ w'.cell? ⟨g12, 2, none⟩ = some (.slice ARC3 nc.length cRC3)) (ds := []) #[false, false, false, false, false, false, false, false] (by kernel_rfl) rfl rfl ⟨az0, az1, az2, cz0, cz1, cz2⟩ (fun hHeld => ?_)
          refine pure_ (i := 1) (N := some 144) (v := ?_) (a' := ?_) #[false, true, false, false, false, false, false, false] rfl rfl (by kernel_rfl) (fun _ _ _ h => h) (Or.inl ⟨by rfl, ?_⟩) ?_ ?_
          rotate_left
          · intro w'
            go_simp
            with_reducible rfl
          rotate_left
          · simp only [Act.put, List.setIfInBounds_toArray, List.set_cons_zero, List.set_cons_succ, i64_w, i32_w]
            rfl
          refine pure_ (i := 4) (N := some 147) (v := ?_) (a' := ?_) #[false, true, false, false, true, false, false, false] rfl rfl (by kernel_rfl) (fun _ _ _ h => h) (Or.inl ⟨by rfl, ?_⟩) ?_ ?_
          rotate_left
          · intro w'
            go_simp
            with_reducible rfl
          rotate_left
          · simp only [Act.put, List.setIfInBounds_toArray, List.set_cons_zero, List.set_cons_succ, i64_w, i32_w]
            rfl
          refine take_ (i := 0) (N := some 143) (v := ?_) (a' := ?_) #[true, true, false, false, true, false, false, false] rfl rfl (by kernel_rfl) (fun _ _ _ h => h) (Or.inl ⟨by rfl, ?_⟩) hHeld ?_ ?_
          rotate_left
          · rintro w' ⟨s0, s1, s2, s3, s4, s5⟩
            go_simp
            with_reducible rfl
          rotate_left
          · simp only [Act.put, List.setIfInBounds_toArray, List.set_cons_zero, List.set_cons_succ, i64_w, i32_w]
            rfl
          refine take_ (i := 3) (N := some 146) (v := ?_) (a' := ?_) #[true, true, false, true, true, false, false, false] rfl rfl (by kernel_rfl) (fun _ _ _ h => h) (Or.inl ⟨by rfl, ?_⟩) hHeld ?_ ?_
          rotate_left
          · rintro w' ⟨s0, s1, s2, s3, s4, s5⟩
            go_simp
            with_reducible rfl
          rotate_left
          · simp only [Act.put, List.setIfInBounds_toArray, List.set_cons_zero, List.set_cons_succ, i64_w, i32_w]
            rfl
          refine one_ (i := 2) (N := some 145) #[true, true, true, true, true, false, false, false] rfl rfl (by kernel_rfl) (by decide) (fun K hK => ?_)
          refine goes_ Try.func18 (by kernel_rfl) rfl #[.agg #[.slice ARA1 ta.length cRA1, .slice ARA2 aa.length cRA2, .slice ARA3 na.length cRA3], .slice A2 v.length c2] (by rfl) rfl rfl (by simp only [List.map_toArray, List.map_cons, List.map_nil]; rfl) ?_
          with_reducible refine (tabardref12_Takes.calls k _ _ ta _ _ aa _ _ na _ _ v x _ (Kd.R_reads' TND.out.a1).2.2 (Kd.R_reads' TND.out.a1).2.1 (Kd.R_reads' TND.out.a2).2.2 (Kd.R_reads' TND.out.a2).2.1 (Kd.R_reads' (Kd.S_R TND.out.a3)).2.2 (Kd.R_reads' (Kd.S_R TND.out.a3)).2.1 (Kd.C_below HI2.out TND.out.bel) HL2.out T1.out).mono ?_
          rintro e wt ⟨rfl, hb⟩
          have TN1 := Aside0.mk (TND.out.kept hb)
          obtain ⟨uz0, uz1, uz2, _, _, _⟩ := bF3 TN1.out.ka
          obtain ⟨wz0, wz1, wz2, _, _, _⟩ := bF3 TN1.out.kc
          clear hb
          refine ⟨_, rfl, ?_⟩
          refine hK.out _ _ ⟨uz0, uz1, uz2, wz0, wz1, wz2⟩ (fun hHeld => ?_)
          clear hK K
          refine norm_ (a' := ?_) ?_ ?_
          rotate_left
          · show Act.put _ (some 145) _ = _
            simp only [Act.put, List.setIfInBounds_toArray, List.set_cons_zero, List.set_cons_succ, i64_w, i32_w]
            rfl
          refine one_ (i := 5) (N := some 148) #[true, true, true, true, true, true, false, false] rfl rfl (by kernel_rfl) (by decide) (fun K hK => ?_)
          refine goes_ Try.func18 (by kernel_rfl) rfl #[.agg #[.slice ARC1 tc.length cRC1, .slice ARC2 ac.length cRC2, .slice ARC3 nc.length cRC3], .slice A2 v.length c2] (by rfl) rfl rfl (by simp only [List.map_toArray, List.map_cons, List.map_nil]; rfl) ?_
          with_reducible refine (tabardref12_Takes.calls k _ _ tc _ _ ac _ _ nc _ _ v y _ (Kd.R_reads' TN1.out.c1).2.2 (Kd.R_reads' TN1.out.c1).2.1 (Kd.R_reads' TN1.out.c2).2.2 (Kd.R_reads' TN1.out.c2).2.1 (Kd.R_reads' (Kd.S_R TN1.out.c3)).2.2 (Kd.R_reads' (Kd.S_R TN1.out.c3)).2.1 (Kd.C_below HI2.out TN1.out.bel) HL2.out T2.out).mono ?_
          rintro e wt ⟨rfl, hb⟩
          have TN2 := Aside0.mk (TN1.out.kept hb)
          obtain ⟨yz0, yz1, yz2, _, _, _⟩ := bF3 TN2.out.ka
          obtain ⟨xz0, xz1, xz2, _, _, _⟩ := bF3 TN2.out.kc
          clear hb
          refine ⟨_, rfl, ?_⟩
          refine hK.out _ _ ⟨yz0, yz1, yz2, xz0, xz1, xz2⟩ (fun hHeld => ?_)
          clear hK K
          refine norm_ (a' := ?_) ?_ ?_
          rotate_left
          · show Act.put _ (some 148) _ = _
            simp only [Act.put, List.setIfInBounds_toArray, List.set_cons_zero, List.set_cons_succ, i64_w, i32_w]
            rfl
          refine pure_ (i := 6) (N := some 18) (v := ?_) (a' := ?_) #[true, true, true, true, true, true, true, false] rfl rfl (by kernel_rfl) (fun _ _ _ h => h) (Or.inl ⟨by rfl, ?_⟩) ?_ ?_
          rotate_left
          · intro w'
            go_simp
            with_reducible rfl
          rotate_left
          · simp only [Act.put, List.setIfInBounds_toArray, List.set_cons_zero, List.set_cons_succ, i64_w, i32_w]
            rfl
          refine pure_ (i := 7) (N := some 19) (v := ?_) (a' := ?_) #[true, true, true, true, true, true, true, true] rfl rfl (by kernel_rfl) (fun _ _ _ h => h) (Or.inl ⟨by rfl, ?_⟩) ?_ ?_
          rotate_left
          · intro w'
            go_simp
            with_reducible rfl
          rotate_left
          · simp only [Act.put, List.setIfInBounds_toArray, List.set_cons_zero, List.set_cons_succ, i64_w, i32_w]
            rfl
          refine done_ (by kernel_rfl) ?_
          replace TN := TN2
          clear TND TN1 az0 az1 az2 bz0 bz1 bz2 cz0 cz1 cz2 qz0 qz1 qz2
          obtain ⟨az0, az1, az2, _, _, _⟩ := bF3 TN.out.ka
          obtain ⟨bz0, bz1, bz2, _, _, _⟩ := bF3 TN.out.kb
          obtain ⟨cz0, cz1, cz2, _, _, _⟩ := bF3 TN.out.kc
          obtain ⟨qz0, qz1, qz2, _, _, _⟩ := bF3 TN.out.kq
          cases x <;> cases y <;> (go_wp2_with (first | (go_at_call 18; (with_reducible refine (tabardref12_Takes.calls k _ _ tb _ _ ab _ _ nb _ _ v _ _ (Kd.R_reads' TN.out.b1).2.2 (Kd.R_reads' TN.out.b1).2.1 (Kd.R_reads' TN.out.b2).2.2 (Kd.R_reads' TN.out.b2).2.1 (Kd.R_reads' (Kd.S_R TN.out.b3)).2.2 (Kd.R_reads' (Kd.S_R TN.out.b3)).2.1 (Kd.C_below HI2.out TN.out.bel) HL2.out T3.out).mono ?_); rintro _ wr_ ⟨rfl, hb⟩; replace TN := Aside0.mk (TN.out.kept hb); clear hb az0 az1 az2 bz0 bz1 bz2 cz0 cz1 cz2 qz0 qz1 qz2; obtain ⟨az0, az1, az2, _, _, _⟩ := bF3 TN.out.ka; obtain ⟨bz0, bz1, bz2, _, _, _⟩ := bF3 TN.out.kb; obtain ⟨cz0, cz1, cz2, _, _, _⟩ := bF3 TN.out.kc; obtain ⟨qz0, qz1, qz2, _, _, _⟩ := bF3 TN.out.kq) | (go_at_call 18; (with_reducible refine (tabardref12_Takes.calls k _ _ tq _ _ aq _ _ nq _ _ v _ _ (Kd.R_reads' TN.out.q1).2.2 (Kd.R_reads' TN.out.q1).2.1 (Kd.R_reads' TN.out.q2).2.2 (Kd.R_reads' TN.out.q2).2.1 (Kd.R_reads' (Kd.S_R TN.out.q3)).2.2 (Kd.R_reads' (Kd.S_R TN.out.q3)).2.1 (Kd.C_below HI2.out TN.out.bel) HL2.out T4.out).mono ?_); rintro _ wr_ ⟨rfl, hb⟩; replace TN := Aside0.mk (TN.out.kept hb); clear hb az0 az1 az2 bz0 bz1 bz2 cz0 cz1 cz2 qz0 qz1 qz2; obtain ⟨az0, az1, az2, _, _, _⟩ := bF3 TN.out.ka; obtain ⟨bz0, bz1, bz2, _, _, _⟩ := bF3 TN.out.kb; obtain ⟨cz0, cz1, cz2, _, _, _⟩ := bF3 TN.out.kc; obtain ⟨qz0, qz1, qz2, _, _, _⟩ := bF3 TN.out.kq)); go_roundw; (case rel => exact ⟨i + 1, (by first | (rw [HWI.out]) | (simp)), hi9, TN⟩); (case measure => (try rw [HWI.out]); simp [intOf]; omega))
    · obtain rfl : i = ws.length := by omega
      have cb : decide ((ws.length : Int) < (ws.length : Int)) = false := by simp
      go_wp2
      go_ret
      exact ⟨rfl, TN.out.bel⟩

end Go.Proofs.Ythgoonohpfoagaa.X
