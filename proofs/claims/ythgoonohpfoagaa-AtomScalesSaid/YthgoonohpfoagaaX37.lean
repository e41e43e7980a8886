/- What the functions of this seat compute, and that the program's calls come to just that: written by this session's own program out of the translation; no condition. -/
import Derived.Test.YthgoonohpfoagaaX0
import Derived.Test.YthgoonohpfoagaaX36
namespace Go.Proofs.Ythgoonohpfoagaa.X
open Go.RowKit Go.Proofs.YthgoonohpfoagaaW.PrintWords Go.Proofs.YthgoonohpfoagaaW.PrintLast Go.Proofs.YthgoonohpfoagaaW.PrintMore
attribute [local go_sem] max2_int min2_int max_two min_two max_three min_three max_four min_four
set_option linter.unusedVariables false
set_option linter.unusedSimpArgs false
set_option maxHeartbeats 8000000
set_option maxRecDepth 100000

/-! ### canon_split: function 87 -/
def pairV (p : Int × Int) : Value := .agg #[.int .i64 p.1, .int .i64 p.2]
theorem pair_inj (x y : Int × Int) (h : pairV x = pairV y) : x = y := by
 obtain ⟨a, b⟩ := x; obtain ⟨c, d⟩ := y
 simpa [pairV] using h
theorem canon_split.laidOut : laidOutB Try.prog = true := by kernel_rfl
theorem pair_law : Go.Maps.Keyed Try.prog 141 := Go.Maps.Keyed.of_law (deep_law_laid canon_split.laidOut (m := 2) (by omega) (of_decide_eq_true (by kernel_rfl)) (by kernel_rfl) (by rw [Try.underlying141]))
theorem pair_key (p : Int × Int) (h1 : (Lit.int .i64 p.1).wf = true) (h2 : (Lit.int .i64 p.2).wf = true) : ∃ l, keyOf Try.prog 141 (pairV p) = some l := by
 have hk : Try.prog.keyType 141 = true := by kernel_rfl
 have hf : (pairV p).formed Try.prog 141 = true := by simp [pairV, Value.formed, Try.underlying141, show Try.prog.cellsOf 141 = 2 by kernel_rfl]
 have hl : Try.prog.keyLits (Try.prog.types.size + 1) 141 (pairV p).cells.toList = some [.int .i64 p.1, .int .i64 p.2] := by
  obtain ⟨n, hn⟩ : ∃ n, Try.prog.types.size = n + 1 := ⟨_, (by kernel_rfl : Try.prog.types.size = (Try.prog.types.size - 1) + 1)⟩; rw [hn]
  simp [Program.keyLits, Try.underlying141, Try.underlying3, show Try.prog.cellsOf 141 = 2 by kernel_rfl, show Try.prog.cellsOf 3 = 1 by kernel_rfl, pairV, Value.cells, h1, h2, List.range_succ, List.mapM_cons]
 unfold keyOf
 rw [Try.underlying141]; simp only [hk, hf, hl]; exact ⟨_, rfl⟩
/-- The variable 'pairs' (block g) and its map (block b). -/
structure canon_split.Inv (W : World) (g b : Nat) (ps : List (Int × Int)) (D : DataW Unit) : Prop where
 cell : W.heap[g]? = some (.cells #[.map (some b)] 140 (0, 0))
 nam : Names_ Try.prog 141 3 pairV W b ps D
theorem canon_split.Inv.ne {W : World} {g b : Nat} {ps : List (Int × Int)} {D : DataW Unit} (h : canon_split.Inv W g b ps D) : g ≠ b := by
 rintro rfl; obtain ⟨es, clock, hb, _⟩ := h.nam.own; rw [h.cell] at hb; cases hb
theorem canon_split.Inv.kept {W W1 : World} {g b : Nat} {ps : List (Int × Int)} {D : DataW Unit} (h : canon_split.Inv W g b ps D) {row : Option Nat} (hg : W.grownBy W1 row) (h1 : some g ≠ row) (h2 : some b ≠ row) : canon_split.Inv W1 g b ps D :=
 ⟨(hg.block g (blk_lt h.cell) h1).trans h.cell, h.nam.kept hg h2⟩
theorem canon_split.grown {W w1 w2 : World} {row : Option Nat} (hb : Below W.heap.size W w1) (hg : w1.grownBy w2 row) : W.grownBy w2 row :=
 ⟨hg.os.trans hb.os, hg.tape.trans hb.tape, hg.output.trans hb.output, Nat.le_trans hb.size hg.size, fun k hk hne => (hg.block k (Nat.lt_of_lt_of_le hk hb.size) hne).trans (hb.block k hk)⟩
theorem canon_split.Inv.below {W W1 : World} {g b : Nat} {ps : List (Int × Int)} {D : DataW Unit} (h : canon_split.Inv W g b ps D) (hb : Below W.heap.size W W1) : canon_split.Inv W1 g b ps D :=
 h.kept (row := none) (canon_split.grown hb (World.grownBy.refl W1 none)) (by simp) (by simp)
def canon_split.Res (W w' : World) (g b : Nat) (ps : List (Int × Int)) : Prop := ∃ D', canon_split.Inv w' g b ps D' ∧ W.grownBy w' (some b)
theorem canon_split.count (W : World) (g b : Nat) (ps : List (Int × Int)) (D : DataW Unit) (x y : Int) (hI : canon_split.Inv W g b ps D) (hx : (Lit.int .i64 x).wf = true) (hy : (Lit.int .i64 y).wf = true) (hl : ps.length < 35184372088832) :
  Calls Try.prog 100 #[.int .i64 x, .int .i64 y, .pointer (some ⟨g, 0, none⟩)] W fun e w' => e = .returned (.int .i64 ((num1 (names1 ps (x, y)) (x, y) : Nat) : Int)) ∧ canon_split.Res W w' g b (names1 ps (x, y)) := by
 obtain ⟨kl, hkey⟩ := pair_key (x, y) hx hy; have hkey' : keyOf Try.prog 141 (.agg #[.int .i64 x, .int .i64 y]) = some kl := hkey; have HI := aM hI; have HL := aM hl; have hcell : W.cell? ⟨g, 0, none⟩ = some (.map (some b)) := (blk_cell hI.cell 0).trans rfl
 have hca : ∀ o : Obj, (W.alloc o).cell? ⟨g, 0, none⟩ = some (.map (some b)) := fun o => pw_cell_below (below_alloc (Below.refl W.heap.size W) o) hcell
 have HB := aM (fun o : Obj => below_alloc (Below.refl W.heap.size W) o); clear hI hl hx hy
 by_cases hm : (x, y) ∈ ps
 ·have hh : Go.Maps.has D kl = true := by rw [HI.out.nam.has _ _ hkey]; simp [hm]
  have hat := HI.out.nam.at_ _ _ hkey hm (.lit (.int .i64 0))
  go_enter Try.func100, Try.ntmps100
  go_wp2_with (first
   | (at_lookup; refine wpList_lookup_own_ok_int _ rfl _ _ 140 rfl 141 3 .i64 pair_law Try.underlying140 Try.underlying3 (canon_dense.zero _) b ps.length D rfl (HI.out.below (HB.out _)).nam.own _ _ rfl hkey' ?_; intro c' hat' hwc; rw [hat] at hat'; injection hat' with hat'; injection hat' with _ hat'; subst hat'; rw [hh]))
  go_ret
  have A : names1 ps (x, y) = ps := by simp [names1, hm]
  rw [A]; exact ⟨rfl, ⟨D, HI.out.below (bO (HB.out _)), canon_split.grown (bO (HB.out _)) (World.grownBy.refl _ _)⟩⟩
 ·have hh : Go.Maps.has D kl = false := by rw [HI.out.nam.has _ _ hkey]; simp [hm]
  have hsz := HI.out.nam.size
  go_enter Try.func100, Try.ntmps100
  go_wp2_with (first
   | (at_lookup; refine wpList_lookup_own_ok_int _ rfl _ _ 140 rfl 141 3 .i64 pair_law Try.underlying140 Try.underlying3 (canon_dense.zero _) b ps.length D rfl (HI.out.below (HB.out _)).nam.own _ _ rfl hkey' ?_; intro c' hat' hwc; rw [hh])
   | (at_len; refine wpList_len_own _ rfl _ 140 rfl 141 3 Try.underlying140 (plainElem Try.prog 3) b ps.length D rfl (HI.out.below (HB.out _)).nam.own ?_; rw [hsz])
   | (at_mapUpdate; go_loud (refine wpList_mapUpdate_own _ rfl _ _ _ 140 rfl 141 3 pair_law Try.underlying140 _ b ps.length D rfl (HI.out.below (HB.out _)).nam.own (by have := HL.out; unfold maxLen; omega) _ _ _ rfl rfl hkey' _ [] (plainElem_int Try.underlying3 (canon_dense.wf (by have := HL.out; omega))) ?_; intro F hown2 hgrow2; have HN2 := aM (Names_.put pair_law pair_inj HI.out.nam hkey hm hown2); have HG2 := aM (canon_split.grown (HB.out _) hgrow2); have B := aM ((hgrow2.block g (blk_lt (HI.out.below (HB.out _)).cell) (by simp; exact HI.out.ne)).trans (HI.out.below (HB.out _)).cell); clear hown2 hgrow2)))
  go_ret
  have A : names1 ps (x, y) = ps ++ [(x, y)] := by simp [names1, hm]
  have E := num1_new hm; rw [A, E]; exact ⟨rfl, ⟨_, ⟨B.out, HN2.out⟩, HG2.out⟩⟩
theorem canon_split.Inv.drewN {W : World} {g b : Nat} {ps : List (Int × Int)} {D : DataW Unit} (h : canon_split.Inv W g b ps D) (n : Nat) : canon_split.Inv (W.drewN n) g b ps D := h.kept (row := none) ⟨rfl, rfl, rfl, Nat.le_refl _, fun _ _ _ => rfl⟩ (by simp) (by simp)
theorem canon_split.Inv.drew {W : World} {g b : Nat} {ps : List (Int × Int)} {D : DataW Unit} (h : canon_split.Inv W g b ps D) : canon_split.Inv W.drew g b ps D := h.kept (row := none) ⟨rfl, rfl, rfl, Nat.le_refl _, fun _ _ _ => rfl⟩ (by simp) (by simp)
/-- What is left of a row: the number that it comes to, the pairs. -/
def canon_split.row (cls : List Int) (len : Int) : List Int → Int → Int → List (Int × Int) → Option (Int × List (Int × Int))
 | [], _, n, ps => some (n, ps)
 | q :: r, a, n, ps =>
  if 0 ≤ q then (if q < (cls.length : Int) then
   (if (Lit.int .i64 (rd cls q)).wf = true then (if ps.length < 35184372088832 then
    canon_split.row cls len r (wrap64 (a + 1)) ((num1 (names1 ps (wrap64 (wrap64 (n * wrap64 (len + 1)) + a), rd cls q)) (wrap64 (wrap64 (n * wrap64 (len + 1)) + a), rd cls q) : Nat) : Int) (names1 ps (wrap64 (wrap64 (n * wrap64 (len + 1)) + a), rd cls q))
   else none) else none) else none) else none
/-- What is left of the rows: the numbers told so far, the pairs. -/
def canon_split.go (cls : List Int) : List (List Int) → Nat → List Int → List (Int × Int) → Option (List Int)
 | [], _, xs, _ => some xs
 | r :: l, j, xs, ps =>
  if j < cls.length then (canon_split.row cls (r.length : Int) r 0 (rd cls (j : Int)) ps).bind fun z => canon_split.go cls l (j + 1) (xs.set j z.1) z.2 else none
def canon_split.f (ns : List ByteArray) (ac : List Bool) (nx : List (List Int)) (cls : List Int) : Option (List Int × Int) :=
 if cls.length ≤ 35184372088832 then (canon_split.go cls nx 0 (List.replicate cls.length 0) []).bind fun xs => canon_dense.f xs else none
theorem canon_split.calls (O : Option Addr) (P : Nat) (E : List ByteArray) (Q : Option Addr) (U : Nat) (F : List Bool) (V : Option Addr) (Y : Nat) (A : List (List Int)) (A1 : Option Addr) (c1 : Nat) (G : List Int) (r1 : List Int) (r2 : Int) (w : World)
  (aj : Kd.C Kd.string w O E.length E) (ak : E.length ≤ P) (al : Kd.C Kd.bool w Q F.length F) (am : F.length ≤ U) (I : Kd.C (Kd.slice 3 (Kd.int .i64)) w V A.length A) (aa : A.length ≤ Y) (ao : Kd.C (Kd.int .i64) w A1 G.length G) (ap : G.length ≤ c1)
  (h : canon_split.f E F A G = some (r1, r2)) :
  Calls Try.prog 87 #[.agg #[.slice O E.length P, .slice Q F.length U, .slice V A.length Y], .slice A1 G.length c1] w fun e w' => ∃ aq : Value, e = .returned (.tuple #[aq, .int .i64 r2]) ∧ Kd.R (Kd.int .i64) 3 w' w.heap.size (fun _ => True) aq r1 ∧ Below w.heap.size w w' := by
 unfold canon_split.f at h
 by_cases h1 : G.length ≤ 35184372088832
 case neg => rw [if_neg h1] at h; cases h
 rw [if_pos h1] at h; replace h := Option.bind_eq_some_iff.mp h; obtain ⟨res, hres, hden⟩ := h; have HRES := aM hres; have HDEN := aM hden; have aE := aM I; have aR := aM aa; have ar := aM ao; have aS := aM ap; have HL := aM h1; have hm2 : A.length ≤ 9223372036854775807 := I.2.1; have hmm := @run_makeMap Try.prog; clear hres hden aj ak al am I aa ao ap h1
 go_enter Try.func87, Try.ntmps87
 go_wp2_with (first
  | ((with_reducible refine gate_dst (N := 2) rfl ?_); refine be_ (cs := #[.slice O E.length P, .slice Q F.length U, .slice V A.length Y]) (t := 31) ?_; intro gd hg B hbox hb; have BKD := aM hbox; have HB := aM hb; have HS := aM (show w.heap.size ≤ B.heap.size from below_size hb); clear hg hbox hb)
  | ((with_reducible refine gate_dst (N := 18) rfl ?_); refine Kd.R_make (Kd.int .i64) _ 3 rfl (N := 18) rfl 42 _ _ rfl (G.length : Int) rfl rfl Try.underlying42 (.int .i64 0) 8 info3 rfl (by decide) (by omega) 0 (ok := fun _ => True) (okp := fun _ => True) rfl (fun _ hk => hk) trivial (by omega) (by have := HL.out; omega) (Below.refl _ _) (Nat.le_refl _) ?_; intro v8 w8 ho hb hg hnew; have HI := aM (show canon_split.Inv w8 (B.heap.size + 1) B.heap.size [] (.map []) from canon_split.Inv.kept (W := (B.alloc (.map #[] 0)).alloc (.cells #[.map (some B.heap.size)] 140)) ⟨by simpa using heap_alloc_new (B.alloc (.map #[] 0)) (.cells #[.map (some B.heap.size)] 140), (Names_.new _ _ _ _ B).kept (World.grownBy_alloc _ _ none) (by simp)⟩ hg (by simp) (by simp)); rw [Int.toNat_natCast] at ho; have HO := aM (Kd.R_mono (Kd.R_lower (base' := w.heap.size) (Kd.R_bound ho) (by have := below_size HB.out; simp; omega)) (fun k hk => (show B.heap.size + 2 ≤ k from (by have h1 := hk.2.1; simp at h1; omega)))); have HB8 := aM (below_step (below_alloc (below_alloc HB.out (.map #[] 0)) (.cells #[.map (some B.heap.size)] 140)) hb); replace BKD := kB BKD hb; obtain ⟨aw, ax, ay, az, aA, aB⟩ := bG3 BKD; clear ho hb hg hnew HB))
 go_loopw [22] (fun ag wr => ∃ (j : Nat) (xs : List Int) (ps : List (Int × Int)) (D : DataW Unit), j ≤ A.length ∧ ag = .int .i64 j ∧ Aside0 (canon_split.go G (A.drop j) j xs ps = some res) ∧ Aside0 (xs.length = G.length) ∧ Aside0 (canon_split.Inv wr (B.heap.size + 1) B.heap.size ps D) ∧ Aside0 (Kd.R (Kd.int .i64) 3 wr w.heap.size (fun k => B.heap.size + 2 ≤ k) v8 xs) ∧ BA w wr) (fun ag _ => A.length - (intOf ag).toNat)
 case atStart => exact ⟨0, _, _, _, Nat.zero_le _, rfl, HRES, ⟨List.length_replicate⟩, HI, HO, HB8⟩
 case round =>
  clear HRES HI HO HB8 aw ax ay az aA aB BKD; obtain ⟨j, xs, ps, D, hj, rfl, HRES, HX, HI, HO, HB⟩ := hrel
  by_cases c : j < A.length
  ·have h := HRES.out; rw [List.drop_eq_getElem_cons c, canon_split.go] at h
   by_cases cj : j < G.length
   case neg => rw [if_neg cj] at h; cases h
   rw [if_pos cj] at h; replace h := Option.bind_eq_some_iff.mp h; obtain ⟨z, hz, h⟩ := h; obtain ⟨ad, A2, c2, e0, L, ab, M⟩ := at_L3 aE.out (j : Int) (by omega) (by omega); cases e0
   have r0 : rd_L3 A (j : Int) = A[j] := by simp [rd_L3, List.getD_eq_getElem?_getD, List.getElem?_eq_getElem c]
   rw [r0] at L ab M; obtain ⟨x, hxx⟩ : ∃ x, x = A[j] := ⟨_, rfl⟩; rw [← hxx] at L ab M hz; rw [Int.toNat_natCast] at L; have hx := cX HB L; obtain ⟨adc, e1, hxc0⟩ := Kd.at_int ar.out (j : Int) (by omega) (by omega); cases e1; rw [Int.toNat_natCast] at hxc0; have hxc := cX HB hxc0; have cb : decide ((j : Int) < (A.length : Int)) = true := dT (by omega); have HZ := aM hz; have HRES := aM h; have HL2 := aM ab; have HI2 := aM M; have hxl : x.length ≤ 9223372036854775807 := M.2.1; clear h hz ab M L hxc0 r0 hxx
   go_wp2
   go_loopw [11, 33] (fun aH ah wq => ∃ (i : Nat) (n : Int) (ps2 : List (Int × Int)) (D2 : DataW Unit), i ≤ x.length ∧ aH = .int .i64 n ∧ ah = .int .i64 i ∧ Aside0 (canon_split.row G (x.length : Int) (x.drop i) (i : Int) n ps2 = some z) ∧ Aside0 (canon_split.Inv wq (B.heap.size + 1) B.heap.size ps2 D2) ∧ Aside0 (Kd.R (Kd.int .i64) 3 wq w.heap.size (fun k => B.heap.size + 2 ≤ k) v8 xs) ∧ BA w wq) (fun _ ah _ => x.length - (intOf ah).toNat)
   case atStart => exact ⟨0, _, ps, D, Nat.zero_le _, rfl, rfl, HZ, HI, HO, HB⟩
   case round =>
    clear HZ HI HO HB hx hxc; obtain ⟨i, n, ps2, D2, hi, rfl, rfl, HZ, HI, HO, HB⟩ := hrel
    by_cases ci : i < x.length
    ·have h := HZ.out; rw [List.drop_eq_getElem_cons ci, canon_split.row] at h; obtain ⟨aT, e2, J⟩ := Kd.at_int HI2.out (i : Int) (by omega) (by omega); cases e2
     have hrd : rd x (i : Int) = x[i] := by simp [rd, List.getD_eq_getElem?_getD, List.getElem?_eq_getElem ci]
     rw [hrd, Int.toNat_natCast] at J; obtain ⟨q, hq⟩ : ∃ q, q = x[i] := ⟨_, rfl⟩; rw [← hq] at h J
     by_cases Z : 0 ≤ q
     case neg => rw [if_neg Z] at h; cases h
     by_cases q1 : q < (G.length : Int)
     case neg => rw [if_pos Z, if_neg q1] at h; cases h
     by_cases q2 : (Lit.int .i64 (rd G q)).wf = true
     case neg => rw [if_pos Z, if_pos q1, if_neg q2] at h; cases h
     by_cases q3 : ps2.length < 35184372088832
     case neg => rw [if_pos Z, if_pos q1, if_pos q2, if_neg q3] at h; cases h
     rw [if_pos Z, if_pos q1, if_pos q2, if_pos q3] at h; obtain ⟨adc', e3, hxc0⟩ := Kd.at_int ar.out q Z q1
     obtain rfl : adc = adc' := by injection e3
     clear e3; have aU := cX HB J; have hxc := cX HB hxc0; have HZ := aM h; have Q2 := aM q2; have Q3 := aM q3; have qb0 := dT Z; have qb1 := dT q1; have cb2 : decide ((i : Int) < (x.length : Int)) = true := dT (by omega); clear h J hxc0 hrd q2 q3 hq
     go_wp2_with (go_at_call 100; (with_reducible refine (canon_split.count _ _ B.heap.size ps2 D2 _ _ ?s0 ?s1 Q2.out Q3.out).mono ?_); (case s0 => exact HI.out); (case s1 => exact wrap64_wf _); rintro e wz ⟨rfl, hz⟩; have HQ := aM hz; clear hz)
     obtain ⟨D3, hI3, hg3⟩ := HQ.out; have aJ := aM (Kd.R_step HO.out (fun k hk aK => hg3.block k aK (by simp; omega))); have HB3 := aM (HB.out.grown hg3 (below_size HB.out) (fun k_ hk_ => by cases hk_; exact HS.out)); have HI3 := aM hI3; clear HQ hI3 hg3
     have hwr : wrap64 ((i : Int) + 1) = ((i + 1 : Nat) : Int) := by have := hxl; unfold wrap64; omega
     have HZ' := HZ.out; rw [hwr] at HZ'
     go_roundw
     case rel => exact ⟨i + 1, _, _, D3, by omega, rfl, (by first | (rw [hwr]) | (simp)), ⟨HZ'⟩, HI3, aJ, HB3⟩
     case measure => (try rw [hwr]); simp [intOf]; omega
    ·have hi' : i = x.length := by omega
     subst hi'; have hfin := HZ.out; rw [List.drop_length, canon_split.row] at hfin; obtain rfl := Option.some.inj hfin
     have cb2 : decide ((x.length : Int) < (x.length : Int)) = false := by simp
     obtain ⟨go, co, eo, gb, gl, cl, HG⟩ := Kd.R_form HO.out (by have := HX.out; omega); rw [HX.out] at eo; subst eo; obtain ⟨hy, hz⟩ := Kd.R_celln 0 HO.out (j : Int) (by omega) (by omega); rw [Int.toNat_natCast] at hy hz; have hne : B.heap.size + 2 ≤ go := HO.out.1 go (by simp [Value.ownBlock])
     have hwj : wrap64 ((j : Int) + 1) = ((j + 1 : Nat) : Int) := by unfold wrap64; omega
     go_wp2
     have HP := Kd.R_putg HO.out (j : Int) n; rw [Int.toNat_natCast] at HP
     go_roundw
     case rel => exact ⟨j + 1, _, ps2, D2, c, (by first | (rw [hwj]) | (simp)), HRES, ⟨by rw [List.length_set]; exact HX.out⟩, ⟨HI.out.kept HP.2 (by simp; omega) (by simp; omega)⟩, ⟨HP.1⟩, ⟨below_set HB.out gb⟩⟩
     case measure => (try rw [hwj]); simp [intOf]; omega
  ·have hj' : j = A.length := by omega
   subst hj'; have hfin := HRES.out; rw [List.drop_length, canon_split.go] at hfin; obtain rfl := Option.some.inj hfin
   have cb : decide ((A.length : Int) < (A.length : Int)) = false := by simp
   obtain ⟨Ao, co, eo⟩ := sL HO; subst eo
   go_wp2_with (go_at_call 101; (with_reducible refine (canon_dense.calls _ _ xs r1 r2 _ ?s0 (rR HO).2.1 HDEN.out).mono ?_); (case s0 => exact (rR HO).2.2); rintro e wz ⟨vz, rfl, hr, hb⟩; have HR := aM hr; have HBZ := aM (below_step HB.out hb); clear hr hb)
   go_ret2
   exact ⟨_, rfl, Kd.R_lower (rP HR) (below_size HB.out), bO HBZ.out⟩

end Go.Proofs.Ythgoonohpfoagaa.X
