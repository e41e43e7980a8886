/- The law BitsPlays: whatever the input, the call returns true and the input reads as it did; the library's table starts as the program's text lays it, which the card ties; no condition beyond the statement's own. -/
import Derived.Test.YtpekanolhgcljaaDoorCards
import Derived.Test.YtpekanolhgcljaaDoorTie
import Derived.Test.YtpekanolhgcljaaDoorLaid
import Derived.Test.YtpekanolhgcljaaDoorPlayLaw
import Derived.SevenTiedAt
import Derived.WalkKit
import Derived.ShutString
import Derived.ChangeOld
import Derived.Below
import Derived.SizedLaws
import Derived.Deep.Slices
import Derived.Deep.Fields
import Derived.ChangeSame
namespace Go.Proofs.YtpekanolhgcljaaDoor.bitsPlays
open Go.ChangeShapes Go.WideShapes Go.ChangeAt Go.WideMaps Go.WideElems Go.RowKit
set_option linter.unusedVariables false
theorem laidOut : laidOutB Tryd.prog = true := by kernel_rfl
section
open Go.Deep
section
variable {H : Type} {enc : TypeId × Value → H} {P : Program} {w : World} {base : Nat} {spare : Nat → Bool} {held : Bool}
theorem open_slice_fields {t e : TypeId} {fs : Array Field} {fuel : Nat} {cs : List Value} {x : DataW H × List MemPlace} (ht : P.underlying t = some (.slice e)) (he : P.underlying e = some (.struct fs))
    (hone : oneCellFields P fs = true) (hC : P.cellsOf e = fs.size) (h : DataW.trod enc P w base spare held fuel t cs = some x) :
    (cs = [.slice none 0 0] ∧ x = (.nil, [])) ∨
    ∃ (a : Addr) (len cap m : Nat) (D : Nat → DataW H) (Pl : Nat → List MemPlace), cs = [.slice (some a) len cap] ∧ base ≤ a.block ∧ len ≤ cap ∧ cap ≤ maxLen ∧ m = (if spare a.block then cap else len) ∧
      x = (.slice ((List.range len).map D) ((List.range (m - len)).map fun j => D (len + j)), MemPlace.row a (m * fs.size) ++ (List.range m).flatMap Pl) ∧
      ∀ i, i < m → ∃ (ys : List (DataW H × List MemPlace)) (n : Nat), D i = .agg (ys.map (·.1)) ∧ Pl i = ys.flatMap (·.2) ∧ ys.length = fs.size ∧
        ∀ (j : Nat) (f : Field), fs[j]? = some f → ∃ (v : Value) (y : DataW H × List MemPlace), w.cell? (a.add (i * fs.size + j)) = some v ∧ ys[j]? = some y ∧ DataW.trod enc P w base spare held n f.type [v] = some y := by
  rcases open_slice ht h with h0 | ⟨a, len, cap, m, n, D, Pl, hcs, hb, hl, hm, hmm, hx, hi⟩
  · exact .inl h0
  · refine .inr ⟨a, len, cap, m, D, Pl, hcs, hb, hl, hm, hmm, by rw [hC] at hx; exact hx, fun i him => ?_⟩
    obtain ⟨cs', hc, ht'⟩ := hi i him
    rw [hC] at hc
    obtain ⟨ys, n', hn', hy, hlen, hyl, hf⟩ := DataW.trod_struct he ht'
    obtain ⟨_, hcl, hat⟩ := World.cells?_some hc
    simp only [Prod.mk.injEq] at hy
    refine ⟨ys, n', hy.1, hy.2, hyl, fun j f hj => ?_⟩
    obtain ⟨ho, hk⟩ := hone_of hone j f hj
    have hjl : j < fs.size := (Array.getElem?_eq_some_iff.1 hj).1
    have hcell := hat j hjl
    have hv : cs'[j]? = some (cs'[j]'(by omega)) := List.getElem?_eq_getElem (by omega)
    have h1 := hf j f hj
    rw [ho, hk] at h1
    have hone' : (cs'.drop j).take 1 = [cs'[j]'(by omega)] := by
      rw [List.drop_eq_getElem_cons (by omega)]
      rfl
    rw [hone'] at h1
    have hys : ys[j]? = some (ys[j]'(by omega)) := List.getElem?_eq_getElem (by omega)
    refine ⟨_, _, ?_, hys, h1.trans hys⟩
    rw [← Go.Deep.add_add, hcell, hv]
end
end
set_option maxRecDepth 100000 in
theorem four_of {α : Type _} {l : List α} (h : l.length = 4) : ∃ a b c d, l = [a, b, c, d] := by
  match l, h with
  | [a, b, c, d], _ => exact ⟨a, b, c, d, rfl⟩
theorem opened {H : Type} {enc : TypeId × Value → H} {W : World} {l : List Value} {d : DataW H} {p : List MemPlace} (hsz : l.length = 4) (h0 : DataW.Trod enc Tryd.prog W 0 (fun _ => true) true 25 (.agg ⟨l⟩) d p) :
    ∃ (s0 s1 s2 : Int) (A : Option Addr) (len c : Nat), l = [.int .i64 s0, .int .i64 s1, .int .i64 s2, .slice A len c] ∧ len ≤ 9223372036854775807 ∧
      ∀ i, i < len → ∃ ad : Addr, A = some ad ∧ ∃ x0 x1 x2 x3 : Int, W.cell? (ad.add (i * 4)) = some (.int .i64 x0) ∧ W.cell? (ad.add (i * 4 + 1)) = some (.int .i64 x1) ∧ W.cell? (ad.add (i * 4 + 2)) = some (.int .i64 x2) ∧ W.cell? (ad.add (i * 4 + 3)) = some (.int .i64 x3) := by
  have c22 : Tryd.prog.cellsOf 22 = 3 := by kernel_rfl
  have c23 : Tryd.prog.cellsOf 23 = 1 := by kernel_rfl
  have c3 : Tryd.prog.cellsOf 3 = 1 := by kernel_rfl
  obtain ⟨e0, e1, e2, e3, rfl⟩ := four_of hsz
  obtain ⟨fuel, hf⟩ := h0
  obtain ⟨xs, n, _, _, _, hxl, hg⟩ := DataW.trod_struct Tryd.underlying25 hf
  have g0 := hg 0 _ rfl
  have g1 := hg 1 _ rfl
  have two : xs.length = 2 := by simpa using hxl
  rw [List.getElem?_eq_getElem (by omega)] at g0 g1
  have g0 : DataW.trod enc Tryd.prog W 0 (fun _ => true) true n 22 [e0, e1, e2] = some (xs[0]'(by omega)) := by
    have a := g0
    simpa [c22, Value.cells] using a
  have g1 : DataW.trod enc Tryd.prog W 0 (fun _ => true) true n 23 [e3] = some (xs[1]'(by omega)) := by
    have a := g1
    simpa [c23, Value.cells] using a
  obtain ⟨ys, m, _, _, _, hyl, hel⟩ := DataW.trod_array Tryd.underlying22 g0
  simp only [c3] at hel
  have i0 := hel 0 (by decide)
  have i1 := hel 1 (by decide)
  have i2 := hel 2 (by decide)
  rw [List.getElem?_eq_getElem (by omega)] at i0 i1 i2
  obtain ⟨s0, j0, _⟩ := DataW.trod_int Tryd.underlying3 i0
  obtain ⟨s1, j1, _⟩ := DataW.trod_int Tryd.underlying3 i1
  obtain ⟨s2, j2, _⟩ := DataW.trod_int Tryd.underlying3 i2
  have z0 : e0 = .int .i64 s0 := by simpa using j0
  have z1 : e1 = .int .i64 s1 := by simpa using j1
  have z2 : e2 = .int .i64 s2 := by simpa using j2
  clear j0 j1 j2 i0 i1 i2
  subst z0 z1 z2
  rcases open_slice_fields Tryd.underlying23 Tryd.underlying39 (by kernel_rfl) (by kernel_rfl) g1 with ⟨he, _⟩ | ⟨a, len, cap, mm, D, Pl, he, _, hlc, hcm, hmm, _, hfs⟩
  · injection he with he _
    subst he
    exact ⟨s0, s1, s2, none, 0, 0, rfl, by decide, fun i hi => absurd hi (by omega)⟩
  · injection he with he _
    subst he
    refine ⟨s0, s1, s2, some a, len, cap, rfl, Nat.le_trans hlc (Nat.le_trans hcm (by decide)), fun i hi => ⟨a, rfl, ?_⟩⟩
    have hmm : mm = cap := by simpa using hmm
    obtain ⟨zs, n', _, _, _, hff⟩ := hfs i (by omega)
    obtain ⟨x0, z0⟩ : ∃ x : Int, W.cell? (a.add (i * 4 + 0)) = some (.int .i64 x) := by
      obtain ⟨v, y, hc, _, hy⟩ := hff 0 _ rfl
      obtain ⟨x, jx, _⟩ := DataW.trod_int Tryd.underlying3 hy
      have jx : v = .int .i64 x := by simpa using jx
      subst jx
      exact ⟨x, hc⟩
    obtain ⟨x1, z1⟩ : ∃ x : Int, W.cell? (a.add (i * 4 + 1)) = some (.int .i64 x) := by
      obtain ⟨v, y, hc, _, hy⟩ := hff 1 _ rfl
      obtain ⟨x, jx, _⟩ := DataW.trod_int Tryd.underlying3 hy
      have jx : v = .int .i64 x := by simpa using jx
      subst jx
      exact ⟨x, hc⟩
    obtain ⟨x2, z2⟩ : ∃ x : Int, W.cell? (a.add (i * 4 + 2)) = some (.int .i64 x) := by
      obtain ⟨v, y, hc, _, hy⟩ := hff 2 _ rfl
      obtain ⟨x, jx, _⟩ := DataW.trod_int Tryd.underlying3 hy
      have jx : v = .int .i64 x := by simpa using jx
      subst jx
      exact ⟨x, hc⟩
    obtain ⟨x3, z3⟩ : ∃ x : Int, W.cell? (a.add (i * 4 + 3)) = some (.int .i64 x) := by
      obtain ⟨v, y, hc, _, hy⟩ := hff 3 _ rfl
      obtain ⟨x, jx, _⟩ := DataW.trod_int Tryd.underlying3 hy
      have jx : v = .int .i64 x := by simpa using jx
      subst jx
      exact ⟨x, hc⟩
    exact ⟨x0, x1, x2, x3, z0, z1, z2, z3⟩
set_option maxRecDepth 100000 in
theorem lifted (os : Os) (started : os.Started) (H : Type) (enc : TypeId × Value → H) :
    ReturnsInHanded {} Tryd.checked os 3 .any (fun w args => (Rows.bitsPlaysSpec.pre enc Tryd.prog Tryd.f3 [] false w args ∧ laidMetH Tryd.prog laid1 w) ∧ sizedMet enc Tryd.prog Tryd.f3 (OpenSpec.ofChange Rows.bitsPlaysSpec) false w args)
      (Rows.bitsPlaysSpec.post enc Tryd.prog Tryd.f3 false true false false) := by
  refine returnsInHanded_of_change_and (C := Tryd.checked) (X := fun w _ => laidMetH Tryd.prog laid1 w) (fun _ _ _ hh h => h.of_heap hh) own started (by kernel_rfl) Tryd.func3
    (ChangeSpec.witness_shaped (enc := enc) (C := Tryd.checked) (os := os) (X := fun w _ => laidMetH Tryd.prog laid1 w) false (World.doorLaid Tryd.prog 400 os) #[.agg #[.int .i64 0, .int .i64 0, .int .i64 0, .slice none 0 0]] 8 rfl (World.shaped_of_RefB (by kernel_rfl) (by kernel_rfl)) (by kernel_rfl) (by kernel_rfl) (by kernel_rfl) (door_met os _)) ?_
  intro W base args ds gs before hval0 hW _ _ hL _
  have hval : ∀ (j : Nat) t v, Tryd.f3.params[j]? = some t → args[j]? = some v → Value.okWide Tryd.prog W .any base t v := hval0
  have hW' := hW
  obtain ⟨p, q, hA0, hV, rfl, hfz, hnd⟩ := hW
  have hA : DataW.TrodAll enc Tryd.prog W 0 (fun _ => true) true Tryd.f3.params.toList args.toList ds p := hA0
  rw [Tryd.params3] at hA hval
  obtain ⟨v0, vs0, d0, ds0, p0, q0, hargs, rfl, rfl, h0, r0⟩ := trodAll_cons hA
  obtain ⟨rfl, rfl, rfl⟩ := trodAll_nil r0
  obtain rfl : args = #[v0] := by cases args; simp_all
  obtain ⟨rfl, rfl⟩ := trodVars_none hV
  have k0 := h0
  have lt0 : ∀ x ∈ p0, x.block < W.heap.size := by obtain ⟨m, hm⟩ := k0; exact DataW.trod_lt m _ _ _ hm
  obtain ⟨cs, rfl, hsz⟩ := okWide_struct Tryd.underlying25 (hval 0 25 v0 rfl rfl)
  have c25 : Tryd.prog.cellsOf 25 = 4 := by kernel_rfl
  rw [c25] at hsz
  obtain ⟨l⟩ := cs
  obtain ⟨s0, s1, s2, A, len, c, hl, hlen, RD⟩ := opened (by simpa using hsz) h0
  subst hl
  have hT := of_laid hL
  clear hA0 hval0
  refine (X.tabardlaw02_BitsPlays.calls W hT s0 s1 s2 A c len hlen RD).mono fun e W' ⟨he, bel⟩ => ?_
  subst he
  exact ⟨_, rfl, _, _, _, [], _, [], hW', trodAll_mk1 (shut_bool Tryd.underlying4 _), (trodAll_cons_mk (Below.trod laidOut (by kernel_rfl) (of_decide_eq_true (by kernel_rfl)) k0 bel lt0) trodAll_mk0), rfl, bel.frame _, fun h => by cases h⟩
theorem over : Rows.BitsPlaysSaid :=
  OpenClaim.holds_of_wide 3 Tryd.f3 rfl rfl rfl rfl rfl rfl rfl ⟨rfl, rfl, rfl, rfl, rfl⟩ rfl rfl rfl rfl rfl (by kernel_rfl) Tryd.func3 (by kernel_rfl)
    (of_decide_eq_true (by kernel_rfl)) (by unfold Func.isWrapper; first | (rw [if_pos (by decide +kernel)]; kernel_rfl) | (rw [if_neg (by decide +kernel)]; exact ⟨rfl, rfl⟩))
    (fun os started H enc _ => lifted os started H enc)
theorem card_holds : Rows.BitsPlaysCardSaid :=
  Claim7.holds_tied_plain_at .later [] [.data] true (true, "9dfcecddba9f481fbd431a9fd263e9e5d238195071f6aa2157083a9e70548744") false
    over (fun _ h => by cases h) (by kernel_rfl) (fun _ h => by cases h) bitsPlays_row_tie rfl ⟨rfl, rfl⟩ (by kernel_rfl) rfl
    (fun f fn hf hfn => by
      obtain rfl : f = 3 := Option.some.inj ((show Tryd.prog.funcNamed "tabard/tabardlaw02.BitsPlays" = some 3 by kernel_rfl).symm.trans hf) |>.symm
      obtain rfl : fn = Tryd.f3 := (Option.some.inj (Tryd.func3.symm.trans hfn)).symm
      exact ⟨by kernel_rfl, fun j t ht => by
        rw [Tryd.params3] at ht
        have hm : t ∈ [25] := by simpa using Array.mem_of_getElem? ht
        have hall : ([25].all fun u => !Tryd.prog.wantsStandIn u) = true := by kernel_rfl
        exact (show Tryd.prog.wantsStandIn t = false by simpa using List.all_eq_true.1 hall t hm)⟩)
    (by kernel_rfl)
#print axioms card_holds
end Go.Proofs.YtpekanolhgcljaaDoor.bitsPlays
namespace Go.Proofs.YtpekanolhgcljaaDoor
/-- The card, under a short name, for the claim. -/
theorem bitsPlays_card_holds : Rows.BitsPlaysCardSaid := bitsPlays.card_holds
end Go.Proofs.YtpekanolhgcljaaDoor
