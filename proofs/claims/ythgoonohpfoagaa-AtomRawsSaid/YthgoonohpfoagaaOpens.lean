/- What comes in, opened: slices whose elements are numbers, bools, texts, records of three numbers or slices again, and records of such slices; their lengths by their weights; no condition. -/
import Derived.Deep.Slices
import Derived.Deep.Strs
import Derived.SizedLaws
import Derived.Lib.SmallJoins
import Derived.Test.YthgoonohpfoagaaX0
namespace Go.Proofs.Ythgoonohpfoagaa.Opens
open Go.ChangeShapes Go.WideShapes Go.Deep Go.RowKit Go.Proofs.YthgoonohpfoagaaW.PrintWords Go.Proofs.Ythgoonohpfoagaa.X
section
variable {H : Type} {enc : TypeId × Value → H} {P : Program} {w : World} {base : Nat} {spare : Nat → Bool} {held : Bool}
def Fits (P : Program) (t : TypeId) (d : DataW H) : Prop := ∀ m ∈ d.weights P t, m ≤ reachBytes
theorem weightsAll_in {e : TypeId} : ∀ {l : List (DataW H)} {d : DataW H}, d ∈ l → ∀ m ∈ d.weights P e, m ∈ DataW.weightsAll P e l
  | x :: l, d, hd, m, hm => by
    simp only [DataW.weightsAll, List.mem_append]
    rcases List.mem_cons.1 hd with rfl | hd
    · exact Or.inl hm
    · exact Or.inr (weightsAll_in hd m hm)
theorem Fits.elem {t e : TypeId} {es rs : List (DataW H)} (ht : P.underlying t = some (.slice e)) (h : Fits P t (.slice es rs)) {d : DataW H} (hd : d ∈ es) : Fits P e d := fun m hm =>
  h m (by simp only [DataW.weights, ht, List.mem_cons, List.mem_append]; exact Or.inr (Or.inl (weightsAll_in hd m hm)))
theorem Fits.len {t e : TypeId} {es rs : List (DataW H)} (ht : P.underlying t = some (.slice e)) (h : Fits P t (.slice es rs)) : es.length * P.bytesOf e ≤ reachBytes :=
  Nat.le_trans (Nat.mul_le_mul_right _ (Nat.le_add_right _ rs.length)) (h _ (by simp [DataW.weights, ht]))
theorem fits_top {ts : List TypeId} {ds : List (DataW H)} {j : Nat} {t : TypeId} {d : DataW H} (hsz : (DataW.weightsEach P ts ds).all (· ≤ reachBytes) = true) (ht : ts[j]? = some t) (hd : ds[j]? = some d) : Fits P t d := fun m hm => by
  have := List.all_eq_true.1 hsz _ (DataW.weights_mem_each ht hd m hm)
  simpa using this
theorem open_kd {α : Type} [Inhabited α] (d : Kd α) (Q : α → Prop) {t e : TypeId} {fuel : Nat} {v : Value} {y : DataW H × List MemPlace} (ht : P.underlying t = some (.slice e)) (he : P.cellsOf e = d.sz)
    (hK : ∀ n cs z, cs.length = d.sz → DataW.trod enc P w base spare held n e cs = some z → Fits P e z.1 → ∃ x, d.K w x cs ∧ Q x)
    (h : DataW.trod enc P w base spare held fuel t [v] = some y) (hw : Fits P t y.1) :
    ∃ A c l, v = .slice A l.length c ∧ d.C w A l.length l ∧ l.length ≤ c ∧ l.length * P.bytesOf e ≤ reachBytes ∧ ∀ x ∈ l, Q x := by
  rcases open_slice ht h with ⟨hcs, _⟩ | ⟨ad, l, c, m, n, D, Pl, hcs, hb, hl, hm, hmm, hx, hc⟩
  · obtain rfl : v = .slice none 0 0 := by simpa using hcs
    exact ⟨none, 0, [], rfl, ⟨rfl, by simp, fun h0 => absurd h0 (by simp)⟩, Nat.le_refl _, by simp, fun x hx => by simp at hx⟩
  · obtain rfl : v = .slice (some ad) l c := by simpa using hcs
    subst hx
    have hlm : l ≤ m := by rw [hmm]; split <;> omega
    have each : ∀ i, i < l → ∃ x : α, (∃ cs', cs'.length = d.sz ∧ d.K w x cs' ∧ ∀ j u, cs'[j]? = some u → w.cell? (ad.add (i * d.sz + j)) = some u) ∧ Q x := by
      intro i hi
      obtain ⟨cs', h1, h2⟩ := hc i (by omega)
      rw [he] at h1
      obtain ⟨_, hlen, hcell⟩ := World.cells?_some h1
      obtain ⟨x, hx, hq⟩ := hK n cs' _ hlen h2 (Fits.elem ht hw (List.mem_map.2 ⟨i, List.mem_range.2 hi, rfl⟩))
      refine ⟨x, ⟨cs', hlen, hx, fun j u hu => ?_⟩, hq⟩
      have hj : j < d.sz := by have := (List.getElem?_eq_some_iff.1 hu).1; omega
      have := hcell j hj
      rw [Go.Deep.add_add] at this
      rw [this]; exact hu
    obtain ⟨F, hF⟩ := choose_lt each
    refine ⟨some ad, c, (List.range l).map F, by simp, ⟨by simp, by rw [List.length_map, List.length_range]; unfold maxLen at hm; omega, fun _ => ⟨ad, rfl, fun j p hp => ?_⟩⟩, by simpa using hl, ?_, ?_⟩
    · rw [List.getElem?_map, Option.map_eq_some_iff] at hp
      obtain ⟨i', hi, rfl⟩ := hp
      obtain ⟨hlt, e1⟩ := List.getElem?_eq_some_iff.1 hi
      simp at e1 hlt
      subst e1
      exact (hF j hlt).1
    · have := Fits.len ht hw
      simpa using this
    · intro x hx
      obtain ⟨i, hi, rfl⟩ := List.mem_map.1 hx
      exact (hF i (List.mem_range.1 hi)).2
theorem open_strs' {t e : TypeId} {fuel : Nat} {v : Value} {y : DataW H × List MemPlace} (ht : P.underlying t = some (.slice e)) (hu : P.underlying e = some .string) (he : P.cellsOf e = 1)
    (h : DataW.trod enc P w base spare held fuel t [v] = some y) (hw : Fits P t y.1) :
    ∃ A c l, v = .slice A l.length c ∧ Kd.string.C w A l.length l ∧ l.length ≤ c ∧ l.length * P.bytesOf e ≤ reachBytes ∧ ∀ x ∈ l, x.size ≤ maxLen :=
  open_kd Kd.string (fun x => x.size ≤ maxLen) ht he (fun n cs z _ hz _ => by obtain ⟨s, rfl, _, hs⟩ := DataW.trod_string hu hz; exact ⟨s, rfl, hs⟩) h hw
theorem open_ints' {k : IntKind} {t e : TypeId} {fuel : Nat} {v : Value} {y : DataW H × List MemPlace} (ht : P.underlying t = some (.slice e)) (hu : P.underlying e = some (.int k)) (he : P.cellsOf e = 1)
    (h : DataW.trod enc P w base spare held fuel t [v] = some y) (hw : Fits P t y.1) :
    ∃ A c l, v = .slice A l.length c ∧ (Kd.int k).C w A l.length l ∧ l.length ≤ c ∧ l.length * P.bytesOf e ≤ reachBytes ∧ ∀ x ∈ l, (Lit.int k x).wf = true :=
  open_kd (Kd.int k) (fun x => (Lit.int k x).wf = true) ht he (fun n cs z _ hz _ => by obtain ⟨s, rfl, _, hs⟩ := DataW.trod_int hu hz; exact ⟨s, rfl, hs⟩) h hw
theorem array5 {α : Type} {cs : Array α} (h : cs.size = 5) : ∃ c0 c1 c2 c3 c4, cs = #[c0, c1, c2, c3, c4] := by
  obtain ⟨l⟩ := cs
  match l, h with
  | [c0, c1, c2, c3, c4], _ => exact ⟨c0, c1, c2, c3, c4, rfl⟩
theorem trod_struct5 {t : TypeId} {f0 f1 f2 f3 f4 : Field} {fuel : Nat} {cs : List Value} {x : DataW H × List MemPlace} (ht : P.underlying t = some (.struct #[f0, f1, f2, f3, f4])) (h : DataW.trod enc P w base spare held fuel t cs = some x) :
    ∃ y0 y1 y2 y3 y4 n, x = (.agg [y0.1, y1.1, y2.1, y3.1, y4.1], y0.2 ++ (y1.2 ++ (y2.2 ++ (y3.2 ++ y4.2)))) ∧ cs.length = P.cellsOf t ∧ DataW.trod enc P w base spare held n f0.type ((cs.drop f0.offset).take (P.cellsOf f0.type)) = some y0 ∧
      DataW.trod enc P w base spare held n f1.type ((cs.drop f1.offset).take (P.cellsOf f1.type)) = some y1 ∧ DataW.trod enc P w base spare held n f2.type ((cs.drop f2.offset).take (P.cellsOf f2.type)) = some y2 ∧
      DataW.trod enc P w base spare held n f3.type ((cs.drop f3.offset).take (P.cellsOf f3.type)) = some y3 ∧ DataW.trod enc P w base spare held n f4.type ((cs.drop f4.offset).take (P.cellsOf f4.type)) = some y4 := by
  obtain ⟨xs, n, _, rfl, hl, hlen, hf⟩ := DataW.trod_struct ht h
  match xs, hlen with
  | [y0, y1, y2, y3, y4], _ => exact ⟨y0, y1, y2, y3, y4, n, by simp, hl, by simpa using hf 0 f0 rfl, by simpa using hf 1 f1 rfl, by simpa using hf 2 f2 rfl, by simpa using hf 3 f3 rfl, by simpa using hf 4 f4 rfl⟩
theorem open_agg5 {r : Reach} {b0 : Nat} {t : TypeId} {f0 f1 f2 f3 f4 : Field} {v : Value} {d : DataW H} {p : List MemPlace} (hs : P.underlying t = some (.struct #[f0, f1, f2, f3, f4])) (hone : oneCellFields P #[f0, f1, f2, f3, f4] = true) (hC : P.cellsOf t = 5)
    (hv : Value.okWide P w r b0 t v) (h : DataW.Trod enc P w base spare held t v d p) :
    ∃ (v0 v1 v2 v3 v4 : Value) (y0 y1 y2 y3 y4 : DataW H × List MemPlace) (n : Nat), v = .agg #[v0, v1, v2, v3, v4] ∧ d = .agg [y0.1, y1.1, y2.1, y3.1, y4.1] ∧ p = y0.2 ++ (y1.2 ++ (y2.2 ++ (y3.2 ++ y4.2))) ∧
      DataW.trod enc P w base spare held n f0.type [v0] = some y0 ∧ DataW.trod enc P w base spare held n f1.type [v1] = some y1 ∧ DataW.trod enc P w base spare held n f2.type [v2] = some y2 ∧ DataW.trod enc P w base spare held n f3.type [v3] = some y3 ∧ DataW.trod enc P w base spare held n f4.type [v4] = some y4 := by
  obtain ⟨cs, rfl, hsz⟩ := okWide_struct hs hv
  obtain ⟨c0, c1, c2, c3, c4, rfl⟩ := array5 (hsz.trans hC)
  obtain ⟨fuel, hf⟩ := h
  obtain ⟨y0, y1, y2, y3, y4, n, hx, _, h0, h1, h2, h3, h4⟩ := trod_struct5 hs hf
  obtain ⟨o0, k0⟩ := Go.Deep.hone_of hone 0 f0 rfl
  obtain ⟨o1, k1⟩ := Go.Deep.hone_of hone 1 f1 rfl
  obtain ⟨o2, k2⟩ := Go.Deep.hone_of hone 2 f2 rfl
  obtain ⟨o3, k3⟩ := Go.Deep.hone_of hone 3 f3 rfl
  obtain ⟨o4, k4⟩ := Go.Deep.hone_of hone 4 f4 rfl
  simp only [Prod.mk.injEq] at hx
  exact ⟨c0, c1, c2, c3, c4, y0, y1, y2, y3, y4, n, rfl, hx.1, hx.2, by simpa [Value.cells, o0, k0] using h0, by simpa [Value.cells, o1, k1] using h1, by simpa [Value.cells, o2, k2] using h2, by simpa [Value.cells, o3, k3] using h3, by simpa [Value.cells, o4, k4] using h4⟩
theorem Fits.agg5 {t : TypeId} {f0 f1 f2 f3 f4 : Field} {d0 d1 d2 d3 d4 : DataW H} (ht : P.underlying t = some (.struct #[f0, f1, f2, f3, f4])) (h : Fits P t (.agg [d0, d1, d2, d3, d4])) : Fits P f0.type d0 ∧ Fits P f1.type d1 ∧ Fits P f2.type d2 ∧ Fits P f3.type d3 ∧ Fits P f4.type d4 := by
  refine ⟨fun m hm => h m ?_, fun m hm => h m ?_, fun m hm => h m ?_, fun m hm => h m ?_, fun m hm => h m ?_⟩ <;> simp only [DataW.weights, ht, List.map_cons, List.map_nil, DataW.weightsEach, List.mem_append] <;> simp [hm]
end
end Go.Proofs.Ythgoonohpfoagaa.Opens
