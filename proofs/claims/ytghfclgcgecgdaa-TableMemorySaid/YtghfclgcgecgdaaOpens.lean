/- What comes in, opened: slices whose elements are numbers, bools, texts, records of three numbers or slices again, and records of such slices; their lengths by their weights; no condition. -/
import Derived.Deep.Slices
import Derived.Deep.Strs
import Derived.SizedLaws
import Derived.Lib.SmallJoins
import Derived.Test.YtghfclgcgecgdaaX0
import Derived.Test.YtghfclgcgecgdaaX0
namespace Go.Proofs.Ytghfclgcgecgdaa.Opens
open Go.ChangeShapes Go.WideShapes Go.Deep Go.RowKit Go.Proofs.YtghfclgcgecgdaaW.PrintWords Go.Proofs.Ytghfclgcgecgdaa.X
section
variable {H : Type} {enc : TypeId × Value → H} {P : Program} {w : World} {base : Nat} {spare : Nat → Bool} {held : Bool}
def Fits (P : Program) (t : TypeId) (d : DataW H) : Prop := ∀ m ∈ d.weights P t, m ≤ reachBytes
theorem weightsAll_in {e : TypeId} : ∀ {l : List (DataW H)} {d : DataW H}, d ∈ l → ∀ m ∈ d.weights P e, m ∈ DataW.weightsAll P e l
  | x :: l, d, hd, m, hm => by
    simp only [DataW.weightsAll, List.mem_append]
    rcases List.mem_cons.1 hd with rfl | hd
    · exact Or.inl hm
    · exact Or.inr (weightsAll_in hd m hm)
theorem Fits.elem {t e : TypeId} {es rs : List (DataW H)} (ht : P.underlying t = some (.slice e)) (h : Fits P t (.slice es rs)) {d : DataW H} (hd : d ∈ es) : Fits P e d := fun m hm =>
  h m (by simp only [DataW.weights, ht, List.mem_cons, List.mem_append]; exact Or.inr (Or.inl (weightsAll_in hd m hm)))
theorem Fits.len {t e : TypeId} {es rs : List (DataW H)} (ht : P.underlying t = some (.slice e)) (h : Fits P t (.slice es rs)) : es.length * P.bytesOf e ≤ reachBytes :=
  Nat.le_trans (Nat.mul_le_mul_right _ (Nat.le_add_right _ rs.length)) (h _ (by simp [DataW.weights, ht]))
theorem Fits.agg3 {t : TypeId} {f0 f1 f2 : Field} {d0 d1 d2 : DataW H} (ht : P.underlying t = some (.struct #[f0, f1, f2])) (h : Fits P t (.agg [d0, d1, d2])) : Fits P f0.type d0 ∧ Fits P f1.type d1 ∧ Fits P f2.type d2 := by
  refine ⟨fun m hm => h m ?_, fun m hm => h m ?_, fun m hm => h m ?_⟩ <;> simp only [DataW.weights, ht, List.map_cons, List.map_nil, DataW.weightsEach, List.mem_append] <;> simp [hm]
theorem Fits.agg4 {t : TypeId} {f0 f1 f2 f3 : Field} {d0 d1 d2 d3 : DataW H} (ht : P.underlying t = some (.struct #[f0, f1, f2, f3])) (h : Fits P t (.agg [d0, d1, d2, d3])) : Fits P f0.type d0 ∧ Fits P f1.type d1 ∧ Fits P f2.type d2 ∧ Fits P f3.type d3 := by
  refine ⟨fun m hm => h m ?_, fun m hm => h m ?_, fun m hm => h m ?_, fun m hm => h m ?_⟩ <;> simp only [DataW.weights, ht, List.map_cons, List.map_nil, DataW.weightsEach, List.mem_append] <;> simp [hm]
theorem fits_top {ts : List TypeId} {ds : List (DataW H)} {j : Nat} {t : TypeId} {d : DataW H} (hsz : (DataW.weightsEach P ts ds).all (· ≤ reachBytes) = true) (ht : ts[j]? = some t) (hd : ds[j]? = some d) : Fits P t d := fun m hm => by
  have := List.all_eq_true.1 hsz _ (DataW.weights_mem_each ht hd m hm)
  simpa using this
/-- A slice that came in, whatever its elements' kind. -/
theorem open_kd {α : Type} [Inhabited α] (d : Kd α) (Q : α → Prop) {t e : TypeId} {fuel : Nat} {v : Value} {y : DataW H × List MemPlace} (ht : P.underlying t = some (.slice e)) (he : P.cellsOf e = d.sz)
    (hK : ∀ n cs z, cs.length = d.sz → DataW.trod enc P w base spare held n e cs = some z → Fits P e z.1 → ∃ x, d.K w x cs ∧ Q x)
    (h : DataW.trod enc P w base spare held fuel t [v] = some y) (hw : Fits P t y.1) :
    ∃ A c l, v = .slice A l.length c ∧ d.C w A l.length l ∧ l.length ≤ c ∧ l.length * P.bytesOf e ≤ reachBytes ∧ ∀ x ∈ l, Q x := by
  rcases open_slice ht h with ⟨hcs, _⟩ | ⟨ad, l, c, m, n, D, Pl, hcs, hb, hl, hm, hmm, hx, hc⟩
  · obtain rfl : v = .slice none 0 0 := by simpa using hcs
    exact ⟨none, 0, [], rfl, ⟨rfl, by simp, fun h0 => absurd h0 (by simp)⟩, Nat.le_refl _, by simp, fun x hx => by simp at hx⟩
  · obtain rfl : v = .slice (some ad) l c := by simpa using hcs
    subst hx
    have hlm : l ≤ m := by rw [hmm]; split <;> omega
    have each : ∀ i, i < l → ∃ x : α, (∃ cs', cs'.length = d.sz ∧ d.K w x cs' ∧ ∀ j u, cs'[j]? = some u → w.cell? (ad.add (i * d.sz + j)) = some u) ∧ Q x := by
      intro i hi
      obtain ⟨cs', h1, h2⟩ := hc i (by omega)
      rw [he] at h1
      obtain ⟨_, hlen, hcell⟩ := World.cells?_some h1
      obtain ⟨x, hx, hq⟩ := hK n cs' _ hlen h2 (Fits.elem ht hw (List.mem_map.2 ⟨i, List.mem_range.2 hi, rfl⟩))
      refine ⟨x, ⟨cs', hlen, hx, fun j u hu => ?_⟩, hq⟩
      have hj : j < d.sz := by have := (List.getElem?_eq_some_iff.1 hu).1; omega
      have := hcell j hj
      rw [Go.Deep.add_add] at this
      rw [this]; exact hu
    obtain ⟨F, hF⟩ := choose_lt each
    refine ⟨some ad, c, (List.range l).map F, by simp, ⟨by simp, by rw [List.length_map, List.length_range]; unfold maxLen at hm; omega, fun _ => ⟨ad, rfl, fun j p hp => ?_⟩⟩, by simpa using hl, ?_, ?_⟩
    · rw [List.getElem?_map, Option.map_eq_some_iff] at hp
      obtain ⟨i', hi, rfl⟩ := hp
      obtain ⟨hlt, e1⟩ := List.getElem?_eq_some_iff.1 hi
      simp at e1 hlt
      subst e1
      exact (hF j hlt).1
    · have := Fits.len ht hw
      simpa using this
    · intro x hx
      obtain ⟨i, hi, rfl⟩ := List.mem_map.1 hx
      exact (hF i (List.mem_range.1 hi)).2
theorem len_of {t e : TypeId} {fuel n c : Nat} {A : Option Addr} {d : DataW H} {p : List MemPlace} (ht : P.underlying t = some (.slice e)) (h : DataW.trod enc P w base spare held fuel t [.slice A n c] = some (d, p)) :
    n = 0 ∨ ∃ es rs, d = .slice es rs ∧ es.length = n := by
  rcases open_slice ht h with ⟨hcs, _⟩ | ⟨ad, l, c', m, k, D, Pl, hcs, hb, hl, hm, hmm, hx, hc⟩
  · simp at hcs; exact Or.inl hcs.2.1
  · simp at hcs
    obtain ⟨_, rfl, _⟩ := hcs
    exact Or.inr ⟨_, _, (Prod.mk.inj hx).1, by simp⟩
theorem open_strs' {t e : TypeId} {fuel : Nat} {v : Value} {y : DataW H × List MemPlace} (ht : P.underlying t = some (.slice e)) (hu : P.underlying e = some .string) (he : P.cellsOf e = 1)
    (h : DataW.trod enc P w base spare held fuel t [v] = some y) (hw : Fits P t y.1) :
    ∃ A c l, v = .slice A l.length c ∧ Kd.string.C w A l.length l ∧ l.length ≤ c ∧ l.length * P.bytesOf e ≤ reachBytes ∧ ∀ x ∈ l, x.size ≤ maxLen :=
  open_kd Kd.string (fun x => x.size ≤ maxLen) ht he (fun n cs z _ hz _ => by obtain ⟨s, rfl, _, hs⟩ := DataW.trod_string hu hz; exact ⟨s, rfl, hs⟩) h hw
theorem open_bools' {t e : TypeId} {fuel : Nat} {v : Value} {y : DataW H × List MemPlace} (ht : P.underlying t = some (.slice e)) (hu : P.underlying e = some .bool) (he : P.cellsOf e = 1)
    (h : DataW.trod enc P w base spare held fuel t [v] = some y) (hw : Fits P t y.1) :
    ∃ A c l, v = .slice A l.length c ∧ Kd.bool.C w A l.length l ∧ l.length ≤ c ∧ l.length * P.bytesOf e ≤ reachBytes ∧ ∀ x ∈ l, True :=
  open_kd Kd.bool (fun _ => True) ht he (fun n cs z _ hz _ => by obtain ⟨s, rfl, _⟩ := DataW.trod_bool hu hz; exact ⟨s, rfl, trivial⟩) h hw
theorem open_ints' {k : IntKind} {t e : TypeId} {fuel : Nat} {v : Value} {y : DataW H × List MemPlace} (ht : P.underlying t = some (.slice e)) (hu : P.underlying e = some (.int k)) (he : P.cellsOf e = 1)
    (h : DataW.trod enc P w base spare held fuel t [v] = some y) (hw : Fits P t y.1) :
    ∃ A c l, v = .slice A l.length c ∧ (Kd.int k).C w A l.length l ∧ l.length ≤ c ∧ l.length * P.bytesOf e ≤ reachBytes ∧ ∀ x ∈ l, (Lit.int k x).wf = true :=
  open_kd (Kd.int k) (fun x => (Lit.int k x).wf = true) ht he (fun n cs z _ hz _ => by obtain ⟨s, rfl, _, hs⟩ := DataW.trod_int hu hz; exact ⟨s, rfl, hs⟩) h hw
theorem open_rows' {k : IntKind} {t e q : TypeId} {fuel : Nat} {v : Value} {y : DataW H × List MemPlace} (ht : P.underlying t = some (.slice e)) (hu : P.underlying e = some (.slice q)) (hq : P.underlying q = some (.int k)) (he : P.cellsOf e = 1) (hc : P.cellsOf q = 1) (z : Nat)
    (h : DataW.trod enc P w base spare held fuel t [v] = some y) (hw : Fits P t y.1) :
    ∃ A c l, v = .slice A l.length c ∧ (Kd.slice z (Kd.int k)).C w A l.length l ∧ l.length ≤ c ∧ l.length * P.bytesOf e ≤ reachBytes ∧ ∀ x ∈ l, x.length * P.bytesOf q ≤ reachBytes ∧ ∀ a ∈ x, (Lit.int k a).wf = true :=
  open_kd (Kd.slice z (Kd.int k)) (fun x => x.length * P.bytesOf q ≤ reachBytes ∧ ∀ a ∈ x, (Lit.int k a).wf = true) ht he (fun n cs y hl hz hw => by
    match cs, hl with
    | [u], _ =>
      obtain ⟨A, c, l, rfl, h1, h2, h3, h4⟩ := open_ints' hu hq hc hz hw
      exact ⟨l, ⟨A, c, rfl, h2, h1⟩, h3, h4⟩) h hw
instance : Inhabited S58 := ⟨z58⟩
theorem open_cubes' {t e : TypeId} {f0 f1 f2 : Field} {fuel : Nat} {v : Value} {y : DataW H × List MemPlace} (ht : P.underlying t = some (.slice e)) (hu : P.underlying e = some (.struct #[f0, f1, f2])) (he : P.cellsOf e = 3)
    (o0 : f0.offset = 0) (o1 : f1.offset = 1) (o2 : f2.offset = 2) (c0 : P.cellsOf f0.type = 1) (c1 : P.cellsOf f1.type = 1) (c2 : P.cellsOf f2.type = 1) (t0 : P.underlying f0.type = some (.int .i64)) (t1 : P.underlying f1.type = some (.int .i64)) (t2 : P.underlying f2.type = some (.int .i64))
    (h : DataW.trod enc P w base spare held fuel t [v] = some y) (hw : Fits P t y.1) :
    ∃ A c l, v = .slice A l.length c ∧ Kd.C k58 w A l.length l ∧ l.length ≤ c ∧ l.length * P.bytesOf e ≤ reachBytes ∧ ∀ x ∈ l, True :=
  open_kd k58 (fun _ => True) ht he (fun n cs z hl hz _ => by
    obtain ⟨y0, y1, y2, k, _, _, g0, g1, g2⟩ := trod_struct3 hu hz
    match cs, hl with
    | [v0, v1, v2], _ =>
      simp [o0, o1, o2, c0, c1, c2] at g0 g1 g2
      obtain ⟨a, e0, _, _⟩ := DataW.trod_int t0 g0
      obtain ⟨b, e1, _, _⟩ := DataW.trod_int t1 g1
      obtain ⟨c, e2, _, _⟩ := DataW.trod_int t2 g2
      simp at e0 e1 e2
      subst e0 e1 e2
      exact ⟨⟨a, b, c⟩, k58_mk w ⟨a, b, c⟩, trivial⟩) h hw
end
end Go.Proofs.Ytghfclgcgecgdaa.Opens
