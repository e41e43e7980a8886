/- A slice of structs of three whole numbers that comes in: opened at every index, and its length by its weight; no condition. -/
import Derived.Deep.Slices
import Derived.Deep.Strs
import Derived.SizedLaws
import Derived.Test.YtiakfdoaopfihaaX0
import Derived.Test.YtiakfdoaopfihaaX0
namespace Go.Proofs.Ytiakfdoaopfihaa.Trips
open Go.ChangeShapes Go.WideShapes Go.Deep Go.RowKit Go.Proofs.YtiakfdoaopfihaaW.PrintWords Go.Proofs.Ytiakfdoaopfihaa.X
section
variable {H : Type} {enc : TypeId × Value → H} {P : Program} {w : World} {base : Nat} {spare : Nat → Bool} {held : Bool}
theorem open_trips {t e : TypeId} {f0 f1 f2 : Field} {d : DataW H} {ps : List MemPlace} {a : Option Addr} {len cap : Nat} (ht : P.underlying t = some (.slice e)) (he : P.underlying e = some (.struct #[f0, f1, f2]))
    (ce : P.cellsOf e = 3) (o0 : f0.offset = 0) (o1 : f1.offset = 1) (o2 : f2.offset = 2) (c0 : P.cellsOf f0.type = 1) (c1 : P.cellsOf f1.type = 1) (c2 : P.cellsOf f2.type = 1)
    (t0 : P.underlying f0.type = some (.int .i64)) (t1 : P.underlying f1.type = some (.int .i64)) (t2 : P.underlying f2.type = some (.int .i64)) (h : DataW.Trod enc P w base spare held t (.slice a len cap) d ps) :
    (a = none ∧ len = 0 ∧ cap = 0 ∧ d = .nil) ∨
    ∃ ad es rs, a = some ad ∧ len ≤ cap ∧ cap ≤ maxLen ∧ d = .slice es rs ∧ es.length = len ∧ ∀ i, i < len → ∃ q : Int × Int × Int, w.cell? (ad.add (i * 3)) = some (.int .i64 q.1) ∧ w.cell? (ad.add (i * 3 + 1)) = some (.int .i64 q.2.1) ∧ w.cell? (ad.add (i * 3 + 2)) = some (.int .i64 q.2.2) := by
  obtain ⟨fuel, hf⟩ := h
  rcases open_slice ht hf with ⟨hcs, hx⟩ | ⟨ad, l, c, m, n, D, Pl, hcs, hb, hl, hm, hmm, hx, hc⟩
  · simp [Value.cells] at hcs
    obtain ⟨rfl, rfl, rfl⟩ := hcs
    exact Or.inl ⟨rfl, rfl, rfl, (Prod.mk.inj hx).1⟩
  · simp [Value.cells] at hcs
    obtain ⟨rfl, rfl, rfl⟩ := hcs
    refine Or.inr ⟨ad, _, _, rfl, hl, hm, (Prod.mk.inj hx).1, by simp, fun i hi => ?_⟩
    have hlm : len ≤ m := by rw [hmm]; split <;> omega
    obtain ⟨cs', h1, h2⟩ := hc i (by omega)
    rw [ce] at h1
    obtain ⟨_, hlen, hcell⟩ := World.cells?_some h1
    obtain ⟨y0, y1, y2, k, _, _, g0, g1, g2⟩ := trod_struct3 he h2
    match cs', hlen with
    | [v0, v1, v2], _ =>
      simp [o0, o1, o2, c0, c1, c2] at g0 g1 g2
      obtain ⟨x, e0, _, _⟩ := DataW.trod_int t0 g0
      obtain ⟨y, e1, _, _⟩ := DataW.trod_int t1 g1
      obtain ⟨z, e2, _, _⟩ := DataW.trod_int t2 g2
      simp at e0 e1 e2
      subst e0 e1 e2
      have k0 := hcell 0 (by omega)
      have k1 := hcell 1 (by omega)
      have k2 := hcell 2 (by omega)
      rw [Go.Deep.add_add] at k0 k1 k2
      exact ⟨(x, y, z), by simpa using k0, by simpa using k1, by simpa using k2⟩
/-- The cubes that come in, as the walks ask for them. -/
theorem reads_trips {t : TypeId} {f0 f1 f2 : Field} {d : DataW H} {ps : List MemPlace} {a : Option Addr} {len cap B : Nat} {e : TypeId} {ts : List TypeId} {ds : List (DataW H)} {j : Nat}
    (hsz : (DataW.weightsEach P ts ds).all (· ≤ reachBytes) = true) (hj : ts[j]? = some t) (hd : ds[j]? = some d) (ht : P.underlying t = some (.slice e)) (he : P.underlying e = some (.struct #[f0, f1, f2]))
    (ce : P.cellsOf e = 3) (o0 : f0.offset = 0) (o1 : f1.offset = 1) (o2 : f2.offset = 2) (c0 : P.cellsOf f0.type = 1) (c1 : P.cellsOf f1.type = 1) (c2 : P.cellsOf f2.type = 1)
    (t0 : P.underlying f0.type = some (.int .i64)) (t1 : P.underlying f1.type = some (.int .i64)) (t2 : P.underlying f2.type = some (.int .i64)) (hB : P.bytesOf e = B) (h : DataW.Trod enc P w base spare held t (.slice a len cap) d ps) :
    ∃ l : List S31, l.length = len ∧ Kd.C k31 w a len l ∧ len ≤ cap ∧ len * B ≤ reachBytes := by
  rcases open_trips ht he ce o0 o1 o2 c0 c1 c2 t0 t1 t2 h with ⟨rfl, rfl, rfl, rfl⟩ | ⟨ad, es, rs, rfl, hl, hm, rfl, hes, hq⟩
  · exact ⟨[], rfl, ⟨rfl, by omega, fun h0 => absurd h0 (by omega)⟩, Nat.le_refl _, by omega⟩
  · obtain ⟨F, hF⟩ := choose_lt (α := Int × Int × Int) hq
    refine ⟨(List.range len).map fun i => ⟨(F i).1, (F i).2.1, (F i).2.2⟩, by simp, ⟨by simp, by unfold maxLen at hm; omega, fun _ => ⟨ad, rfl, fun i p hp => ?_⟩⟩, hl, ?_⟩
    · rw [List.getElem?_map, Option.map_eq_some_iff] at hp
      obtain ⟨i', hi, rfl⟩ := hp
      have hi2 := List.getElem?_eq_some_iff.1 hi
      obtain ⟨hlt, e1⟩ := hi2
      simp at e1 hlt
      subst e1
      obtain ⟨k0, k1, k2⟩ := hF i hlt
      refine ⟨[.int .i64 (F i).1, .int .i64 (F i).2.1, .int .i64 (F i).2.2], rfl, k31_mk w ⟨(F i).1, (F i).2.1, (F i).2.2⟩, fun z u hz => ?_⟩
      have hz3 : z < 3 := by have := (List.getElem?_eq_some_iff.1 hz).1; simpa using this
      show w.cell? (ad.add (i * 3 + z)) = some u
      match z, hz3, hz with
      | 0, _, hz => simp at hz; subst hz; exact k0
      | 1, _, hz => simp at hz; subst hz; exact k1
      | 2, _, hz => simp at hz; subst hz; exact k2
    · have z := sized_slice hsz hj hd ht
      rw [hB, hes] at z
      exact Nat.le_trans (Nat.mul_le_mul_right _ (by omega)) z
end
end Go.Proofs.Ytiakfdoaopfihaa.Trips
