/- What the program's calls on sets come to, by hand: each call's own contract; no condition beyond what each contract says. -/
import Derived.Test.YtghfclgcgecgdaaX0
namespace Go.Proofs.Ytghfclgcgecgdaa.X
open Go.RowKit Go.Proofs.YtghfclgcgecgdaaW.PrintWords Go.Proofs.YtghfclgcgecgdaaW.PrintLast Go.Proofs.YtghfclgcgecgdaaW.PrintMore
set_option linter.unusedVariables false
set_option linter.unusedSimpArgs false
/-! ### What is written over: a frame over blocks that may change; a row of rows of which nothing is kept but its form -/
structure Fr (okp : Nat → Prop) (W W1 : World) : Prop where
  os : W1.os = W.os
  tape : W1.tape = W.tape
  output : W1.output = W.output
  size : W.heap.size ≤ W1.heap.size
  block : ∀ k, k < W.heap.size → ¬ okp k → W1.heap[k]? = W.heap[k]?
theorem Fr.refl (okp : Nat → Prop) (W : World) : Fr okp W W := ⟨rfl, rfl, rfl, Nat.le_refl _, fun _ _ _ => rfl⟩
theorem grown_cell (W : World) (b j : Nat) (x : Value) : W.grownBy (W.setCell ⟨b, j, none⟩ x) (some b) :=
  ⟨rfl, rfl, rfl, by simp, fun k hk hne => Below.heap_setCell W _ x k (fun e => hne (by rw [e]))⟩
section
variable {okp : Nat → Prop} {W0 W W1 : World}
theorem Fr.grown (h : Fr okp W0 W) {row : Option Nat} (hg : W.grownBy W1 row) (hr : ∀ b, row = some b → okp b ∨ W0.heap.size ≤ b) : Fr okp W0 W1 :=
  ⟨hg.os.trans h.os, hg.tape.trans h.tape, hg.output.trans h.output, Nat.le_trans h.size hg.size, fun k hk hn => (hg.block k (Nat.lt_of_lt_of_le hk h.size) (fun e => by
    rcases hr k e.symm with h1 | h1
    · exact hn h1
    · omega)).trans (h.block k hk hn)⟩
theorem Fr.set (h : Fr okp W0 W) {b : Nat} (hb : okp b ∨ W0.heap.size ≤ b) (j : Nat) (x : Value) : Fr okp W0 (W.setCell ⟨b, j, none⟩ x) := h.grown (grown_cell W b j x) (fun _ e => by obtain rfl := Option.some.inj e; exact hb)
theorem Fr.below (h : Fr okp W0 W) (hb : Below W.heap.size W W1) : Fr okp W0 W1 := h.grown (row := none) (grown_of_below hb none) (fun _ e => by cases e)
theorem Fr.R {α : Type} {d : Kd α} {e base : Nat} {ok : Nat → Prop} {v : Value} {xs : List α} (h : Fr okp W0 W) (hr : d.R e W0 base ok v xs) (hd : ∀ k, ok k → ¬ okp k) : d.R e W base ok v xs := Kd.R_step hr (fun k h1 h2 => h.block k h2 (hd k h1))
theorem Fr.S {α : Type} {d : Kd α} {e base : Nat} {ok : Nat → Prop} {v : Value} {xs : List α} (h : Fr okp W0 W) (hr : Kd.S d e W0 base ok v xs) (hd : ∀ k, ok k → ¬ okp k) : Kd.S d e W base ok v xs := Kd.S_step hr (fun k h1 h2 => h.block k h2 (hd k h1))
theorem Fr.blk {g : Nat} {o : Obj} (h : Fr okp W0 W) (hb : W0.heap[g]? = some o) (hn : ¬ okp g) : W.heap[g]? = some o := (h.block g (blk_lt hb) hn).trans hb
theorem Fr.bel {w : World} (h : Fr okp W0 W) (hb : Below w.heap.size w W0) (hn : ∀ k, okp k → w.heap.size ≤ k) : Below w.heap.size w W :=
  ⟨h.os.trans hb.os, h.tape.trans hb.tape, h.output.trans hb.output, Nat.le_trans hb.size h.size, fun k hk => (h.block k (Nat.lt_of_lt_of_le hk hb.size) (fun e => absurd (hn k e) (by omega))).trans (hb.block k hk)⟩
end
/-- A row of rows (inner type e, outer type t): the rows lie apart, in blocks that may be written. -/
structure Wk (e t : Nat) (W : World) (base : Nat) (ok : Nat → Prop) (g n : Nat) (row : Nat → Value) (len : Nat → Nat) : Prop where
  hd : ∃ cur : Array Value, W.heap[g]? = some (.cells cur t (0, 0)) ∧ ∀ i, i < n → cur[i]? = some (row i)
  own : ∀ i, i < n → ∃ xs, W.ownsRow base e 1 (row i) (len i) xs
  okk : ∀ i, i < n → ∀ b, (row i).ownBlock = some b → ok b
  ne : ∀ i j, i < n → j < n → i ≠ j → ∀ b, (row i).ownBlock = some b → (row j).ownBlock ≠ some b
  okg : ok g
section
variable {e t base g n : Nat} {W W1 : World} {ok : Nat → Prop} {row : Nat → Value} {len : Nat → Nat}
theorem Wk.cell (h : Wk e t W base ok g n row len) {i : Nat} (hi : i < n) : W.cell? ⟨g, i, none⟩ = some (row i) ∧ W.frozen? ⟨g, i, none⟩ = false := by
  obtain ⟨cur, hc, hr⟩ := h.hd
  exact ⟨(blk_cell hc i).trans (hr i hi), blk_frozen hc i⟩
/-- A row's form. -/
theorem Wk.form (h : Wk e t W base ok g n row len) {i : Nat} (hi : i < n) : ∃ A c, row i = .slice A (len i) c ∧ (∀ j, j < len i → ∃ b, A = some ⟨b, 0, none⟩ ∧ ok b ∧ (∃ x, W.cell? ⟨b, j, none⟩ = some x) ∧ W.frozen? ⟨b, j, none⟩ = false) := by
  obtain ⟨xs, h1, h2⟩ := h.own i hi
  rcases h2 with ⟨e1, e2⟩ | ⟨b, cap, cur, e1, hb, hh, hn, hc, hs, _⟩
  · exact ⟨none, 0, by rw [e1, e2], fun j hj => by omega⟩
  · refine ⟨_, cap, e1, fun j hj => ⟨b, rfl, h.okk i hi b (by rw [e1]; rfl), ⟨cur[j]'(by omega), ?_⟩, blk_frozen hh j⟩⟩
    rw [blk_cell hh j]
    exact Array.getElem?_eq_getElem (by omega)
theorem Wk.off (h : Wk e t W base ok g n row len) {r : Option Nat} (hg : W.grownBy W1 r) (ho : ∀ b, r = some b → ∀ q, q = t ∨ q = e → ∀ cs, W.heap[b]? ≠ some (.cells cs q (0, 0))) : Wk e t W1 base ok g n row len := by
  obtain ⟨cur, hc, hr⟩ := h.hd
  refine ⟨⟨cur, blk_grown hc hg (fun e1 => ho g e1.symm t (.inl rfl) cur hc), hr⟩, fun i hi => ?_, h.okk, h.ne, h.okg⟩
  obtain ⟨xs, hx⟩ := h.own i hi
  refine ⟨xs, own_move hx (fun k hk => ?_)⟩
  obtain ⟨cs, hcs⟩ := own_typed hx k hk
  exact hg.block k (blk_lt hcs) (fun e1 => ho k e1.symm e (.inr rfl) cs hcs)
theorem Wk.far (h : Wk e t W base ok g n row len) {r : Option Nat} (hg : W.grownBy W1 r) (ho : ∀ b, r = some b → ¬ ok b) : Wk e t W1 base ok g n row len := by
  obtain ⟨cur, hc, hr⟩ := h.hd
  refine ⟨⟨cur, blk_grown hc hg (fun e1 => ho g e1.symm h.okg), hr⟩, fun i hi => ?_, h.okk, h.ne, h.okg⟩
  obtain ⟨xs, hx⟩ := h.own i hi
  exact ⟨xs, own_move hx (fun k hk => hg.block k (own_lt hx k hk) (fun e1 => ho k e1.symm (h.okk i hi k hk)))⟩
theorem Wk.below (h : Wk e t W base ok g n row len) (hb : Below W.heap.size W W1) : Wk e t W1 base ok g n row len := h.off (r := none) (grown_of_below hb none) (fun _ e => by cases e)
/-- A cell of a row is written. -/
theorem Wk.put (h : Wk e t W base ok g n row len) (het : e ≠ t) {i : Nat} (hi : i < n) {b m c : Nat} (hr : row i = .slice (some ⟨b, 0, none⟩) m c) (j : Nat) (x : Value) : Wk e t (W.setCell ⟨b, j, none⟩ x) base ok g n row len := by
  obtain ⟨cur, hc, hcr⟩ := h.hd
  have hob : (row i).ownBlock = some b := by rw [hr]; rfl
  obtain ⟨xs, hx⟩ := h.own i hi
  obtain ⟨cb, hcb⟩ := own_typed hx b hob
  have gr := grown_cell W b j x
  have gb : g ≠ b := fun e1 => by rw [e1, hcb] at hc; injection hc with hc; injection hc with _ hc _; exact het hc
  refine ⟨⟨cur, blk_grown hc gr (fun e1 => gb (Option.some.inj e1)), hcr⟩, fun k hk => ?_, h.okk, h.ne, h.okg⟩
  by_cases hki : k = i
  · subst hki
    rcases hx.2 with ⟨e1, _⟩ | ⟨b', cap, cur', e1, hb', hh, hn, hcm, hs, _⟩
    · rw [e1] at hob; cases hob
    · obtain rfl : b' = b := by rw [e1] at hob; exact Option.some.inj hob
      refine ⟨(cur'.setIfInBounds j x).toList.take (len k * 1), ?_, .inr ⟨b', cap, _, e1, hb', blk_set hh j x, hn, hcm, by simpa using hs, rfl⟩⟩
      simp; omega
  · obtain ⟨ys, hy⟩ := h.own k hk
    exact ⟨ys, own_move hy (fun q hq => gr.block q (own_lt hy q hq) (fun e1 => h.ne k i hk hi hki q hq (by rw [hob, e1])))⟩
def updv (row : Nat → Value) (i : Nat) (v : Value) : Nat → Value := fun j => if j = i then v else row j
def updn (len : Nat → Nat) (i m : Nat) : Nat → Nat := fun j => if j = i then m else len j
/-- A row has grown, and is stored in its place. -/
theorem Wk.next (h : Wk e t W base ok g n row len) (het : e ≠ t) {i : Nat} (hi : i < n) (hg : W.grownBy W1 (row i).ownBlock) {v1 : Value} {m : Nat} {ys : List Value} (ho : W1.ownsRow base e 1 v1 m ys) (hat : v1.ownBlock = (row i).ownBlock ∨ ∃ b, v1.ownBlock = some b ∧ W.heap.size ≤ b) (hok : ∀ k, W.heap.size ≤ k → ok k) :
    Wk e t (W1.setCell ⟨g, i, none⟩ v1) base ok g n (updv row i v1) (updn len i m) := by
  obtain ⟨cur, hc, hcr⟩ := h.hd
  obtain ⟨xs, hx⟩ := h.own i hi
  have hgi : some g ≠ (row i).ownBlock := fun e1 => by
    obtain ⟨cb, hcb⟩ := own_typed hx g e1.symm
    rw [hc] at hcb; injection hcb with hcb; injection hcb with _ hcb _; exact het hcb.symm
  have hc1 := blk_grown hc hg hgi
  have gr := grown_cell W1 g i v1
  have hcs := blk_set hc1 i v1
  have sz : i < cur.size := by have := hcr i hi; exact (Array.getElem?_eq_some_iff.1 this).1
  have typ : ∀ {v : Value} {k : Nat} {zs : List Value}, W1.ownsRow base e 1 v k zs → ∀ q, v.ownBlock = some q → some q ≠ some g := fun ho q hq e1 => by
    obtain rfl := Option.some.inj e1
    obtain ⟨cb, hcb⟩ := own_typed ho q hq
    rw [hc1] at hcb; injection hcb with hcb; injection hcb with _ hcb _; exact het hcb.symm
  refine ⟨⟨_, hcs, fun j hj => ?_⟩, fun j hj => ?_, fun j hj b hb => ?_, fun j k hj hk hjk b hb => ?_, h.okg⟩
  · by_cases hji : j = i
    · subst hji; simp [updv, sz]
    · rw [updv, if_neg hji, Array.getElem?_setIfInBounds_ne (fun e1 => hji e1.symm)]; exact hcr j hj
  · by_cases hji : j = i
    · subst hji
      rw [updv, updn, if_pos rfl, if_pos rfl]
      exact ⟨ys, own_move ho (fun q hq => gr.block q (own_lt ho q hq) (typ ho q hq))⟩
    · rw [updv, updn, if_neg hji, if_neg hji]
      obtain ⟨zs, hz⟩ := h.own j hj
      have hz1 : W1.ownsRow base e 1 (row j) (len j) zs := own_move hz (fun q hq => hg.block q (own_lt hz q hq) (fun e1 => h.ne j i hj hi hji q hq e1.symm))
      exact ⟨zs, own_move hz1 (fun q hq => gr.block q (own_lt hz1 q hq) (typ hz1 q hq))⟩
  · by_cases hji : j = i
    · subst hji
      rw [updv, if_pos rfl] at hb
      rcases hat with e1 | ⟨b', e1, hb'⟩
      · exact h.okk j hj b (by rw [← e1]; exact hb)
      · rw [hb] at e1; obtain rfl := Option.some.inj e1; exact hok _ hb'
    · rw [updv, if_neg hji] at hb; exact h.okk j hj b hb
  · by_cases hji : j = i
    · subst hji
      rw [updv, if_pos rfl] at hb
      rw [updv, if_neg (fun e1 => hjk e1.symm)]
      rcases hat with e1 | ⟨b', e1, hb'⟩
      · exact h.ne j k hj hk hjk b (by rw [← e1]; exact hb)
      · rw [hb] at e1; obtain rfl := Option.some.inj e1
        intro e2
        obtain ⟨zs, hz⟩ := h.own k hk
        have := own_lt hz _ e2; omega
    · rw [updv, if_neg hji] at hb
      by_cases hki : k = i
      · subst hki
        rw [updv, if_pos rfl]
        rcases hat with e1 | ⟨b', e1, hb'⟩
        · rw [e1]; exact h.ne j k hj hk hjk b hb
        · rw [e1]; intro e2; obtain rfl := Option.some.inj e2
          obtain ⟨zs, hz⟩ := h.own j hj
          have := own_lt hz _ hb; omega
      · rw [updv, if_neg hki]; exact h.ne j k hj hk hjk b hb
theorem Wk.mono {ok' : Nat → Prop} (h : Wk e t W base ok g n row len) (hk : ∀ k, ok k → ok' k) : Wk e t W base ok' g n row len := ⟨h.hd, h.own, fun i hi b hb => hk b (h.okk i hi b hb), h.ne, hk g h.okg⟩
/-- A row of rows has the form. -/
theorem Wk.of_S {k : IntKind} {c : Nat} {nx : List (List Int)} (h : Kd.S (Kd.slice e (Kd.int k)) t W base ok (.slice (some ⟨g, 0, none⟩) n c) nx) : ∃ row len, Wk e t W base ok g n row len ∧ ∀ i, i < n → len i = (nx.getD i []).length := by
  obtain ⟨f, h0, inner, ho, hr⟩ := h
  rw [List.length_zipIdx] at ho
  obtain ⟨hl, h2⟩ := ho
  rcases h2 with ⟨e1, _⟩ | ⟨g', cap, cur, e1, hb, hh, hn, hcm, hs, ht⟩
  · cases e1
  · injection e1 with e1 e2 e3
    injection e1 with e1
    injection e1 with e1 _ _
    subst e1 e2
    have M : ∀ i, i < nx.length → ∃ v, cur[i]? = some v ∧ (Kd.int k).R e W base (fun q => ((ok q ∧ some q ≠ (Value.slice (some ⟨g, 0, none⟩) nx.length c).ownBlock) ∧ f q = i)) v (nx.getD i []) := fun i hi => by
      have hm := hr.2 i (nx.getD i [], i) (by rw [List.getElem?_zipIdx, List.getD_eq_getElem?_getD, List.getElem?_eq_getElem hi]; simp)
      obtain ⟨v, hv, hR⟩ := hm
      refine ⟨v, ?_, hR⟩
      have : ((inner.drop (i * 1)).take 1)[0]? = some v := by
        have hv' : (inner.drop (i * 1)).take 1 = [v] := hv
        rw [hv']; rfl
      rw [List.getElem?_take_of_lt (by decide), List.getElem?_drop, Nat.mul_one, Nat.add_zero] at this
      have hin : inner = cur.toList.take (nx.length * 1) := ht.symm
      rw [hin, List.getElem?_take_of_lt (by omega)] at this
      simpa using this
    refine ⟨fun i => (cur[i]?).getD (.slice none 0 0), fun i => (nx.getD i []).length, ⟨⟨cur, hh, fun i hi => ?_⟩, fun i hi => ?_, fun i hi b hb' => ?_, fun i j hi hj hij b hb' => ?_, h0 g rfl⟩, fun _ _ => rfl⟩
    · obtain ⟨v, hv, _⟩ := M i hi
      rw [hv]; rfl
    · obtain ⟨v, hv, _, inn, hown, _⟩ := M i hi
      exact ⟨inn, by rw [hv]; exact hown⟩
    · obtain ⟨v, hv, hR⟩ := M i hi
      rw [hv] at hb'
      exact (hR.1 b hb').1.1
    · obtain ⟨v, hv, hR⟩ := M i hi
      obtain ⟨u, hu, hU⟩ := M j hj
      rw [hv] at hb'
      rw [hu]
      intro e2
      have h3 := (hR.1 b hb').2
      have h4 := (hU.1 b e2).2
      exact hij (h3.symm.trans h4)
theorem Wk.of_S' {k : IntKind} {A : Option Addr} {c : Nat} {nx : List (List Int)} (h : Kd.S (Kd.slice e (Kd.int k)) t W base ok (.slice A nx.length c) nx) : ∃ g row len, 0 < nx.length → A = some ⟨g, 0, none⟩ ∧ Wk e t W base ok g nx.length row len ∧ ∀ i, i < nx.length → len i = (nx.getD i []).length := by
  by_cases hn : 0 < nx.length
  · obtain ⟨g, c', e1, _⟩ := Kd.R_form (Kd.S_R h) hn
    injection e1 with e1 e2 e3
    subst e1
    obtain ⟨row, len, h1, h2⟩ := Wk.of_S h
    exact ⟨g, row, len, fun _ => ⟨rfl, h1, h2⟩⟩
  · exact ⟨0, fun _ => .slice none 0 0, fun _ => 0, fun h' => absurd h' hn⟩
end

end Go.Proofs.Ytghfclgcgecgdaa.X
