/- The law RowOnly over lists alone: what unpacks is what packs to these cubes, and cubes turned about or left out are refused; no condition beyond the statement's own. -/
import Derived.Test.YtiakfdoaopfihaaRowC
import Derived.Test.YtiakfdoaopfihaaX0
import Derived.Test.YtiakfdoaopfihaaX14
import Derived.Test.YtiakfdoaopfihaaX17
namespace Go.Proofs.Ytiakfdoaopfihaa.Pure
open Go.RowKit Go.Proofs.YtiakfdoaopfihaaW.PrintWords Go.Proofs.YtiakfdoaopfihaaW.PrintLast Go.Proofs.YtiakfdoaopfihaaW.PrintMore Go.Proofs.Ytiakfdoaopfihaa.X
set_option linter.unusedVariables false
theorem own_hit : ∀ m b : Fin 64, Go.bits .andNot .i64 (b.1 : Int) (m.1 : Int) = 0 → Go.bits .and .i64 (b.1 : Int) (m.1 : Int) = (b.1 : Int) := by decide +kernel
theorem Good.own {j : Nat} {x : S31} (hj : j ≤ 6) (g : Good j x) : ∃ a : Nat, a < 2 ^ j ∧ hit (a : Int) x = true := by
  obtain ⟨m, b, e0, e1, hm, hb⟩ := g.nat
  have h6 := pow6 hj
  have l := g.lies
  rw [e0, e1] at l
  refine ⟨b, by omega, (hit_iff _ _).2 ?_⟩
  rw [e0, e1]
  exact own_hit ⟨m, by omega⟩ ⟨b, by omega⟩ l
theorem once {l : List S31} {j : Nat} (h : UnpOk l j) {a : Nat} (ha : a < 2 ^ j) : (l.filter (hit (a : Int))).length = 1 := by
  have q := tree_hit j (rowOf l (2 ^ j)) h.six (rowOf_len _ _) a ha
  rw [h.tree] at q
  have := congrArg List.length q
  simpa using this
theorem less_no {l : List S31} {j i : Nat} (h : UnpOk l j) (hi : i < l.length) : ¬ UnpOk (l.take i ++ l.drop (i + 1)) j := by
  intro k
  have g : Good j l[i] := by
    have := tree_good j (rowOf l (2 ^ j)) h.six
    rw [h.tree] at this
    exact this _ (List.getElem_mem hi)
  obtain ⟨a, ha, hh⟩ := g.own h.six
  have n1 := once h ha
  have n2 := once k ha
  have e : l = l.take i ++ (l[i] :: l.drop (i + 1)) := by rw [← List.drop_eq_getElem_cons hi, List.take_append_drop]
  rw [List.filter_append, List.length_append] at n2
  rw [e, List.filter_append, List.length_append, List.filter_cons, if_pos hh, List.length_cons] at n1
  omega
theorem turned_no {l : List S31} {j i : Nat} (h : UnpOk l j) (hi : i < l.length) (h0 : 0 < i) : ¬ UnpOk ((l.set i l[0]).set 0 l[i]) j := by
  intro k
  have r1 := tree_rises j (rowOf l (2 ^ j)) h.six
  have r2 := tree_rises j (rowOf ((l.set i l[0]).set 0 l[i]) (2 ^ j)) k.six
  rw [h.tree] at r1
  rw [k.tree] at r2
  have a := List.pairwise_iff_getElem.1 r1 0 i (by omega) hi h0
  have b := List.pairwise_iff_getElem.1 r2 0 i (by simp; omega) (by simp; omega) h0
  rw [List.getElem_set_self, List.getElem_set_ne (by omega), List.getElem_set_self] at b
  omega
theorem ro_j0 {l : List S31} {j : Nat} (h : UnpOk l j) (at_ : Int) : Ev (fun k => tabardlaw11_RowOnly.j0 k l (j : Int) at_ false) true := by
  have h6 := pow6 h.six
  have hl := h.len
  have h1 : 1 ≤ l.length := by have := (tree_len j (rowOf l (2 ^ j)) 0 0).2; rw [h.tree] at this; exact this
  refine Ev.step (fun k => by rw [tabardlaw11_RowOnly.j0]) (Ev.ncond (by decide) ?_)
  have u : IntKind.u64.wrap (l.length : Int) = (l.length : Int) := u64 (by omega) (by omega)
  have v : 0 ≤ IntKind.u64.wrap at_ := by rw [u64_mod]; omega
  rw [u]
  obtain ⟨n, hn⟩ := Int.eq_ofNat_of_zero_le v
  rw [hn]
  clear u v hn
  have t : Int.tmod (n : Int) (l.length : Int) = ((n % l.length : Nat) : Int) := by rw [Int.tmod_eq_emod_of_nonneg (by omega)]; omega
  have hi : n % l.length < l.length := Nat.mod_lt _ (by omega)
  rw [t]
  clear t
  obtain ⟨i, ei⟩ : ∃ i, i = n % l.length := ⟨_, rfl⟩
  rw [← ei] at hi ⊢
  clear ei
  rw [w64 (x := (i : Int)) (by omega) (by omega), w64 (x := (i : Int) + 1) (by omega) (by omega), Int.toNat_natCast, show ((i : Int) + 1).toNat = i + 1 by omega]
  refine Ev.ncond (by omega) ?_
  refine Ev.ret rfl ?_
  refine Ev.cond (by omega) (Ev.cond (by omega) ?_)
  refine Ev.ret rfl ?_
  refine Ev.cond (by simp; omega) ?_
  refine Ev.ret rfl ?_
  refine Ev.cond (by omega) (Ev.cond (by omega) ?_)
  refine Ev.ret rfl ?_
  refine Ev.cond (by simp; omega) ?_
  rw [List.nil_append]
  refine Ev.bind (unpack_no h.six (less_no h hi) (by simp; omega)) (Ev.cond rfl ?_)
  refine Ev.ret rfl ?_
  refine Ev.cond (by simp; omega) ?_
  refine Ev.ret rfl ?_
  rw [List.nil_append]
  refine Ev.cond (by omega) (Ev.cond (by omega) ?_)
  have e0 : rd_T31 l 0 = l[0] := rdT_get l (i := 0) (by omega)
  have e1 : rd_T31 l (i : Int) = l[i] := rdT_get l hi
  rw [e0, e1, show ((0 : Int)).toNat = 0 from rfl]
  have s0 : (⟨l[0].f0, l[0].f1, l[0].f2⟩ : S31) = l[0] := rfl
  have s1 : (⟨l[i].f0, l[i].f1, l[i].f2⟩ : S31) = l[i] := rfl
  rw [s0, s1]
  by_cases c : i = 0
  · have any : ∃ p, Ev (fun k => row_Unpack.f k ((l.set i l[0]).set 0 l[i]) (j : Int)) p := by
      by_cases o : UnpOk ((l.set i l[0]).set 0 l[i]) j
      · exact ⟨_, unpack_ok o⟩
      · exact ⟨_, unpack_no h.six o (by simp; omega)⟩
    obtain ⟨p, hp⟩ := any
    exact Ev.bind hp (Ev.cond (by omega) (Ev.fin rfl))
  · exact Ev.bind (unpack_no h.six (turned_no h hi (by omega)) (by simp; omega)) (Ev.ncond (by omega) (Ev.fin rfl))
theorem ro_bad {l : List S31} {t at_ e : Int} (hl : l.length < 5864062014805) (he : e = 150 ∨ e = 3) (h : Ev (fun k => row_Unpack.f k l t) ([], e)) : Ev (fun k => tabardlaw11_RowOnly.f k l t at_) true := by
  refine Ev.congr (fun k => by rw [tabardlaw11_RowOnly.f]) (Ev.bind fixed_ev (Ev.cond rfl ?_))
  refine Ev.ret rfl ?_
  refine Ev.cond (by simpa using hl) ?_
  rw [List.nil_append]
  refine Ev.bind h (Ev.ncond (by show ¬ e = 0; omega) (Ev.cond rfl ?_))
  rcases he with rfl | rfl
  · exact Ev.cond rfl (Ev.fin rfl)
  · exact Ev.ncond (by decide) (Ev.fin rfl)
theorem RowOnly (l : List S31) (t : Int) (ht : (Lit.int .i64 t).wf = true) (at_ : Int) (hn : (Lit.int .i64 at_).wf = true) (hl : l.length * 24 ≤ 140737488351232) : ∃ k, tabardlaw11_RowOnly.f k l t at_ = some true := by
  refine Ev.rounds ?_
  by_cases far : t < 0 ∨ t > 6
  · exact ro_bad (by omega) (Or.inl rfl) (unpack_far far)
  · obtain ⟨j, rfl⟩ := Int.eq_ofNat_of_zero_le (show 0 ≤ t by omega)
    by_cases h : UnpOk l j
    · have h6 := pow6 h.six
      have hl2 := h.len
      have h1 : 1 ≤ l.length := by have := (tree_len j (rowOf l (2 ^ j)) 0 0).2; rw [h.tree] at this; exact this
      refine Ev.congr (fun k => by rw [tabardlaw11_RowOnly.f]) (Ev.bind fixed_ev (Ev.cond rfl ?_))
      refine Ev.ret rfl ?_
      refine Ev.cond (by simp; omega) ?_
      rw [List.nil_append]
      refine Ev.bind (unpack_ok h) (Ev.cond rfl ?_)
      refine Ev.ret rfl ?_
      refine Ev.cond (by rw [rowOf_len]; simp; omega) ?_
      rw [List.nil_append]
      refine Ev.bind (pack_ok h.six (rowOf_len _ _) (UnpOk.mem h.pos)) (Ev.cond rfl ?_)
      rw [h.tree]
      refine Ev.bind (cubes_ev l l (by omega)) ?_
      rw [decide_eq_true rfl, show ((l.length : Int) == 0) = false from beq_eq_false_iff_ne.2 (by omega)]
      exact Ev.cond rfl (ro_j0 h at_)
    · exact ro_bad (by omega) (Or.inr rfl) (unpack_no (by omega) h (by omega))
end Go.Proofs.Ytiakfdoaopfihaa.Pure
