/- What the functions of this seat compute, and that the program's calls come to just that: written by this session's own program out of the translation; no condition. -/
import Derived.Test.YtghfclgcgecgdaaX0
import Derived.Test.YtghfclgcgecgdaaX9
namespace Go.Proofs.Ytghfclgcgecgdaa.X
open Go.RowKit Go.Proofs.YtghfclgcgecgdaaW.PrintWords Go.Proofs.YtghfclgcgecgdaaW.PrintLast Go.Proofs.YtghfclgcgecgdaaW.PrintMore
attribute [local go_sem] max2_int min2_int max_two min_two max_three min_three max_four min_four
set_option linter.unusedVariables false
set_option linter.unusedSimpArgs false
set_option maxRecDepth 100000

/-! ### row_Pack: function 36 -/
/-- The variable 'cubes' of a call of Pack: block g; what it holds is the call's own. -/
structure row_Pack.Inv (w0 W : World) (g : Nat) (xs : List S58) : Prop where
 ge : w0.heap.size ≤ g
 cell : ∃ v, W.heap[g]? = some (.cells #[v] 30 (0, 0)) ∧ Kd.R k58 58 W w0.heap.size (fun _ => True) v xs
 below : Below w0.heap.size w0 W
theorem row_Pack.leaf (w0 W : World) (g : Nat) (xs : List S58) (m b t : Int) (h : row_Pack.Inv w0 W g xs) (hl : xs.length ≤ 100000) :
  Calls Try.prog 60 #[.agg #[.int .i64 m, .int .i64 b, .int .i64 t], .pointer (some ⟨g, 0, none⟩)] W fun e w' => e = .returned (.tuple #[]) ∧ row_Pack.Inv w0 w' g (xs ++ [⟨m, b, t⟩]) := by
 obtain ⟨hge, ⟨v, hc, hr⟩, hb⟩ := h; have HC := Aside0.mk hc; have HR := Aside0.mk hr; have HB := Aside0.mk hb; have HL := Aside0.mk hl; have hcell : W.cell? ⟨g, 0, none⟩ = some v := (blk_cell hc 0).trans rfl
 have hca : ∀ o : Obj, (W.alloc o).cell? ⟨g, 0, none⟩ = some v := fun o => pw_cell_below (below_alloc (Below.refl W.heap.size W) o) hcell
 have hcb : ∀ o u : Obj, ((W.alloc o).alloc u).cell? ⟨g, 0, none⟩ = some v := fun o u => pw_cell_below (below_alloc (Below.refl _ _) u) (hca o)
 clear hc hr hb hcell hl
 go_enter Try.func60, Try.ntmps60
 go_wp2_with ((with_reducible refine gate_builtin (b := .append) (xs := #[.tmp 3, .tmp 5]) rfl ?_); at_builtin; refine Kd.R_append k58 (w0 := w0) w0.heap.size rfl (.tmp 3) (.tmp 5) 30 58 (.agg #[(.int .i64 0), (.int .i64 0), (.int .i64 0)]) 24 rfl Try.underlying30 info58 rfl (by decide) (by omega) v xs ⟨m, b, t⟩ [.int .i64 m, .int .i64 b, .int .i64 t] (fun _ => True) (fun _ => False) rfl ?aX ?aP (fun _ hk => hk.elim) ?aF ?aO ?aB ?aS ?aL ?_; (case aX => (show Value.slice (some ⟨W.heap.size + 1, 0, none⟩) 1 1 = _; simp)); (case aP => exact k58_mkM _ _ _ _); (case aB => exact below_alloc HB.out _); (case aF => exact (fun _ _ => trivial)); (case aO => exact Kd.R_alloc HR.out _); (case aS => exact (below_size (below_alloc HB.out _))); (case aL => have := HL.out; omega); intro v1 w1 ho hb hg hat; have hc0 := ((below_alloc (Below.refl W.heap.size W) (.cells #[.int .i64 m, .int .i64 b, .int .i64 t] 58)).block g (blk_lt HC.out)).trans HC.out; have hc1 := blk_grown hc0 hg (Kd.R_ne HR.out HC.out (by decide)); obtain ⟨A1, c1, e1⟩ := Kd.R_slice ho; subst e1; have H1 := Aside0.mk hc1; have H2 := Aside0.mk ho; have H3 := Aside0.mk hb; have hf1 := blk_frozen hc1 0; have hx1 : w1.cell? ⟨g, 0, none⟩ = some v := (blk_cell hc1 0).trans rfl; clear hc0 hc1 ho hb hg hat)
 go_end0
 have q := H2.out
 have e : (xs ++ [(⟨m, b, t⟩ : S58)]).length = xs.length + 1 := by simp
 rw [e] at q; exact ⟨rfl, hge, ⟨_, blk_set H1.out 0 _, Kd.R_mono (rF g 0 (Kd.R_far1 q rfl (Kd.R_ne q H1.out (by decide))) (fun k hk => hk.2) _) (fun _ _ => trivial)⟩, below_set H3.out hge⟩
/-- What 'leaves' hands out. -/
def row_Pack.leaves : Nat → List Int → Int → Int → Option (List S58)
 | 0, _, _, _ => none
 | k + 1, l, m, b =>
  if l.length / 2 = 0 then (if 0 < l.length then some [⟨m, b, rd l 0⟩] else none)
  else (slices_Equal_int_int.f k (l.take (l.length / 2)) (l.drop (l.length / 2))).bind fun t =>
   if t = true then row_Pack.leaves k (l.take (l.length / 2)) m b
   else (row_Pack.leaves k (l.take (l.length / 2)) (Go.bits .or .i64 m ((l.length / 2 : Nat) : Int)) b).bind fun x =>
    (row_Pack.leaves k (l.drop (l.length / 2)) (Go.bits .or .i64 m ((l.length / 2 : Nat) : Int)) (Go.bits .or .i64 b ((l.length / 2 : Nat) : Int))).bind fun y => some (x ++ y)
theorem row_Pack.Inv.drewN {w0 W : World} {g : Nat} {xs : List S58} (h : row_Pack.Inv w0 W g xs) (n : Nat) : row_Pack.Inv w0 (W.drewN n) g xs := by
 obtain ⟨v, hc, hr⟩ := h.cell; exact ⟨h.ge, ⟨v, hc, Kd.R_drewN hr n⟩, pw_below_drewN h.below n⟩
theorem row_Pack.Inv.drew {w0 W : World} {g : Nat} {xs : List S58} (h : row_Pack.Inv w0 W g xs) : row_Pack.Inv w0 W.drew g xs := by
 obtain ⟨v, hc, hr⟩ := h.cell; exact ⟨h.ge, ⟨v, hc, Kd.R_drew hr⟩, below_drew1 h.below⟩
theorem row_Pack.leaves_calls (B : World) (g : Nat) : ∀ (k : Nat) (A : Option Addr) (z : Nat) (l : List Int) (m b : Int) (r xs : List S58) (W : World),
  Kd.C (Kd.int .i64) B A l.length l → l.length ≤ z → row_Pack.leaves k l m b = some r → row_Pack.Inv B W g xs → xs.length + r.length ≤ 100000 →
  Calls Try.prog 57 #[.slice A l.length z, .int .i64 m, .int .i64 b, .func (.func 60) #[] #[.pointer (some ⟨g, 0, none⟩)]] W fun e w' => e = .returned (.tuple #[]) ∧ row_Pack.Inv B w' g (xs ++ r) := by
 intro k
 induction k with
 | zero => intro A z l m b r xs W _ _ h; cases h
 | succ k ih =>
  intro A z l m b r xs W hC hc h hI hx; rw [row_Pack.leaves] at h; have hlen := hC.2.1
  have hdiv : Int.tdiv (l.length : Int) 2 = ((l.length / 2 : Nat) : Int) := by rw [Int.tdiv_eq_ediv_of_nonneg (by omega)]; omega
  by_cases F : l.length / 2 = 0
  ·rw [if_pos F] at h
   by_cases Q : 0 < l.length
   ·rw [if_pos Q] at h; obtain rfl := Option.some.inj h; obtain ⟨ad, rfl, G⟩ := Kd.at_int hC 0 (by omega) (by omega); rw [F] at hdiv; have D := pw_cell_below hI.below G; rw [show ((0 : Int)).toNat = 0 from rfl, Addr.add_zero'] at D; have HI := aM hI; have HX := aM hx; clear hI hx G h hC
    go_enter Try.func57, Try.ntmps57
    go_wp2_with (go_at_call 60; (with_reducible refine (row_Pack.leaf B _ g xs m b _ HI.out (by have := HX.out; omega)).mono ?_); rintro e U ⟨rfl, hi⟩; have H1 := aM hi; clear hi)
    go_end0
    exact ⟨rfl, H1.out⟩
   ·rw [if_neg Q] at h; cases h
  ·rw [if_neg F] at h; replace h := Option.bind_eq_some_iff.mp h; obtain ⟨t, hE, h⟩ := h; obtain ⟨H, hH⟩ : ∃ H, H = l.length / 2 := ⟨_, rfl⟩; rw [← hH] at h hE hdiv F
   have hH1 : 0 < H := by omega
   have hH2 : H ≤ l.length := by omega
   have hT : (l.take H).length = H := by rw [List.length_take]; omega
   have hF : (l.drop H).length = l.length - H := List.length_drop; obtain ⟨i0, E, _, hsz, _⟩ := info_parts info3; have hcut1 := cut_to (P := Try.prog) 29 3 .i64 Try.underlying29 E A l.length z (H : Int) (by omega) (by omega) hc; have hcut2 := cut_from (P := Try.prog) 29 3 .i64 Try.underlying29 E 1 hsz A l.length z (H : Int) (by omega) (by omega); rw [Int.toNat_natCast] at hcut1 hcut2; have hCT := Kd.C_take hC hH2; have hCF := Kd.C_drop hC hH2 hc
   change Kd.C (Kd.int .i64) B (if z = H then A else A.map (·.add (H * 1))) (l.drop H).length (l.drop H) at hCF
   obtain ⟨AF, hAF⟩ : ∃ AF, AF = (if z = H then A else A.map (·.add (H * 1))) := ⟨_, rfl⟩; rw [← hAF] at hcut2 hCF
   have HQ : Aside0 (∀ W' : World, Below B.heap.size B W' → Calls Try.prog 51 #[.slice A H z, .slice AF (l.length - H) (z - H)] W' fun e w' => e = .returned (.bool t) ∧ Drawn0 W' w') := ⟨fun W' hW' => by
    have q := slices_Equal_int_int.calls k A z (l.take H) AF (z - H) (l.drop H) t W' (Kd.C_below hCT hW') (by omega) (Kd.C_below hCF hW') (by omega) hE; rw [hT, hF] at q
    exact q⟩
   have I : Aside0 (∀ (m' b' : Int) (r' xs' : List S58) (W' : World), row_Pack.leaves k (l.take H) m' b' = some r' → row_Pack.Inv B W' g xs' → xs'.length + r'.length ≤ 100000 → Calls Try.prog 57 #[.slice A H z, .int .i64 m', .int .i64 b', .func (.func 60) #[] #[.pointer (some ⟨g, 0, none⟩)]] W' fun e w' => e = .returned (.tuple #[]) ∧ row_Pack.Inv B w' g (xs' ++ r')) := ⟨fun m' b' r' xs' W' L M O => by
    have q := ih A z (l.take H) m' b' r' xs' W' hCT (by omega) L M O; rw [hT] at q
    exact q⟩
   have V : Aside0 (∀ (m' b' : Int) (r' xs' : List S58) (W' : World), row_Pack.leaves k (l.drop H) m' b' = some r' → row_Pack.Inv B W' g xs' → xs'.length + r'.length ≤ 100000 → Calls Try.prog 57 #[.slice AF (l.length - H) (z - H), .int .i64 m', .int .i64 b', .func (.func 60) #[] #[.pointer (some ⟨g, 0, none⟩)]] W' fun e w' => e = .returned (.tuple #[]) ∧ row_Pack.Inv B w' g (xs' ++ r')) := ⟨fun m' b' r' xs' W' L M O => by
    have q := ih AF (z - H) (l.drop H) m' b' r' xs' W' hCF (by omega) L M O; rw [hF] at q
    exact q⟩
   have HI := aM hI; have HX := aM hx
   have c1b : ((H : Int) == 0) = false := by simp; omega
   clear hE hI hx hCT hCF hT hF hAF hH ih E hsz hC
   by_cases ht : t = true
   ·subst ht; rw [if_pos rfl] at h; have HL := aM h; clear h
    go_enter Try.func57, Try.ntmps57
    go_wp2
    refine start_ (n := 8) (S := fun w' => True) (ds := []) (bl 8 0) (by kernel_rfl) rfl rfl trivial (fun hHeld => ?_); refine pure_ (i := 0) (N := some 44) (v := ?_) (a' := ?_) (bl 8 1) rfl rfl (by kernel_rfl) (fun _ _ _ h => h) (Or.inl ⟨by rfl, ?_⟩) ?_ ?_; rotate_left
    ·intro w'
     go_simp
     with_reducible rfl
    rotate_left
    ·simp only [Act.put, sA, sB, sC, i64_w, i32_w]
     rfl
    refine pure_ (i := 1) (N := some 45) (v := ?_) (a' := ?_) (bl 8 3) rfl rfl (by kernel_rfl) (fun _ _ _ h => h) (Or.inl ⟨by rfl, ?_⟩) ?_ ?_; rotate_left
    ·intro w'
     go_simp
     with_reducible rfl
    rotate_left
    ·simp only [Act.put, sA, sB, sC, i64_w, i32_w]
     rfl
    refine pure_ (i := 2) (N := some 46) (v := ?_) (a' := ?_) (bl 8 7) rfl rfl (by kernel_rfl) (fun _ _ _ h => h) (Or.inl ⟨by rfl, ?_⟩) ?_ ?_; rotate_left
    ·intro w'
     go_simp
     with_reducible rfl
    rotate_left
    ·simp only [Act.put, sA, sB, sC, i64_w, i32_w]
     rfl
    refine pure_ (i := 3) (N := some 47) (v := ?_) (a' := ?_) (bl 8 15) rfl rfl (by kernel_rfl) (fun _ _ _ h => h) (Or.inl ⟨by rfl, ?_⟩) ?_ ?_; rotate_left
    ·intro w'
     go_simp
     with_reducible rfl
    rotate_left
    ·simp only [Act.put, sA, sB, sC, i64_w, i32_w]
     rfl
    refine pure_ (i := 4) (N := some 48) (v := ?_) (a' := ?_) (bl 8 31) rfl rfl (by kernel_rfl) (fun _ _ _ h => h) (Or.inl ⟨by rfl, ?_⟩) ?_ ?_; rotate_left
    ·intro w'
     go_simp
     with_reducible rfl
    rotate_left
    ·simp only [Act.put, sA, sB, sC, i64_w, i32_w]
     rfl
    refine pure_ (i := 5) (N := some 49) (v := ?_) (a' := ?_) (bl 8 63) rfl rfl (by kernel_rfl) (fun _ _ _ h => h) (Or.inl ⟨by rfl, ?_⟩) ?_ ?_; rotate_left
    ·intro w'
     go_simp
     with_reducible rfl
    rotate_left
    ·simp only [Act.put, sA, sB, sC, i64_w, i32_w]
     rfl
    refine one_ (i := 6) (N := some 50) (bl 8 127) rfl rfl (by kernel_rfl) (by decide) (fun K hK => ?_); refine goes_ Try.func51 (by kernel_rfl) rfl #[.slice A H z, .slice AF (l.length - H) (z - H)] (by rfl) rfl rfl (by simp only [List.map_toArray, List.map_cons, List.map_nil]; rfl) ?_
    with_reducible refine (HQ.out _ (by repeat (first | exact HI.out.below | apply pw_below_drewN | apply below_drew1))).mono ?_
    rintro e Y ⟨rfl, ⟨nd, rfl⟩⟩; refine ⟨_, rfl, ?_⟩; refine hK.out _ _ trivial (fun hHeld => ?_); clear hK K; refine nm_ 50 ?_; refine pure_ (i := 7) (N := some 43) (v := ?_) (a' := ?_) (bl 8 255) rfl rfl (by kernel_rfl) (fun _ _ _ h => h) (Or.inl ⟨by rfl, ?_⟩) ?_ ?_; rotate_left
    ·intro w'
     go_simp
     with_reducible rfl
    rotate_left
    ·simp only [Act.put, sA, sB, sC, i64_w, i32_w]
     rfl
    refine done_ (by kernel_rfl) ?_
    go_wp2_with (go_at_call 57; (with_reducible refine (I.out m b r xs _ HL.out (by repeat (first | exact HI.out | apply row_Pack.Inv.drewN | apply row_Pack.Inv.drew)) HX.out).mono ?_); rintro e U ⟨rfl, hi⟩; have H1 := aM hi; clear hi)
    go_end0
    exact ⟨rfl, H1.out⟩
   ·have htf : t = false := by simpa using ht
    subst htf; clear ht; rw [if_neg (by simp)] at h; replace h := Option.bind_eq_some_iff.mp h; obtain ⟨x, D, h⟩ := h; replace h := Option.bind_eq_some_iff.mp h; obtain ⟨y, J, h⟩ := h; obtain rfl := Option.some.inj h; have HXX : Aside0 (xs.length + x.length ≤ 100000 ∧ (xs ++ x).length + y.length ≤ 100000) := ⟨by have := HX.out; rw [List.length_append] at this ⊢; omega⟩; have HL1 := aM D; have HL2 := aM J; clear h D J
    go_enter Try.func57, Try.ntmps57
    go_wp2
    refine start_ (n := 8) (S := fun w' => True) (ds := []) (bl 8 0) (by kernel_rfl) rfl rfl trivial (fun hHeld => ?_); refine pure_ (i := 0) (N := some 44) (v := ?_) (a' := ?_) (bl 8 1) rfl rfl (by kernel_rfl) (fun _ _ _ h => h) (Or.inl ⟨by rfl, ?_⟩) ?_ ?_; rotate_left
    ·intro w'
     go_simp
     with_reducible rfl
    rotate_left
    ·simp only [Act.put, sA, sB, sC, i64_w, i32_w]
     rfl
    refine pure_ (i := 1) (N := some 45) (v := ?_) (a' := ?_) (bl 8 3) rfl rfl (by kernel_rfl) (fun _ _ _ h => h) (Or.inl ⟨by rfl, ?_⟩) ?_ ?_; rotate_left
    ·intro w'
     go_simp
     with_reducible rfl
    rotate_left
    ·simp only [Act.put, sA, sB, sC, i64_w, i32_w]
     rfl
    refine pure_ (i := 2) (N := some 46) (v := ?_) (a' := ?_) (bl 8 7) rfl rfl (by kernel_rfl) (fun _ _ _ h => h) (Or.inl ⟨by rfl, ?_⟩) ?_ ?_; rotate_left
    ·intro w'
     go_simp
     with_reducible rfl
    rotate_left
    ·simp only [Act.put, sA, sB, sC, i64_w, i32_w]
     rfl
    refine pure_ (i := 3) (N := some 47) (v := ?_) (a' := ?_) (bl 8 15) rfl rfl (by kernel_rfl) (fun _ _ _ h => h) (Or.inl ⟨by rfl, ?_⟩) ?_ ?_; rotate_left
    ·intro w'
     go_simp
     with_reducible rfl
    rotate_left
    ·simp only [Act.put, sA, sB, sC, i64_w, i32_w]
     rfl
    refine pure_ (i := 4) (N := some 48) (v := ?_) (a' := ?_) (bl 8 31) rfl rfl (by kernel_rfl) (fun _ _ _ h => h) (Or.inl ⟨by rfl, ?_⟩) ?_ ?_; rotate_left
    ·intro w'
     go_simp
     with_reducible rfl
    rotate_left
    ·simp only [Act.put, sA, sB, sC, i64_w, i32_w]
     rfl
    refine pure_ (i := 5) (N := some 49) (v := ?_) (a' := ?_) (bl 8 63) rfl rfl (by kernel_rfl) (fun _ _ _ h => h) (Or.inl ⟨by rfl, ?_⟩) ?_ ?_; rotate_left
    ·intro w'
     go_simp
     with_reducible rfl
    rotate_left
    ·simp only [Act.put, sA, sB, sC, i64_w, i32_w]
     rfl
    refine one_ (i := 6) (N := some 50) (bl 8 127) rfl rfl (by kernel_rfl) (by decide) (fun K hK => ?_); refine goes_ Try.func51 (by kernel_rfl) rfl #[.slice A H z, .slice AF (l.length - H) (z - H)] (by rfl) rfl rfl (by simp only [List.map_toArray, List.map_cons, List.map_nil]; rfl) ?_
    with_reducible refine (HQ.out _ (by repeat (first | exact HI.out.below | apply pw_below_drewN | apply below_drew1))).mono ?_
    rintro e Y ⟨rfl, ⟨nd, rfl⟩⟩; refine ⟨_, rfl, ?_⟩; refine hK.out _ _ trivial (fun hHeld => ?_); clear hK K; refine nm_ 50 ?_; refine pure_ (i := 7) (N := some 43) (v := ?_) (a' := ?_) (bl 8 255) rfl rfl (by kernel_rfl) (fun _ _ _ h => h) (Or.inl ⟨by rfl, ?_⟩) ?_ ?_; rotate_left
    ·intro w'
     go_simp
     with_reducible rfl
    rotate_left
    ·simp only [Act.put, sA, sB, sC, i64_w, i32_w]
     rfl
    refine done_ (by kernel_rfl) ?_
    go_wp2_with (first | (go_at_call 57; (with_reducible refine (V.out _ _ y (xs ++ x) _ HL2.out H1.out HXX.out.2).mono ?_); rintro e Z ⟨rfl, hi⟩; have H2 := aM hi; clear hi) | (go_at_call 57; (with_reducible refine (I.out _ _ x xs _ HL1.out (by repeat (first | exact HI.out | apply row_Pack.Inv.drewN | apply row_Pack.Inv.drew)) HXX.out.1).mono ?_); rintro e U ⟨rfl, hi⟩; have H1 := aM hi; clear hi))
    go_end0
    rw [← List.append_assoc]; exact ⟨rfl, H2.out⟩
theorem row_Pack.leaves_length : ∀ (k : Nat) (l : List Int) (m b : Int) (r : List S58), row_Pack.leaves k l m b = some r → r.length ≤ l.length := by
 intro k
 induction k with
 | zero => intro l m b r h; cases h
 | succ k ih =>
  intro l m b r h; rw [row_Pack.leaves] at h
  by_cases c1 : l.length / 2 = 0
  ·rw [if_pos c1] at h
   by_cases c2 : 0 < l.length
   ·rw [if_pos c2] at h; obtain rfl := Option.some.inj h
    simp; omega
   ·rw [if_neg c2] at h; cases h
  ·rw [if_neg c1] at h; replace h := Option.bind_eq_some_iff.mp h; obtain ⟨t, _, h⟩ := h
   by_cases ht : t = true
   ·rw [if_pos ht] at h; have q := ih _ _ _ _ h; rw [List.length_take] at q
    omega
   ·rw [if_neg ht] at h; replace h := Option.bind_eq_some_iff.mp h; obtain ⟨x, hx, h⟩ := h; replace h := Option.bind_eq_some_iff.mp h; obtain ⟨y, hy, h⟩ := h; obtain rfl := Option.some.inj h; have q1 := ih _ _ _ _ hx; have q2 := ih _ _ _ _ hy; rw [List.length_take] at q1; rw [List.length_drop] at q2; rw [List.length_append]
    omega
theorem row_Pack.leaves_mono : ∀ (k : Nat) (l : List Int) (m b : Int), LeO (row_Pack.leaves k l m b) (row_Pack.leaves (k + 1) l m b) := by
 intro k
 induction k with
 | zero => intro l m b r h; cases h
 | succ k ih =>
  intro l m b; rw [row_Pack.leaves, row_Pack.leaves]; refine LeO.ite (LeO.refl _) (LeO.bind (slices_Equal_int_int.mono _ _ _) fun t => LeO.ite (ih _ _ _) (LeO.bind (ih _ _ _) fun x => LeO.bind (ih _ _ _) fun y => LeO.refl _))
def row_Pack.f (k : Nat) (l0 : List Int) : Option (List (S58) × Int) := (row_right.f k l0).bind fun t => if t = true then (row_Pack.leaves k l0 0 0).bind fun r => some (r, 0) else some ([], 3)
theorem row_Pack.mono : ∀ a0 k, LeO (row_Pack.f k a0) (row_Pack.f (k + 1) a0) := by
 intro a0 k
 unfold row_Pack.f
 exact LeO.bind (row_right.mono _ _) fun t => LeO.ite (LeO.bind (row_Pack.leaves_mono _ _ _ _) fun _ => LeO.refl _) (LeO.refl _)
theorem row_Pack.right_len {k : Nat} {l : List Int} (h : row_right.f k l = some true) : l.length ≤ 64 := by
 unfold row_right.f at h
 by_cases c1 : (l.length : Int) ≥ 1
 ·rw [if_pos c1] at h
  by_cases c2 : (l.length : Int) ≤ 64
  ·omega
  ·rw [if_neg c2] at h; cases h
 ·omega
theorem row_Pack.calls (k : Nat) (A : Option Addr) (B : Nat) (z : List Int) (I : List (S58)) (J : Int) (w : World) (D : Kd.C (Kd.int .i64) w A z.length z) (E : z.length ≤ B) (h : row_Pack.f k z = some (I, J)) :
  Calls Try.prog 36 #[.slice A z.length B] w fun e w' => ∃ F : Value, e = .returned (.tuple #[F, .int .i64 J]) ∧ Kd.R k58 58 w' w.heap.size (fun _ => True) F I ∧ Below w.heap.size w w' := by
 unfold row_Pack.f at h
 replace h := Option.bind_eq_some_iff.mp h; obtain ⟨t, ht, h⟩ := h; have HT := aM ht; have HR := aM D; have HC := aM E
 by_cases c : t = true
 ·subst c; rw [if_pos rfl] at h; replace h := Option.bind_eq_some_iff.mp h; obtain ⟨r, hL, h⟩ := h; simp only [Option.some.injEq, Prod.mk.injEq] at h; obtain ⟨rfl, rfl⟩ := h; have HL := aM hL
  have HB0 := aM (show ([] : List S58).length + r.length ≤ 100000 by
   have O := row_Pack.leaves_length _ _ _ _ _ hL; have Q := row_Pack.right_len ht
   simp; omega)
  have hmf : ∀ (fn : Fn) (first cap : Array Value) (W : World), (Instr.makeFunc fn first cap).run Try.prog W = .ok (.func fn first cap) W := fun _ _ _ _ => rfl
  clear ht hL D E
  go_enter Try.func36, Try.ntmps36
  go_wp2_with (first
   | (go_at_call 56; (with_reducible refine (row_right.calls k A B z true _ HR.out HC.out HT.out).mono ?_); rintro e G ⟨rfl, hb⟩; have HB := aM hb; clear hb)
   | (go_at_call 57; (with_reducible refine (row_Pack.leaves_calls w G.heap.size k A B z 0 0 r [] _ HR.out HC.out HL.out ⟨HB.out.size, ⟨_, heap_alloc_new _ _, Kd.R_nil _ _ _ _ _⟩, below_alloc HB.out _⟩ HB0.out).mono ?_); rintro e L ⟨rfl, hi⟩; obtain ⟨hge, ⟨v, hc, hr⟩, hb⟩ := hi; have M : L.cell? ⟨G.heap.size, 0, none⟩ = some v := (blk_cell hc 0).trans rfl; have H1 := aM hr; have H2 := aM hb; clear hc hr hb hge))
  go_ret2
  exact ⟨_, rfl, H1.out, H2.out⟩
 ·have c' : t = false := by simpa using c
  subst c'; rw [if_neg (by simp)] at h; simp only [Option.some.injEq, Prod.mk.injEq] at h; obtain ⟨rfl, rfl⟩ := h; clear ht D E c
  go_enter Try.func36, Try.ntmps36
  go_wp2_with (go_at_call 56; (with_reducible refine (row_right.calls k A B z false _ HR.out HC.out HT.out).mono ?_); rintro e G ⟨rfl, hb⟩; have HB := aM hb; clear hb)
  go_ret2
  exact ⟨_, rfl, Kd.R_nil _ _ _ _ _, HB.out⟩

end Go.Proofs.Ytghfclgcgecgdaa.X
