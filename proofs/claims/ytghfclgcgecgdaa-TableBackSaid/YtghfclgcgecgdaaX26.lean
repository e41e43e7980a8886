/- What the functions of this seat compute, and that the program's calls come to just that: written by this session's own program out of the translation; no condition. -/
import Derived.Test.YtghfclgcgecgdaaX0
import Derived.Test.YtghfclgcgecgdaaX9
import Derived.Test.YtghfclgcgecgdaaX10
namespace Go.Proofs.Ytghfclgcgecgdaa.X
open Go.RowKit Go.Proofs.YtghfclgcgecgdaaW.PrintWords Go.Proofs.YtghfclgcgecgdaaW.PrintLast Go.Proofs.YtghfclgcgecgdaaW.PrintMore
attribute [local go_sem] max2_int min2_int max_two min_two max_three min_three max_four min_four
set_option linter.unusedVariables false
set_option linter.unusedSimpArgs false
set_option maxRecDepth 100000

-- NOT PRINTED: function 58 (row_Leaves_1)

/-! ### row_Leaves: function 31 -/
/-- The variable 'n' of a call of Leaves: block g. -/
structure row_Leaves.Inv (w0 W : World) (g : Nat) (n : Nat) : Prop where
 ge : w0.heap.size ≤ g
 cell : W.heap[g]? = some (.cells #[.int .i64 (n : Int)] 3 (0, 0))
 below : Below w0.heap.size w0 W
theorem row_Leaves.Inv.drewN {w0 W : World} {g n : Nat} (h : row_Leaves.Inv w0 W g n) (m : Nat) : row_Leaves.Inv w0 (W.drewN m) g n := ⟨h.ge, h.cell, pw_below_drewN h.below m⟩
theorem row_Leaves.Inv.drew {w0 W : World} {g n : Nat} (h : row_Leaves.Inv w0 W g n) : row_Leaves.Inv w0 W.drew g n := ⟨h.ge, h.cell, below_drew1 h.below⟩
theorem row_Leaves.leaf (w0 W : World) (g n : Nat) (m b t : Int) (h : row_Leaves.Inv w0 W g n) (hl : n ≤ 100000) :
  Calls Try.prog 58 #[.agg #[.int .i64 m, .int .i64 b, .int .i64 t], .pointer (some ⟨g, 0, none⟩)] W fun e w' => e = .returned (.tuple #[]) ∧ row_Leaves.Inv w0 w' g (n + 1) := by
 have H := Aside0.mk h
 have hc0 : ∀ o : Obj, (W.alloc o).heap[g]? = some (.cells #[.int .i64 (n : Int)] 3 (0, 0)) := fun o => ((below_alloc (Below.refl W.heap.size W) o).block g (blk_lt h.cell)).trans h.cell
 have hca : ∀ o : Obj, (W.alloc o).cell? ⟨g, 0, none⟩ = some (.int .i64 (n : Int)) := fun o => (blk_cell (hc0 o) 0).trans rfl
 have hcf : ∀ o : Obj, (W.alloc o).frozen? ⟨g, 0, none⟩ = false := fun o => blk_frozen (hc0 o) 0
 have HC := Aside0.mk hc0
 have hw : wrap64 ((n : Int) + 1) = ((n + 1 : Nat) : Int) := by unfold wrap64; omega
 clear h hc0
 go_enter Try.func58, Try.ntmps58
 go_wp2
 go_end0
 refine ⟨rfl, H.out.ge, ?_, ?_⟩
 ·exact blk_set (HC.out _) 0 (.int .i64 ((n : Int) + 1))
 ·exact below_set (below_alloc H.out.below _) H.out.ge
theorem row_Leaves.leaves_calls (B : World) (g : Nat) : ∀ (k : Nat) (A : Option Addr) (z : Nat) (l : List Int) (m b : Int) (r : List S58) (xs : Nat) (W : World),
  Kd.C (Kd.int .i64) B A l.length l → l.length ≤ z → row_Pack.leaves k l m b = some r → row_Leaves.Inv B W g xs → xs + r.length ≤ 100000 →
  Calls Try.prog 57 #[.slice A l.length z, .int .i64 m, .int .i64 b, .func (.func 58) #[] #[.pointer (some ⟨g, 0, none⟩)]] W fun e w' => e = .returned (.tuple #[]) ∧ row_Leaves.Inv B w' g (xs + r.length) := by
 intro k
 induction k with
 | zero => intro A z l m b r xs W _ _ h; cases h
 | succ k ih =>
  intro A z l m b r xs W hC hc h hI hx; rw [row_Pack.leaves] at h; have hlen := hC.2.1
  have hdiv : Int.tdiv (l.length : Int) 2 = ((l.length / 2 : Nat) : Int) := by rw [Int.tdiv_eq_ediv_of_nonneg (by omega)]; omega
  by_cases F : l.length / 2 = 0
  ·rw [if_pos F] at h
   by_cases Q : 0 < l.length
   ·rw [if_pos Q] at h; obtain rfl := Option.some.inj h; obtain ⟨ad, rfl, G⟩ := Kd.at_int hC 0 (by omega) (by omega); rw [F] at hdiv; have D := pw_cell_below hI.below G; rw [show ((0 : Int)).toNat = 0 from rfl, Addr.add_zero'] at D; have HI := aM hI; have HX := aM hx; clear hI hx G h hC
    go_enter Try.func57, Try.ntmps57
    go_wp2_with (go_at_call 58; (with_reducible refine (row_Leaves.leaf B _ g xs m b _ HI.out (by have := HX.out; simp only [List.length_cons, List.length_nil] at this; omega)).mono ?_); rintro e R ⟨rfl, hi⟩; have H1 := aM hi; clear hi)
    go_end0
    exact ⟨rfl, H1.out⟩
   ·rw [if_neg Q] at h; cases h
  ·rw [if_neg F] at h; replace h := Option.bind_eq_some_iff.mp h; obtain ⟨t, hE, h⟩ := h; obtain ⟨H, hH⟩ : ∃ H, H = l.length / 2 := ⟨_, rfl⟩; rw [← hH] at h hE hdiv F
   have hH1 : 0 < H := by omega
   have hH2 : H ≤ l.length := by omega
   have hT : (l.take H).length = H := by rw [List.length_take]; omega
   have hF : (l.drop H).length = l.length - H := List.length_drop; obtain ⟨i0, E, _, hsz, _⟩ := info_parts info3; have hcut1 := cut_to (P := Try.prog) 29 3 .i64 Try.underlying29 E A l.length z (H : Int) (by omega) (by omega) hc; have hcut2 := cut_from (P := Try.prog) 29 3 .i64 Try.underlying29 E 1 hsz A l.length z (H : Int) (by omega) (by omega); rw [Int.toNat_natCast] at hcut1 hcut2; have hCT := Kd.C_take hC hH2; have hCF := Kd.C_drop hC hH2 hc
   change Kd.C (Kd.int .i64) B (if z = H then A else A.map (·.add (H * 1))) (l.drop H).length (l.drop H) at hCF
   obtain ⟨AF, hAF⟩ : ∃ AF, AF = (if z = H then A else A.map (·.add (H * 1))) := ⟨_, rfl⟩; rw [← hAF] at hcut2 hCF
   have HQ : Aside0 (∀ W' : World, Below B.heap.size B W' → Calls Try.prog 51 #[.slice A H z, .slice AF (l.length - H) (z - H)] W' fun e w' => e = .returned (.bool t) ∧ Drawn0 W' w') := ⟨fun W' hW' => by
    have q := slices_Equal_int_int.calls k A z (l.take H) AF (z - H) (l.drop H) t W' (Kd.C_below hCT hW') (by omega) (Kd.C_below hCF hW') (by omega) hE; rw [hT, hF] at q
    exact q⟩
   have I : Aside0 (∀ (m' b' : Int) (r' : List S58) (xs' : Nat) (W' : World), row_Pack.leaves k (l.take H) m' b' = some r' → row_Leaves.Inv B W' g xs' → xs' + r'.length ≤ 100000 → Calls Try.prog 57 #[.slice A H z, .int .i64 m', .int .i64 b', .func (.func 58) #[] #[.pointer (some ⟨g, 0, none⟩)]] W' fun e w' => e = .returned (.tuple #[]) ∧ row_Leaves.Inv B w' g (xs' + r'.length)) := ⟨fun m' b' r' xs' W' L M O => by
    have q := ih A z (l.take H) m' b' r' xs' W' hCT (by omega) L M O; rw [hT] at q
    exact q⟩
   have U : Aside0 (∀ (m' b' : Int) (r' : List S58) (xs' : Nat) (W' : World), row_Pack.leaves k (l.drop H) m' b' = some r' → row_Leaves.Inv B W' g xs' → xs' + r'.length ≤ 100000 → Calls Try.prog 57 #[.slice AF (l.length - H) (z - H), .int .i64 m', .int .i64 b', .func (.func 58) #[] #[.pointer (some ⟨g, 0, none⟩)]] W' fun e w' => e = .returned (.tuple #[]) ∧ row_Leaves.Inv B w' g (xs' + r'.length)) := ⟨fun m' b' r' xs' W' L M O => by
    have q := ih AF (z - H) (l.drop H) m' b' r' xs' W' hCF (by omega) L M O; rw [hF] at q
    exact q⟩
   have HI := aM hI; have HX := aM hx
   have c1b : ((H : Int) == 0) = false := by simp; omega
   clear hE hI hx hCT hCF hT hF hAF hH ih E hsz hC
   by_cases ht : t = true
   ·subst ht; rw [if_pos rfl] at h; have HL := aM h; clear h
    go_enter Try.func57, Try.ntmps57
    go_wp2
    refine start_ (n := 8) (S := fun w' => True) (ds := []) (bl 8 0) (by kernel_rfl) rfl rfl trivial (fun hHeld => ?_); refine pure_ (i := 0) (N := some 44) (v := ?_) (a' := ?_) (bl 8 1) rfl rfl (by kernel_rfl) (fun _ _ _ h => h) (Or.inl ⟨by rfl, ?_⟩) ?_ ?_; rotate_left
    ·intro w'
     go_simp
     with_reducible rfl
    rotate_left
    ·simp only [Act.put, sA, sB, sC, i64_w, i32_w]
     rfl
    refine pure_ (i := 1) (N := some 45) (v := ?_) (a' := ?_) (bl 8 3) rfl rfl (by kernel_rfl) (fun _ _ _ h => h) (Or.inl ⟨by rfl, ?_⟩) ?_ ?_; rotate_left
    ·intro w'
     go_simp
     with_reducible rfl
    rotate_left
    ·simp only [Act.put, sA, sB, sC, i64_w, i32_w]
     rfl
    refine pure_ (i := 2) (N := some 46) (v := ?_) (a' := ?_) (bl 8 7) rfl rfl (by kernel_rfl) (fun _ _ _ h => h) (Or.inl ⟨by rfl, ?_⟩) ?_ ?_; rotate_left
    ·intro w'
     go_simp
     with_reducible rfl
    rotate_left
    ·simp only [Act.put, sA, sB, sC, i64_w, i32_w]
     rfl
    refine pure_ (i := 3) (N := some 47) (v := ?_) (a' := ?_) (bl 8 15) rfl rfl (by kernel_rfl) (fun _ _ _ h => h) (Or.inl ⟨by rfl, ?_⟩) ?_ ?_; rotate_left
    ·intro w'
     go_simp
     with_reducible rfl
    rotate_left
    ·simp only [Act.put, sA, sB, sC, i64_w, i32_w]
     rfl
    refine pure_ (i := 4) (N := some 48) (v := ?_) (a' := ?_) (bl 8 31) rfl rfl (by kernel_rfl) (fun _ _ _ h => h) (Or.inl ⟨by rfl, ?_⟩) ?_ ?_; rotate_left
    ·intro w'
     go_simp
     with_reducible rfl
    rotate_left
    ·simp only [Act.put, sA, sB, sC, i64_w, i32_w]
     rfl
    refine pure_ (i := 5) (N := some 49) (v := ?_) (a' := ?_) (bl 8 63) rfl rfl (by kernel_rfl) (fun _ _ _ h => h) (Or.inl ⟨by rfl, ?_⟩) ?_ ?_; rotate_left
    ·intro w'
     go_simp
     with_reducible rfl
    rotate_left
    ·simp only [Act.put, sA, sB, sC, i64_w, i32_w]
     rfl
    refine one_ (i := 6) (N := some 50) (bl 8 127) rfl rfl (by kernel_rfl) (by decide) (fun K hK => ?_); refine goes_ Try.func51 (by kernel_rfl) rfl #[.slice A H z, .slice AF (l.length - H) (z - H)] (by rfl) rfl rfl (by simp only [List.map_toArray, List.map_cons, List.map_nil]; rfl) ?_
    with_reducible refine (HQ.out _ (by repeat (first | exact HI.out.below | apply pw_below_drewN | apply below_drew1))).mono ?_
    rintro e V ⟨rfl, ⟨nd, rfl⟩⟩; refine ⟨_, rfl, ?_⟩; refine hK.out _ _ trivial (fun hHeld => ?_); clear hK K; refine nm_ 50 ?_; refine pure_ (i := 7) (N := some 43) (v := ?_) (a' := ?_) (bl 8 255) rfl rfl (by kernel_rfl) (fun _ _ _ h => h) (Or.inl ⟨by rfl, ?_⟩) ?_ ?_; rotate_left
    ·intro w'
     go_simp
     with_reducible rfl
    rotate_left
    ·simp only [Act.put, sA, sB, sC, i64_w, i32_w]
     rfl
    refine done_ (by kernel_rfl) ?_
    go_wp2_with (go_at_call 57; (with_reducible refine (I.out m b r xs _ HL.out (by repeat (first | exact HI.out | apply row_Leaves.Inv.drewN | apply row_Leaves.Inv.drew)) HX.out).mono ?_); rintro e R ⟨rfl, hi⟩; have H1 := aM hi; clear hi)
    go_end0
    exact ⟨rfl, H1.out⟩
   ·have htf : t = false := by simpa using ht
    subst htf; clear ht; rw [if_neg (by simp)] at h; replace h := Option.bind_eq_some_iff.mp h; obtain ⟨x, D, h⟩ := h; replace h := Option.bind_eq_some_iff.mp h; obtain ⟨y, J, h⟩ := h; obtain rfl := Option.some.inj h; have HXX : Aside0 (xs + x.length ≤ 100000 ∧ (xs + x.length) + y.length ≤ 100000) := ⟨by have := HX.out; rw [List.length_append] at this; omega⟩; have HL1 := aM D; have HL2 := aM J; clear h D J
    go_enter Try.func57, Try.ntmps57
    go_wp2
    refine start_ (n := 8) (S := fun w' => True) (ds := []) (bl 8 0) (by kernel_rfl) rfl rfl trivial (fun hHeld => ?_); refine pure_ (i := 0) (N := some 44) (v := ?_) (a' := ?_) (bl 8 1) rfl rfl (by kernel_rfl) (fun _ _ _ h => h) (Or.inl ⟨by rfl, ?_⟩) ?_ ?_; rotate_left
    ·intro w'
     go_simp
     with_reducible rfl
    rotate_left
    ·simp only [Act.put, sA, sB, sC, i64_w, i32_w]
     rfl
    refine pure_ (i := 1) (N := some 45) (v := ?_) (a' := ?_) (bl 8 3) rfl rfl (by kernel_rfl) (fun _ _ _ h => h) (Or.inl ⟨by rfl, ?_⟩) ?_ ?_; rotate_left
    ·intro w'
     go_simp
     with_reducible rfl
    rotate_left
    ·simp only [Act.put, sA, sB, sC, i64_w, i32_w]
     rfl
    refine pure_ (i := 2) (N := some 46) (v := ?_) (a' := ?_) (bl 8 7) rfl rfl (by kernel_rfl) (fun _ _ _ h => h) (Or.inl ⟨by rfl, ?_⟩) ?_ ?_; rotate_left
    ·intro w'
     go_simp
     with_reducible rfl
    rotate_left
    ·simp only [Act.put, sA, sB, sC, i64_w, i32_w]
     rfl
    refine pure_ (i := 3) (N := some 47) (v := ?_) (a' := ?_) (bl 8 15) rfl rfl (by kernel_rfl) (fun _ _ _ h => h) (Or.inl ⟨by rfl, ?_⟩) ?_ ?_; rotate_left
    ·intro w'
     go_simp
     with_reducible rfl
    rotate_left
    ·simp only [Act.put, sA, sB, sC, i64_w, i32_w]
     rfl
    refine pure_ (i := 4) (N := some 48) (v := ?_) (a' := ?_) (bl 8 31) rfl rfl (by kernel_rfl) (fun _ _ _ h => h) (Or.inl ⟨by rfl, ?_⟩) ?_ ?_; rotate_left
    ·intro w'
     go_simp
     with_reducible rfl
    rotate_left
    ·simp only [Act.put, sA, sB, sC, i64_w, i32_w]
     rfl
    refine pure_ (i := 5) (N := some 49) (v := ?_) (a' := ?_) (bl 8 63) rfl rfl (by kernel_rfl) (fun _ _ _ h => h) (Or.inl ⟨by rfl, ?_⟩) ?_ ?_; rotate_left
    ·intro w'
     go_simp
     with_reducible rfl
    rotate_left
    ·simp only [Act.put, sA, sB, sC, i64_w, i32_w]
     rfl
    refine one_ (i := 6) (N := some 50) (bl 8 127) rfl rfl (by kernel_rfl) (by decide) (fun K hK => ?_); refine goes_ Try.func51 (by kernel_rfl) rfl #[.slice A H z, .slice AF (l.length - H) (z - H)] (by rfl) rfl rfl (by simp only [List.map_toArray, List.map_cons, List.map_nil]; rfl) ?_
    with_reducible refine (HQ.out _ (by repeat (first | exact HI.out.below | apply pw_below_drewN | apply below_drew1))).mono ?_
    rintro e V ⟨rfl, ⟨nd, rfl⟩⟩; refine ⟨_, rfl, ?_⟩; refine hK.out _ _ trivial (fun hHeld => ?_); clear hK K; refine nm_ 50 ?_; refine pure_ (i := 7) (N := some 43) (v := ?_) (a' := ?_) (bl 8 255) rfl rfl (by kernel_rfl) (fun _ _ _ h => h) (Or.inl ⟨by rfl, ?_⟩) ?_ ?_; rotate_left
    ·intro w'
     go_simp
     with_reducible rfl
    rotate_left
    ·simp only [Act.put, sA, sB, sC, i64_w, i32_w]
     rfl
    refine done_ (by kernel_rfl) ?_
    go_wp2_with (first | (go_at_call 57; (with_reducible refine (U.out _ _ y (xs + x.length) _ HL2.out H1.out HXX.out.2).mono ?_); rintro e Y ⟨rfl, hi⟩; have H2 := aM hi; clear hi) | (go_at_call 57; (with_reducible refine (I.out _ _ x xs _ HL1.out (by repeat (first | exact HI.out | apply row_Leaves.Inv.drewN | apply row_Leaves.Inv.drew)) HXX.out.1).mono ?_); rintro e R ⟨rfl, hi⟩; have H1 := aM hi; clear hi))
    go_end0
    rw [List.length_append, ← Nat.add_assoc]; exact ⟨rfl, H2.out⟩
theorem row_Leaves.Inv.start {w0 w1 : World} (hb : Below w0.heap.size w0 w1) : row_Leaves.Inv w0 (w1.alloc (.cells #[.int .i64 0] 3)) w1.heap.size 0 := ⟨hb.size, heap_alloc_new w1 (.cells #[.int .i64 0] 3), below_alloc hb _⟩
def row_Leaves.f (k : Nat) (l0 : List Int) : Option (Int × Int) := (row_right.f k l0).bind fun t => if t = true then (row_Pack.leaves k l0 0 0).bind fun r => some ((r.length : Int), 0) else some (0, 3)
theorem row_Leaves.mono : ∀ a0 k, LeO (row_Leaves.f k a0) (row_Leaves.f (k + 1) a0) := by
 intro a0 k
 unfold row_Leaves.f
 exact LeO.bind (row_right.mono _ _) fun t => LeO.ite (LeO.bind (row_Pack.leaves_mono _ _ _ _) fun _ => LeO.refl _) (LeO.refl _)
theorem row_Leaves.calls (k : Nat) (A : Option Addr) (B : Nat) (z : List Int) (G : Int) (I : Int) (w : World) (D : Kd.C (Kd.int .i64) w A z.length z) (E : z.length ≤ B) (h : row_Leaves.f k z = some (G, I)) :
  Calls Try.prog 31 #[.slice A z.length B] w fun e w' => e = .returned (.tuple #[.int .i64 G, .int .i64 I]) ∧ Below w.heap.size w w' := by
 unfold row_Leaves.f at h
 replace h := Option.bind_eq_some_iff.mp h; obtain ⟨t, ht, h⟩ := h; have HT := aM ht; have HR := aM D; have HC := aM E
 by_cases c : t = true
 ·subst c; rw [if_pos rfl] at h; replace h := Option.bind_eq_some_iff.mp h; obtain ⟨r, hL, h⟩ := h; simp only [Option.some.injEq, Prod.mk.injEq] at h; obtain ⟨rfl, rfl⟩ := h; have HL := aM hL
  have HB0 := aM (show 0 + r.length ≤ 100000 by
   have M := row_Pack.leaves_length _ _ _ _ _ hL; have O := row_Pack.right_len ht
   omega)
  have hmf : ∀ (fn : Fn) (first cap : Array Value) (W : World), (Instr.makeFunc fn first cap).run Try.prog W = .ok (.func fn first cap) W := fun _ _ _ _ => rfl
  clear ht hL D E
  go_enter Try.func31, Try.ntmps31
  go_wp2_with (first
   | (go_at_call 56; (with_reducible refine (row_right.calls k A B z true _ HR.out HC.out HT.out).mono ?_); rintro e F ⟨rfl, hb⟩; have HB := aM hb; clear hb)
   | (go_at_call 57; (with_reducible refine (row_Leaves.leaves_calls w F.heap.size k A B z 0 0 r 0 _ HR.out HC.out HL.out (row_Leaves.Inv.start HB.out) HB0.out).mono ?_); rintro e J ⟨rfl, hi⟩; obtain ⟨hge, hc, hb⟩ := hi; rw [Nat.zero_add] at hc; have L : J.cell? ⟨F.heap.size, 0, none⟩ = some (.int .i64 (r.length : Int)) := (blk_cell hc 0).trans rfl; have H2 := aM hb; clear hc hb hge))
  go_ret2
  exact ⟨rfl, H2.out⟩
 ·have c' : t = false := by simpa using c
  subst c'; rw [if_neg (by simp)] at h; simp only [Option.some.injEq, Prod.mk.injEq] at h; obtain ⟨rfl, rfl⟩ := h; clear ht D E c
  go_enter Try.func31, Try.ntmps31
  go_wp2_with (go_at_call 56; (with_reducible refine (row_right.calls k A B z false _ HR.out HC.out HT.out).mono ?_); rintro e F ⟨rfl, hb⟩; have HB := aM hb; clear hb)
  go_ret2
  exact ⟨rfl, HB.out⟩

-- NOT PRINTED: function 9 (tabardlaw12_TableBack)

end Go.Proofs.Ytghfclgcgecgdaa.X
