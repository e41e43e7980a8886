/- What the functions of this seat compute, and that the program's calls come to just that: written by this session's own program out of the translation; no condition. -/
import Derived.Test.YthgoonohpfoagaaX0
namespace Go.Proofs.Ythgoonohpfoagaa.X
open Go.RowKit Go.Proofs.YthgoonohpfoagaaW.PrintWords Go.Proofs.YthgoonohpfoagaaW.PrintLast Go.Proofs.YthgoonohpfoagaaW.PrintMore
attribute [local go_sem] max2_int min2_int max_two min_two max_three min_three max_four min_four
set_option linter.unusedVariables false
set_option linter.unusedSimpArgs false
set_option maxHeartbeats 8000000
set_option maxRecDepth 100000

/-! ### slices_Clone_string_string: function 25 -/
def slices_Clone_string_string.f (l0 : List (ByteArray)) : Option (List (ByteArray)) := if l0.length < 8796093022208 then some l0 else none
theorem slices_Clone_string_string.calls (Q : Option Addr) (U : Nat) (A : List (ByteArray)) (r : List (ByteArray)) (w : World) (D : Kd.C Kd.string w Q A.length A) (ac : A.length ≤ U) (h : slices_Clone_string_string.f A = some r) :
  Calls Try.prog 25 #[.slice Q A.length U] w fun e w' => ∃ F : Value, e = .returned (F) ∧ Kd.R Kd.string 9 w' w.heap.size (fun _ => True) F r ∧ Below w.heap.size w w' := by
 have HB := aM (Below.refl w.heap.size w)
 have hlim : A.length < 8796093022208 ∧ A = r := by
  unfold slices_Clone_string_string.f at h
  by_cases hc : A.length < 8796093022208
  ·rw [if_pos hc] at h; exact ⟨hc, Option.some.inj h⟩
  ·rw [if_neg hc] at h; cases h
 obtain ⟨hlim, rfl⟩ := hlim; have HL := aM hlim; have G := aM D; clear D hlim h; cases Q with
 | none =>
  have Y : A.length = 0 := by
   rcases Nat.eq_zero_or_pos A.length with h | h
   ·exact h
   ·obtain ⟨ad, h1, _⟩ := G.out.2.2 h; cases h1
  obtain rfl := List.eq_nil_of_length_eq_zero Y; clear Y
  have hn := fun (W : World) (n c : Nat) => Lib.run_eql_slice_nil (P := Try.prog) W 23 9 none n c 0 0 Try.underlying23
  go_enter Try.func25, Try.ntmps25
  go_wp2
  go_ret
  exact ⟨_, rfl, Kd.R_nil _ _ _ _ _, HB.out⟩
 | some ad =>
  have hn := fun (W : World) (n c : Nat) => Lib.run_eql_slice_nil (P := Try.prog) W 23 9 (some ad) n c 0 0 Try.underlying23
  go_enter Try.func25, Try.ntmps25
  go_wp2_with (first
   | ((with_reducible refine gate_dst (N := 5) rfl ?_); refine Kd.R_lit Kd.string _ 9 ?hg (N := 5) ?hd (xs := ([] : List (ByteArray))) (inner := []) (ok := fun _ => True) (okp := fun _ => True) ?hr ?hp (fun _ hk => hk) trivial (Below.refl _ _) (Nat.le_refl _) (by simp) ?_; (case hd => rfl); (case hg => rfl); (case hr => first | (go_simp; done) | (go_simp; rfl)); (case hp => exact (Reps.none _ _)); intro v1 w1 I hb hg_ hnew_; clear hg_ hnew_; have J := aM (Kd.R_lower I (below_size HB.out)); replace HB := aM (below_step HB.out hb); clear hb I)
   | ((with_reducible refine gate_builtin (b := .append) (xs := #[.tmp 5, .tmp 6]) rfl ?_); at_builtin; refine Kd.R_append_rows Kd.string (w0 := w) w.heap.size rfl (.tmp 5) (.tmp 6) 23 9 (.string ⟨#[]⟩) 16 rfl Try.underlying23 info9 rfl (by decide) (by omega) v1 [] A _ _ _ (fun _ => True) (fun _ => False) rfl rfl ?aO ?aR (fun _ _ h => h) (fun _ h => h.elim) ?aF ?aB ?aS ?aL ?_; (case aR => exact (Kd.C_below G.out HB.out)); (case aB => exact HB.out); (case aF => exact (fun _ _ => trivial)); (case aO => exact J.out); (case aS => exact (below_size HB.out)); (case aL => have := HL.out; simp only [List.length_nil]; omega); intro v2 w2 ho hb hg hat; have M := aM (hb); have O := aM (ho); clear HB J; have HB := M; have Z := O; clear M O; clear ho hb hg hat))
  go_ret
  exact ⟨_, rfl, Z.out, HB.out⟩

/-! ### atom_sums: function 26 -/
/-- append onto what the call owns: what is answered is owned, and what was appended to reads as it did. -/
theorem atom_sums.keep (w : World) (base : Nat) (ty : TypeId) (v : Value) (xs : List Int) (hown : w.ownsRow base 2 1 v xs.length (nums .i64 xs))
  (a : Addr) (m c : Nat) (ys : List Int) (hl : ys.length = m) (G : 0 < m) (hnews : ∀ j u, (nums .i64 ys)[j]? = some u → w.cell? (a.add j) = some u)
  (hbytes : (xs.length + m) * 8 ≤ 140737488355328) (hbase : base ≤ w.heap.size) :
  ∃ A' c' w', (Builtin.append_ #[24, 24] ty #[v, .slice (some a) m c]).run Try.prog w = .ok (.slice A' (xs.length + m) c') w' ∧ w'.ownsRow base 2 1 (.slice A' (xs.length + m) c') (xs ++ ys).length (nums .i64 (xs ++ ys)) ∧ w'.ownsRow base 2 1 v xs.length (nums .i64 xs) ∧ w.grownBy w' v.ownBlock ∧
   ((Value.slice A' (xs.length + m) c').ownBlock = v.ownBlock ∨ (Value.slice A' (xs.length + m) c').ownBlock = some w.heap.size) := by
 obtain ⟨i, hi, hz, hsize, hby⟩ := info_parts info2; have ht := Try.underlying24; have hxl : (nums .i64 xs).length = xs.length := nums_length ..
 have hyl : (nums .i64 ys).length = m := by rw [nums_length]; exact hl
 have A : xs.length + m ≤ maxLen := by simp only [maxLen]; omega
 have hlen : (nums .i64 (xs ++ ys)).length = (xs ++ ys).length * 1 := by rw [nums_length, Nat.mul_one]
 have hap : nums .i64 (xs ++ ys) = nums .i64 xs ++ nums .i64 ys := by simp [nums]
 have hn : (xs ++ ys).length = xs.length + m := by rw [List.length_append, hl]
 have F : ∀ u ∈ nums .i64 ys, u.oneCell' = true := by intro u hu; simp only [nums, List.mem_map] at hu; obtain ⟨x, _, rfl⟩ := hu; rfl
 have grown : ∀ (old : Nat), old < xs.length + m → 
   (w.drew.alloc (.cells ((nums .i64 xs).toArray ++ (nums .i64 ys).toArray ++ Builtin.zeroCells (Value.int .i64 0).cells (grownCap w (xs.length + m) old 2 - (xs.length + m))) 2)).ownsRow base 2 1
    (.slice (some ⟨w.heap.size, 0, none⟩) (xs.length + m) (grownCap w (xs.length + m) old 2)) (xs ++ ys).length (nums .i64 (xs ++ ys)) := by
  intro old ho; have hge := grownCap_ge w (xs.length + m) old 2; have hcm : grownCap w (xs.length + m) old 2 ≤ maxLen := grownCap_le_maxLen w (xs.length + m) old 2 A; rw [hn]; refine ⟨by rw [hlen, hn], .inr ⟨w.heap.size, _, _, rfl, hbase, heap_alloc_new w.drew _, hge, hcm, ?_, ?_⟩⟩
  ·simp only [Array.size_append, List.size_toArray, size_zeroCells, hxl, hyl]; have : (Value.int .i64 0).cells.size = 1 := rfl; rw [this]; omega
  ·simp only [Array.toList_append, List.append_assoc]; rw [← List.append_assoc, ← hap, Nat.mul_one, ← hn, ← Nat.mul_one (xs ++ ys).length, ← hlen]; exact List.take_left
 have kept : ∀ (o : Obj), w.grownBy (w.drew.alloc o) v.ownBlock ∧ (w.drew.alloc o).ownsRow base 2 1 v xs.length (nums .i64 xs) := fun o =>
  ⟨⟨rfl, rfl, rfl, by simp, fun k hk _ => Below.heap_alloc w.drew _ k hk⟩, hown.kept (row := none) ⟨rfl, rfl, rfl, by simp, fun k hk _ => Below.heap_alloc w.drew _ k hk⟩ (by cases v.ownBlock <;> simp)⟩
 rcases hown.2 with ⟨rfl, D⟩ | ⟨g, cap, cur, rfl, hbg, hg, hnc, hcm, hcs, htake⟩
 ·obtain rfl : xs = [] := List.eq_nil_of_length_eq_zero D; have hr := run_append_nil (P := Try.prog) w 24 ty 2 i (.int .i64 0) ht hi hz a m c (nums .i64 ys) (by rw [hsize]; omega) hnews (by omega) (by omega) (by rw [hby]; simp at hbytes; omega); have hgr := grown 0 (by simp; omega); have hk := kept (.cells ((nums .i64 ys).toArray ++ Builtin.zeroCells (Value.int .i64 0).cells (grownCap w m 0 2 - m)) 2); simp only [List.length_nil, Nat.zero_add, List.nil_append, nums, List.map_nil, Array.empty_append] at hgr ⊢; exact ⟨_, _, _, hr, hgr, hk.2, hk.1, .inr rfl⟩
 ·by_cases hroom : xs.length + m ≤ cap
  ·have hfit : xs.length * i.size + (nums .i64 ys).length ≤ cur.size := by rw [hyl, hcs, hsize]; omega
   have hr := run_append_room (P := Try.prog) w 24 ty 2 i ht hi g xs.length cap cur hg a m c (nums .i64 ys) (by rw [hsize]; omega) hnews F hroom hfit; rw [hsize, Nat.mul_one] at hr; rw [Nat.mul_one] at htake; rw [htake] at hr; have hset := setRow_heap w g cur (nums .i64 xs ++ nums .i64 ys ++ cur.toList.drop (xs.length + (nums .i64 ys).length)).toArray 2 (0, 0) hg
   have hsz : (nums .i64 xs ++ nums .i64 ys ++ cur.toList.drop (xs.length + (nums .i64 ys).length)).toArray.size = cap * 1 := by
    simp only [List.size_toArray, List.length_append, List.length_drop, Array.length_toList, hxl, hyl, hcs]; omega
   refine ⟨_, _, _, hr, ⟨by rw [hlen, hn], .inr ⟨g, cap, _, by rw [hn], hbg, hset, by rw [hn]; exact hroom, hcm, hsz, ?_⟩⟩, ⟨by rw [hxl, Nat.mul_one], .inr ⟨g, cap, _, rfl, hbg, hset, hnc, hcm, hsz, ?_⟩⟩, ⟨rfl, rfl, rfl, by simp, fun k _ hk => setRow_other w g k _ (fun e => hk (by simp [Value.ownBlock, e]))⟩, .inl rfl⟩
   ·show List.take _ (nums .i64 xs ++ nums .i64 ys ++ _) = _; rw [← hap, ← hlen]; exact List.take_left
   ·show List.take _ (nums .i64 xs ++ nums .i64 ys ++ _) = _; rw [List.append_assoc, Nat.mul_one]; have e : xs.length = (nums .i64 xs).length := hxl.symm; rw [e]; exact List.take_left
  ·have holds : ∀ j u, (nums .i64 xs)[j]? = some u → w.cell? ((⟨g, 0, none⟩ : Addr).add j) = some u := hown.cells (g := g) rfl; have hr := run_append_grow (P := Try.prog) w 24 ty 2 i (.int .i64 0) ht hi hz ⟨g, 0, none⟩ xs.length cap (nums .i64 xs) (by rw [hsize]; omega) holds a m c (nums .i64 ys) (by rw [hsize]; omega) hnews (by omega) (by omega) (growslice_fits (by omega) (by rw [hby]; exact hbytes)); exact ⟨_, _, _, hr, grown cap (by omega), (kept _).2, (kept _).1, .inr rfl⟩
/-- The cells of what a call owns. -/
theorem atom_sums.pre {W : World} {base n : Nat} {g c : Nat} {xs : List Int} (h : W.ownsRow base 2 1 (.slice (some ⟨g, 0, none⟩) n c) xs.length (nums .i64 xs)) (i : Nat) (hi : i < xs.length) : W.cell? ⟨g, i, none⟩ = some (.int .i64 (xs.getD i 0)) := by
 have := h.cells (g := g) rfl i (.int .i64 (xs.getD i 0)) (by simp [nums, List.getD, List.getElem?_eq_getElem hi])
 by_cases c0 : i = 0
 ·subst c0; simpa [Addr.add] using this
 ·simpa [Addr.add, c0] using this
theorem atom_sums.below_grown {w0 w w' : World} {B base : Nat} {v : Value} {xs : List Int} (k : Below B w0 w) (hB : B ≤ w0.heap.size) (g : w.grownBy w' v.ownBlock) (h : w.ownsRow base 2 1 v xs.length (nums .i64 xs)) (hb : B ≤ base) : Below B w0 w' :=
 k.grown g (Nat.le_trans hB k.size) (fun j hj => by have := h.lt j hj; omega)
theorem atom_sums.news (w : World) (x : Int) : ∀ j u, (nums .i64 [x])[j]? = some u → (w.alloc (.cells #[.int .i64 x] 2)).cell? ((⟨w.heap.size, 0, none⟩ : Addr).add j) = some u := by
 intro j u hu; have := World.news_of_block (cs := #[Value.int .i64 x]) (t := 2) (fr := (0, 0)) (heap_alloc_new w (.cells #[.int .i64 x] 2)); exact this j u hu
theorem atom_sums.cell_eq {W V : World} {g k : Nat} (h : V.heap[g]? = W.heap[g]?) : V.cell? ⟨g, k, none⟩ = W.cell? ⟨g, k, none⟩ := by
 simp only [World.cell?, h]
/-- One sum more behind the list, which reads as it did. -/
theorem atom_sums.one {w W : World} {g g2 c2 : Nat} {L xs : List Int} (x : Int) (hx : ∀ k, k < L.length → xs.getD k 0 = L.getD k 0) (hle : L.length ≤ xs.length) (hs : xs.length ≤ 4294967296)
  (o : W.ownsRow w.heap.size 2 1 (.slice (some ⟨g2, 0, none⟩) xs.length c2) xs.length (nums .i64 xs)) (C : ∀ k, k < L.length → W.cell? ⟨g, k, none⟩ = some (.int .i64 (L.getD k 0))) (B : Below w.heap.size w W) :
  ∃ c' g' w', (Builtin.append_ #[24, 24] 24 #[.slice (some ⟨g2, 0, none⟩) xs.length c2, .slice (some ⟨W.heap.size, 0, none⟩) 1 1]).run Try.prog (W.alloc (.cells #[.int .i64 x] 2)) = .ok (.slice (some ⟨g', 0, none⟩) (xs.length + 1) c') w' ∧
   w'.ownsRow w.heap.size 2 1 (.slice (some ⟨g', 0, none⟩) (xs.length + 1) c') (xs ++ [x]).length (nums .i64 (xs ++ [x])) ∧ (∀ k, k < L.length → w'.cell? ⟨g, k, none⟩ = some (.int .i64 (L.getD k 0))) ∧ Below w.heap.size w w' := by
 have oa := o.alloc (.cells #[.int .i64 x] 2); obtain ⟨A', c', w', r1, o1, k1, g1, -⟩ := atom_sums.keep (W.alloc (.cells #[.int .i64 x] 2)) w.heap.size 24 _ xs oa ⟨W.heap.size, 0, none⟩ 1 1 [x] rfl (by decide) (atom_sums.news W x) (by omega) (by have := B.size; simp; omega); obtain ⟨g', cap, eg, -, -⟩ := o1.form (by simp)
 injection eg with e1 e2 e3
 subst e1; refine ⟨c', g', w', r1, o1, fun k hk => ?_, atom_sums.below_grown (B.alloc B.size _) (Nat.le_refl _) g1 oa (Nat.le_refl _)⟩
 by_cases hg : g = g2
 ·subst hg; rw [atom_sums.pre k1 k (by omega), hx k hk]
 ·have lt := World.block_lt_of_cell? _ _ (C k hk); rw [atom_sums.cell_eq (g1.block g (by simp; exact Nat.lt_succ_of_lt lt) (by simp [Value.ownBlock]; exact hg)), atom_sums.cell_eq (Below.heap_alloc W _ g lt)]; exact C k hk
/-- The sums: a coefficient after the other doubles the list. -/
def atom_sums.L : List Int → List Int → List Int
 | L, [] => L
 | L, c :: cs => atom_sums.L (L ++ L.map fun s => wrap64 (s + c)) cs
def atom_sums.f (l0 : List Int) : Option (List Int) := if l0.length ≤ 30 then some (atom_sums.L [0] l0) else none
theorem atom_sums.calls (Q : Option Addr) (U : Nat) (A : List Int) (r : List Int) (w : World) (J : Kd.C (Kd.int .i64) w Q A.length A) (Y : A.length ≤ U) (h : atom_sums.f A = some r) :
  Calls Try.prog 26 #[.slice Q A.length U] w fun e w' => ∃ M : Value, e = .returned M ∧ Kd.R (Kd.int .i64) 2 w' w.heap.size (fun _ => True) M r ∧ Below w.heap.size w w' := by
 unfold atom_sums.f at h
 by_cases hl : A.length ≤ 30
 case neg => rw [if_neg hl] at h; cases h
 rw [if_pos hl] at h; obtain rfl := Option.some.inj h; have HR := aM J; have HL := aM hl; have HM : ∃ m : Nat, m = A.length := ⟨_, rfl⟩; clear h J Y hl
 have aa : (A.length : Int) ≤ 30 := by have := HL.out; omega
 go_enter Try.func26, Try.ntmps26
 go_wp2
 go_loopw [3, 11] (fun Z D wr => ∃ (i c g : Nat) (L : List Int), i ≤ A.length ∧ Z = .slice (some ⟨g, 0, none⟩) L.length c ∧ D = .int .i64 (i : Int) ∧ Aside0 (L.length = 2 ^ i) ∧ Aside0 (atom_sums.L L (A.drop i) = atom_sums.L [0] A) ∧ Aside0 (wr.ownsRow w.heap.size 2 1 (.slice (some ⟨g, 0, none⟩) L.length c) L.length (nums .i64 L)) ∧ BA w wr) (fun _ D _ => A.length - (intOf D).toNat)
 case atStart => exact ⟨0, 1, w.heap.size, [0], Nat.zero_le _, rfl, rfl, ⟨rfl⟩, ⟨rfl⟩, ⟨World.ownsRow_lit (base := w.heap.size) (e := 2) (size := 1) w #[.int .i64 0] 1 (Nat.le_refl _) (by decide) (by rfl)⟩, ⟨(Below.refl _ _).alloc (Nat.le_refl _) _⟩⟩
 case round =>
  obtain ⟨i, c, g, L, hi, rfl, rfl, H2, HV, HO, HB⟩ := hrel
  have hle : L.length ≤ 2 ^ 30 := by rw [H2.out]; exact Nat.pow_le_pow_right (by decide) (Nat.le_trans hi HL.out)
  by_cases hlt : i < A.length
  ·obtain ⟨ad, rfl, F⟩ := Kd.at_int (Kd.C_below HR.out HB.out) (i : Int) (by omega) (by omega); rw [Int.toNat_natCast] at F; obtain ⟨z, ez⟩ : ∃ z, z = rd A (i : Int) := ⟨_, rfl⟩; rw [← ez] at F; have EZ := aM ez; clear ez
   have hlen : (L.length : Int) ≤ 1073741824 := by omega
   go_wp2
   clear F
   go_loopw [3, 17] (fun u3 u17 wq => ∃ (j G g2 : Nat), j ≤ L.length ∧ u3 = .slice (some ⟨g2, 0, none⟩) (L.length + j) G ∧ u17 = .int .i64 (j : Int) ∧ Aside0 (wq.ownsRow w.heap.size 2 1 (.slice (some ⟨g2, 0, none⟩) (L.length + j) G) (L.length + j) (nums .i64 (L ++ (L.take j).map fun s => wrap64 (s + z)))) ∧ Aside0 (∀ k, k < L.length → wq.cell? ⟨g, k, none⟩ = some (.int .i64 (L.getD k 0))) ∧ BA w wq) (fun _ u17 _ => L.length - (intOf u17).toNat)
   case atStart => exact ⟨0, c, g, Nat.zero_le _, rfl, rfl, ⟨by simpa using HO.out⟩, ⟨fun k hk => atom_sums.pre HO.out k hk⟩, HB⟩
   case round =>
    obtain ⟨j, G, g2, hj, rfl, rfl, QO, QC, QB⟩ := hrel
    by_cases hjl : j < L.length
    ·have hc := QC.out j hjl; obtain ⟨s, es⟩ : ∃ s, s = L.getD j 0 := ⟨_, rfl⟩; rw [← es] at hc
     obtain ⟨xs, ex⟩ : ∃ xs, xs = L ++ (L.take j).map fun s => wrap64 (s + z) := ⟨_, rfl⟩
     have xl : xs.length = L.length + j := by rw [ex]; simp; omega
     have qo := QO.out; rw [← ex, ← xl] at qo; obtain ⟨c', g', w', O, o1, C1, B1⟩ := atom_sums.one (w := w) (wrap64 (s + z)) (L := L) (xs := xs) (fun k hk => by rw [ex, List.getD, List.getElem?_append_left hk]; rfl) (by omega) (by omega) qo QC.out QB.out; rw [xl] at O o1
     have en : xs ++ [wrap64 (s + z)] = L ++ (L.take (j + 1)).map fun s => wrap64 (s + z) := by
      have hs : L[j] = s := by rw [es]; simp [List.getD, List.getElem?_eq_getElem hjl]
      have ht : L.take (j + 1) = L.take j ++ [L[j]] := by rw [List.take_add_one, List.getElem?_eq_getElem hjl]; rfl
      rw [ht, List.map_append, ← List.append_assoc, ← ex, hs]; rfl
     have xl' : (xs ++ [wrap64 (s + z)]).length = L.length + (j + 1) := by simp [xl]; omega
     rw [xl', en, Nat.add_assoc] at o1; have R1 := aM O; have O1 := aM o1; have C1 := aM C1; have B1 := aM B1; clear O o1 qo en xl' xl ex es QO QC QB
     go_wp2_with ((with_reducible refine gate_builtin (b := .append) (xs := #[.tmp 21, .tmp 25]) rfl ?_); at_builtin; go_loud (refine Lib.wpList_append_run_sl _ rfl (.tmp 21) (.tmp 25) 24 rfl _ _ rfl rfl R1.out ?_))
     go_roundw
     case rel => exact ⟨j + 1, c', g', by omega, by rfl, by go_num, O1, C1, B1⟩
     case measure => simp [intOf]; omega
    ·have hj' : j = L.length := by omega
     subst hj'; have o := QO.out; rw [List.take_length] at o
     have I : (L ++ L.map fun s => wrap64 (s + z)).length = L.length + L.length := by simp
     have hd : A.drop i = z :: A.drop (i + 1) := by
      rw [List.drop_eq_getElem_cons hlt, EZ.out]; simp [rd, List.getD_eq_getElem?_getD, List.getElem?_eq_getElem hlt]
     have V2 : Aside0 (atom_sums.L (L ++ L.map fun s => wrap64 (s + z)) (A.drop (i + 1)) = atom_sums.L [0] A) := ⟨by rw [← HV.out, hd]; rfl⟩; have P2 : Aside0 ((L ++ L.map fun s => wrap64 (s + z)).length = 2 ^ (i + 1)) := ⟨by rw [I, H2.out, Nat.pow_succ]; omega⟩; rw [← I] at o; have O2 := aM o; have E1 := aM I; clear o I hd QO QC
     go_wp2
     go_roundw
     case rel => exact ⟨i + 1, G, g2, _, by omega, by rw [E1.out], by go_num, P2, V2, O2, QB⟩
     case measure => simp [intOf]; omega
  ·have hi' : i = A.length := by omega
   subst hi'; have e := HV.out; rw [List.drop_length, atom_sums.L] at e; have E := aM e; clear e
   go_wp2
   go_ret
   rw [← E.out]; exact ⟨_, rfl, Kd.R_of_own HO.out (fun _ _ => trivial), HB.out⟩

/-! ### chk_Half: function 73 -/
def chk_Half.f (a0 : Int) : Option (Int) := some (a0 / 2)
theorem chk_Half.calls (A : Int) (r : Int) (w : World) (h : chk_Half.f A = some r) :
  Calls Try.prog 73 #[.int .i64 A] w fun e w' => e = .returned (.int .i64 r) ∧ Drawn0 w w' := by
 rw [chk_Half.f] at h; have H := h; clear h; obtain rfl := Option.some.inj H
 go_enter Try.func73, Try.ntmps73
 go_wp2
 go_ret
 exact ⟨by first | rfl | (simp; done) | (simp [*]; done), by repeat (first | exact Drawn0.refl _ | apply Drawn0.step)⟩

/-! ### atom_halved: function 48 -/
def atom_halved.f (a0 : Int) (a1 : Int) : Option (Int) := (chk_Half.f a0).bind fun t139 => ((chk_Half.f a1).bind fun t140 => (if (Go.bits .and .i64 a0 1) = 0 then (if (Go.bits .and .i64 a1 1) = 1 then (some (wrap64 ((wrap64 (t139 - t140)) - 1))) else (some (wrap64 (t139 - t140)))) else (some (wrap64 (t139 - t140)))))
theorem atom_halved.calls (A : Int) (D : Int) (r : Int) (w : World) (h : atom_halved.f A D = some r) :
  Calls Try.prog 48 #[.int .i64 A, .int .i64 D] w fun e w' => e = .returned (.int .i64 r) ∧ Drawn0 w w' := by
 rw [atom_halved.f] at h; have H := h; clear h; replace H := Option.bind_eq_some_iff.mp H; obtain ⟨F, M, H⟩ := H; have Q := aM M; clear M; replace H := Option.bind_eq_some_iff.mp H; obtain ⟨G, O, H⟩ := H; have U := aM O; clear O
 by_cases I : (Go.bits .and .i64 A 1) = 0
 ·rw [if_pos I] at H; obtain ⟨Y, Z⟩ := bq I; clear I
  by_cases J : (Go.bits .and .i64 D 1) = 1
  ·rw [if_pos J] at H; obtain ⟨aa, ab⟩ := bq J; clear J; obtain rfl := Option.some.inj H
   go_enter Try.func48, Try.ntmps48
   go_wp2_with (first | ((with_reducible refine gate_callee (f := 73) rfl ?_); refine gL_ (some 7) Try.func73 #[.int .i64 A] ?_; (with_reducible refine (chk_Half.calls A F _ Q.out).mono ?_); rintro e w' ⟨rfl, ⟨nd, rfl⟩⟩; refine ⟨_, rfl, ?_⟩) | ((with_reducible refine gate_callee (f := 73) rfl ?_); refine gL_ (some 9) Try.func73 #[.int .i64 D] ?_; (with_reducible refine (chk_Half.calls D G _ U.out).mono ?_); rintro e w' ⟨rfl, ⟨nd, rfl⟩⟩; refine ⟨_, rfl, ?_⟩))
   go_ret
   exact ⟨by first | rfl | (simp; done) | (simp [*]; done), by repeat (first | exact Drawn0.refl _ | apply Drawn0.step)⟩
  ·rw [if_neg J] at H; obtain ⟨aa, ab⟩ := bn J; obtain rfl := Option.some.inj H
   go_enter Try.func48, Try.ntmps48
   go_wp2_with (first | ((with_reducible refine gate_callee (f := 73) rfl ?_); refine gL_ (some 7) Try.func73 #[.int .i64 A] ?_; (with_reducible refine (chk_Half.calls A F _ Q.out).mono ?_); rintro e w' ⟨rfl, ⟨nd, rfl⟩⟩; refine ⟨_, rfl, ?_⟩) | ((with_reducible refine gate_callee (f := 73) rfl ?_); refine gL_ (some 9) Try.func73 #[.int .i64 D] ?_; (with_reducible refine (chk_Half.calls D G _ U.out).mono ?_); rintro e w' ⟨rfl, ⟨nd, rfl⟩⟩; refine ⟨_, rfl, ?_⟩))
   go_ret
   exact ⟨by first | rfl | (simp; done) | (simp [*]; done), by repeat (first | exact Drawn0.refl _ | apply Drawn0.step)⟩
 ·rw [if_neg I] at H; obtain ⟨Y, Z⟩ := bn I; obtain rfl := Option.some.inj H
  go_enter Try.func48, Try.ntmps48
  go_wp2_with (first | ((with_reducible refine gate_callee (f := 73) rfl ?_); refine gL_ (some 7) Try.func73 #[.int .i64 A] ?_; (with_reducible refine (chk_Half.calls A F _ Q.out).mono ?_); rintro e w' ⟨rfl, ⟨nd, rfl⟩⟩; refine ⟨_, rfl, ?_⟩) | ((with_reducible refine gate_callee (f := 73) rfl ?_); refine gL_ (some 9) Try.func73 #[.int .i64 D] ?_; (with_reducible refine (chk_Half.calls D G _ U.out).mono ?_); rintro e w' ⟨rfl, ⟨nd, rfl⟩⟩; refine ⟨_, rfl, ?_⟩))
  go_ret
  exact ⟨by first | rfl | (simp; done) | (simp [*]; done), by repeat (first | exact Drawn0.refl _ | apply Drawn0.step)⟩

/-! ### atom_even: function 49 -/
def atom_even.f (a0 : Int) (a1 : Int) : Option (Bool) := some ((Go.bits .and .i64 a0 1) == (Go.bits .and .i64 a1 1))
theorem atom_even.calls (A : Int) (D : Int) (r : Bool) (w : World) (h : atom_even.f A D = some r) :
  Calls Try.prog 49 #[.int .i64 A, .int .i64 D] w fun e w' => e = .returned (.bool r) ∧ Drawn0 w w' := by
 rw [atom_even.f] at h; have H := h; clear h; obtain rfl := Option.some.inj H
 go_enter Try.func49, Try.ntmps49
 go_wp2
 go_ret
 exact ⟨by first | rfl | (simp; done) | (simp [*]; done), by repeat (first | exact Drawn0.refl _ | apply Drawn0.step)⟩

end Go.Proofs.Ythgoonohpfoagaa.X
