/- What the program's calls on sets come to, by hand: each call's own contract; no condition beyond what each contract says. -/
import Derived.Test.YtpekanolhgcljaaDoorSetsB
namespace Go.Proofs.YtpekanolhgcljaaDoor.X
open Go.RowKit Go.Proofs.YtpekanolhgcljaaDoorW.PrintWords Go.Proofs.YtpekanolhgcljaaDoorW.PrintLast Go.Proofs.YtpekanolhgcljaaDoorW.PrintMore
set_option linter.unusedVariables false
set_option linter.unusedSimpArgs false
theorem bitset.idx64 (z : Int) : ∃ i : Nat, i < 64 ∧ wrap64 ((IntKind.u64.wrap z).tmod 64) = (i : Int) := by
  have h0 : 0 ≤ IntKind.u64.wrap z := by simp [IntKind.wrap, IntKind.bits, IntKind.signed]; omega
  have h1 : IntKind.u64.wrap z < 18446744073709551616 := by simp [IntKind.wrap, IntKind.bits, IntKind.signed]; omega
  generalize IntKind.u64.wrap z = u at *
  obtain ⟨m, rfl⟩ := Int.eq_ofNat_of_zero_le h0
  refine ⟨m % 64, by omega, ?_⟩
  rw [Int.tmod_eq_emod_of_nonneg h0]
  unfold wrap64
  omega
theorem bitset.own_kept_below {w w' : World} {base B : Nat} {v : Value} {xs : List Int} (h : w.ownsRow base 3 1 v xs.length (nums .i64 xs)) (k : Below B w w') (hb : w.heap.size ≤ B) : w'.ownsRow base 3 1 v xs.length (nums .i64 xs) :=
  h.kept (row := none) ⟨k.os, k.tape, k.output, k.size, fun j hj _ => k.block j (by omega)⟩ (by cases v.ownBlock <;> simp)
theorem bitset.below_grown {w0 w w' : World} {B base : Nat} {v : Value} {xs : List Int} (k : Below B w0 w) (hB : B ≤ w0.heap.size) (g : w.grownBy w' v.ownBlock) (h : w.ownsRow base 3 1 v xs.length (nums .i64 xs)) (hb : B ≤ base) : Below B w0 w' :=
  k.grown g (Nat.le_trans hB k.size) (fun j hj => by have := h.lt j hj; omega)
theorem bitset.kept_ne {x y : Option Nat} (h : ∀ k, x = some k → y = some k → False) : x = none ∨ x ≠ y := by
  cases x with
  | none => exact .inl rfl
  | some g => exact .inr (fun e => h g rfl e.symm)
theorem bitset.own_rd {w : World} {base n : Nat} {A : Option Addr} {c : Nat} {xs : List Int} (h : w.ownsRow base 3 1 (.slice A n c) xs.length (nums .i64 xs)) : ReadsInt w .i64 A xs.length xs := by
  obtain ⟨A', c', e1, hr⟩ := own_reads h
  injection e1 with e1
  rw [e1]; exact hr
theorem bitset.own_cell {w : World} {base g n c : Nat} {xs : List Int} (h : w.ownsRow base 3 1 (.slice (some ⟨g, 0, none⟩) n c) xs.length (nums .i64 xs)) (j : Nat) (z : Int) (hz : xs.getD j 0 = z) (hj : j < xs.length) : w.cell? ⟨g, j, none⟩ = some (.int .i64 z) := by
  obtain ⟨A', c', e1, hr⟩ := own_reads h
  injection e1 with e1
  obtain ⟨ad, e2, hc⟩ := hr.2.2 (by omega)
  rw [← e1] at e2
  injection e2 with e2
  have := hc j hj
  rw [← e2, hz] at this
  have ha : (⟨g, 0, none⟩ : Addr).add j = ⟨g, j, none⟩ := by unfold Addr.add; split <;> simp_all
  rw [ha] at this
  exact this
theorem bitset.news2 (w : World) (x y : Int) : ∀ j u, (nums .i64 [x, y])[j]? = some u → (w.alloc (.cells #[.int .i64 x, .int .i64 y] 3)).cell? ((⟨w.heap.size, 0, none⟩ : Addr).add j) = some u := by
  intro j u hu
  have := World.news_of_block (cs := #[Value.int .i64 x, Value.int .i64 y]) (t := 3) (fr := (0, 0)) (heap_alloc_new w (.cells #[.int .i64 x, .int .i64 y] 3))
  exact this j u hu
set_option maxHeartbeats 4000000 in
set_option maxRecDepth 100000 in
theorem tabardlaw02_BitsNil.calls (w0 : World) (T : bitset.Tab w0) (i : Int) (A : Option Addr) (c : Nat) (l : List Int) (hC : Kd.C (Kd.int .i64) w0 A l.length l) :
    Calls Tryd.prog 4 #[.int .i64 i, .slice A l.length c] w0 fun e w' => e = .returned (.bool true) ∧ Below w0.heap.size w0 w' := by
  have hm : l.length ≤ 9223372036854775807 := hC.2.1
  have HC := Aside0.mk hC
  have HT := Aside0.mk T
  have N := Aside0.mk (fun V => bitset.new 64 (by decide) V)
  rw [show ((64 : Nat) : Int) = 64 from rfl] at N
  clear hC T
  go_enter Tryd.func4, Tryd.ntmps4
  go_wp2_with (first
    | (go_at_call 6; (with_reducible refine (N.out _).mono ?_); rintro e w1 ⟨q, rfl, h1, h2, h3⟩; have S1 := Aside0.mk h1; have Q1 := Aside0.mk h2; have B1 := Aside0.mk h3; clear h1 h2 h3)
    | (go_at_call 5; (with_reducible refine (bitset.fixed _).mono ?_); rintro e w2 ⟨rfl, h1⟩; have S2 := Aside0.mk (S1.out.below h1); have B2 := Aside0.mk (Below.trans B1.out (h1.mono B1.out.size)); clear h1 S1 B1)
    | (go_at_call 24; (with_reducible refine (bitset.nones _ _ _).mono ?_); rintro e w3 ⟨rfl, rfl⟩))
  go_loopw [38] (fun v38 wr => ∃ k : Nat, k ≤ l.length ∧ v38 = .int .i64 (k : Int) ∧ Aside0 (∃ xs, bitset.At wr q 64 xs) ∧ Aside0 (Below w0.heap.size w0 wr)) (fun v38 _ => l.length - (intOf v38).toNat)
  case atStart => exact ⟨0, Nat.zero_le _, rfl, ⟨_, S2.out⟩, B2⟩
  case round =>
    obtain ⟨k, hk, rfl, G, B⟩ := hrel
    obtain ⟨xs, hx⟩ := G.out
    have X := Aside0.mk hx
    clear hx G
    by_cases hlt : k < l.length
    · obtain ⟨ad, rfl, hc⟩ := Kd.at_int (Kd.C_below HC.out B.out) (k : Int) (by omega) (by omega)
      rw [Int.toNat_natCast] at hc
      generalize rd l (k : Int) = z at *
      obtain ⟨j, hj, ej⟩ := bitset.idx64 z
      have E := Aside0.mk ej
      have P := Aside0.mk (bitset.put wr q 64 xs j (j / 64) (j % 64) X.out hj (by omega) (by omega))
      clear ej
      go_wp2_with (go_at_call 9; rw [E.out]; (with_reducible refine P.out.mono ?_); rintro e w2 ⟨rfl, h1, h2⟩; have H4 := Aside0.mk h1; have H5 := Aside0.mk (h2.below Q1.out B.out); clear h1 h2)
      go_roundw
      case rel => exact ⟨k + 1, by omega, by go_num, ⟨_, H4.out⟩, H5⟩
      case measure => simp [intOf]; omega
    · clear hk S2 B2
      have TA := Aside0.mk (HT.out.below B.out)
      obtain ⟨L, hL⟩ : ∃ L, L = bitset.lst xs xs.length := ⟨_, rfl⟩
      have hLl : L.length ≤ 4096 := by rw [hL]; have := bitset.lst_len xs xs.length; have := X.out.le; omega
      have LI : Aside0 (∀ V : World, bitset.At V q 64 xs → bitset.Tab V → Calls Tryd.prog 25 #[.pointer (some ⟨q + 1, 0, none⟩)] V fun e w' => ∃ A' c', e = .returned (.slice A' L.length c') ∧ w'.ownsRow V.heap.size 3 1 (.slice A' L.length c') L.length (nums .i64 L) ∧ Below V.heap.size V w') := ⟨fun V h1 h2 => (bitset.list V q 64 xs h1 h2).mono fun e w' ⟨v, h3, h4, h5⟩ => by
        rw [← hL] at h4
        obtain ⟨A', c', e1⟩ := own_slice h4
        exact ⟨A', c', by rw [h3, e1], by rw [e1] at h4; exact h4, h5⟩⟩
      clear hL
      have tok1 : True := trivial
      go_wp2_with (first
        | (go_at_call 25; have _t := tok1; (with_reducible refine (LI.out _ X.out TA.out).mono ?_); rintro e w3 ⟨A3, c3, rfl, h1, h2⟩; have O3 := Aside0.mk h1; have L3 := Aside0.mk h2; have X3 := Aside0.mk (X.out.below h2); have T3 := Aside0.mk (TA.out.below h2); clear h1 h2 tok1 _t X TA)
        | ((with_reducible refine gate_builtin (b := .append) (xs := #[.tmp 49, .tmp 51]) rfl ?_); at_builtin; refine print_append_row (w0 := w3) w3.heap.size rfl (.tmp 49) (.tmp 51) 54 3 .i64 8 rfl Tryd.underlying54 bitset.info_int (by decide) _ [] L A3 L.length c3 rfl rfl (World.ownsRow_nil _ _ _ _) ?aR (Below.refl _ _) (Nat.le_refl _) ?aL ?_; (case aR => obtain ⟨A', c', e1, hr⟩ := own_reads O3.out; injection e1 with e1; rw [e1]; exact hr); (case aL => simp; omega); intro v4 w4 ho hb hg hat; rw [List.nil_append] at ho; obtain ⟨A4, c4, e4⟩ := own_slice ho; subst e4; have O4 := Aside0.mk ho; have L4 := Aside0.mk hb; have X4 := Aside0.mk (X3.out.below hb); have T4 := Aside0.mk (T3.out.below hb); have KX4 := X4; have KT4 := T4; clear ho hb hg hat X3 T3)
        | (go_at_call 25; (with_reducible refine (LI.out _ X4.out T4.out).mono ?_); rintro e w5 ⟨A5, c5, rfl, h1, h2⟩; have O5 := Aside0.mk h1; have L5 := Aside0.mk h2; have X5 := Aside0.mk (X4.out.below h2); have T5 := Aside0.mk (T4.out.below h2); clear h1 h2 X4 T4)
        | (go_at_call 25; (with_reducible refine (LI.out _ X5.out T5.out).mono ?_); rintro e w6 ⟨A6, c6, rfl, h1, h2⟩; have O6 := Aside0.mk h1; have L6 := Aside0.mk h2; have X6 := Aside0.mk (X5.out.below h2); have T6 := Aside0.mk (T5.out.below h2); clear h1 h2 X5 T5))
      go_loopw [59] (fun v59 wr => ∃ k : Nat, k ≤ L.length ∧ v59 = .int .i64 (k : Int) ∧ Aside0 (∃ zs : List Int, zs.length = L.length ∧ wr.ownsRow w4.heap.size 3 1 (.slice A5 L.length c5) L.length (nums .i64 zs)) ∧ Aside0 (wr.ownsRow w5.heap.size 3 1 (.slice A6 L.length c6) L.length (nums .i64 L)) ∧ Aside0 (Below w4.heap.size w4 wr) ∧ Aside0 (w6.heap.size ≤ wr.heap.size)) (fun v59 _ => L.length - (intOf v59).toNat)
      case atStart => exact ⟨0, Nat.zero_le _, rfl, ⟨L, rfl, bitset.own_kept_below O5.out L6.out (Nat.le_refl _)⟩, O6, ⟨Below.trans L5.out (L6.out.mono L5.out.size)⟩, ⟨Nat.le_refl _⟩⟩
      case round =>
        obtain ⟨j, hj, rfl, OA, OB, BL, SZ⟩ := hrel
        obtain ⟨zs, hzs, oa⟩ := OA.out
        have ZS := Aside0.mk hzs
        by_cases hjl : j < L.length
        · obtain ⟨g, cap, eg, hgb, -⟩ := oa.form (by omega)
          injection eg with eg1 _ eg2
          subst eg1
          have hcell := oa.cellAt j (by omega)
          have hfz := oa.frozenAt j
          have hst := oa.stored j (.int .i64 (-1))
          rw [show (nums .i64 zs)[j]? = some (.int .i64 (zs.getD j 0)) by simp [nums, List.getD, List.getElem?_eq_getElem (show j < zs.length by omega)]] at hcell
          have hgl : g < w5.heap.size := (O5.out.lt g rfl).2
          have hneb : (Value.slice A6 L.length c6).ownBlock ≠ some g := fun e => by have := (O6.out.lt g e).1; omega
          have OA2 : Aside0 (∃ zs : List Int, zs.length = L.length ∧ (wr.setCell ⟨g, j, none⟩ (.int .i64 (-1))).ownsRow w4.heap.size 3 1 (.slice (some ⟨g, 0, none⟩) L.length c5) L.length (nums .i64 zs)) := ⟨zs.set j (-1), by simpa using hzs, by have := hst.1; rw [show (nums .i64 zs).set j (.int .i64 (-1)) = nums .i64 (zs.set j (-1)) by simp [nums, List.map_set]] at this; exact this⟩
          have OB2 := Aside0.mk (OB.out.kept hst.2 (.inr hneb))
          have BL2 := Aside0.mk (BL.out.setCell (p := ⟨g, j, none⟩) (by exact (O5.out.lt g rfl).1) (.int .i64 (-1)))
          clear hst oa OA OB BL hneb hgl hgb hzs eg2
          go_wp2
          go_roundw
          case rel => exact ⟨j + 1, by omega, by go_num, OA2, OB2, BL2, ⟨by simpa using SZ.out⟩⟩
          case measure => simp [intOf]; omega
        · clear OA hj
          have oaL := Aside0.mk oa
          have oa2 := oa.alloc (.cells #[.int .i64 7, .int .i64 7] 3)
          rw [← hzs] at oa2
          obtain ⟨A7, c7, w7, r7, o7, k7, g7, t7⟩ := bitset.append_keep (wr.alloc (.cells #[.int .i64 7, .int .i64 7] 3)) w4.heap.size 54 _ zs oa2 ⟨wr.heap.size, 0, none⟩ 2 2 [7, 7] rfl (by decide) (bitset.news2 wr 7 7) (by omega) (by have := BL.out.size; simp; omega)
          have b7 : Below w4.heap.size w4 w7 := bitset.below_grown (BL.out.alloc BL.out.size _) (Nat.le_refl _) g7 oa2 (Nat.le_refl _)
          have s7 : wr.heap.size + 1 ≤ w7.heap.size := by have := g7.size; simpa using this
          have fb : ∀ k, (Value.slice A6 L.length c6).ownBlock = some k → w5.heap.size ≤ k ∧ k < w6.heap.size := fun k e => O6.out.lt k e
          have fa : ∀ k, (Value.slice A5 L.length c5).ownBlock = some k → k < w5.heap.size := fun k e => (O5.out.lt k e).2
          rw [hzs] at r7 o7 g7 t7
          have ne7 := bitset.kept_ne (x := (Value.slice A6 L.length c6).ownBlock) (y := (Value.slice A5 L.length c5).ownBlock) (fun k h1 h2 => by
            have := fa k h2
            have := fb k h1
            omega)
          have ob7 : w7.ownsRow w5.heap.size 3 1 (.slice A6 L.length c6) L.length (nums .i64 L) := (OB.out.alloc (.cells #[.int .i64 7, .int .i64 7] 3)).kept g7 ne7
          have ob8 := ob7.alloc (.cells #[.int .i64 8, .int .i64 8] 3)
          obtain ⟨A8, c8, w8, r8, o8, k8, g8, t8⟩ := bitset.append_keep (w7.alloc (.cells #[.int .i64 8, .int .i64 8] 3)) w5.heap.size 54 _ L ob8 ⟨w7.heap.size, 0, none⟩ 2 2 [8, 8] rfl (by decide) (bitset.news2 w7 8 8) (by omega) (by have := L6.out.size; have := SZ.out; simp; omega)
          have b8 : Below w4.heap.size w4 w8 := bitset.below_grown (b7.alloc b7.size _) (Nat.le_refl _) g8 ob8 L5.out.size
          have ne8 := bitset.kept_ne (x := (Value.slice A7 (L.length + 2) c7).ownBlock) (y := (Value.slice A6 L.length c6).ownBlock) (fun k h1 h2 => by
            have := fb k h2
            rw [h1] at t7
            rcases t7 with t7 | t7
            · have := fa k t7.symm
              omega
            · injection t7 with t7
              have := SZ.out
              simp at t7
              omega)
          have o7' : w8.ownsRow w4.heap.size 3 1 (.slice A7 (L.length + 2) c7) (zs ++ [7, 7]).length (nums .i64 (zs ++ [7, 7])) := (o7.alloc (.cells #[.int .i64 8, .int .i64 8] 3)).kept g8 ne8
          have R7 := Aside0.mk r7
          have R8 := Aside0.mk r8
          have O7 := Aside0.mk o7'
          have O8 := Aside0.mk o8
          have K8 := Aside0.mk k8
          have B8 := Aside0.mk b8
          have X8 := Aside0.mk (KX4.out.below b8)
          have T8 := Aside0.mk (KT4.out.below b8)
          have W8 : Aside0 (w8.ownsRow w3.heap.size 3 1 (.slice A4 L.length c4) L.length (nums .i64 L)) := ⟨bitset.own_kept_below O4.out b8 (Nat.le_refl _)⟩
          have L8 : Aside0 ((zs ++ [7, 7]).length = L.length + 2) := ⟨by simp [hzs]⟩
          have G7 : Aside0 ((zs ++ [7, 7]).getD L.length 0 = 7) := ⟨by rw [List.getD, List.getElem?_append_right (by omega), hzs]; simp⟩
          have G8 : Aside0 ((L ++ [8, 8]).getD L.length 0 = 8) := ⟨by rw [List.getD, List.getElem?_append_right (by omega)]; simp⟩
          have G9 : Aside0 ((L ++ [8, 8]).getD (L.length + 1) 0 = 8) := ⟨by rw [List.getD, List.getElem?_append_right (by omega)]; simp [show L.length + 1 - L.length = 1 by omega]⟩
          clear r7 r8 o7 o7' o8 k8 b8 ob7 ob8 t7 t8 g7 g8 b7 fa fb oa2 oa ne7 ne8 hzs
          go_wp2_with (first
            | ((with_reducible refine gate_builtin (b := .append) (xs := #[.tmp 68, .tmp 69]) rfl ?_); at_builtin; refine Lib.wpList_append_run_sl _ rfl (.tmp 68) (.tmp 69) 54 rfl _ _ rfl rfl R7.out ?_)
            | ((with_reducible refine gate_builtin (b := .append) (xs := #[.tmp 71, .tmp 72]) rfl ?_); at_builtin; refine Lib.wpList_append_run_sl _ rfl (.tmp 71) (.tmp 72) 54 rfl _ _ rfl rfl R8.out ?_))
          have tok2 : True := trivial
          go_wp2_with (first
            | (go_at_call 26; have _t := tok2; (with_reducible refine (bitset.ints w8 A6 A4 c6 c4 L L (bitset.own_rd K8.out) (bitset.own_rd W8.out)).mono ?_); rintro e w9 ⟨rfl, hd⟩; rw [decide_eq_true rfl]; have D9 := Aside0.mk hd; have X9 := Aside0.mk (X8.out.drawn hd); have T9 := Aside0.mk (T8.out.below hd.below); clear hd tok2 _t X8 T8)
            | (go_at_call 25; (with_reducible refine (LI.out _ X9.out T9.out).mono ?_); rintro e w10 ⟨A10, c10, rfl, h1, h2⟩; have O10 := Aside0.mk h1; have b10 : Below w8.heap.size w8 w10 := Below.trans D9.out.below (h2.mono D9.out.below.size); have B10 := Aside0.mk b10; have W10 := Aside0.mk (bitset.own_kept_below W8.out b10 (Nat.le_refl _)); clear h1 h2 b10 X9 T9)
            | (go_at_call 26; (with_reducible refine (bitset.ints w10 A10 A4 c10 c4 L L (bitset.own_rd O10.out) (bitset.own_rd W10.out)).mono ?_); rintro e w11 ⟨rfl, hd⟩; rw [decide_eq_true rfl]; have b11 : Below w8.heap.size w8 w11 := Below.trans B10.out (hd.below.mono B10.out.size); have o7 := bitset.own_kept_below O7.out b11 (Nat.le_refl _); have o8 := bitset.own_kept_below O8.out b11 (Nat.le_refl _); obtain ⟨a7, p7, e7, -, -⟩ := o7.form (by simp); obtain ⟨a8, p8, e8, -, -⟩ := o8.form (by simp); injection e7 with e7 e7a e7b; injection e8 with e8 e8a e8b; clear e7a e7b e8a e8b; subst e7 e8; have q7 := bitset.own_cell o7 L.length 7 G7.out (by rw [L8.out]; omega); have q8 := bitset.own_cell o8 L.length 8 G8.out (by simp); have q9 := bitset.own_cell o8 (L.length + 1) 8 G9.out (by simp); have B11 := Aside0.mk b11; clear o7 o8 hd b11 W10))
          go_ret
          exact ⟨rfl, Below.trans (Below.trans B.out ((L3.out.mono B.out.size).trans (L4.out.mono (Nat.le_trans B.out.size L3.out.size)))) ((B8.out.trans (B11.out.mono B8.out.size)).mono (Nat.le_trans B.out.size (Nat.le_trans L3.out.size L4.out.size)))⟩

end Go.Proofs.YtpekanolhgcljaaDoor.X
