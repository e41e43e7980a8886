/- What the program's calls on sets come to, by hand: each call's own contract; no condition beyond what each contract says. -/
import Derived.Test.YtpekanolhgcljaaSets
namespace Go.Proofs.Ytpekanolhgcljaa.X
open Go.RowKit Go.Proofs.YtpekanolhgcljaaW.PrintWords Go.Proofs.YtpekanolhgcljaaW.PrintLast Go.Proofs.YtpekanolhgcljaaW.PrintMore
set_option linter.unusedVariables false
set_option linter.unusedSimpArgs false
/-! ### Words put together -/
theorem bitset.or_comm_ : ∀ xs ys : List Nat, List.zipWith Nat.lor ys xs = List.zipWith Nat.lor xs ys
  | [], [] => rfl
  | [], _ :: _ => rfl
  | _ :: _, [] => rfl
  | x :: xs, y :: ys => by rw [List.zipWith_cons_cons, List.zipWith_cons_cons, bitset.or_comm_ xs ys]; exact congrArg (· :: _) (Nat.or_comm y x)
theorem bitset.dist_ : ∀ xs ys zs : List Nat, List.zipWith Nat.lor (List.zipWith Nat.land xs zs) (List.zipWith Nat.land ys zs) = List.zipWith Nat.land (List.zipWith Nat.lor xs ys) zs
  | [], _, _ => by simp
  | _ :: _, [], zs => by simp
  | _ :: _, _ :: _, [] => by simp
  | x :: xs, y :: ys, z :: zs => by
    simp only [List.zipWith_cons_cons]
    rw [bitset.dist_ xs ys zs]
    exact congrArg (· :: _) (by show (x &&& z) ||| (y &&& z) = (x ||| y) &&& z; rw [Nat.and_or_distrib_right])
theorem bitset.less_bit (x y : Nat) (i : Nat) : (bitset.less x y).testBit i = (decide (i < 64) && x.testBit i && !y.testBit i) := by
  unfold bitset.less
  rw [BitVec.testBit_toNat, BitVec.getLsbD_and, BitVec.getLsbD_not, BitVec.getLsbD_ofNat, BitVec.getLsbD_ofNat]
  by_cases h : i < 64 <;> simp [h]
theorem bitset.less_meet (x y : Nat) (hx : x < 18446744073709551616) : Nat.lor (bitset.less x y) (Nat.land x y) = x := by
  show bitset.less x y ||| (x &&& y) = x
  refine Nat.eq_of_testBit_eq fun i => ?_
  rw [Nat.testBit_or, Nat.testBit_and, bitset.less_bit]
  by_cases h : i < 64
  · cases x.testBit i <;> cases y.testBit i <;> simp [h]
  · have : x.testBit i = false := Nat.testBit_lt_two_pow (Nat.lt_of_lt_of_le hx (show 2 ^ 64 ≤ 2 ^ i from Nat.pow_le_pow_right (by decide) (by omega)))
    simp [this]
theorem bitset.less_and (x y : Nat) : bitset.less x y &&& (x &&& y) = 0 := by
  refine Nat.eq_of_testBit_eq fun i => ?_
  rw [Nat.testBit_and, Nat.testBit_and, bitset.less_bit, Nat.zero_testBit]
  cases x.testBit i <;> cases y.testBit i <;> simp
theorem bitset.less_self (x : Nat) : bitset.less x x = 0 := by
  refine Nat.eq_of_testBit_eq fun i => ?_
  rw [bitset.less_bit, Nat.zero_testBit]
  cases x.testBit i <;> simp
theorem bitset.pop_zero : Go.Lib.onesCount 0 = 0 := by decide
theorem bitset.back_ : ∀ xs ys : List Nat, xs.length = ys.length → (∀ x ∈ xs, x < 18446744073709551616) → List.zipWith Nat.lor (List.zipWith bitset.less xs ys) (List.zipWith Nat.land xs ys) = xs
  | [], [], _, _ => rfl
  | [], _ :: _, h, _ => by cases h
  | _ :: _, [], h, _ => by cases h
  | x :: xs, y :: ys, h, k => by
    simp only [List.zipWith_cons_cons]
    rw [bitset.back_ xs ys (by simpa using h) (fun z hz => k z (by simp [hz])), bitset.less_meet x y (k x (by simp))]
theorem bitset.cnt_less : ∀ xs ys : List Nat, xs.length = ys.length → (∀ x ∈ xs, x < 18446744073709551616) → bitset.cnt (List.zipWith Nat.land xs ys) + bitset.cnt (List.zipWith bitset.less xs ys) = bitset.cnt xs
  | [], [], _, _ => rfl
  | [], _ :: _, h, _ => by cases h
  | _ :: _, [], h, _ => by cases h
  | x :: xs, y :: ys, h, k => by
    have ih := bitset.cnt_less xs ys (by simpa using h) (fun z hz => k z (by simp [hz]))
    have e := BitP.pop_and_or 64 (bitset.less x y) (x &&& y)
    have e2 : bitset.less x y ||| (x &&& y) = x := bitset.less_meet x y (k x (by simp))
    rw [bitset.less_and, e2] at e
    have e3 : Go.Lib.popAux 64 0 = 0 := bitset.pop_zero
    simp only [bitset.cnt, List.zipWith_cons_cons, List.map_cons, List.sum_cons] at ih ⊢
    have e4 : Go.Lib.onesCount (Nat.land x y) = Go.Lib.popAux 64 (x &&& y) := rfl
    have e5 : ∀ z, Go.Lib.onesCount z = Go.Lib.popAux 64 z := fun _ => rfl
    rw [e4, e5, e5]
    omega
theorem bitset.cnt_or : ∀ xs ys : List Nat, xs.length = ys.length → bitset.cnt (List.zipWith Nat.land xs ys) + bitset.cnt (List.zipWith Nat.lor xs ys) = bitset.cnt xs + bitset.cnt ys
  | [], [], _ => rfl
  | [], _ :: _, h => by cases h
  | _ :: _, [], h => by cases h
  | x :: xs, y :: ys, h => by
    have ih := bitset.cnt_or xs ys (by simpa using h)
    have e := BitP.pop_and_or 64 x y
    simp only [bitset.cnt, List.zipWith_cons_cons, List.map_cons, List.sum_cons] at ih ⊢
    have e5 : ∀ z, Go.Lib.onesCount z = Go.Lib.popAux 64 z := fun _ => rfl
    have e4 : Go.Lib.onesCount (Nat.land x y) = Go.Lib.popAux 64 (x &&& y) := rfl
    have e6 : Go.Lib.onesCount (Nat.lor x y) = Go.Lib.popAux 64 (x ||| y) := rfl
    rw [e4, e6, e5, e5]
    omega
theorem bitset.cnt_self : ∀ xs : List Nat, bitset.cnt (List.zipWith bitset.less xs xs) = 0
  | [] => rfl
  | x :: xs => by
    have ih := bitset.cnt_self xs
    simp only [bitset.cnt, List.zipWith_cons_cons, List.map_cons, List.sum_cons] at ih ⊢
    rw [bitset.less_self, bitset.pop_zero, ih]
/-! ### Several sets of one size at once -/
structure bitset.St (w0 W : World) (n : Nat) (M : List (Nat × List Nat)) : Prop where
  at_ : ∀ (i : Nat) p xs, M[i]? = some (p, xs) → bitset.At W p n xs ∧ w0.heap.size ≤ p
  ne : ∀ (i j : Nat) p xs q ys, M[i]? = some (p, xs) → M[j]? = some (q, ys) → i ≠ j → p ≠ q
  below : Below w0.heap.size w0 W
theorem bitset.St.start {w0 W : World} (n : Nat) (h : Below w0.heap.size w0 W) : bitset.St w0 W n [] := ⟨fun i p xs h => (by simp at h), fun i j p xs q ys h => (by simp at h), h⟩
theorem bitset.St.add {w0 W V : World} {n : Nat} {M : List (Nat × List Nat)} (h : bitset.St w0 W n M) {q : Nat} {xs : List Nat} (k : bitset.At V q n xs) (hq : W.heap.size ≤ q) (hb : Below W.heap.size W V) : bitset.St w0 V n (M ++ [(q, xs)]) := by
  have hs := h.below.size
  have old : ∀ (i : Nat) p ys, (M ++ [(q, xs)])[i]? = some (p, ys) → M[i]? = some (p, ys) ∧ i < M.length ∨ i = M.length ∧ p = q ∧ ys = xs := by
    intro i p ys e
    rcases Nat.lt_trichotomy i M.length with c | c | c
    · rw [List.getElem?_append_left c] at e; exact .inl ⟨e, c⟩
    · subst c
      rw [List.getElem?_append_right (Nat.le_refl _), Nat.sub_self] at e
      have e := Option.some.inj e
      injection e with e1 e2
      exact .inr ⟨rfl, e1.symm, e2.symm⟩
    · rw [List.getElem?_eq_none (by simp; omega)] at e; cases e
  have lt : ∀ (i : Nat) p ys, M[i]? = some (p, ys) → p < q := fun i p ys e => by have := (h.at_ i p ys e).1.lt_size; omega
  refine ⟨fun i p ys e => ?_, fun i j p ys r zs e1 e2 hij => ?_, Below.trans h.below (hb.mono hs)⟩
  · rcases old i p ys e with ⟨e, _⟩ | ⟨_, rfl, rfl⟩
    · exact ⟨(h.at_ i p ys e).1.below hb, (h.at_ i p ys e).2⟩
    · exact ⟨k, by omega⟩
  · rcases old i p ys e1 with ⟨f1, _⟩ | ⟨a1, b1, _⟩ <;> rcases old j r zs e2 with ⟨f2, _⟩ | ⟨a2, b2, _⟩
    · exact h.ne i j _ _ _ _ f1 f2 hij
    · have := lt i _ _ f1; omega
    · have := lt j _ _ f2; omega
    · omega
theorem bitset.St.put {w0 W V : World} {n : Nat} {M : List (Nat × List Nat)} (h : bitset.St w0 W n M) (i : Nat) {p : Nat} {xs zs : List Nat} (e : M[i]? = some (p, xs)) (k : bitset.At V p n zs) (f : bitset.Fr p W V) : bitset.St w0 V n (M.set i (p, zs)) := by
  have old : ∀ (j : Nat) r ys, (M.set i (p, zs))[j]? = some (r, ys) → (j ≠ i ∧ M[j]? = some (r, ys)) ∨ (j = i ∧ r = p ∧ ys = zs) := by
    intro j r ys e1
    rw [List.getElem?_set] at e1
    by_cases c : i = j
    · subst c
      rw [if_pos rfl] at e1
      split at e1
      · have e1 := Option.some.inj e1; injection e1 with a b; exact .inr ⟨rfl, a.symm, b.symm⟩
      · cases e1
    · rw [if_neg c] at e1; exact .inl ⟨fun h => c h.symm, e1⟩
  refine ⟨fun j r ys e1 => ?_, fun j l r ys s ts e1 e2 hjl => ?_, f.below (h.at_ i p xs e).2 h.below⟩
  · rcases old j r ys e1 with ⟨c, e1⟩ | ⟨_, rfl, rfl⟩
    · exact ⟨(h.at_ j r ys e1).1.far f ⟨xs, n, (h.at_ i p xs e).1⟩ (h.ne j i _ _ _ _ e1 e c), (h.at_ j r ys e1).2⟩
    · exact ⟨k, (h.at_ i _ _ e).2⟩
  · rcases old j r ys e1 with ⟨c, f1⟩ | ⟨c, b1, _⟩ <;> rcases old l s ts e2 with ⟨d, f2⟩ | ⟨d, b2, _⟩
    · exact h.ne j l _ _ _ _ f1 f2 hjl
    · rw [b2]; exact h.ne j i _ _ _ _ f1 e c
    · rw [b1]; exact h.ne i l _ _ _ _ e f2 (fun h => d h.symm)
    · omega
theorem bitset.St.drawn {w0 W V : World} {n : Nat} {M : List (Nat × List Nat)} (h : bitset.St w0 W n M) (d : Drawn0 W V) : bitset.St w0 V n M :=
  ⟨fun i p xs e => ⟨(h.at_ i p xs e).1.drawn d, (h.at_ i p xs e).2⟩, h.ne, (by obtain ⟨m, rfl⟩ := d.out; exact ⟨h.below.os, h.below.tape, h.below.output, h.below.size, h.below.block⟩)⟩
/-- What the calls do to the sets. -/
theorem bitset.sFilled {w0 W : World} {n : Nat} {M : List (Nat × List Nat)} (H : Aside0 (bitset.St w0 W n M)) (h1 : 1 ≤ n) (h2 : n ≤ 4096) (A : Option Addr) (c : Nat) (l : List Int) (hC : Kd.C (Kd.int .i64) w0 A l.length l) :
    Calls Try.prog 19 #[.int .i64 (n : Int), .slice A l.length c] W fun e w' => ∃ q xs, e = .returned (.pointer (some ⟨q + 1, 0, none⟩)) ∧ Aside0 (bitset.St w0 w' n (M ++ [(q, xs)])) :=
  (bitset.filled w0 W n h1 h2 A c l hC H.out.below).mono fun _ _ ⟨q, xs, e, a, b, d⟩ => ⟨q, xs, e, ⟨H.out.add a b d⟩⟩
theorem bitset.sCopy {w0 W : World} {n : Nat} {M : List (Nat × List Nat)} (H : Aside0 (bitset.St w0 W n M)) (i : Nat) {p : Nat} {xs : List Nat} (e : M[i]? = some (p, xs)) :
    Calls Try.prog 20 #[.pointer (some ⟨p + 1, 0, none⟩)] W fun e w' => ∃ q, e = .returned (.pointer (some ⟨q + 1, 0, none⟩)) ∧ Aside0 (bitset.St w0 w' n (M ++ [(q, xs)])) :=
  (bitset.copy W p n xs (H.out.at_ i _ _ e).1).mono fun _ _ ⟨q, e, a, b, d⟩ => ⟨q, e, ⟨H.out.add a b d⟩⟩
theorem bitset.sJoin {w0 W : World} {n : Nat} {M : List (Nat × List Nat)} (H : Aside0 (bitset.St w0 W n M)) (i j : Nat) {p q : Nat} {xs ys : List Nat} (e : M[i]? = some (p, xs)) (k : M[j]? = some (q, ys)) {zs : List Nat} (hz : List.zipWith Nat.lor xs ys = zs) :
    Calls Try.prog 21 #[.pointer (some ⟨p + 1, 0, none⟩), .pointer (some ⟨q + 1, 0, none⟩)] W fun e w' => e = .returned (.int .i64 0) ∧ Aside0 (bitset.St w0 w' n (M.set i (p, zs))) :=
  (bitset.join W p q n xs ys (H.out.at_ i _ _ e).1 (H.out.at_ j _ _ k).1).mono fun _ _ ⟨r, a, b⟩ => ⟨r, ⟨H.out.put i e (hz ▸ a) b⟩⟩
theorem bitset.sMeet {w0 W : World} {n : Nat} {M : List (Nat × List Nat)} (H : Aside0 (bitset.St w0 W n M)) (i j : Nat) {p q : Nat} {xs ys : List Nat} (e : M[i]? = some (p, xs)) (k : M[j]? = some (q, ys)) {zs : List Nat} (hz : List.zipWith Nat.land xs ys = zs) :
    Calls Try.prog 24 #[.pointer (some ⟨p + 1, 0, none⟩), .pointer (some ⟨q + 1, 0, none⟩)] W fun e w' => e = .returned (.int .i64 0) ∧ Aside0 (bitset.St w0 w' n (M.set i (p, zs))) :=
  (bitset.meet W p q n xs ys (H.out.at_ i _ _ e).1 (H.out.at_ j _ _ k).1).mono fun _ _ ⟨r, a, b⟩ => ⟨r, ⟨H.out.put i e (hz ▸ a) b⟩⟩
theorem bitset.sLess {w0 W : World} {n : Nat} {M : List (Nat × List Nat)} (H : Aside0 (bitset.St w0 W n M)) (i j : Nat) {p q : Nat} {xs ys : List Nat} (e : M[i]? = some (p, xs)) (k : M[j]? = some (q, ys)) {zs : List Nat} (hz : List.zipWith bitset.less xs ys = zs) :
    Calls Try.prog 25 #[.pointer (some ⟨p + 1, 0, none⟩), .pointer (some ⟨q + 1, 0, none⟩)] W fun e w' => e = .returned (.int .i64 0) ∧ Aside0 (bitset.St w0 w' n (M.set i (p, zs))) :=
  (bitset.lessc W p q n xs ys (H.out.at_ i _ _ e).1 (H.out.at_ j _ _ k).1).mono fun _ _ ⟨r, a, b⟩ => ⟨r, ⟨H.out.put i e (hz ▸ a) b⟩⟩
theorem bitset.sSame {w0 W : World} {n : Nat} {M : List (Nat × List Nat)} (H : Aside0 (bitset.St w0 W n M)) (i j : Nat) {p q : Nat} {xs : List Nat} (e : M[i]? = some (p, xs)) (k : M[j]? = some (q, xs)) :
    Calls Try.prog 22 #[.pointer (some ⟨p + 1, 0, none⟩), .pointer (some ⟨q + 1, 0, none⟩)] W fun e w' => e = .returned (.bool true) ∧ Aside0 (bitset.St w0 w' n M) :=
  (bitset.same W p q n n xs xs (H.out.at_ i _ _ e).1 (H.out.at_ j _ _ k).1).mono fun _ _ ⟨r, a⟩ => ⟨r.trans (by simp), ⟨H.out.drawn a⟩⟩
theorem bitset.sKey {w0 W : World} {n : Nat} {M : List (Nat × List Nat)} (H : Aside0 (bitset.St w0 W n M)) (i : Nat) {p : Nat} {xs : List Nat} (e : M[i]? = some (p, xs)) {s : ByteArray} (hs : Aside0 (s = strOfNums (bitset.keyB xs))) :
    Calls Try.prog 23 #[.pointer (some ⟨p + 1, 0, none⟩)] W fun e w' => e = .returned (.string s) ∧ Aside0 (bitset.St w0 w' n M) :=
  (bitset.key W p n xs (H.out.at_ i _ _ e).1).mono fun _ w' ⟨r, a⟩ => ⟨r.trans (by rw [hs.out]), ⟨⟨fun j q ys c => ⟨(H.out.at_ j q ys c).1.below a, (H.out.at_ j q ys c).2⟩, H.out.ne, Below.trans H.out.below (a.mono H.out.below.size)⟩⟩⟩
theorem bitset.sCount {w0 W : World} {n : Nat} {M : List (Nat × List Nat)} (H : Aside0 (bitset.St w0 W n M)) (i : Nat) {p : Nat} {xs : List Nat} (e : M[i]? = some (p, xs)) {c : Nat} (hc : Aside0 (c = bitset.cnt xs)) :
    Calls Try.prog 26 #[.pointer (some ⟨p + 1, 0, none⟩)] W fun e w' => e = .returned (.int .i64 (c : Int)) ∧ W = w' :=
  (bitset.count W p n xs (H.out.at_ i _ _ e).1).mono fun _ w' ⟨r, a⟩ => ⟨r.trans (by rw [hc.out]), a⟩
theorem bitset.cnt_bound {w0 W : World} {n : Nat} {M : List (Nat × List Nat)} (H : bitset.St w0 W n M) (i : Nat) {p : Nat} {xs : List Nat} (e : M[i]? = some (p, xs)) : bitset.cnt xs ≤ 4096 ∧ (∀ x ∈ xs, x < 18446744073709551616) ∧ xs.length = (n + 63) / 64 := by
  have a := (H.at_ i _ _ e).1
  have := bitset.cnt_le xs a.lt xs.length (Nat.le_refl _)
  rw [List.take_length] at this
  have := a.le
  exact ⟨by omega, a.lt, a.len⟩
set_option maxHeartbeats 4000000 in
set_option maxRecDepth 100000 in
theorem tabardlaw02_BitsLaws.calls (w0 : World) (a0 : Int) (A1 A2 A3 : Option Addr) (c1 c2 c3 : Nat) (l1 l2 l3 : List Int) (h1 : Kd.C (Kd.int .i64) w0 A1 l1.length l1) (h2 : Kd.C (Kd.int .i64) w0 A2 l2.length l2) (h3 : Kd.C (Kd.int .i64) w0 A3 l3.length l3) :
    Calls Try.prog 6 #[.int .i64 a0, .slice A1 l1.length c1, .slice A2 l2.length c2, .slice A3 l3.length c3] w0 fun e w' => e = .returned (.bool true) ∧ Below w0.heap.size w0 w' := by
  have HC1 := Aside0.mk h1
  have HC2 := Aside0.mk h2
  have HC3 := Aside0.mk h3
  obtain ⟨m, hm, em⟩ := bitset.idx a0 200 (by decide) (by decide)
  obtain ⟨n, hn⟩ : ∃ n, n = 1 + m := ⟨_, rfl⟩
  have HN1 : Aside0 (1 ≤ n) := ⟨by omega⟩
  have HN2 : Aside0 (n ≤ 4096) := ⟨by omega⟩
  have EN : Aside0 (wrap64 (1 + wrap64 ((IntKind.u64.wrap a0).tmod 200)) = (n : Int)) := ⟨by have : ((200 : Nat) : Int) = 200 := rfl; rw [this] at em; rw [em, hn]; unfold wrap64; omega⟩
  clear h1 h2 h3 em hn hm
  go_enter Try.func6, Try.ntmps6
  go_wp2_with (go_at_call 11; (with_reducible refine (tabardlaw02_fixed.calls true _ rfl).mono ?_); rintro e w0_ ⟨rfl, h_⟩; have H0 : Aside0 (bitset.St w0 w0_ n []) := ⟨bitset.St.start n h_⟩; clear h_)
  go_wp2_with (first
    | (go_at_call 19; rw [EN.out]; (with_reducible refine (bitset.sFilled H0 HN1.out HN2.out A1 c1 l1 HC1.out).mono ?_); rintro e w1 ⟨qx, x, rfl, h_⟩; have H1 : Aside0 (bitset.St w0 w1 n [(qx, x)]) := h_; clear H0 h_)
    | (go_at_call 19; (with_reducible refine (bitset.sFilled H1 HN1.out HN2.out A2 c2 l2 HC2.out).mono ?_); rintro e w2 ⟨qy, y, rfl, h_⟩; have H2 : Aside0 (bitset.St w0 w2 n [(qx, x), (qy, y)]) := h_; clear H1 h_)
    | (go_at_call 19; (with_reducible refine (bitset.sFilled H2 HN1.out HN2.out A3 c3 l3 HC3.out).mono ?_); rintro e w3 ⟨qz, z, rfl, h_⟩; have H3 : Aside0 (bitset.St w0 w3 n [(qx, x), (qy, y), (qz, z)]) := h_; clear H2 h_)
    | (go_at_call 20; (with_reducible refine (bitset.sCopy H3 (p := qx) 0 rfl).mono ?_); rintro e w4 ⟨qxy, rfl, h_⟩; have H4 : Aside0 (bitset.St w0 w4 n [(qx, x), (qy, y), (qz, z), (qxy, x)]) := h_; clear H3 h_)
    | (go_at_call 20; (with_reducible refine (bitset.sCopy H4 (p := qy) 1 rfl).mono ?_); rintro e w5 ⟨qyx, rfl, h_⟩; have H5 : Aside0 (bitset.St w0 w5 n [(qx, x), (qy, y), (qz, z), (qxy, x), (qyx, y)]) := h_; clear H4 h_)
    | (go_at_call 21; (with_reducible refine (bitset.sJoin H5 (p := qxy) (q := qy) 3 1 rfl rfl rfl).mono ?_); rintro e w6 ⟨rfl, h_⟩; have H6 : Aside0 (bitset.St w0 w6 n [(qx, x), (qy, y), (qz, z), (qxy, List.zipWith Nat.lor x y), (qyx, y)]) := h_; clear H5 h_)
    | (go_at_call 21; (with_reducible refine (bitset.sJoin H6 (p := qyx) (q := qx) 4 0 rfl rfl (bitset.or_comm_ x y)).mono ?_); rintro e w7 ⟨rfl, h_⟩; have H7 : Aside0 (bitset.St w0 w7 n [(qx, x), (qy, y), (qz, z), (qxy, List.zipWith Nat.lor x y), (qyx, List.zipWith Nat.lor x y)]) := h_; clear H6 h_)
    | (go_at_call 22; (with_reducible refine (bitset.sSame H7 (p := qxy) (q := qyx) 3 4 rfl rfl).mono ?_); rintro e w8 ⟨rfl, h_⟩; have H8 : Aside0 (bitset.St w0 w8 n [(qx, x), (qy, y), (qz, z), (qxy, List.zipWith Nat.lor x y), (qyx, List.zipWith Nat.lor x y)]) := h_; clear H7 h_))
  obtain ⟨s, hs⟩ : ∃ s, s = strOfNums (bitset.keyB (List.zipWith Nat.lor x y)) := ⟨_, rfl⟩
  have HS := Aside0.mk hs
  clear hs
  go_wp2_with (first
    | (go_at_call 23; (with_reducible refine (bitset.sKey H8 (p := qxy) 3 rfl HS).mono ?_); rintro e w9 ⟨rfl, h_⟩; have H9 : Aside0 (bitset.St w0 w9 n [(qx, x), (qy, y), (qz, z), (qxy, List.zipWith Nat.lor x y), (qyx, List.zipWith Nat.lor x y)]) := h_; clear H8 h_)
    | (go_at_call 23; (with_reducible refine (bitset.sKey H9 (p := qyx) 4 rfl HS).mono ?_); rintro e w10 ⟨rfl, h_⟩; have H10 : Aside0 (bitset.St w0 w10 n [(qx, x), (qy, y), (qz, z), (qxy, List.zipWith Nat.lor x y), (qyx, List.zipWith Nat.lor x y)]) := h_; clear H9 h_)
    | (go_at_call 20; (with_reducible refine (bitset.sCopy H10 (p := qxy) 3 rfl).mono ?_); rintro e w11 ⟨ql, rfl, h_⟩; have H11 : Aside0 (bitset.St w0 w11 n [(qx, x), (qy, y), (qz, z), (qxy, List.zipWith Nat.lor x y), (qyx, List.zipWith Nat.lor x y), (ql, List.zipWith Nat.lor x y)]) := h_; clear H10 h_)
    | (go_at_call 24; (with_reducible refine (bitset.sMeet H11 (p := ql) (q := qz) 5 2 rfl rfl rfl).mono ?_); rintro e w12 ⟨rfl, h_⟩; have H12 : Aside0 (bitset.St w0 w12 n [(qx, x), (qy, y), (qz, z), (qxy, List.zipWith Nat.lor x y), (qyx, List.zipWith Nat.lor x y), (ql, List.zipWith Nat.land (List.zipWith Nat.lor x y) z)]) := h_; clear H11 h_)
    | (go_at_call 20; (with_reducible refine (bitset.sCopy H12 (p := qx) 0 rfl).mono ?_); rintro e w13 ⟨qxz, rfl, h_⟩; have H13 : Aside0 (bitset.St w0 w13 n [(qx, x), (qy, y), (qz, z), (qxy, List.zipWith Nat.lor x y), (qyx, List.zipWith Nat.lor x y), (ql, List.zipWith Nat.land (List.zipWith Nat.lor x y) z), (qxz, x)]) := h_; clear H12 h_)
    | (go_at_call 20; (with_reducible refine (bitset.sCopy H13 (p := qy) 1 rfl).mono ?_); rintro e w14 ⟨qyz, rfl, h_⟩; have H14 : Aside0 (bitset.St w0 w14 n [(qx, x), (qy, y), (qz, z), (qxy, List.zipWith Nat.lor x y), (qyx, List.zipWith Nat.lor x y), (ql, List.zipWith Nat.land (List.zipWith Nat.lor x y) z), (qxz, x), (qyz, y)]) := h_; clear H13 h_)
    | (go_at_call 24; (with_reducible refine (bitset.sMeet H14 (p := qxz) (q := qz) 6 2 rfl rfl rfl).mono ?_); rintro e w15 ⟨rfl, h_⟩; have H15 : Aside0 (bitset.St w0 w15 n [(qx, x), (qy, y), (qz, z), (qxy, List.zipWith Nat.lor x y), (qyx, List.zipWith Nat.lor x y), (ql, List.zipWith Nat.land (List.zipWith Nat.lor x y) z), (qxz, List.zipWith Nat.land x z), (qyz, y)]) := h_; clear H14 h_)
    | (go_at_call 24; (with_reducible refine (bitset.sMeet H15 (p := qyz) (q := qz) 7 2 rfl rfl rfl).mono ?_); rintro e w16 ⟨rfl, h_⟩; have H16 : Aside0 (bitset.St w0 w16 n [(qx, x), (qy, y), (qz, z), (qxy, List.zipWith Nat.lor x y), (qyx, List.zipWith Nat.lor x y), (ql, List.zipWith Nat.land (List.zipWith Nat.lor x y) z), (qxz, List.zipWith Nat.land x z), (qyz, List.zipWith Nat.land y z)]) := h_; clear H15 h_)
    | (go_at_call 21; (with_reducible refine (bitset.sJoin H16 (p := qxz) (q := qyz) 6 7 rfl rfl (bitset.dist_ x y z)).mono ?_); rintro e w17 ⟨rfl, h_⟩; have H17 : Aside0 (bitset.St w0 w17 n [(qx, x), (qy, y), (qz, z), (qxy, List.zipWith Nat.lor x y), (qyx, List.zipWith Nat.lor x y), (ql, List.zipWith Nat.land (List.zipWith Nat.lor x y) z), (qxz, List.zipWith Nat.land (List.zipWith Nat.lor x y) z), (qyz, List.zipWith Nat.land y z)]) := h_; clear H16 h_)
    | (go_at_call 22; (with_reducible refine (bitset.sSame H17 (p := qxz) (q := ql) 6 5 rfl rfl).mono ?_); rintro e w18 ⟨rfl, h_⟩; have H18 : Aside0 (bitset.St w0 w18 n [(qx, x), (qy, y), (qz, z), (qxy, List.zipWith Nat.lor x y), (qyx, List.zipWith Nat.lor x y), (ql, List.zipWith Nat.land (List.zipWith Nat.lor x y) z), (qxz, List.zipWith Nat.land (List.zipWith Nat.lor x y) z), (qyz, List.zipWith Nat.land y z)]) := h_; clear H17 h_)
    | (go_at_call 20; (with_reducible refine (bitset.sCopy H18 (p := qx) 0 rfl).mono ?_); rintro e w19 ⟨qm, rfl, h_⟩; have H19 : Aside0 (bitset.St w0 w19 n [(qx, x), (qy, y), (qz, z), (qxy, List.zipWith Nat.lor x y), (qyx, List.zipWith Nat.lor x y), (ql, List.zipWith Nat.land (List.zipWith Nat.lor x y) z), (qxz, List.zipWith Nat.land (List.zipWith Nat.lor x y) z), (qyz, List.zipWith Nat.land y z), (qm, x)]) := h_; clear H18 h_)
    | (go_at_call 20; (with_reducible refine (bitset.sCopy H19 (p := qx) 0 rfl).mono ?_); rintro e w20 ⟨qe, rfl, h_⟩; have H20 : Aside0 (bitset.St w0 w20 n [(qx, x), (qy, y), (qz, z), (qxy, List.zipWith Nat.lor x y), (qyx, List.zipWith Nat.lor x y), (ql, List.zipWith Nat.land (List.zipWith Nat.lor x y) z), (qxz, List.zipWith Nat.land (List.zipWith Nat.lor x y) z), (qyz, List.zipWith Nat.land y z), (qm, x), (qe, x)]) := h_; clear H19 h_)
    | (go_at_call 24; (with_reducible refine (bitset.sMeet H20 (p := qm) (q := qy) 8 1 rfl rfl rfl).mono ?_); rintro e w21 ⟨rfl, h_⟩; have H21 : Aside0 (bitset.St w0 w21 n [(qx, x), (qy, y), (qz, z), (qxy, List.zipWith Nat.lor x y), (qyx, List.zipWith Nat.lor x y), (ql, List.zipWith Nat.land (List.zipWith Nat.lor x y) z), (qxz, List.zipWith Nat.land (List.zipWith Nat.lor x y) z), (qyz, List.zipWith Nat.land y z), (qm, List.zipWith Nat.land x y), (qe, x)]) := h_; clear H20 h_)
    | (go_at_call 25; (with_reducible refine (bitset.sLess H21 (p := qe) (q := qy) 9 1 rfl rfl rfl).mono ?_); rintro e w22 ⟨rfl, h_⟩; have H22 : Aside0 (bitset.St w0 w22 n [(qx, x), (qy, y), (qz, z), (qxy, List.zipWith Nat.lor x y), (qyx, List.zipWith Nat.lor x y), (ql, List.zipWith Nat.land (List.zipWith Nat.lor x y) z), (qxz, List.zipWith Nat.land (List.zipWith Nat.lor x y) z), (qyz, List.zipWith Nat.land y z), (qm, List.zipWith Nat.land x y), (qe, List.zipWith bitset.less x y)]) := h_; clear H21 h_))
  obtain ⟨bx, lx, nx⟩ := bitset.cnt_bound H22.out 0 rfl
  obtain ⟨b_, ly, ny⟩ := bitset.cnt_bound H22.out 1 rfl
  obtain ⟨bm, _, _⟩ := bitset.cnt_bound H22.out 8 rfl
  obtain ⟨be, _, _⟩ := bitset.cnt_bound H22.out 9 rfl
  obtain ⟨bo, _, _⟩ := bitset.cnt_bound H22.out 3 rfl
  have e1 := bitset.cnt_less x y (nx.trans ny.symm) lx
  have e2 := bitset.cnt_or x y (nx.trans ny.symm)
  have BK := Aside0.mk (bitset.back_ x y (nx.trans ny.symm) lx)
  obtain ⟨cz, hz⟩ : ∃ c, c = bitset.cnt (List.zipWith bitset.less x x) := ⟨_, rfl⟩
  have ez := hz.trans (bitset.cnt_self x)
  obtain ⟨cx, hx⟩ : ∃ c, c = bitset.cnt x := ⟨_, rfl⟩
  obtain ⟨cy, hy⟩ : ∃ c, c = bitset.cnt y := ⟨_, rfl⟩
  obtain ⟨cm, hm⟩ : ∃ c, c = bitset.cnt (List.zipWith Nat.land x y) := ⟨_, rfl⟩
  obtain ⟨ce, he⟩ : ∃ c, c = bitset.cnt (List.zipWith bitset.less x y) := ⟨_, rfl⟩
  obtain ⟨co, ho⟩ : ∃ c, c = bitset.cnt (List.zipWith Nat.lor x y) := ⟨_, rfl⟩
  rw [← hx, ← hm, ← he] at e1
  rw [← hx, ← hy, ← hm, ← ho] at e2
  rw [← hx] at bx
  rw [← hy] at b_
  rw [← hm] at bm
  rw [← he] at be
  rw [← ho] at bo
  have q1 : ((cm : Int) + (ce : Int) != (cx : Int)) = false := by simp; omega
  have q2 : ((cm : Int) + (co : Int) != (cx : Int) + (cy : Int)) = false := by simp; omega
  have q3 : ((cz : Int) == 0) = true := by simp; omega
  have CX := Aside0.mk hx
  have CY := Aside0.mk hy
  have CM := Aside0.mk hm
  have CE := Aside0.mk he
  have CO := Aside0.mk ho
  have CZ := Aside0.mk hz
  clear hx hy hm he ho hz e1 e2 ez lx nx ly ny
  go_wp2_with (first
    | (go_at_call 26; (with_reducible refine (bitset.sCount H22 (p := qm) 8 rfl CM).mono ?_); rintro e w_ ⟨rfl, rfl⟩; have H23 := H22; clear H22)
    | (go_at_call 26; (with_reducible refine (bitset.sCount H23 (p := qe) 9 rfl CE).mono ?_); rintro e w_ ⟨rfl, rfl⟩; have H24 := H23; clear H23)
    | (go_at_call 26; (with_reducible refine (bitset.sCount H24 (p := qx) 0 rfl CX).mono ?_); rintro e w_ ⟨rfl, rfl⟩; have H25 := H24; clear H24)
    | (go_at_call 26; (with_reducible refine (bitset.sCount H25 (p := qm) 8 rfl CM).mono ?_); rintro e w_ ⟨rfl, rfl⟩; have H26 := H25; clear H25)
    | (go_at_call 26; (with_reducible refine (bitset.sCount H26 (p := qxy) 3 rfl CO).mono ?_); rintro e w_ ⟨rfl, rfl⟩; have H27 := H26; clear H26)
    | (go_at_call 26; (with_reducible refine (bitset.sCount H27 (p := qx) 0 rfl CX).mono ?_); rintro e w_ ⟨rfl, rfl⟩; have H28 := H27; clear H27)
    | (go_at_call 26; (with_reducible refine (bitset.sCount H28 (p := qy) 1 rfl CY).mono ?_); rintro e w_ ⟨rfl, rfl⟩; have H29 := H28; clear H28)
    | (go_at_call 21; (with_reducible refine (bitset.sJoin H29 (p := qe) (q := qm) 9 8 rfl rfl BK.out).mono ?_); rintro e w30 ⟨rfl, h_⟩; have H30 : Aside0 (bitset.St w0 w30 n [(qx, x), (qy, y), (qz, z), (qxy, List.zipWith Nat.lor x y), (qyx, List.zipWith Nat.lor x y), (ql, List.zipWith Nat.land (List.zipWith Nat.lor x y) z), (qxz, List.zipWith Nat.land (List.zipWith Nat.lor x y) z), (qyz, List.zipWith Nat.land y z), (qm, List.zipWith Nat.land x y), (qe, x)]) := h_; clear H29 h_)
    | (go_at_call 22; (with_reducible refine (bitset.sSame H30 (p := qe) (q := qx) 9 0 rfl rfl).mono ?_); rintro e w31 ⟨rfl, h_⟩; have H31 : Aside0 (bitset.St w0 w31 n [(qx, x), (qy, y), (qz, z), (qxy, List.zipWith Nat.lor x y), (qyx, List.zipWith Nat.lor x y), (ql, List.zipWith Nat.land (List.zipWith Nat.lor x y) z), (qxz, List.zipWith Nat.land (List.zipWith Nat.lor x y) z), (qyz, List.zipWith Nat.land y z), (qm, List.zipWith Nat.land x y), (qe, x)]) := h_; clear H30 h_)
    | (go_at_call 25; (with_reducible refine (bitset.sLess H31 (p := qx) (q := qx) 0 0 rfl rfl rfl).mono ?_); rintro e w32 ⟨rfl, h_⟩; have H32 : Aside0 (bitset.St w0 w32 n [(qx, List.zipWith bitset.less x x), (qy, y), (qz, z), (qxy, List.zipWith Nat.lor x y), (qyx, List.zipWith Nat.lor x y), (ql, List.zipWith Nat.land (List.zipWith Nat.lor x y) z), (qxz, List.zipWith Nat.land (List.zipWith Nat.lor x y) z), (qyz, List.zipWith Nat.land y z), (qm, List.zipWith Nat.land x y), (qe, x)]) := h_; clear H31 h_)
    | (go_at_call 26; (with_reducible refine (bitset.sCount H32 (p := qx) 0 rfl CZ).mono ?_); rintro e w_ ⟨rfl, rfl⟩; have H33 := H32; clear H32))
  go_ret
  exact ⟨rfl, H33.out.below⟩
theorem tabardlaw02_BitsLaws.walk (a0 : Int) (a1 : Option Addr) (len1 cap1 : Nat) (z1 : List Int) (a2 : Option Addr) (len2 cap2 : Nat) (z2 : List Int) (a3 : Option Addr) (len3 cap3 : Nat) (z3 : List Int) (w : World) (w0 : (Lit.int .i64 a0).wf = true) (w1 : (a1 = none ∧ len1 = 0 ∧ cap1 = 0 ∧ z1 = []) ∨ ∃ x, a1 = some x ∧ len1 ≤ cap1 ∧ cap1 ≤ maxLen ∧ z1.length = cap1 ∧ (∀ i, i < z1.length → w.cell? (x.add i) = some (.int .i64 (z1.getD i 0))) ∧ ∀ n ∈ z1, (Lit.int .i64 n).wf = true) (w2 : (a2 = none ∧ len2 = 0 ∧ cap2 = 0 ∧ z2 = []) ∨ ∃ x, a2 = some x ∧ len2 ≤ cap2 ∧ cap2 ≤ maxLen ∧ z2.length = cap2 ∧ (∀ i, i < z2.length → w.cell? (x.add i) = some (.int .i64 (z2.getD i 0))) ∧ ∀ n ∈ z2, (Lit.int .i64 n).wf = true) (w3 : (a3 = none ∧ len3 = 0 ∧ cap3 = 0 ∧ z3 = []) ∨ ∃ x, a3 = some x ∧ len3 ≤ cap3 ∧ cap3 ≤ maxLen ∧ z3.length = cap3 ∧ (∀ i, i < z3.length → w.cell? (x.add i) = some (.int .i64 (z3.getD i 0))) ∧ ∀ n ∈ z3, (Lit.int .i64 n).wf = true) (y1 : len1 * 8 ≤ 140737488351232) (y2 : len2 * 8 ≤ 140737488351232) (y3 : len3 * 8 ≤ 140737488351232) :
    Calls Try.prog 6 #[.int .i64 a0, .slice a1 len1 cap1, .slice a2 len2 cap2, .slice a3 len3 cap3] w fun e w' => e = .returned (.bool true) ∧ Below w.heap.size w w' := by
  obtain ⟨l1, rfl, hr1, hm1, hw1, hc1⟩ := ReadsInt.ofRowC w1
  obtain ⟨l2, rfl, hr2, hm2, hw2, hc2⟩ := ReadsInt.ofRowC w2
  obtain ⟨l3, rfl, hr3, hm3, hw3, hc3⟩ := ReadsInt.ofRowC w3
  exact tabardlaw02_BitsLaws.calls w a0 _ _ _ _ _ _ l1 l2 l3 (Kd.C_of_reads (d := (0 : Int)) (h1 := fun _ => rfl) hr1) (Kd.C_of_reads (d := (0 : Int)) (h1 := fun _ => rfl) hr2) (Kd.C_of_reads (d := (0 : Int)) (h1 := fun _ => rfl) hr3)

end Go.Proofs.Ytpekanolhgcljaa.X
