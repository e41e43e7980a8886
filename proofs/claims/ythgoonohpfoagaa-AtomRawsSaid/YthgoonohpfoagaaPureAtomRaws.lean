/- The law AtomRaws over lists alone, and all that it leans on; no condition beyond the statement's own. -/
import Derived.Test.YthgoonohpfoagaaX0
import Derived.Test.YthgoonohpfoagaaX1
import Derived.Test.YthgoonohpfoagaaX9
import Derived.Test.YthgoonohpfoagaaX104
import Derived.Test.YthgoonohpfoagaaX11
import Derived.Test.YthgoonohpfoagaaX15
import Derived.Test.YthgoonohpfoagaaX17
import Derived.Test.YthgoonohpfoagaaX26
import Derived.Test.YthgoonohpfoagaaX76
import Derived.Test.YthgoonohpfoagaaX82
import Derived.Test.YthgoonohpfoagaaX89
import Derived.Test.YthgoonohpfoagaaX94
import Derived.Test.YthgoonohpfoagaaX95
import Derived.Test.YthgoonohpfoagaaX97
import Derived.Test.YthgoonohpfoagaaX98
import Derived.Lib.DecodeN
import Derived.Laws.BitsLemmas
namespace Go.Proofs.Ythgoonohpfoagaa.Pure
open Go.RowKit Go.Proofs.YthgoonohpfoagaaW.PrintWords Go.Proofs.YthgoonohpfoagaaW.PrintLast Go.Proofs.YthgoonohpfoagaaW.PrintMore Go.Proofs.Ythgoonohpfoagaa.X
set_option linter.unusedVariables false
theorem Ev.cond {α : Type} {c : Prop} [Decidable c] {f g : Nat → Option α} {r : α} (h : c) (k : Ev f r) : Ev (fun n => if c then f n else g n) r :=
 Ev.congr (fun _ => if_pos h) k
theorem Ev.ncond {α : Type} {c : Prop} [Decidable c] {f g : Nat → Option α} {r : α} (h : ¬ c) (k : Ev g r) : Ev (fun n => if c then f n else g n) r :=
 Ev.congr (fun _ => if_neg h) k
theorem Ev.ite {α : Type} {c : Prop} [Decidable c] {f g : Nat → Option α} {r : α} (h : c → Ev f r) (k : ¬ c → Ev g r) : Ev (fun n => if c then f n else g n) r := by
 by_cases hc : c
 ·exact Ev.cond hc (h hc)
 ·exact Ev.ncond hc (k hc)
theorem Ev.fin {α : Type} {r q : α} (h : r = q) : Ev (fun _ => Option.some r) q := h ▸ Ev.now r
theorem Ev.ret {α β : Type} {g : Option α} {a : α} {f : Nat → α → Option β} {r : β} (h : g = Option.some a) (k : Ev (fun n => f n a) r) : Ev (fun n => g.bind (f n)) r := by
 subst h; exact k
theorem w64 {x : Int} (h0 : -9223372036854775808 ≤ x) (h1 : x ≤ 9223372036854775807) : wrap64 x = x := by unfold wrap64; omega
theorem u64 {x : Int} (h0 : 0 ≤ x) (h1 : x < 18446744073709551616) : IntKind.u64.wrap x = x := by
 simp [IntKind.wrap, IntKind.bits, IntKind.signed]; omega
theorem zbl (x : Int) : IntKind.u64.wrap x = x % 18446744073709551616 := by simp [IntKind.wrap, IntKind.bits, IntKind.signed]
theorem za9 {x : Int} (h0 : 0 ≤ x) (h1 : x < 18446744073709551616) : Go.bits .and .u64 x 65535 = x % 65536 :=
 bits_mask .u64 64 (by decide) (fun n a b => u64 a (by omega)) 16 (by decide) x h0 (by omega)
theorem zar (l : List Int) (i : Nat) : rd l (i : Int) = l.getD i 0 := by simp [rd]
theorem za7 {x : Int} (h : (Lit.int .i64 x).wf = true) : -9223372036854775808 ≤ x ∧ x ≤ 9223372036854775807 := by
 simp [Lit.wf, IntKind.min, IntKind.max, IntKind.signed, IntKind.bits] at h; omega
end Go.Proofs.Ythgoonohpfoagaa.Pure
namespace Go.Proofs.Ythgoonohpfoagaa.Pure
open Go.RowKit Go.Proofs.YthgoonohpfoagaaW.PrintWords Go.Proofs.YthgoonohpfoagaaW.PrintLast Go.Proofs.YthgoonohpfoagaaW.PrintMore Go.Proofs.Ythgoonohpfoagaa.X
set_option linter.unusedVariables false
theorem zbr {α : Type} (d : α) (l : List α) {i : Nat} (h : i < l.length) : rdOf d l (i : Int) = l[i] := by
 simp [rdOf, List.getD_eq_getElem?_getD, h]
theorem zbc (l : List Int) {i : Nat} (h : i < l.length) : rd l (i : Int) = l[i] := by
 rw [zar, List.getD_eq_getElem?_getD, List.getElem?_eq_getElem h]; rfl
end Go.Proofs.Ythgoonohpfoagaa.Pure
namespace Go.Proofs.Ythgoonohpfoagaa.Pure
open Go.RowKit Go.Proofs.YthgoonohpfoagaaW.PrintWords Go.Proofs.YthgoonohpfoagaaW.PrintLast Go.Proofs.YthgoonohpfoagaaW.PrintMore Go.Proofs.Ythgoonohpfoagaa.X
set_option linter.unusedVariables false
def zaj (r : Int) : Bool := decide ((65 ≤ r ∧ r ≤ 90) ∨ (97 ≤ r ∧ r ≤ 122) ∨ r = 95 ∨ (913 ≤ r ∧ r ≤ 929) ∨ (931 ≤ r ∧ r ≤ 937) ∨ (945 ≤ r ∧ r ≤ 969))
def za3 (r : Int) : Bool := zaj r || decide ((48 ≤ r ∧ r ≤ 57) ∨ r = 8242 ∨ (8320 ≤ r ∧ r ≤ 8329))
theorem zch (r : Int) (b : Bool) : Ev (fun k => Fea.j3 k r b) (b || decide (945 ≤ r ∧ r ≤ 969)) := by
 cases b
 ·refine Ev.step (fun k => by rw [Fea.j3]) (Ev.ncond (by decide) (Ev.ite (fun h => Ev.ite (fun g => Ev.fin ?_) (fun g => Ev.fin ?_)) (fun h => Ev.fin ?_))) <;> simp <;> omega
 ·rw [Bool.true_or]; exact Ev.step (fun k => by rw [Fea.j3]) (Ev.cond rfl (Ev.fin rfl))
theorem zcc (r : Int) (b : Bool) : Ev (fun k => Fea.j2 k r b) (b || decide ((931 ≤ r ∧ r ≤ 937) ∨ (945 ≤ r ∧ r ≤ 969))) := by
 cases b
 ·refine Ev.step (fun k => by rw [Fea.j2]) (Ev.ncond (by decide) (Ev.ite (fun h => ?_) (fun h => ?_)))
  ·have := zch r (decide (r ≤ 937))
   rwa [show (decide (r ≤ 937) || decide (945 ≤ r ∧ r ≤ 969)) = (false || decide ((931 ≤ r ∧ r ≤ 937) ∨ (945 ≤ r ∧ r ≤ 969))) by rw [Bool.eq_iff_iff]; simp; omega] at this
  ·have := zch r false
   rwa [show (false || decide (945 ≤ r ∧ r ≤ 969)) = (false || decide ((931 ≤ r ∧ r ≤ 937) ∨ (945 ≤ r ∧ r ≤ 969))) by rw [Bool.eq_iff_iff]; simp; omega] at this
 ·rw [Bool.true_or]; exact Ev.step (fun k => by rw [Fea.j2]) (Ev.cond rfl (Ev.fin rfl))
theorem zbb (r : Int) (b : Bool) : Ev (fun k => Fea.j1 k r b) (b || decide ((913 ≤ r ∧ r ≤ 929) ∨ (931 ≤ r ∧ r ≤ 937) ∨ (945 ≤ r ∧ r ≤ 969))) := by
 cases b
 ·refine Ev.step (fun k => by rw [Fea.j1]) (Ev.ncond (by decide) (Ev.ite (fun h => ?_) (fun h => ?_)))
  ·have := zcc r (decide (r ≤ 929))
   rwa [show (decide (r ≤ 929) || decide ((931 ≤ r ∧ r ≤ 937) ∨ (945 ≤ r ∧ r ≤ 969))) = (false || decide ((913 ≤ r ∧ r ≤ 929) ∨ (931 ≤ r ∧ r ≤ 937) ∨ (945 ≤ r ∧ r ≤ 969))) by rw [Bool.eq_iff_iff]; simp; omega] at this
  ·have := zcc r false
   rwa [show (false || decide ((931 ≤ r ∧ r ≤ 937) ∨ (945 ≤ r ∧ r ≤ 969))) = (false || decide ((913 ≤ r ∧ r ≤ 929) ∨ (931 ≤ r ∧ r ≤ 937) ∨ (945 ≤ r ∧ r ≤ 969))) by rw [Bool.eq_iff_iff]; simp; omega] at this
 ·rw [Bool.true_or]; exact Ev.step (fun k => by rw [Fea.j1]) (Ev.cond rfl (Ev.fin rfl))
theorem zcj (r : Int) (b : Bool) : Ev (fun k => Fea.j0 k r b) (b || decide ((97 ≤ r ∧ r ≤ 122) ∨ r = 95 ∨ (913 ≤ r ∧ r ≤ 929) ∨ (931 ≤ r ∧ r ≤ 937) ∨ (945 ≤ r ∧ r ≤ 969))) := by
 cases b
 ·refine Ev.step (fun k => by rw [Fea.j0]) (Ev.ncond (by decide) (Ev.ite (fun h => Ev.ite (fun g => ?_) (fun g => ?_)) (fun h => ?_)))
  ·have := zbb r (decide (r ≤ 122))
   rwa [show (decide (r ≤ 122) || decide ((913 ≤ r ∧ r ≤ 929) ∨ (931 ≤ r ∧ r ≤ 937) ∨ (945 ≤ r ∧ r ≤ 969))) = (false || decide ((97 ≤ r ∧ r ≤ 122) ∨ r = 95 ∨ (913 ≤ r ∧ r ≤ 929) ∨ (931 ≤ r ∧ r ≤ 937) ∨ (945 ≤ r ∧ r ≤ 969))) by rw [Bool.eq_iff_iff]; simp; omega] at this
  ·have := zbb r (r == 95)
   rwa [show ((r == 95) || decide ((913 ≤ r ∧ r ≤ 929) ∨ (931 ≤ r ∧ r ≤ 937) ∨ (945 ≤ r ∧ r ≤ 969))) = (false || decide ((97 ≤ r ∧ r ≤ 122) ∨ r = 95 ∨ (913 ≤ r ∧ r ≤ 929) ∨ (931 ≤ r ∧ r ≤ 937) ∨ (945 ≤ r ∧ r ≤ 969))) by rw [Bool.eq_iff_iff]; simp; omega] at this
  ·have := zbb r (r == 95)
   rwa [show ((r == 95) || decide ((913 ≤ r ∧ r ≤ 929) ∨ (931 ≤ r ∧ r ≤ 937) ∨ (945 ≤ r ∧ r ≤ 969))) = (false || decide ((97 ≤ r ∧ r ≤ 122) ∨ r = 95 ∨ (913 ≤ r ∧ r ≤ 929) ∨ (931 ≤ r ∧ r ≤ 937) ∨ (945 ≤ r ∧ r ≤ 969))) by rw [Bool.eq_iff_iff]; simp; omega] at this
 ·have := zbb r true
  exact Ev.step (fun k => by rw [Fea.j0]) (Ev.cond rfl this)
theorem zck (r : Int) : Ev (fun k => Fea.f k r) (zaj r) := by
 refine Ev.congr (fun k => by rw [Fea.f]) (Ev.ite (fun h => ?_) (fun h => ?_))
 ·have := zcj r (decide (r ≤ 90))
  rwa [show (decide (r ≤ 90) || decide ((97 ≤ r ∧ r ≤ 122) ∨ r = 95 ∨ (913 ≤ r ∧ r ≤ 929) ∨ (931 ≤ r ∧ r ≤ 937) ∨ (945 ≤ r ∧ r ≤ 969))) = zaj r by rw [zaj, Bool.eq_iff_iff]; simp; omega] at this
 ·have := zcj r false
  rwa [show (false || decide ((97 ≤ r ∧ r ≤ 122) ∨ r = 95 ∨ (913 ≤ r ∧ r ≤ 929) ∨ (931 ≤ r ∧ r ≤ 937) ∨ (945 ≤ r ∧ r ≤ 969))) = zaj r by rw [zaj, Bool.eq_iff_iff]; simp; omega] at this
theorem zd9 (r : Int) : Ev (fun k => Fdc.f k r) (za3 r) := by
 refine Ev.congr (fun k => by rw [Fdc.f]) (Ev.bind (zck r) ?_)
 rw [za3]
 cases zaj r
 ·refine Ev.ncond (by decide) (Ev.ite (fun h => Ev.ite (fun g => Ev.fin ?_) (fun g => Ev.ite (fun z => Ev.fin ?_) (fun z => Ev.ite (fun y => Ev.fin ?_) (fun y => Ev.fin ?_)))) (fun h => Ev.ite (fun z => Ev.fin ?_) (fun z => Ev.ite (fun y => Ev.fin ?_) (fun y => Ev.fin ?_)))) <;> rw [Bool.false_or, Bool.eq_iff_iff] <;> simp <;> omega
 ·exact Ev.cond rfl (Ev.fin rfl)
def resB (s : ByteArray) : Bool := decide (s.toList ∈ [[97, 110, 100], [111, 114], [110, 111, 116], [101, 120], [97, 108, 108], [109, 111, 100], [116, 114, 117, 101], [102, 97, 108, 115, 101]])
theorem res_eq (s : ByteArray) : Fdb.f s = some (resB s) := by
 unfold Fdb.f resB
 simp only [List.mem_cons, List.not_mem_nil, or_false]
 repeat' split
 all_goals simp_all
theorem zb6 (s : ByteArray) (pos : Nat) (h : pos < s.size) : 1 ≤ (Utf8.decode s pos).2 := by
 by_cases ha : (s[pos]'h).toNat < 128
 ·rw [decode_ascii s pos h ha]
  exact Nat.le_refl _
 ·exact (decode_high s pos h (by omega)).2
def za2 : Nat → ByteArray → Nat → Nat → Bool
 | 0, s, _, n => decide (1 ≤ n ∧ n ≤ 16) && !resB s
 | m + 1, s, p, n =>
  if p < s.size then (if (n = 0 → zaj ((Utf8.decode s p).1 : Int) = true) ∧ za3 ((Utf8.decode s p).1 : Int) = true then za2 m s (p + (Utf8.decode s p).2) (n + 1) else false)
  else decide (1 ≤ n ∧ n ≤ 16) && !resB s
def zcx (s : ByteArray) : Bool := za2 s.size s 0 0
theorem zca (s : ByteArray) (n : Nat) : Ev (fun k => if (n : Int) > 0 then (if (n : Int) ≤ 16 then (Fdb.f s).bind fun t => some (!t) else some false) else some false) (decide (1 ≤ n ∧ n ≤ 16) && !resB s) := by
 by_cases h1 : 1 ≤ n
 ·by_cases h2 : n ≤ 16
  ·refine Ev.cond (by omega) (Ev.cond (by omega) ?_)
   rw [decide_eq_true ⟨h1, h2⟩, Bool.true_and]
   exact Ev.ret (res_eq s) (Ev.fin rfl)
  ·rw [decide_eq_false (fun e => h2 e.2)]
   exact Ev.cond (by omega) (Ev.ncond (by omega) (Ev.fin rfl))
 ·rw [decide_eq_false (fun e => h1 e.1)]
  exact Ev.ncond (by omega) (Ev.fin rfl)
theorem zef (s : ByteArray) (hs : s.size ≤ 9223372036854775807) : Ev (fun k => Fda.f k s) (zcx s) := by
 have key : ∀ (m p n : Nat), s.size ≤ p + m → n ≤ p → (p = 0 ↔ n = 0) → Ev (fun k => Fda.l0 k s p (n : Int)) (za2 m s p n) := by
  intro m
  induction m with
  | zero =>
   intro p n hp hn _
   exact Ev.step (fun k => by rw [Fda.l0]) (Ev.ncond (by omega) (zca s n))
  | succ m ih =>
   intro p n hp hn hz
   rw [za2]
   by_cases c : p < s.size
   ·rw [if_pos c]
    have hw := zb6 s p c
    refine Ev.step (fun k => by rw [Fda.l0]) (Ev.cond c ?_)
    have st : Ev (fun k => if p = 0 then Fea.f k ((Utf8.decode s p).1 : Int) else some true) (decide (n = 0 → zaj ((Utf8.decode s p).1 : Int) = true)) := by
     refine Ev.ite (fun h => ?_) (fun h => Ev.fin ?_)
     ·have n0 := hz.1 h
      rw [show decide (n = 0 → zaj ((Utf8.decode s p).1 : Int) = true) = zaj ((Utf8.decode s p).1 : Int) by rw [Bool.eq_iff_iff]; simp [n0]]
      exact zck _
     ·have n0 : ¬ n = 0 := fun e => h (hz.2 e)
      exact (decide_eq_true (fun e => absurd e n0)).symm
    refine Ev.bind st (Ev.ite (fun h => Ev.bind (zd9 _) (Ev.ite (fun g => ?_) (fun g => Ev.fin ?_))) (fun h => Ev.fin ?_))
    ·rw [if_pos ⟨of_decide_eq_true h, g⟩, w64 (by omega) (by omega)]
     exact ih (p + (Utf8.decode s p).2) (n + 1) (by omega) (by omega) (by omega)
    ·rw [if_neg (fun e => g e.2)]
    ·rw [if_neg (fun e => h (decide_eq_true e.1))]
   ·rw [if_neg c]
    exact Ev.step (fun k => by rw [Fda.l0]) (Ev.ncond c (zca s n))
 exact key s.size 0 0 (by omega) (by omega) (by omega)
def za8 (ns : List ByteArray) : Nat → Nat → Bool
 | 0, _ => true
 | m + 1, i => zcx (rdOf ByteArray.empty ns (i : Int)) && ((decide (i = 0) || Op.bytesLess (rdOf ByteArray.empty ns ((i - 1 : Nat) : Int)).toList (rdOf ByteArray.empty ns (i : Int)).toList) && za8 ns m (i + 1))
def zbx (ns : List ByteArray) : Bool := za8 ns ns.length 0
theorem zdw (ns : List ByteArray) (hn : ns.length ≤ 9000000000000000000) (hs : ∀ x ∈ ns, x.size ≤ 9223372036854775807) : Ev (fun k => Fe.f k ns) (zbx ns) := by
 refine Ev.congr (fun k => by rw [Fe.f]) ?_
 have key : ∀ (m i : Nat), i + m = ns.length → Ev (fun k => Fe.l0 k ns ns (ns.length : Int) (i : Int)) (za8 ns m i) := by
  intro m
  induction m with
  | zero =>
   intro i hi
   refine Ev.step (fun k => by rw [Fe.l0]) (Ev.ncond (by omega) ?_)
   exact Ev.fin rfl
  | succ m ih =>
   intro i hi
   rw [za8]
   have sz : (rdOf ByteArray.empty ns (i : Int)).size ≤ 9223372036854775807 := by rw [zbr _ ns (show i < ns.length by omega)]; exact hs _ (List.getElem_mem _)
   refine Ev.step (fun k => by rw [Fe.l0]) (Ev.cond (by omega) (Ev.cond (by omega) (Ev.cond (by omega) (Ev.bind (zef _ sz) ?_))))
   refine Ev.ite (fun a => ?_) (fun a => Ev.fin ?_)
   ·rw [a, Bool.true_and]
    have nx := ih (i + 1) (by omega)
    refine Ev.ite (fun b => ?_) (fun b => ?_)
    ·rw [w64 (x := (i : Int) - 1) (by omega) (by omega), w64 (x := (i : Int) + 1) (by omega) (by omega), show (i : Int) - 1 = ((i - 1 : Nat) : Int) by omega, decide_eq_false (show ¬ i = 0 by omega), Bool.false_or]
     refine Ev.cond (by omega) (Ev.cond (by omega) (Ev.ite (fun c => ?_) (fun c => Ev.fin ?_)))
     ·rw [c, Bool.true_and]; exact nx
     ·rw [Bool.not_eq_true] at c; rw [c, Bool.false_and]
    ·rw [decide_eq_true (show i = 0 by omega), Bool.true_or, Bool.true_and, w64 (by omega) (by omega)]
     exact nx
   ·rw [Bool.not_eq_true] at a; rw [a, Bool.false_and]
 exact key ns.length 0 (by omega)
end Go.Proofs.Ythgoonohpfoagaa.Pure
namespace Go.Proofs.Ythgoonohpfoagaa.Pure
open Go.RowKit Go.Proofs.YthgoonohpfoagaaW.PrintWords Go.Proofs.YthgoonohpfoagaaW.PrintLast Go.Proofs.YthgoonohpfoagaaW.PrintMore Go.Proofs.Ythgoonohpfoagaa.X
set_option linter.unusedVariables false
def za6 (r : Int) : List Int → Bool
 | a :: b :: t => decide (a ≤ r ∧ r ≤ b) || za6 r t
 | _ => false
theorem zdl (r : Int) (l : List Int) (hl : l.length ≤ 1000) : ∀ (m i : Nat), i + 2 * m = l.length → Ev (fun k => Fla.l0 k r l (i : Int)) (za6 r (l.drop i)) := by
 intro m
 induction m with
 | zero =>
  intro i hi
  rw [List.drop_eq_nil_of_le (by omega)]
  refine Ev.step (fun k => by rw [Fla.l0]) (Ev.ncond (by rw [w64 (by omega) (by omega)]; omega) ?_)
  exact Ev.fin rfl
 | succ m ih =>
  intro i hi
  have h1 : i < l.length := by omega
  have h2 : i + 1 < l.length := by omega
  have q := ih (i + 2) (by omega)
  rw [List.drop_eq_getElem_cons h1, List.drop_eq_getElem_cons h2, za6]
  refine Ev.step (fun k => by rw [Fla.l0]) ?_
  rw [w64 (x := (i : Int) + 1) (by omega) (by omega), w64 (x := (i : Int) + 2) (by omega) (by omega), show (i : Int) + 1 = ((i + 1 : Nat) : Int) by omega, zbc l h1, zbc l h2]
  refine Ev.cond (by omega) (Ev.cond (by omega) (Ev.cond (by omega) (Ev.ite (fun a => Ev.cond (by omega) (Ev.ite (fun b => Ev.fin ?_) (fun b => ?_))) (fun a => ?_))))
  ·rw [decide_eq_true (show l[i] ≤ r ∧ r ≤ l[i + 1] from ⟨a, b⟩), Bool.true_or]
  ·rw [decide_eq_false (show ¬ (l[i] ≤ r ∧ r ≤ l[i + 1]) from fun z => b z.2), Bool.false_or]; exact q
  ·rw [decide_eq_false (show ¬ (l[i] ≤ r ∧ r ≤ l[i + 1]) from fun z => a z.1), Bool.false_or]; exact q
theorem zcl (r : Int) (l : List Int) (m : Nat) (hl : l.length ≤ 1000) (hm : 0 + 2 * m = l.length) : Ev (fun k => Fla.f k r l) (za6 r l) := by
 have := zdl r l hl m 0 hm
 rw [List.drop_zero] at this
 exact Ev.congr (fun k => by rw [Fla.f]; rfl) this
theorem zb5 (r : Int) : Ev (fun k => Fl.f k r) (zaj r) := by
 refine Ev.congr (fun k => by rw [Fl.f]) (Ev.bind (zcl r [65, 90, 97, 122, 95, 95, 913, 929, 931, 937, 945, 969] 6 (by decide) (by decide)) (Ev.fin ?_))
 simp only [za6, zaj]
 rw [Bool.eq_iff_iff]; simp; omega
theorem zd1 (r : Int) : Ev (fun k => Fkb.f k r) (za3 r) := by
 refine Ev.congr (fun k => by rw [Fkb.f]) (Ev.bind (zb5 r) ?_)
 rw [za3]
 cases zaj r
 ·refine Ev.ncond (by decide) (Ev.bind (zcl r [48, 57, 8242, 8242, 8320, 8329] 3 (by decide) (by decide)) (Ev.fin ?_))
  simp only [za6]
  rw [Bool.eq_iff_iff]; simp; omega
 ·exact Ev.cond rfl (Ev.fin rfl)
theorem zeh (s : ByteArray) : Ev (fun k => Fka.f k s) (resB s) := by
 refine Ev.congr (fun k => by rw [Fka.f]) ?_
 have key : ∀ (L : List ByteArray) (hL : L.length ≤ 100) (m i : Nat), i + m = L.length → Ev (fun k => Fka.l0 k s L (i : Int)) (decide (∃ x ∈ L.drop i, x.toList = s.toList)) := by
  intro L hL m
  induction m with
  | zero =>
   intro i hi
   rw [List.drop_eq_nil_of_le (by omega)]
   refine Ev.step (fun k => by rw [Fka.l0]) (Ev.ncond (by omega) (Ev.fin ?_))
   simp
  | succ m ih =>
   intro i hi
   have h1 : i < L.length := by omega
   rw [List.drop_eq_getElem_cons h1]
   refine Ev.step (fun k => by rw [Fka.l0]) (Ev.cond (by omega) (Ev.cond (by omega) ?_))
   rw [zbr _ L h1, w64 (by omega) (by omega)]
   refine Ev.ite (fun c => Ev.fin ?_) (fun c => ?_)
   ·exact (decide_eq_true ⟨_, List.mem_cons_self .., c⟩).symm
   ·have q := ih (i + 1) (by omega)
    rw [decide_eq_decide.2 (show (∃ x ∈ L[i] :: L.drop (i + 1), x.toList = s.toList) ↔ (∃ x ∈ L.drop (i + 1), x.toList = s.toList) from ⟨fun ⟨x, hx, e⟩ => by
     rcases List.mem_cons.1 hx with rfl | h
     ·exact absurd e c
     ·exact ⟨x, h, e⟩, fun ⟨x, hx, e⟩ => ⟨x, List.mem_cons_of_mem _ hx, e⟩⟩)]
    exact q
 have := key ([(⟨#[97, 110, 100]⟩ : ByteArray), (⟨#[111, 114]⟩ : ByteArray), (⟨#[110, 111, 116]⟩ : ByteArray), (⟨#[101, 120]⟩ : ByteArray), (⟨#[97, 108, 108]⟩ : ByteArray), (⟨#[109, 111, 100]⟩ : ByteArray), (⟨#[116, 114, 117, 101]⟩ : ByteArray), (⟨#[102, 97, 108, 115, 101]⟩ : ByteArray)] : List ByteArray) (by simp) 8 0 (by simp)
 rw [show resB s = decide (∃ x ∈ List.drop 0 ([(⟨#[97, 110, 100]⟩ : ByteArray), (⟨#[111, 114]⟩ : ByteArray), (⟨#[110, 111, 116]⟩ : ByteArray), (⟨#[101, 120]⟩ : ByteArray), (⟨#[97, 108, 108]⟩ : ByteArray), (⟨#[109, 111, 100]⟩ : ByteArray), (⟨#[116, 114, 117, 101]⟩ : ByteArray), (⟨#[102, 97, 108, 115, 101]⟩ : ByteArray)] : List ByteArray), x.toList = s.toList) from by
  rw [resB]
  apply decide_eq_decide.2
  simp only [List.drop_zero, List.mem_cons, List.not_mem_nil, or_false, exists_eq_or_imp, exists_eq_left, ByteArray.toList_eq]
  simp only [eq_comm]]
 exact this
end Go.Proofs.Ythgoonohpfoagaa.Pure
namespace Go.Proofs.Ythgoonohpfoagaa.Pure
open Go.RowKit Go.Proofs.YthgoonohpfoagaaW.PrintWords Go.Proofs.YthgoonohpfoagaaW.PrintLast Go.Proofs.YthgoonohpfoagaaW.PrintMore Go.Proofs.Ythgoonohpfoagaa.X
set_option linter.unusedVariables false
theorem zdo (s : ByteArray) {q : Nat} (h : q < s.size) : bt s (q : Int) = ((s.get! q).toNat : Int) := by
 have e := bt_at s (q : Int) (by simpa using h)
 rw [← e]
 simp only [Int.toNat_natCast]
 rw [← get_at s q h]; rfl
theorem zak (s : ByteArray) (q : Nat) : (s.get! q).toNat < 256 := (s.get! q).toNat_lt
def Fits (d : Nat × Nat) (r : Int × Int × Bool) : Prop := (r.2.2 = true ∧ r.1 = (d.1 : Int) ∧ r.2.1 = (d.2 : Int)) ∨ (r.2.2 = false ∧ d = (65533, 1))
section
variable {s : ByteArray} {p : Nat}
theorem zbs {X w L : Int} {i : Int} (hi : ¬ i < w) : ∃ r, Ev (fun k => Fk.l0 k s (p : Int) X w L i) r ∧ ((r = (X, w, true) ∧ L ≤ X ∧ X ≤ 1114111 ∧ ¬ (55296 ≤ X ∧ X ≤ 57343)) ∨ (r = (65533, 1, false) ∧ ¬ (L ≤ X ∧ X ≤ 1114111 ∧ ¬ (55296 ≤ X ∧ X ≤ 57343)))) := by
 by_cases h1 : X < L
 ·exact ⟨_, Ev.step (fun k => by rw [Fk.l0]) (Ev.ncond hi (Ev.cond h1 (Ev.fin rfl))), Or.inr ⟨rfl, by omega⟩⟩
 by_cases h2 : X > 1114111
 ·exact ⟨_, Ev.step (fun k => by rw [Fk.l0]) (Ev.ncond hi (Ev.ncond h1 (Ev.cond h2 (Ev.fin rfl)))), Or.inr ⟨rfl, by omega⟩⟩
 by_cases h3 : X ≥ 55296
 ·by_cases h4 : X ≤ 57343
  ·exact ⟨_, Ev.step (fun k => by rw [Fk.l0]) (Ev.ncond hi (Ev.ncond h1 (Ev.ncond h2 (Ev.cond h3 (Ev.cond h4 (Ev.fin rfl)))))), Or.inr ⟨rfl, by omega⟩⟩
  ·exact ⟨_, Ev.step (fun k => by rw [Fk.l0]) (Ev.ncond hi (Ev.ncond h1 (Ev.ncond h2 (Ev.cond h3 (Ev.ncond h4 (Ev.fin rfl)))))), Or.inl ⟨rfl, by omega⟩⟩
 ·exact ⟨_, Ev.step (fun k => by rw [Fk.l0]) (Ev.ncond hi (Ev.ncond h1 (Ev.ncond h2 (Ev.ncond h3 (Ev.fin rfl))))), Or.inl ⟨rfl, by omega⟩⟩
theorem zaq (hs : s.size ≤ 9223372036854775807) {X w L : Int} {i : Nat} (hi : (i : Int) < w) (hX : 0 ≤ X) (hX2 : X ≤ 20000000) (h : p + i < s.size) :
  (¬ (128 ≤ (s.get! (p + i)).toNat ∧ (s.get! (p + i)).toNat ≤ 191) ∧ Ev (fun k => Fk.l0 k s (p : Int) X w L (i : Int)) (65533, 1, false)) ∨
  ((128 ≤ (s.get! (p + i)).toNat ∧ (s.get! (p + i)).toNat ≤ 191) ∧ ∀ r, Ev (fun k => Fk.l0 k s (p : Int) (X * 64 + ((s.get! (p + i)).toNat : Int) - 128) w L ((i + 1 : Nat) : Int)) r → Ev (fun k => Fk.l0 k s (p : Int) X w L (i : Int)) r) := by
 have b := zak s (p + i)
 have e : wrap64 ((p : Int) + (i : Int)) = ((p + i : Nat) : Int) := by rw [w64 (by omega) (by omega)]; omega
 have e2 : wrap64 (bt s ((p + i : Nat) : Int)) = ((s.get! (p + i)).toNat : Int) := by rw [zdo s h, w64 (by omega) (by omega)]
 by_cases h1 : (s.get! (p + i)).toNat < 128
 ·refine Or.inl ⟨by omega, Ev.step (fun k => by rw [Fk.l0]) (Ev.cond hi ?_)⟩
  rw [e, e2]
  exact Ev.cond (by omega) (Ev.cond (by omega) (Ev.cond (by omega) (Ev.fin rfl)))
 by_cases h2 : (s.get! (p + i)).toNat > 191
 ·refine Or.inl ⟨by omega, Ev.step (fun k => by rw [Fk.l0]) (Ev.cond hi ?_)⟩
  rw [e, e2]
  exact Ev.cond (by omega) (Ev.cond (by omega) (Ev.ncond (by omega) (Ev.cond (by omega) (Ev.fin rfl))))
 ·refine Or.inr ⟨by omega, fun r hr => Ev.step (fun k => by rw [Fk.l0]) (Ev.cond hi ?_)⟩
  rw [e, e2, w64 (x := X * 64) (by omega) (by omega), w64 (x := X * 64 + ((s.get! (p + i)).toNat : Int)) (by omega) (by omega), w64 (x := X * 64 + ((s.get! (p + i)).toNat : Int) - 128) (by omega) (by omega), w64 (x := (i : Int) + 1) (by omega) (by omega)]
  exact Ev.cond (by omega) (Ev.cond (by omega) (Ev.ncond (by omega) (Ev.ncond (by omega) hr)))
theorem zed (hs : s.size ≤ 9223372036854775807) (hp : p < s.size) (h0 : 194 ≤ (s.get! p).toNat ∧ (s.get! p).toNat < 224) :
  ∃ r, Ev (fun k => Fk.j2 k s (p : Int) (((s.get! p).toNat : Int) - 192) 2 128) r ∧ Fits (Go.Lib.decodeN (s.size - p) (s.get! p).toNat (s.get! (p + 1)).toNat (s.get! (p + 2)).toNat (s.get! (p + 3)).toNat) r := by
 have g1 := zak s (p + 1); have g2 := zak s (p + 2); have g3 := zak s (p + 3)
 by_cases c : s.size - p < 2
 ·refine ⟨_, Ev.step (fun k => by rw [Fk.j2]) (Ev.cond (by rw [w64 (by omega) (by omega)]; omega) (Ev.fin rfl)), Or.inr ⟨rfl, ?_⟩⟩
  unfold Go.Lib.decodeN; repeat' split
  all_goals first | (exfalso; omega) | rfl
 ·have go : ∀ r, Ev (fun k => Fk.l0 k s (p : Int) (((s.get! p).toNat : Int) - 192) 2 128 1) r → Ev (fun k => Fk.j2 k s (p : Int) (((s.get! p).toNat : Int) - 192) 2 128) r :=
   by
    intro r h
    refine Ev.step (fun k => by rw [Fk.j2]) (Ev.ncond ?_ h)
    rw [w64 (by omega) (by omega)]; omega
  rcases zaq (X := ((s.get! p).toNat : Int) - 192) (w := 2) (L := 128) (i := 1) hs (by omega) (by omega) (by omega) (show p + 1 < s.size by omega) with ⟨bad, e⟩ | ⟨ok1, k1⟩
  ·refine ⟨_, go _ e, Or.inr ⟨rfl, ?_⟩⟩
   unfold Go.Lib.decodeN; repeat' split
   all_goals first | (exfalso; omega) | rfl
  ·obtain ⟨r, hr, hc⟩ := zbs (s := s) (p := p) (X := (((s.get! p).toNat : Int) - 192) * 64 + ((s.get! (p + 1)).toNat : Int) - 128) (w := 2) (L := 128) (i := ((1 + 1 : Nat) : Int)) (by omega)
   refine ⟨r, go _ (k1 r hr), ?_⟩
   rcases hc with ⟨rfl, hc⟩ | ⟨rfl, hc⟩
   ·have d : Go.Lib.decodeN (s.size - p) (s.get! p).toNat (s.get! (p + 1)).toNat (s.get! (p + 2)).toNat (s.get! (p + 3)).toNat = ((s.get! p).toNat % 32 * 64 + (s.get! (p + 1)).toNat % 64, 2) := by
     unfold Go.Lib.decodeN; repeat' split
     all_goals first | (exfalso; omega) | rfl
    rw [d]; exact Or.inl ⟨rfl, by simp only []; omega, rfl⟩
   ·refine Or.inr ⟨rfl, ?_⟩
    unfold Go.Lib.decodeN; repeat' split
    all_goals first | (exfalso; omega) | rfl
theorem zeb (hs : s.size ≤ 9223372036854775807) (hp : p < s.size) (h0 : 224 ≤ (s.get! p).toNat ∧ (s.get! p).toNat < 240) :
  ∃ r, Ev (fun k => Fk.j2 k s (p : Int) (((s.get! p).toNat : Int) - 224) 3 2048) r ∧ Fits (Go.Lib.decodeN (s.size - p) (s.get! p).toNat (s.get! (p + 1)).toNat (s.get! (p + 2)).toNat (s.get! (p + 3)).toNat) r := by
 have g1 := zak s (p + 1); have g2 := zak s (p + 2); have g3 := zak s (p + 3)
 by_cases c : s.size - p < 3
 ·refine ⟨_, Ev.step (fun k => by rw [Fk.j2]) (Ev.cond (by rw [w64 (by omega) (by omega)]; omega) (Ev.fin rfl)), Or.inr ⟨rfl, ?_⟩⟩
  unfold Go.Lib.decodeN; repeat' split
  all_goals first | (exfalso; omega) | rfl
 ·have go : ∀ r, Ev (fun k => Fk.l0 k s (p : Int) (((s.get! p).toNat : Int) - 224) 3 2048 1) r → Ev (fun k => Fk.j2 k s (p : Int) (((s.get! p).toNat : Int) - 224) 3 2048) r :=
   by
    intro r h
    refine Ev.step (fun k => by rw [Fk.j2]) (Ev.ncond ?_ h)
    rw [w64 (by omega) (by omega)]; omega
  rcases zaq (X := ((s.get! p).toNat : Int) - 224) (w := 3) (L := 2048) (i := 1) hs (by omega) (by omega) (by omega) (show p + 1 < s.size by omega) with ⟨bad, e⟩ | ⟨ok1, k1⟩
  ·refine ⟨_, go _ e, Or.inr ⟨rfl, ?_⟩⟩
   unfold Go.Lib.decodeN; repeat' split
   all_goals first | (exfalso; omega) | rfl
  rcases zaq (X := (((s.get! p).toNat : Int) - 224) * 64 + ((s.get! (p + 1)).toNat : Int) - 128) (w := 3) (L := 2048) (i := 2) hs (by omega) (by omega) (by omega) (show p + 2 < s.size by omega) with ⟨bad, e⟩ | ⟨ok2, k2⟩
  ·refine ⟨_, go _ (k1 _ e), Or.inr ⟨rfl, ?_⟩⟩
   unfold Go.Lib.decodeN; repeat' split
   all_goals first | (exfalso; omega) | rfl
  ·obtain ⟨r, hr, hc⟩ := zbs (s := s) (p := p) (X := ((((s.get! p).toNat : Int) - 224) * 64 + ((s.get! (p + 1)).toNat : Int) - 128) * 64 + ((s.get! (p + 2)).toNat : Int) - 128) (w := 3) (L := 2048) (i := ((2 + 1 : Nat) : Int)) (by omega)
   refine ⟨r, go _ (k1 _ (k2 r hr)), ?_⟩
   rcases hc with ⟨rfl, hc⟩ | ⟨rfl, hc⟩
   ·have d : Go.Lib.decodeN (s.size - p) (s.get! p).toNat (s.get! (p + 1)).toNat (s.get! (p + 2)).toNat (s.get! (p + 3)).toNat = ((s.get! p).toNat % 16 * 4096 + (s.get! (p + 1)).toNat % 64 * 64 + (s.get! (p + 2)).toNat % 64, 3) := by
     unfold Go.Lib.decodeN; repeat' split
     all_goals first | (exfalso; omega) | rfl
    rw [d]; exact Or.inl ⟨rfl, by simp only []; omega, rfl⟩
   ·refine Or.inr ⟨rfl, ?_⟩
    unfold Go.Lib.decodeN; repeat' split
    all_goals first | (exfalso; omega) | rfl
theorem zd5 (hs : s.size ≤ 9223372036854775807) (hp : p < s.size) (h0 : 240 ≤ (s.get! p).toNat ∧ (s.get! p).toNat < 245) :
  ∃ r, Ev (fun k => Fk.j2 k s (p : Int) (((s.get! p).toNat : Int) - 240) 4 65536) r ∧ Fits (Go.Lib.decodeN (s.size - p) (s.get! p).toNat (s.get! (p + 1)).toNat (s.get! (p + 2)).toNat (s.get! (p + 3)).toNat) r := by
 have g1 := zak s (p + 1); have g2 := zak s (p + 2); have g3 := zak s (p + 3)
 by_cases c : s.size - p < 4
 ·refine ⟨_, Ev.step (fun k => by rw [Fk.j2]) (Ev.cond (by rw [w64 (by omega) (by omega)]; omega) (Ev.fin rfl)), Or.inr ⟨rfl, ?_⟩⟩
  unfold Go.Lib.decodeN; repeat' split
  all_goals first | (exfalso; omega) | rfl
 ·have go : ∀ r, Ev (fun k => Fk.l0 k s (p : Int) (((s.get! p).toNat : Int) - 240) 4 65536 1) r → Ev (fun k => Fk.j2 k s (p : Int) (((s.get! p).toNat : Int) - 240) 4 65536) r :=
   by
    intro r h
    refine Ev.step (fun k => by rw [Fk.j2]) (Ev.ncond ?_ h)
    rw [w64 (by omega) (by omega)]; omega
  rcases zaq (X := ((s.get! p).toNat : Int) - 240) (w := 4) (L := 65536) (i := 1) hs (by omega) (by omega) (by omega) (show p + 1 < s.size by omega) with ⟨bad, e⟩ | ⟨ok1, k1⟩
  ·refine ⟨_, go _ e, Or.inr ⟨rfl, ?_⟩⟩
   unfold Go.Lib.decodeN; repeat' split
   all_goals first | (exfalso; omega) | rfl
  rcases zaq (X := (((s.get! p).toNat : Int) - 240) * 64 + ((s.get! (p + 1)).toNat : Int) - 128) (w := 4) (L := 65536) (i := 2) hs (by omega) (by omega) (by omega) (show p + 2 < s.size by omega) with ⟨bad, e⟩ | ⟨ok2, k2⟩
  ·refine ⟨_, go _ (k1 _ e), Or.inr ⟨rfl, ?_⟩⟩
   unfold Go.Lib.decodeN; repeat' split
   all_goals first | (exfalso; omega) | rfl
  rcases zaq (X := ((((s.get! p).toNat : Int) - 240) * 64 + ((s.get! (p + 1)).toNat : Int) - 128) * 64 + ((s.get! (p + 2)).toNat : Int) - 128) (w := 4) (L := 65536) (i := 3) hs (by omega) (by omega) (by omega) (show p + 3 < s.size by omega) with ⟨bad, e⟩ | ⟨ok3, k3⟩
  ·refine ⟨_, go _ (k1 _ (k2 _ e)), Or.inr ⟨rfl, ?_⟩⟩
   unfold Go.Lib.decodeN; repeat' split
   all_goals first | (exfalso; omega) | rfl
  ·obtain ⟨r, hr, hc⟩ := zbs (s := s) (p := p) (X := (((((s.get! p).toNat : Int) - 240) * 64 + ((s.get! (p + 1)).toNat : Int) - 128) * 64 + ((s.get! (p + 2)).toNat : Int) - 128) * 64 + ((s.get! (p + 3)).toNat : Int) - 128) (w := 4) (L := 65536) (i := ((3 + 1 : Nat) : Int)) (by omega)
   refine ⟨r, go _ (k1 _ (k2 _ (k3 r hr))), ?_⟩
   rcases hc with ⟨rfl, hc⟩ | ⟨rfl, hc⟩
   ·have d : Go.Lib.decodeN (s.size - p) (s.get! p).toNat (s.get! (p + 1)).toNat (s.get! (p + 2)).toNat (s.get! (p + 3)).toNat = ((s.get! p).toNat % 8 * 262144 + (s.get! (p + 1)).toNat % 64 * 4096 + (s.get! (p + 2)).toNat % 64 * 64 + (s.get! (p + 3)).toNat % 64, 4) := by
     unfold Go.Lib.decodeN; repeat' split
     all_goals first | (exfalso; omega) | rfl
    rw [d]; exact Or.inl ⟨rfl, by simp only []; omega, rfl⟩
   ·refine Or.inr ⟨rfl, ?_⟩
    unfold Go.Lib.decodeN; repeat' split
    all_goals first | (exfalso; omega) | rfl
theorem zd6 (hs : s.size ≤ 9223372036854775807) (hp : p < s.size) : ∃ r, Ev (fun k => Fk.f k s (p : Int)) r ∧ Fits (Utf8.decode s p) r := by
 rw [Go.Lib.decode_at]
 have b := zak s p
 have g1 := zak s (p + 1); have g2 := zak s (p + 2); have g3 := zak s (p + 3)
 have e0 : wrap64 (bt s (p : Int)) = ((s.get! p).toNat : Int) := by rw [zdo s hp, w64 (by omega) (by omega)]
 have enter : ∀ r, Ev (fun k => if ((s.get! p).toNat : Int) < 128 then (some (((s.get! p).toNat : Int), (1 : Int), true)) else (if ((s.get! p).toNat : Int) ≥ 194 then (Fk.j0 k s (p : Int) ((s.get! p).toNat : Int) (decide (((s.get! p).toNat : Int) < 224))) else (Fk.j0 k s (p : Int) ((s.get! p).toNat : Int) false))) r → Ev (fun k => Fk.f k s (p : Int)) r := by
  intro r h
  refine Ev.congr (fun k => by rw [Fk.f, e0]) (Ev.cond (by omega) (Ev.cond (by omega) h))
 by_cases c0 : (s.get! p).toNat < 128
 ·refine ⟨_, enter _ (Ev.cond (by omega) (Ev.fin rfl)), Or.inl ⟨rfl, ?_, ?_⟩⟩ <;> unfold Go.Lib.decodeN <;> rw [if_pos c0]
  rfl
 have w1 : wrap64 (((s.get! p).toNat : Int) - 192) = ((s.get! p).toNat : Int) - 192 := w64 (by omega) (by omega)
 have w2 : wrap64 (((s.get! p).toNat : Int) - 224) = ((s.get! p).toNat : Int) - 224 := w64 (by omega) (by omega)
 have w3 : wrap64 (((s.get! p).toNat : Int) - 240) = ((s.get! p).toNat : Int) - 240 := w64 (by omega) (by omega)
 by_cases c1 : 194 ≤ (s.get! p).toNat ∧ (s.get! p).toNat < 224
 ·obtain ⟨r, hr, hf⟩ := zed hs hp c1
  refine ⟨r, enter _ (Ev.ncond (by omega) (Ev.cond (by omega) ?_)), hf⟩
  rw [decide_eq_true (show ((s.get! p).toNat : Int) < 224 by omega)]
  refine Ev.step (fun k => by rw [Fk.j0, w1]) (Ev.cond rfl hr)
 have j1 : ∀ r, (¬ ((s.get! p).toNat : Int) < 224 ∨ ¬ ((s.get! p).toNat : Int) ≥ 194) → Ev (fun k => if ((s.get! p).toNat : Int) ≥ 224 then Fk.j1 k s (p : Int) ((s.get! p).toNat : Int) (decide (((s.get! p).toNat : Int) < 240)) else Fk.j1 k s (p : Int) ((s.get! p).toNat : Int) false) r → Ev (fun k => Fk.f k s (p : Int)) r := by
  intro r hc h
  refine enter _ (Ev.ncond (by omega) (Ev.ite (fun g => ?_) (fun g => ?_)))
  ·rw [decide_eq_false (show ¬ ((s.get! p).toNat : Int) < 224 by omega)]
   exact Ev.step (fun k => by rw [Fk.j0]) (Ev.ncond (by decide) h)
  ·exact Ev.step (fun k => by rw [Fk.j0]) (Ev.ncond (by decide) h)
 by_cases c2 : 224 ≤ (s.get! p).toNat ∧ (s.get! p).toNat < 240
 ·obtain ⟨r, hr, hf⟩ := zeb hs hp c2
  refine ⟨r, j1 _ (by omega) (Ev.cond (by omega) ?_), hf⟩
  rw [decide_eq_true (show ((s.get! p).toNat : Int) < 240 by omega)]
  refine Ev.step (fun k => by rw [Fk.j1, w2]) (Ev.cond rfl hr)
 by_cases c3 : 240 ≤ (s.get! p).toNat ∧ (s.get! p).toNat < 245
 ·obtain ⟨r, hr, hf⟩ := zd5 hs hp c3
  refine ⟨r, j1 _ (by omega) (Ev.cond (by omega) ?_), hf⟩
  rw [decide_eq_false (show ¬ ((s.get! p).toNat : Int) < 240 by omega)]
  refine Ev.step (fun k => by rw [Fk.j1, w3]) (Ev.ncond (by decide) (Ev.cond (by omega) (Ev.cond (by omega) hr)))
 ·refine ⟨(65533, 1, false), j1 _ (by omega) (Ev.ite (fun g => ?_) (fun g => ?_)), Or.inr ⟨rfl, ?_⟩⟩
  ·rw [decide_eq_false (show ¬ ((s.get! p).toNat : Int) < 240 by omega)]
   exact Ev.step (fun k => by rw [Fk.j1]) (Ev.ncond (by decide) (Ev.cond (by omega) (Ev.ncond (by omega) (Ev.fin rfl))))
  ·exact Ev.step (fun k => by rw [Fk.j1]) (Ev.ncond (by decide) (Ev.ncond (by omega) (Ev.fin rfl)))
  ·unfold Go.Lib.decodeN; repeat' split
   all_goals first | (exfalso; omega) | rfl
end
end Go.Proofs.Ythgoonohpfoagaa.Pure
namespace Go.Proofs.Ythgoonohpfoagaa.Pure
open Go.RowKit Go.Proofs.YthgoonohpfoagaaW.PrintWords Go.Proofs.YthgoonohpfoagaaW.PrintLast Go.Proofs.YthgoonohpfoagaaW.PrintMore Go.Proofs.Ythgoonohpfoagaa.X
set_option linter.unusedVariables false
theorem zb8 (s : ByteArray) (n : Nat) : Ev (fun k => if (n : Int) ≥ 1 then (if (n : Int) ≤ 16 then ((Fka.f k s).bind fun t => some (!t)) else some false) else some false) (decide (1 ≤ n ∧ n ≤ 16) && !resB s) := by
 by_cases h1 : 1 ≤ n
 ·by_cases h2 : n ≤ 16
  ·refine Ev.cond (by omega) (Ev.cond (by omega) ?_)
   rw [decide_eq_true ⟨h1, h2⟩, Bool.true_and]
   exact Ev.bind (zeh s) (Ev.fin rfl)
  ·rw [decide_eq_false (fun e => h2 e.2)]
   exact Ev.cond (by omega) (Ev.ncond (by omega) (Ev.fin rfl))
 ·rw [decide_eq_false (fun e => h1 e.1)]
  exact Ev.ncond (by omega) (Ev.fin rfl)
theorem zd4 (n a b c d : Nat) (h : 1 ≤ n) : (Go.Lib.decodeN n a b c d).2 ≤ n := by
 unfold Go.Lib.decodeN; repeat' split
 all_goals (simp only []; omega)
theorem dec_in (s : ByteArray) (p : Nat) (h : p < s.size) : p + (Utf8.decode s p).2 ≤ s.size := by
 rw [Go.Lib.decode_at]
 have := zd4 (s.size - p) (s.get! p).toNat (s.get! (p + 1)).toNat (s.get! (p + 2)).toNat (s.get! (p + 3)).toNat (by omega)
 omega
theorem zd3 : za3 ((65533 : Nat) : Int) = false := by decide +kernel
theorem zds (s : ByteArray) (hs : s.size ≤ 9223372036854775807) : Ev (fun k => Fjc.f k s) (zcx s) := by
 have key : ∀ (m p n : Nat), s.size ≤ p + m → p ≤ s.size → n ≤ p → Ev (fun k => Fjc.l0 k s (n : Int) (p : Int)) (za2 m s p n) := by
  intro m
  induction m with
  | zero =>
   intro p n hp _ hn
   exact Ev.step (fun k => by rw [Fjc.l0]) (Ev.ncond (by omega) (zb8 s n))
  | succ m ih =>
   intro p n hp hp2 hn
   rw [za2]
   by_cases c : p < s.size
   ·rw [if_pos c]
    have hw := zb6 s p c
    obtain ⟨r, hr, hf⟩ := zd6 hs c
    refine Ev.step (fun k => by rw [Fjc.l0]) (Ev.cond (by omega) (Ev.bind hr ?_))
    rcases hf with ⟨f1, f2, f3⟩ | ⟨f1, f2⟩
    ·have hb : p + (Utf8.decode s p).2 ≤ s.size := dec_in s p c
     rw [f2, f3]
     refine Ev.cond f1 ?_
     have go : za3 ((Utf8.decode s p).1 : Int) = true → Ev (fun k => Fjc.l0 k s (wrap64 ((n : Int) + 1)) (wrap64 ((p : Int) + ((Utf8.decode s p).2 : Int)))) (za2 m s (p + (Utf8.decode s p).2) (n + 1)) := by
      intro _
      rw [w64 (x := (n : Int) + 1) (by omega) (by omega), w64 (x := (p : Int) + ((Utf8.decode s p).2 : Int)) (by omega) (by omega)]
      have := ih (p + (Utf8.decode s p).2) (n + 1) (by omega) hb (by omega)
      rwa [Int.natCast_add, Int.natCast_add] at this
     have tail : (n = 0 → zaj ((Utf8.decode s p).1 : Int) = true) → Ev (fun k => (Fkb.f k ((Utf8.decode s p).1 : Int)).bind fun t => (if t = true then (Fjc.l0 k s (wrap64 ((n : Int) + 1)) (wrap64 ((p : Int) + ((Utf8.decode s p).2 : Int)))) else (some false))) (if (n = 0 → zaj ((Utf8.decode s p).1 : Int) = true) ∧ za3 ((Utf8.decode s p).1 : Int) = true then za2 m s (p + (Utf8.decode s p).2) (n + 1) else false) := by
      intro h
      refine Ev.bind (zd1 _) (Ev.ite (fun g => ?_) (fun g => Ev.fin ?_))
      ·rw [if_pos ⟨h, g⟩]; exact go g
      ·rw [if_neg (fun e => g e.2)]
     refine Ev.ite (fun z => Ev.bind (zb5 _) (Ev.ite (fun h => tail (fun _ => h)) (fun h => Ev.fin ?_))) (fun z => tail (fun e => absurd (show (n : Int) = 0 by omega) z))
     rw [if_neg (fun e => h (e.1 (by omega)))]
    ·rw [if_neg (fun e => by rw [f2] at e; exact absurd e.2 (by rw [zd3]; decide))]
     exact Ev.ncond (by rw [f1]; decide) (Ev.fin rfl)
   ·rw [if_neg c]
    exact Ev.step (fun k => by rw [Fjc.l0]) (Ev.ncond (by omega) (zb8 s n))
 exact Ev.congr (fun k => by rw [Fjc.f]; rfl) (key s.size 0 0 (by omega) (by omega) (by omega))
theorem zdj (ns : List ByteArray) (hn : ns.length ≤ 9000000000000000000) (hs : ∀ x ∈ ns, x.size ≤ 9223372036854775807) : Ev (fun k => Fkc.f k ns) (zbx ns) := by
 have key : ∀ (m i : Nat), i + m = ns.length → Ev (fun k => Fkc.l0 k ns (i : Int)) (za8 ns m i) := by
  intro m
  induction m with
  | zero =>
   intro i hi
   refine Ev.step (fun k => by rw [Fkc.l0]) (Ev.ncond (by omega) ?_)
   exact Ev.fin rfl
  | succ m ih =>
   intro i hi
   rw [za8]
   have sz : (rdOf ByteArray.empty ns (i : Int)).size ≤ 9223372036854775807 := by rw [zbr _ ns (show i < ns.length by omega)]; exact hs _ (List.getElem_mem _)
   refine Ev.step (fun k => by rw [Fkc.l0]) (Ev.cond (by omega) (Ev.cond (by omega) (Ev.bind (zds _ sz) ?_)))
   refine Ev.ite (fun a => ?_) (fun a => Ev.fin ?_)
   ·rw [a, Bool.true_and]
    have nx := ih (i + 1) (by omega)
    refine Ev.ite (fun b => ?_) (fun b => ?_)
    ·rw [w64 (x := (i : Int) - 1) (by omega) (by omega), w64 (x := (i : Int) + 1) (by omega) (by omega), show (i : Int) - 1 = ((i - 1 : Nat) : Int) by omega, decide_eq_false (show ¬ i = 0 by omega), Bool.false_or]
     refine Ev.cond (by omega) (Ev.cond (by omega) (Ev.ite (fun c => ?_) (fun c => Ev.fin ?_)))
     ·rw [c, Bool.true_and]; exact nx
     ·rw [Bool.not_eq_true] at c; rw [c, Bool.false_and]
    ·rw [decide_eq_true (show i = 0 by omega), Bool.true_or, Bool.true_and, w64 (by omega) (by omega)]
     exact nx
   ·rw [Bool.not_eq_true] at a; rw [a, Bool.false_and]
 exact Ev.congr (fun k => by rw [Fkc.f]; rfl) (key ns.length 0 (by omega))
section
variable {ns : List ByteArray} {n : Nat}
variable {ac : List Bool} {nx : List (List Int)}
end
end Go.Proofs.Ythgoonohpfoagaa.Pure
namespace Go.Proofs.Ythgoonohpfoagaa.Pure
open Go.RowKit Go.Proofs.YthgoonohpfoagaaW.PrintWords Go.Proofs.YthgoonohpfoagaaW.PrintLast Go.Proofs.YthgoonohpfoagaaW.PrintMore Go.Proofs.Ythgoonohpfoagaa.X
set_option linter.unusedVariables false
theorem zc0 (l : List ByteArray) (h : l.length ≤ 9000000000000000000) : Ev (fun k => Fn.f k l l) true := by
 refine Ev.congr (fun k => by rw [Fn.f]) (Ev.cond rfl ?_)
 have key : ∀ (m i : Nat), i + m = l.length → Ev (fun k => Fn.l0 k l l (i : Int)) true := by
  intro m
  induction m with
  | zero => intro i hi; exact Ev.step (fun k => by rw [Fn.l0]) (Ev.ncond (by omega) (Ev.fin rfl))
  | succ m ih =>
   intro i hi
   refine Ev.step (fun k => by rw [Fn.l0]) (Ev.cond (by omega) (Ev.cond (by omega) (Ev.cond (by omega) (Ev.cond rfl ?_))))
   rw [w64 (by omega) (by omega)]
   exact ih (i + 1) (by omega)
 exact key l.length 0 (by omega)
theorem zc2 (l : List Bool) (h : l.length ≤ 9000000000000000000) : Ev (fun k => Fmb.f k l l) true := by
 refine Ev.congr (fun k => by rw [Fmb.f]) (Ev.cond rfl ?_)
 have key : ∀ (m i : Nat), i + m = l.length → Ev (fun k => Fmb.l0 k l l (i : Int)) true := by
  intro m
  induction m with
  | zero => intro i hi; exact Ev.step (fun k => by rw [Fmb.l0]) (Ev.ncond (by omega) (Ev.fin rfl))
  | succ m ih =>
   intro i hi
   refine Ev.step (fun k => by rw [Fmb.l0]) (Ev.cond (by omega) (Ev.cond (by omega) (Ev.cond (by omega) (Ev.ncond (by simp) ?_))))
   rw [w64 (by omega) (by omega)]
   exact ih (i + 1) (by omega)
 exact key l.length 0 (by omega)
theorem zc9 (l : List Int) (h : l.length ≤ 9000000000000000000) : Ev (fun k => Fmc.f k l l) true := by
 refine Ev.congr (fun k => by rw [Fmc.f]) (Ev.cond rfl ?_)
 have key : ∀ (m i : Nat), i + m = l.length → Ev (fun k => Fmc.l0 k l l (i : Int)) true := by
  intro m
  induction m with
  | zero => intro i hi; exact Ev.step (fun k => by rw [Fmc.l0]) (Ev.ncond (by omega) (Ev.fin rfl))
  | succ m ih =>
   intro i hi
   refine Ev.step (fun k => by rw [Fmc.l0]) (Ev.cond (by omega) (Ev.cond (by omega) (Ev.cond (by omega) (Ev.cond rfl ?_))))
   rw [w64 (by omega) (by omega)]
   exact ih (i + 1) (by omega)
 exact key l.length 0 (by omega)
theorem zc7 {ns : List ByteArray} {ac : List Bool} {nx : List (List Int)} (h0 : ns.length ≤ 9000000000000000000) (h1 : ac.length ≤ 9000000000000000000) (h2 : nx.length ≤ 9000000000000000000) (hr : ∀ r ∈ nx, r.length ≤ 9000000000000000000) :
  Ev (fun k => Fma.f k ns ac nx ns ac nx) true := by
 refine Ev.congr (fun k => by rw [Fma.f]) (Ev.bind (zc0 ns h0) (Ev.cond rfl (Ev.bind (zc2 ac h1) (Ev.cond rfl ?_))))
 rw [show ((nx.length : Int) != (nx.length : Int)) = false by simp]
 refine Ev.step (fun k => by rw [Fma.j0]) (Ev.ncond (by decide) ?_)
 have key : ∀ (m i : Nat), i + m = nx.length → Ev (fun k => Fma.l0 k (i : Int) ns ac nx ns ac nx) true := by
  intro m
  induction m with
  | zero =>
   intro i hi
   exact Ev.step (fun k => by rw [Fma.l0]) (Ev.ncond (by omega) (Ev.fin rfl))
  | succ m ih =>
   intro i hi
   have ii : i < nx.length := by omega
   have c := zc9 (rd_L3 nx (i : Int)) (by rw [show rd_L3 nx (i : Int) = nx[i] by simp [rd_L3, List.getD_eq_getElem?_getD, ii]]; exact hr _ (List.getElem_mem ii))
   refine Ev.step (fun k => by rw [Fma.l0]) (Ev.cond (by omega) (Ev.cond (by omega) (Ev.cond (by omega) (Ev.bind c (Ev.cond rfl ?_)))))
   rw [w64 (by omega) (by omega)]
   exact ih (i + 1) (by omega)
 exact key nx.length 0 (by omega)
theorem zco (a b c : Int) (ns : List ByteArray) (cs : List Int) (h0 : ns.length ≤ 9000000000000000000) (h1 : cs.length ≤ 9000000000000000000) : Ev (fun k => Ffc.f k a ns cs b c a ns cs b c) true := by
 refine Ev.congr (fun k => by rw [Ffc.f]) (Ev.cond rfl (Ev.cond rfl (Ev.cond rfl (Ev.cond rfl ?_))))
 rw [show ((cs.length : Int) != (cs.length : Int)) = false by simp]
 refine Ev.step (fun k => by rw [Ffc.j0]) (Ev.ncond (by decide) ?_)
 have two : ∀ (m i : Nat), i + m = cs.length → Ev (fun k => Ffc.l1 k (cs.length : Int) (i : Int) a ns cs b c a ns cs b c) true := by
  intro m
  induction m with
  | zero => intro i hi; exact Ev.step (fun k => by rw [Ffc.l1]) (Ev.ncond (by omega) (Ev.fin rfl))
  | succ m ih =>
   intro i hi
   refine Ev.step (fun k => by rw [Ffc.l1]) (Ev.cond (by omega) (Ev.cond (by omega) (Ev.cond (by omega) (Ev.cond (by omega) (Ev.cond rfl ?_)))))
   rw [w64 (by omega) (by omega)]
   exact ih (i + 1) (by omega)
 have t0 : Ev (fun k => Ffc.l1 k (cs.length : Int) 0 a ns cs b c a ns cs b c) true := two cs.length 0 (by omega)
 have one : ∀ (m i : Nat), i + m = ns.length → Ev (fun k => Ffc.l0 k (ns.length : Int) (i : Int) a ns cs b c a ns cs b c) true := by
  intro m
  induction m with
  | zero => intro i hi; exact Ev.step (fun k => by rw [Ffc.l0]) (Ev.ncond (by omega) t0)
  | succ m ih =>
   intro i hi
   refine Ev.step (fun k => by rw [Ffc.l0]) (Ev.cond (by omega) (Ev.cond (by omega) (Ev.cond (by omega) (Ev.cond (by omega) (Ev.cond rfl ?_)))))
   rw [w64 (by omega) (by omega)]
   exact ih (i + 1) (by omega)
 exact one ns.length 0 (by omega)
theorem zdn {a b c : Int} {ns : List ByteArray} {cs : List Int} (h0 : ns.length * 16 ≤ 140737488351232) (h1 : cs.length * 8 ≤ 140737488351232) : Ffa.f a ns cs b c = some (a, ns, cs, b, c) := by
 simp only [Ffa.f, Option.bind_some, List.nil_append, List.length_nil, Nat.zero_add]
 rw [if_pos (by omega), if_pos (by omega)]
def absS : List Int → Int
 | [] => 0
 | a :: l => (a.natAbs : Int) + absS l
theorem zau : ∀ l : List Int, 0 ≤ absS l
 | [] => Int.le_refl _
 | a :: l => by have := zau l; simp only [absS]; omega
theorem abs_eq {a : Int} (h : (Lit.int .i64 a).wf = true) : Fbb.f a = if (a.natAbs : Int) ≤ 9223372036854775807 then some ((a.natAbs : Int), 0) else some (0, 10) := by
 obtain ⟨h0, h1⟩ := za7 h
 unfold Fbb.f Fca.f Fcc.f
 by_cases c : a < 0
 ·rw [if_pos c, if_pos (by rw [decide_eq_true (show (0 : Int) ≥ 0 by omega), decide_eq_false (show ¬ a ≥ 0 by omega)]; rfl)]
  by_cases m : a = -9223372036854775808
  ·subst m; decide +kernel
  ·rw [w64 (by omega) (by omega), decide_eq_true (show 0 - a ≥ 0 by omega), decide_eq_true (show (0 : Int) ≥ 0 by omega), if_neg (by decide), if_pos (by omega)]
   simp only [Option.bind_some]
   rw [show (0 : Int) - a = (a.natAbs : Int) by omega]
 ·rw [if_neg c, if_pos (by omega), show (a.natAbs : Int) = a by omega]
theorem add_eq {a b : Int} (h0 : 0 ≤ a) (h1 : a ≤ 9223372036854775807) (h2 : 0 ≤ b) (h3 : b ≤ 9223372036854775807) : Fbc.f a b = if a + b ≤ 9223372036854775807 then some (a + b, 0) else some (0, 10) := by
 unfold Fbc.f
 rw [decide_eq_true (show a ≥ 0 from h0), decide_eq_true (show b ≥ 0 from h2), if_pos (by decide)]
 by_cases c : a + b ≤ 9223372036854775807
 ·rw [w64 (by omega) c, decide_eq_true (show a + b ≥ 0 by omega), if_neg (by decide), if_pos c]
 ·rw [if_neg c, decide_eq_false (show ¬ wrap64 (a + b) ≥ 0 by unfold wrap64; omega), if_pos (by decide)]
theorem zdr (l : List Int) (hl : l.length ≤ 9000000000000000000) (hw : ∀ x ∈ l, (Lit.int .i64 x).wf = true) :
  Ev (fun k => Fd.f k l) (if absS l ≤ 9223372036854775807 then (absS l, 0) else (0, 10)) := by
 refine Ev.congr (fun k => by rw [Fd.f]) ?_
 have key : ∀ (m i : Nat) (x : Int), i + m = l.length → 0 ≤ x → x ≤ 9223372036854775807 → Ev (fun k => Fd.l0 k x l (l.length : Int) (i : Int)) (if x + absS (l.drop i) ≤ 9223372036854775807 then (x + absS (l.drop i), 0) else (0, 10)) := by
  intro m
  induction m with
  | zero =>
   intro i x hi h0 h1
   rw [List.drop_of_length_le (by omega), absS, Int.add_zero, if_pos h1]
   exact Ev.step (fun k => by rw [Fd.l0]) (Ev.ncond (by omega) (Ev.fin rfl))
  | succ m ih =>
   intro i x hi h0 h1
   have ii : i < l.length := by omega
   have hx := hw _ (List.getElem_mem ii)
   have hd : absS (l.drop i) = ((l[i]).natAbs : Int) + absS (l.drop (i + 1)) := by rw [List.drop_eq_getElem_cons ii, absS]
   have h3 := zau (l.drop (i + 1))
   refine Ev.step (fun k => by rw [Fd.l0]) (Ev.cond (by omega) (Ev.cond (by omega) (Ev.cond (by omega) ?_)))
   rw [show rd l (i : Int) = l[i] by simp [rd, List.getD_eq_getElem?_getD, ii]]
   have ha := abs_eq hx
   by_cases c : ((l[i]).natAbs : Int) ≤ 9223372036854775807
   ·rw [if_pos c] at ha
    refine Ev.ret ha (Ev.cond rfl ?_)
    have hb := add_eq h0 h1 (by omega : (0 : Int) ≤ ((l[i]).natAbs : Int)) c
    by_cases d : x + ((l[i]).natAbs : Int) ≤ 9223372036854775807
    ·rw [if_pos d] at hb
     refine Ev.ret hb (Ev.cond rfl ?_)
     rw [w64 (by omega) (by omega), hd, ← Int.add_assoc]
     exact ih (i + 1) _ (by omega) (by omega) d
    ·rw [if_neg d] at hb
     refine Ev.ret hb (Ev.ncond (by decide) (Ev.fin ?_))
     rw [if_neg (by omega)]
   ·rw [if_neg c] at ha
    refine Ev.ret ha (Ev.ncond (by decide) (Ev.fin ?_))
    rw [if_neg (by omega)]
 have := key l.length 0 0 (by omega) (by omega) (by omega)
 simpa using this
def zbj (kind : Int) (names : List ByteArray) (coefs : List Int) (bound md : Int) : Bool :=
 decide (0 ≤ kind) && (decide (kind ≤ 2) && (zbx names && (decide (names.length = coefs.length) && (decide (absS (bound :: coefs) ≤ 9223372036854775807) &&
  if kind = 2 then decide (1 ≤ md) && (bound :: coefs).all (fun c => decide (0 ≤ c) && decide (c < md)) else decide (md = 0)))))
theorem zct (kind bound md : Int) (names : List ByteArray) (coefs : List Int) (l : List Int) (hl : l.length ≤ 9000000000000000000) :
  ∀ (m i : Nat) (b : Bool), i + m = l.length → Ev (fun k => Feb.l0 k b l (l.length : Int) (i : Int) kind names coefs bound md) (if (b && (l.drop i).all (fun c => decide (0 ≤ c) && decide (c < md))) = true then 0 else 3) := by
 intro m
 induction m with
 | zero =>
  intro i b hi
  rw [List.drop_of_length_le (by omega), List.all_nil, Bool.and_true]
  exact Ev.step (fun k => by rw [Feb.l0]) (Ev.ncond (by omega) (Ev.ite (fun h => Ev.fin (if_pos h).symm) (fun h => Ev.fin (if_neg h).symm)))
 | succ m ih =>
  intro i b hi
  have ii : i < l.length := by omega
  refine Ev.step (fun k => by rw [Feb.l0]) (Ev.cond (by omega) (Ev.cond (by omega) (Ev.cond (by omega) ?_)))
  rw [show rd l (i : Int) = l[i] by simp [rd, List.getD_eq_getElem?_getD, ii], List.drop_eq_getElem_cons ii, List.all_cons, w64 (by omega) (by omega)]
  refine Ev.ite (fun hb => Ev.ite (fun hc => ?_) (fun hc => ?_)) (fun hb => ?_)
  ·rw [hb, Bool.true_and, decide_eq_true (show 0 ≤ l[i] from hc), Bool.true_and]
   exact ih (i + 1) _ (by omega)
  ·rw [hb, decide_eq_false (show ¬ 0 ≤ l[i] from hc), Bool.false_and, Bool.false_and, Bool.and_false]
   have := ih (i + 1) false (by omega)
   rw [Bool.false_and] at this
   exact this
  ·rw [Bool.not_eq_true] at hb
   rw [hb, Bool.false_and]
   have := ih (i + 1) false (by omega)
   rw [Bool.false_and] at this
   exact this
theorem zdx (kind bound md : Int) (names : List ByteArray) (coefs : List Int) (h0 : names.length * 16 ≤ 140737488351232) (hs : ∀ x ∈ names, x.size ≤ 9223372036854775807) (h1 : coefs.length * 8 ≤ 140737488351232)
  (hw : ∀ x ∈ coefs, (Lit.int .i64 x).wf = true) (hb : (Lit.int .i64 bound).wf = true) :
  Ev (fun k => Feb.f k kind names coefs bound md) (if zbj kind names coefs bound md = true then 0 else 3) := by
 have tail : ∀ b : Bool, Ev (fun k => Feb.j0 k (bound :: coefs) b kind names coefs bound md) (if (b && if kind = 2 then decide (1 ≤ md) && (bound :: coefs).all (fun c => decide (0 ≤ c) && decide (c < md)) else decide (md = 0)) = true then 0 else 3) := by
  intro b
  refine Ev.step (fun k => by rw [Feb.j0]) (Ev.ite (fun hk => ?_) (fun hk => ?_))
  ·rw [if_pos hk]
   refine Ev.ite (fun c => ?_) (fun c => ?_)
   ·rw [c, Bool.true_and]
    have := zct kind bound md names coefs (bound :: coefs) (by simp only [List.length_cons]; omega) (bound :: coefs).length 0 (decide (md ≥ 1)) (by omega)
    rw [List.drop_zero] at this
    have this' : Ev (fun k => Feb.l0 k (decide (md ≥ 1)) (bound :: coefs) ((bound :: coefs).length : Int) 0 kind names coefs bound md) _ := this
    exact Ev.step (fun k => by rw [Feb.j1]) this'
   ·rw [Bool.not_eq_true] at c
    rw [c, Bool.false_and]
    have := zct kind bound md names coefs (bound :: coefs) (by simp only [List.length_cons]; omega) (bound :: coefs).length 0 false (by omega)
    rw [Bool.false_and] at this
    have this' : Ev (fun k => Feb.l0 k false (bound :: coefs) ((bound :: coefs).length : Int) 0 kind names coefs bound md) _ := this
    exact Ev.step (fun k => by rw [Feb.j1]) this'
  ·rw [if_neg hk]
   refine Ev.ite (fun c => ?_) (fun c => ?_)
   ·rw [c, Bool.true_and]
    exact Ev.ite (fun d => Ev.fin (if_pos (decide_eq_true d)).symm) (fun d => Ev.fin (if_neg (by simpa using d)).symm)
   ·rw [Bool.not_eq_true] at c
    rw [c, Bool.false_and]
    exact Ev.fin rfl
 have no : ∀ {x : Bool}, x = false → Ev (fun k => Feb.j0 k (bound :: coefs) false kind names coefs bound md) (if x = true then 0 else 3) := by
  intro x hx
  have := tail false
  rw [Bool.false_and] at this
  rw [hx]; exact this
 refine Ev.congr (fun k => by rw [Feb.f]) ?_
 refine Ev.ret rfl ?_
 refine Ev.cond (by simp only [List.length_singleton]; omega) ?_
 refine Ev.ret rfl ?_
 rw [List.singleton_append]
 refine Ev.bind (zdr (bound :: coefs) (by simp only [List.length_cons]; omega) (fun x hx => by rcases List.mem_cons.1 hx with rfl | hx; exact hb; exact hw x hx)) ?_
 unfold zbj
 refine Ev.ite (fun c0 => Ev.ite (fun c1 => ?_) (fun c1 => no (by rw [decide_eq_false c1]; simp))) (fun c0 => no (by rw [decide_eq_false c0]; simp))
 rw [decide_eq_true (show 0 ≤ kind from c0), decide_eq_true c1, Bool.true_and, Bool.true_and]
 refine Ev.bind (zdw names (by omega) hs) (Ev.ite (fun c2 => Ev.ite (fun c3 => ?_) (fun c3 => no (by rw [decide_eq_false (by omega)]; simp))) (fun c2 => no (by rw [Bool.not_eq_true] at c2; rw [c2]; simp)))
 rw [c2, Bool.true_and, decide_eq_true (show names.length = coefs.length by omega), Bool.true_and]
 have := tail ((if absS (bound :: coefs) ≤ 9223372036854775807 then (absS (bound :: coefs), (0 : Int)) else (0, 10)).2 == 0)
 rw [show ((if absS (bound :: coefs) ≤ 9223372036854775807 then (absS (bound :: coefs), (0 : Int)) else (0, 10)).2 == 0) = decide (absS (bound :: coefs) ≤ 9223372036854775807) by
  by_cases d : absS (bound :: coefs) ≤ 9223372036854775807
  ·rw [if_pos d, decide_eq_true d]; rfl
  ·rw [if_neg d, decide_eq_false d]; rfl] at this
 rw [show ((if absS (bound :: coefs) ≤ 9223372036854775807 then (absS (bound :: coefs), (0 : Int)) else (0, 10)).2 == 0) = decide (absS (bound :: coefs) ≤ 9223372036854775807) by
  by_cases d : absS (bound :: coefs) ≤ 9223372036854775807
  ·rw [if_pos d, decide_eq_true d]; rfl
  ·rw [if_neg d, decide_eq_false d]; rfl]
 exact this
end Go.Proofs.Ythgoonohpfoagaa.Pure
namespace Go.Proofs.Ythgoonohpfoagaa.Pure
open Go.RowKit Go.Proofs.YthgoonohpfoagaaW.PrintWords Go.Proofs.YthgoonohpfoagaaW.PrintLast Go.Proofs.YthgoonohpfoagaaW.PrintMore Go.Proofs.Ythgoonohpfoagaa.X
set_option linter.unusedVariables false
theorem Ev.fin' {α : Type} {g : Option α} {r : α} (h : g = some r) : Ev (fun _ => g) r := by rw [h]; exact Ev.now r
theorem and1 (a : Int) : Go.bits .and .i64 a 1 = a % 2 := by
 have e1 : (BitVec.ofInt 64 1).toNat = 1 := by decide
 have e2 : (BitVec.ofInt 64 a).toNat = (a % 18446744073709551616).toNat := by rw [BitVec.toNat_ofInt]; rfl
 have h : Go.bits .and .i64 a 1 = IntKind.i64.wrap ((BitVec.ofInt 64 a &&& BitVec.ofInt 64 1).toNat : Int) := rfl
 rw [h, BitVec.toNat_and, e1, e2, Nat.and_one_is_mod, IntKind.wrap_i64]
 omega
def R64 (x : Int) : Prop := -9223372036854775808 ≤ x ∧ x ≤ 9223372036854775807
theorem R64.wf {x : Int} (h : R64 x) : (Lit.int .i64 x).wf = true := by
 obtain ⟨h0, h1⟩ := h
 simp [Lit.wf, IntKind.min, IntKind.max, IntKind.signed, IntKind.bits]; omega
theorem R64.wrap (x : Int) : R64 (wrap64 x) := by unfold R64 wrap64; omega
end Go.Proofs.Ythgoonohpfoagaa.Pure
namespace Go.Proofs.Ythgoonohpfoagaa.Pure
open Go.RowKit Go.Proofs.YthgoonohpfoagaaW.PrintWords Go.Proofs.YthgoonohpfoagaaW.PrintLast Go.Proofs.YthgoonohpfoagaaW.PrintMore Go.Proofs.Ythgoonohpfoagaa.X
set_option linter.unusedVariables false
theorem zbk {α : Type} [DecidableEq α] {ps : List α} {z : α} (h : z ∈ ps) : num1 ps z < ps.length := List.idxOf_lt_length_of_mem h
theorem zd0 {α : Type} [DecidableEq α] {ps : List α} {z : α} (h : z ∈ ps) : ps[num1 ps z]? = some z := by
 rw [List.getElem?_eq_getElem (zbk h)]
 exact congrArg some (List.getElem_idxOf (zbk h))
end Go.Proofs.Ythgoonohpfoagaa.Pure
namespace Go.Proofs.Ythgoonohpfoagaa.Pure
open Go.RowKit Go.Proofs.YthgoonohpfoagaaW.PrintWords Go.Proofs.YthgoonohpfoagaaW.PrintLast Go.Proofs.YthgoonohpfoagaaW.PrintMore Go.Proofs.Ythgoonohpfoagaa.X
set_option linter.unusedVariables false
def za1 : List Int → List Int → List Int
 | acc, [] => acc
 | acc, c :: cs => za1 (acc ++ acc.map (· + c)) cs
theorem zby : ∀ (l acc : List Int) (M : Int), M ≤ 9223372036854775807 → (∀ s ∈ acc, (s.natAbs : Int) + absS l ≤ M) → Fba.L acc l = za1 acc l ∧ ∀ s ∈ za1 acc l, (s.natAbs : Int) ≤ M
 | [], acc, M, hM, h => ⟨rfl, fun s hs => by have := h s hs; simp only [absS] at this; omega⟩
 | c :: l, acc, M, hM, h => by
  have n := zau l
  have e : (acc.map fun s => wrap64 (s + c)) = acc.map (· + c) := List.map_congr_left (fun s hs => by
   have := h s hs; simp only [absS] at this
   exact w64 (by omega) (by omega))
  rw [Fba.L, za1, e]
  refine zby l _ M hM (fun s hs => ?_)
  rcases List.mem_append.1 hs with hs | hs
  ·have := h s hs; simp only [absS] at this; omega
  ·obtain ⟨t, ht, rfl⟩ := List.mem_map.1 hs
   have := h t ht; simp only [absS] at this; omega
theorem zb7 {r s : Int} (hr : R64 r) (hs : R64 s) : Fac.f r s = some ((r - s) / 2) := by
 obtain ⟨r0, r1⟩ := hr
 obtain ⟨s0, s1⟩ := hs
 unfold Fac.f Fc.f
 simp only [Option.bind_some, and1]
 by_cases c : r % 2 = 0
 ·rw [if_pos c]
  by_cases d : s % 2 = 1
  ·rw [if_pos d, w64 (x := r / 2 - s / 2) (by omega) (by omega), w64 (by omega) (by omega)]
   exact congrArg some (by omega)
  ·rw [if_neg d, w64 (by omega) (by omega)]
   exact congrArg some (by omega)
 ·rw [if_neg c, w64 (by omega) (by omega)]
  exact congrArg some (by omega)
end Go.Proofs.Ythgoonohpfoagaa.Pure
namespace Go.Proofs.Ythgoonohpfoagaa.Pure
open Go.RowKit Go.Proofs.YthgoonohpfoagaaW.PrintWords Go.Proofs.YthgoonohpfoagaaW.PrintLast Go.Proofs.YthgoonohpfoagaaW.PrintMore Go.Proofs.Ythgoonohpfoagaa.X
set_option linter.unusedVariables false
theorem zce {n : Nat} (h : n ≤ 6) : Ev (fun k => Fm.f k (n : Int)) ((2 ^ n : Nat) : Int) := by
 have all : ∀ i : Fin 7, Fm.f 9 ((i.val : Nat) : Int) = some ((2 ^ i.val : Nat) : Int) := by decide +kernel
 exact Ev.of (fun k => Fm.mono _ k) (all ⟨n, by omega⟩)
end Go.Proofs.Ythgoonohpfoagaa.Pure
namespace Go.Proofs.Ythgoonohpfoagaa.Pure
open Go.RowKit Go.Proofs.YthgoonohpfoagaaW.PrintWords Go.Proofs.YthgoonohpfoagaaW.PrintLast Go.Proofs.YthgoonohpfoagaaW.PrintMore Go.Proofs.Ythgoonohpfoagaa.X
set_option linter.unusedVariables false
theorem to_le {p : Fa.Place} {s : Int} (hr : R64 p.1) (hs : R64 s) (hm : s ≠ -9223372036854775808) (hp : p.2.2.2.1 = false) : Fa.to 0 p s = some ((p.1 - s) / 2, 0, false, false, decide (p.1 ≥ -s)) := by
 have h := zb7 hr hs
 obtain ⟨r0, r1⟩ := hr
 obtain ⟨s0, s1⟩ := hs
 unfold Fa.to Fb.f
 rw [if_neg (by rw [hp]; decide), if_pos rfl, h, Option.bind_some, Option.bind_some, if_pos (R64.wf ⟨by omega, by omega⟩), if_pos (show (Lit.int .i64 0).wf = true by decide), w64 (by omega) (by omega)]
theorem to_eq {p : Fa.Place} {s : Int} (hr : R64 p.1) (hs : R64 s) (hm : s ≠ -9223372036854775808) (hp : p.2.2.2.1 = false) : Fa.to 1 p s = some (if p.1 % 2 = s % 2 then ((p.1 - s) / 2, 0, false, false, decide (p.1 = -s)) else (0, 0, false, true, false)) := by
 have h := zb7 hr hs
 obtain ⟨r0, r1⟩ := hr
 obtain ⟨s0, s1⟩ := hs
 unfold Fa.to Fb.f
 rw [if_neg (by rw [hp]; decide), if_neg (by decide), if_pos rfl, Fab.f, Option.bind_some, and1, and1]
 by_cases c : p.1 % 2 = s % 2
 ·rw [if_pos c, if_pos (by rw [c]; simp), h, Option.bind_some, Option.bind_some, if_pos (R64.wf ⟨by omega, by omega⟩), if_pos (show (Lit.int .i64 0).wf = true by decide), w64 (by omega) (by omega)]
  exact congrArg some (by simp only [Prod.mk.injEq, true_and]; exact Bool.eq_iff_iff.2 (by simp))
 ·rw [if_neg c, if_neg (by simpa using c), Option.bind_some, if_pos (show (Lit.int .i64 0).wf = true by decide), if_pos (show (Lit.int .i64 0).wf = true by decide)]
theorem zcr {r s : Int} (hr : R64 r) (hs : R64 s) : R64 ((r - s) / 2) := by
 obtain ⟨r0, r1⟩ := hr; obtain ⟨s0, s1⟩ := hs
 exact ⟨by omega, by omega⟩
end Go.Proofs.Ythgoonohpfoagaa.Pure
namespace Go.Proofs.Ythgoonohpfoagaa.Pure
open Go.RowKit Go.Proofs.YthgoonohpfoagaaW.PrintWords Go.Proofs.YthgoonohpfoagaaW.PrintLast Go.Proofs.YthgoonohpfoagaaW.PrintMore Go.Proofs.Ythgoonohpfoagaa.X
set_option linter.unusedVariables false
theorem zb2 : ∀ (l acc : List Int), (Fba.L acc l).length = acc.length * 2 ^ l.length := by
 intro l
 induction l with
 | nil => intro acc; simp [Fba.L]
 | cons c l ih => intro acc; rw [Fba.L, ih, List.length_append, List.length_map, List.length_cons, Nat.pow_succ, Nat.add_mul, Nat.mul_comm (2 ^ l.length) 2, ← Nat.mul_assoc, Nat.mul_two, Nat.add_mul]
end Go.Proofs.Ythgoonohpfoagaa.Pure
namespace Go.Proofs.Ythgoonohpfoagaa.Pure
open Go.RowKit Go.Proofs.YthgoonohpfoagaaW.PrintWords Go.Proofs.YthgoonohpfoagaaW.PrintLast Go.Proofs.YthgoonohpfoagaaW.PrintMore Go.Proofs.Ythgoonohpfoagaa.X
set_option linter.unusedVariables false
def dg (n : Nat) : List Int := if n = 0 then [] else ((n % 65536 : Nat) : Int) :: dg (n / 65536)
termination_by n
decreasing_by omega
def vl : List Int → Nat
 | [] => 0
 | d :: ds => d.toNat + 65536 * vl ds
def OkD (l : List Int) : Prop := ∀ d ∈ l, 0 ≤ d ∧ d < 65536
theorem zai : dg 0 = [] := by unfold dg; simp
theorem zav {n : Nat} (h : n ≠ 0) : dg n = ((n % 65536 : Nat) : Int) :: dg (n / 65536) := by rw [dg]; simp [h]
theorem vl_dg (n : Nat) : vl (dg n) = n := by
 induction n using Nat.strongRecOn with
 | _ n ih =>
  by_cases h : n = 0
  ·subst h; simp [zai, vl]
  ·rw [zav h, vl, ih (n / 65536) (by omega)]; simp; omega
theorem okd_dg (n : Nat) : OkD (dg n) := by
 induction n using Nat.strongRecOn with
 | _ n ih =>
  by_cases h : n = 0
  ·subst h; intro d hd; simp [zai] at hd
  ·rw [zav h]
   intro d hd
   rcases List.mem_cons.1 hd with rfl | hd
   ·omega
   ·exact ih (n / 65536) (by omega) d hd
theorem zbt {d : Int} {ds : List Int} (h : OkD (d :: ds)) : OkD ds := fun x hx => h x (List.mem_cons_of_mem _ hx)
theorem zbq {d : Int} {ds : List Int} (h : OkD (d :: ds)) : 0 ≤ d ∧ d < 65536 := h d (List.mem_cons_self ..)
theorem zcf {d : Int} {ds : List Int} (h0 : 0 ≤ d) (h1 : d < 65536) (h : OkD ds) : OkD (d :: ds) := fun x hx => by
 rcases List.mem_cons.1 hx with rfl | hx
 ·exact ⟨h0, h1⟩
 ·exact h x hx
theorem zaf {l : List Int} (h : OkD l) (i : Nat) : 0 ≤ l.getD i 0 ∧ l.getD i 0 < 65536 := by
 by_cases hi : i < l.length
 ·rw [List.getD_eq_getElem?_getD, List.getElem?_eq_getElem hi]
  exact h _ (List.getElem_mem hi)
 ·rw [List.getD_eq_getElem?_getD, List.getElem?_eq_none (by omega)]
  simp
theorem zb1 {l : List Int} (h : ∀ i, l.getD i 0 = 0) : vl l = 0 := by
 induction l with
 | nil => rfl
 | cons d ds ih =>
  have h0 : d = 0 := by have := h 0; simpa using this
  have ht : vl ds = 0 := ih fun i => by have := h (i + 1); simpa using this
  rw [vl, h0, ht]; rfl
theorem zah (l : List Int) (i : Nat) : vl (l.drop i) = (l.getD i 0).toNat + 65536 * vl (l.drop (i + 1)) := by
 by_cases hi : i < l.length
 ·rw [List.drop_eq_getElem_cons hi, vl, List.getD_eq_getElem?_getD, List.getElem?_eq_getElem hi]
  simp
 ·rw [List.drop_eq_nil_of_le (by omega), List.drop_eq_nil_of_le (by omega), List.getD_eq_getElem?_getD, List.getElem?_eq_none (by omega)]
  simp [vl]
theorem zag {l : List Int} {i : Nat} (h : l.length ≤ i) : vl (l.drop i) = 0 := by
 rw [List.drop_eq_nil_of_le h]; rfl
theorem zd7 {l : List Int} (ok : OkD l) {m : Nat} (hm : m ≤ l.length) (hz : ∀ i, m ≤ i → l.getD i 0 = 0) (ht : m = 0 ∨ l.getD (m - 1) 0 ≠ 0) : l.take m = dg (vl l) := by
 induction l generalizing m with
 | nil => simp [vl, zai]
 | cons d ds ih =>
  rcases Nat.eq_zero_or_pos m with rfl | hp
  ·rw [zb1 fun i => hz i (Nat.zero_le _), zai]; rfl
  ·obtain ⟨k, rfl⟩ : ∃ k, m = k + 1 := ⟨m - 1, by omega⟩
   have hd := zbq ok
   have ht' : (d :: ds).getD k 0 ≠ 0 := by
    rcases ht with h | h
    ·exact absurd h (by omega)
    ·simpa using h
   have e := ih (zbt ok) (m := k) (by simpa using hm) (fun i hi => by have := hz (i + 1) (by omega); simpa using this) (by
    rcases Nat.eq_zero_or_pos k with h | h
    ·exact .inl h
    ·right
     obtain ⟨j, rfl⟩ : ∃ j, k = j + 1 := ⟨k - 1, by omega⟩
     simpa using ht')
   have hv : d.toNat + 65536 * vl ds ≠ 0 := by
    rcases Nat.eq_zero_or_pos k with rfl | h
    ·have : d ≠ 0 := by simpa using ht'
     omega
    ·intro hz0
     have h0 : vl ds = 0 := by omega
     rw [h0, zai] at e
     have := congrArg List.length e
     rw [List.length_take, List.length_nil] at this
     rw [List.length_cons] at hm
     omega
   rw [vl, zav hv, List.take_succ_cons, e]
   congr 1
   ·omega
   ·congr 1; omega
theorem dg_len {n k : Nat} (h : n < 65536 ^ k) : (dg n).length ≤ k := by
 induction k generalizing n with
 | zero =>
  have : n = 0 := by simpa using h
  subst this; simp [zai]
 | succ k ih =>
  by_cases h0 : n = 0
  ·subst h0; simp [zai]
  ·rw [zav h0, List.length_cons]
   have : n / 65536 < 65536 ^ k := by rw [Nat.div_lt_iff_lt_mul (by omega)]; rw [Nat.pow_succ] at h; exact h
   have := ih this
   omega
theorem zcm (n : Nat) : (dg n).getD 0 0 = ((n % 65536 : Nat) : Int) := by
 by_cases h : n = 0
 ·subst h; simp [zai]
 ·rw [zav h]; simp
theorem zcs (n i : Nat) : (dg n).getD i 0 = ((n / 65536 ^ i % 65536 : Nat) : Int) := by
 induction i generalizing n with
 | zero => simpa using zcm n
 | succ i ih =>
  by_cases h : n = 0
  ·subst h; simp [zai]
  ·rw [zav h, List.getD_cons_succ, ih, Nat.div_div_eq_div_mul, Nat.pow_succ, Nat.mul_comm]
def neg (n : Int) : Bool := decide (n < 0)
def mag (n : Int) : List Int := dg n.natAbs
theorem zal {l : List Int} (ok : OkD l) (hl : l.length ≤ 1000000) (s : Bool) : Ev (fun k => Fic.f k s l) (s && decide (0 < vl l), dg (vl l)) := by
 have key : ∀ (m : Nat), m ≤ l.length → (∀ i, m ≤ i → l.getD i 0 = 0) → Ev (fun k => Fic.l0 k (m : Int) s l) (s && decide (0 < vl l), dg (vl l)) := by
  intro m
  induction m with
  | zero =>
   intro hm hz
   have hv : vl l = 0 := zb1 fun i => hz i (Nat.zero_le _)
   refine Ev.step (fun k => by rw [Fic.l0]) ?_
   rw [hv, zai]
   refine Ev.ncond (by omega) ?_
   cases s
   ·simp; exact Ev.now _
   ·simp; exact Ev.now _
  | succ m ih =>
   intro hm hz
   refine Ev.step (fun k => by rw [Fic.l0]) ?_
   have e : wrap64 (((m + 1 : Nat) : Int) - 1) = (m : Int) := by unfold wrap64; omega
   simp only [e]
   clear e
   refine Ev.cond (by omega) (Ev.cond (by omega) (Ev.cond (by omega) ?_))
   rw [zar]
   refine Ev.ite (fun h => ?_) (fun h => ?_)
   ·exact ih (by omega) fun i hi => by
     rcases Nat.eq_or_lt_of_le hi with rfl | hi
     ·exact h
     ·exact hz i hi
   ·have ht := zd7 ok hm hz (.inr (by simpa using h))
    have hv : 0 < vl l := by
     rcases Nat.eq_zero_or_pos (vl l) with h0 | h0
     ·rw [h0, zai] at ht
      have := congrArg List.length ht
      rw [List.length_take, List.length_nil] at this
      omega
     ·exact h0
    have hc : (((m + 1 : Nat) : Int)).toNat = m + 1 := by omega
    simp only [hc, ht]
    cases s
    ·refine Ev.ncond (by simp) (Ev.cond (by omega) (Ev.cond (by omega) ?_))
     exact Ev.fin (by simp)
    ·refine Ev.cond rfl (Ev.cond (by omega) (Ev.cond (by omega) ?_))
     exact Ev.fin (by simp [hv])
 exact key l.length (Nat.le_refl _) fun i hi => by rw [List.getD_eq_getElem?_getD, List.getElem?_eq_none hi]; rfl
theorem za0 (s : Bool) (l : List Int) (i : Nat) : Fib.f s l (i : Int) = some (l.getD i 0) := by
 unfold Fib.f
 by_cases h : i < l.length
 ·rw [if_pos (by omega), if_pos (by omega), zar]
 ·rw [if_neg (by omega), List.getD_eq_getElem?_getD, List.getElem?_eq_none (by omega)]; rfl
theorem zbh {l : List Int} {i : Nat} (h : l.length ≤ i) : l.getD i 0 = 0 := by rw [List.getD_eq_getElem?_getD, List.getElem?_eq_none h]; rfl
theorem zdg {a b : List Int} (oka : OkD a) (okb : OkD b) (ha : a.length ≤ 1000000) (hb : b.length ≤ 1000000) (s t : Bool) :
  ∀ (d : Nat) (out : List Int) (c i : Nat), out.length = i → c ≤ 1 → i + d = max a.length b.length + 1 → (d = 0 → c = 0) →
   ∃ S, OkD S ∧ vl S = vl (a.drop i) + vl (b.drop i) + c ∧ S.length ≤ d ∧ Ev (fun k => Fja.l0 k out (c : Int) (i : Int) s a t b) (out ++ S) := by
 have stop : ∀ (out : List Int) (i : Nat), max a.length b.length ≤ i →
   ∃ S, OkD S ∧ vl S = vl (a.drop i) + vl (b.drop i) + 0 ∧ S.length ≤ 0 ∧ Ev (fun k => Fja.l0 k out ((0 : Nat) : Int) (i : Int) s a t b) (out ++ S) := by
  intro out i hi
  refine ⟨[], by intro x hx; simp at hx, ?_, Nat.le_refl _, ?_⟩
  ·rw [zag (by omega), zag (by omega)]; rfl
  ·refine Ev.step (fun k => by rw [Fja.l0]) ?_
   refine Ev.ncond (by unfold mx; split <;> omega) ?_
   refine Ev.step (fun k => by rw [Fja.j1]) ?_
   refine Ev.ncond (by simp) ?_
   exact Ev.fin (by simp)
 intro d
 induction d with
 | zero =>
  intro out c i ho hc hi hd
  obtain rfl := hd rfl
  exact stop out i (by omega)
 | succ d ih =>
  intro out c i ho hc hi _
  by_cases hst : max a.length b.length ≤ i ∧ c = 0
  ·obtain ⟨h1, rfl⟩ := hst
   obtain ⟨S, h2, h3, h4, h5⟩ := stop out i h1
   exact ⟨S, h2, h3, by omega, h5⟩
  ·have ga := zaf oka i
   have gb := zaf okb i
   obtain ⟨sN, hsN⟩ : ∃ sN : Nat, sN = (a.getD i 0).toNat + (b.getD i 0).toNat + c := ⟨_, rfl⟩
   have es : a.getD i 0 + b.getD i 0 + (c : Int) = (sN : Int) := by omega
   obtain ⟨S, okS, vS, lS, eS⟩ := ih (out ++ [((sN % 65536 : Nat) : Int)]) (sN / 65536) (i + 1) (by simp [ho]) (by omega) (by omega) (by
    intro hd0
    have h3 : a.getD i 0 = 0 := zbh (by omega)
    have h4 : b.getD i 0 = 0 := zbh (by omega)
    omega)
   refine ⟨((sN % 65536 : Nat) : Int) :: S, zcf (by omega) (by omega) okS, ?_, by simp; omega, ?_⟩
   ·rw [vl, vS, zah a i, zah b i]; omega
   ·have hlen : out.length < 17592186044416 := by omega
    have hmx : ¬ ((i : Int) < mx (a.length : Int) (b.length : Int)) → decide ((c : Int) > 0) = true := by
     intro h
     have : ¬ (i < max a.length b.length) := by intro h2; exact h (by unfold mx; split <;> omega)
     simp; omega
    have e1 : IntKind.u64.wrap (a.getD i 0 + b.getD i 0) = a.getD i 0 + b.getD i 0 := u64 (by omega) (by omega)
    have e2 : IntKind.u64.wrap (a.getD i 0 + b.getD i 0 + (c : Int)) = (sN : Int) := by clear e1; rw [es]; exact u64 (by omega) (by omega)
    have e3 : Go.bits .and .u64 (sN : Int) 65535 = ((sN % 65536 : Nat) : Int) := by clear e1 e2; rw [za9 (by omega) (by omega)]; omega
    have e4 : (sN : Int) / 65536 = ((sN / 65536 : Nat) : Int) := by clear e1 e2 e3; omega
    have e5 : wrap64 ((i : Int) + 1) = ((i + 1 : Nat) : Int) := by clear e1 e2 e3 e4; rw [w64 (by omega) (by omega)]; omega
    have body : Ev (fun k => Fja.j1 k out (c : Int) (i : Int) true s a t b) (out ++ ((sN % 65536 : Nat) : Int) :: S) := by
     refine Ev.step (fun k => by rw [Fja.j1]) ?_
     refine Ev.cond rfl ?_
     simp only [za0, Option.bind_some, e1, e2, e3, e4, e5]
     refine Ev.cond hlen ?_
     have : out ++ ((sN % 65536 : Nat) : Int) :: S = out ++ [((sN % 65536 : Nat) : Int)] ++ S := by simp
     rw [this]
     exact eS
    refine Ev.step (fun k => by rw [Fja.l0]) ?_
    refine Ev.ite (fun _ => body) (fun h => ?_)
    rw [hmx h]
    exact body
theorem zcu {a b : List Int} (oka : OkD a) (okb : OkD b) (ha : a.length ≤ 1000000) (hb : b.length ≤ 1000000) (s t : Bool) :
  ∃ S, OkD S ∧ vl S = vl a + vl b ∧ S.length ≤ max a.length b.length + 1 ∧ Ev (fun k => Fja.f k s a t b) S := by
 obtain ⟨S, h1, h2, h3, h4⟩ := zdg oka okb ha hb s t (max a.length b.length + 1) [] 0 0 rfl (by omega) (by omega) (by omega)
 refine ⟨S, h1, by simpa using h2, h3, ?_⟩
 simpa [Fja.f] using h4
theorem zc4 {a b : List Int} (oka : OkD a) (okb : OkD b) (ha : a.length ≤ 1000000) (s t : Bool) :
  ∀ (d : Nat) (out : List Int) (c i : Nat), out.length = i → c ≤ 1 → i + d = a.length → vl (b.drop i) + c ≤ vl (a.drop i) →
   ∃ S, OkD S ∧ vl S + vl (b.drop i) + c = vl (a.drop i) ∧ S.length = d ∧ Ev (fun k => Fj.l0 k out (c : Int) (i : Int) s a t b) (out ++ S) := by
 intro d
 induction d with
 | zero =>
  intro out c i ho hc hi hle
  have h0 : vl (a.drop i) = 0 := zag (by omega)
  refine ⟨[], by intro x hx; simp at hx, by simp [vl]; omega, rfl, ?_⟩
  refine Ev.step (fun k => by rw [Fj.l0]) ?_
  refine Ev.ncond (by omega) ?_
  exact Ev.fin (by simp)
 | succ d ih =>
  intro out c i ho hc hi hle
  have ga := zaf oka i
  have gb := zaf okb i
  obtain ⟨sN, hsN⟩ : ∃ sN : Nat, sN = (a.getD i 0).toNat + 65536 - (b.getD i 0).toNat - c := ⟨_, rfl⟩
  rw [zah a i, zah b i] at hle
  obtain ⟨S, okS, vS, lS, eS⟩ := ih (out ++ [((sN % 65536 : Nat) : Int)]) (1 - sN / 65536) (i + 1) (by simp [ho]) (by omega) (by omega) (by omega)
  refine ⟨((sN % 65536 : Nat) : Int) :: S, zcf (by omega) (by omega) okS, ?_, by simp [lS], ?_⟩
  ·rw [vl, zah a i, zah b i]; simp only [Int.toNat_natCast]; omega
  ·have hlen : out.length < 17592186044416 := by omega
   have hlt : (i : Int) < (a.length : Int) := by omega
   have e1 : IntKind.u64.wrap (a.getD i 0 + 65536) = a.getD i 0 + 65536 := u64 (by omega) (by omega)
   have e2 : IntKind.u64.wrap (a.getD i 0 + 65536 - b.getD i 0) = a.getD i 0 + 65536 - b.getD i 0 := by clear e1; exact u64 (by omega) (by omega)
   have e3 : IntKind.u64.wrap (a.getD i 0 + 65536 - b.getD i 0 - (c : Int)) = (sN : Int) := by clear e1 e2; rw [u64 (by omega) (by omega)]; omega
   have e4 : Go.bits .and .u64 (sN : Int) 65535 = ((sN % 65536 : Nat) : Int) := by clear e1 e2 e3; rw [za9 (by omega) (by omega)]; omega
   have e5 : IntKind.u64.wrap (1 - (sN : Int) / 65536) = ((1 - sN / 65536 : Nat) : Int) := by clear e1 e2 e3 e4; rw [u64 (by omega) (by omega)]; omega
   have e6 : wrap64 ((i : Int) + 1) = ((i + 1 : Nat) : Int) := by clear e1 e2 e3 e4 e5; rw [w64 (by omega) (by omega)]; omega
   refine Ev.step (fun k => by rw [Fj.l0]) ?_
   refine Ev.cond hlt ?_
   simp only [za0, Option.bind_some, e1, e2, e3, e4, e5, e6]
   refine Ev.cond hlen ?_
   have : out ++ ((sN % 65536 : Nat) : Int) :: S = out ++ [((sN % 65536 : Nat) : Int)] ++ S := by simp
   rw [this]
   exact eS
theorem zbu {a b : List Int} (oka : OkD a) (okb : OkD b) (ha : a.length ≤ 1000000) (s t : Bool) (hle : vl b ≤ vl a) :
  ∃ S, OkD S ∧ vl S + vl b = vl a ∧ S.length = a.length ∧ Ev (fun k => Fj.f k s a t b) S := by
 obtain ⟨S, h1, h2, h3, h4⟩ := zc4 oka okb ha s t a.length [] 0 0 rfl (by omega) (by omega) (by simpa using hle)
 refine ⟨S, h1, by simpa using h2, h3, ?_⟩
 simpa [Fj.f] using h4
theorem zba (l : List Int) (m : Nat) : vl l = vl (l.take m) + 65536 ^ m * vl (l.drop m) := by
 induction m generalizing l with
 | zero => simp [vl]
 | succ m ih =>
  cases l with
  | nil => simp [vl]
  | cons d ds =>
   rw [List.take_succ_cons, List.drop_succ_cons, vl, vl, ih ds, Nat.pow_succ, Nat.mul_add, ← Nat.mul_assoc, Nat.mul_comm (65536 ^ m) 65536]
   omega
theorem zb9 {l : List Int} (ok : OkD l) : vl l < 65536 ^ l.length := by
 induction l with
 | nil => simp [vl]
 | cons d ds ih =>
  have := ih (zbt ok)
  have h := zbq ok
  rw [vl, List.length_cons, Nat.pow_succ]
  omega
theorem zdz {l : List Int} (h : OkD l) (i : Nat) : OkD (l.take i) := fun x hx => h x (List.mem_of_mem_take hx)
theorem zc1 {l : List Int} (ok : OkD l) (m : Nat) : vl (l.take m) < 65536 ^ m := by
 refine Nat.lt_of_lt_of_le (zb9 (zdz ok m)) (Nat.pow_le_pow_right (by omega) ?_)
 rw [List.length_take]; omega
theorem zbo {a b : List Int} (oka : OkD a) (okb : OkD b) {i : Nat} (h : a.getD i 0 < b.getD i 0) (e : vl (a.drop (i + 1)) = vl (b.drop (i + 1))) : vl a < vl b := by
 have ga := zaf oka i
 have gb := zaf okb i
 have h1 : vl (a.drop i) + 1 ≤ vl (b.drop i) := by rw [zah a i, zah b i]; omega
 have h2 := zc1 oka i
 rw [zba a i, zba b i]
 have h3 : 65536 ^ i * (vl (a.drop i) + 1) ≤ 65536 ^ i * vl (b.drop i) := Nat.mul_le_mul_left _ h1
 rw [Nat.mul_add] at h3
 omega
def cmpN (a b : Nat) : Int := if a < b then -1 else if b < a then 1 else 0
theorem zbm {a b : List Int} (oka : OkD a) (okb : OkD b) (ha : a.length ≤ 1000000) (hb : b.length ≤ 1000000) (s t : Bool) :
  Ev (fun k => Fhc.f k s a t b) (cmpN (vl a) (vl b)) := by
 have key : ∀ (i : Nat), i ≤ 1000000 → vl (a.drop i) = vl (b.drop i) → Ev (fun k => Fhc.l0 k ((i : Int) - 1) s a t b) (cmpN (vl a) (vl b)) := by
  intro i
  induction i with
  | zero =>
   intro hi he
   refine Ev.step (fun k => by rw [Fhc.l0]) ?_
   refine Ev.ncond (by omega) ?_
   have : vl a = vl b := by simpa using he
   exact Ev.fin (by unfold cmpN; rw [if_neg (by omega), if_neg (by omega)])
  | succ i ih =>
   intro hi he
   refine Ev.step (fun k => by rw [Fhc.l0]) ?_
   rw [show (((i + 1 : Nat) : Int) - 1) = (i : Int) by omega]
   refine Ev.cond (by omega) ?_
   simp only [za0, Option.bind_some]
   refine Ev.ite (fun h => ?_) (fun h => Ev.ite (fun h2 => ?_) (fun h2 => ?_))
   ·have := zbo oka okb h he
    exact Ev.fin (by unfold cmpN; rw [if_pos this])
   ·have := zbo okb oka h2 he.symm
    exact Ev.fin (by unfold cmpN; rw [if_neg (by omega), if_pos this])
   ·have hw : wrap64 ((i : Int) - 1) = (i : Int) - 1 := w64 (by omega) (by omega)
    rw [hw]
    refine ih (by omega) ?_
    rw [zah a i, zah b i, he, show a.getD i 0 = b.getD i 0 by omega]
 have e : wrap64 (mx (a.length : Int) (b.length : Int) - 1) = ((max a.length b.length : Nat) : Int) - 1 := by
  rw [w64 (by unfold mx; split <;> omega) (by unfold mx; split <;> omega)]
  unfold mx; split <;> omega
 refine Ev.congr (fun k => by rw [Fhc.f, e]) (key (max a.length b.length) (by omega) ?_)
 rw [zag (by omega), zag (by omega)]
def big : Nat := 340282366920938463463374607431768211456
theorem zae (n : Int) : OkD (mag n) := okd_dg _
theorem zam {n : Int} (h : n.natAbs < big) : (mag n).length ≤ 8 := dg_len (k := 8) h
theorem zas {n : Int} (h : n.natAbs < big) : (mag n).length ≤ 1000000 := Nat.le_trans (zam h) (by omega)
theorem zbf {n : Nat} (h : n < 340282366920938463463374607431768211456) : n < big := h
theorem zaa {n : Int} (h0 : -18446744073709551616 ≤ n) (h1 : n ≤ 18446744073709551616) : n.natAbs < big := zbf (by omega)
theorem zab (n : Int) : vl (mag n) = n.natAbs := vl_dg _
theorem zap {n : Int} (h : n.natAbs < big) : Ev (fun k => Fgc.f k (neg n) (mag n)) (neg (-n), mag (-n)) := by
 have e : Ev (fun k => Fic.f k (!(neg n)) (mag n)) (neg (-n), mag (-n)) := by
  have := zal (zae n) (zas h) (!(neg n))
  rw [zab] at this
  have e1 : (!(neg n) && decide (0 < n.natAbs)) = neg (-n) := by
   unfold neg
   by_cases h1 : n < 0 <;> by_cases h2 : 0 < n.natAbs <;> simp [h1, h2] <;> omega
  have e2 : mag (-n) = dg n.natAbs := by unfold mag; rw [Int.natAbs_neg]
  rw [e2, ← e1]
  exact this
 refine Ev.congr (fun k => by rw [Fgc.f]) (Ev.bind e ?_)
 exact Ev.fin rfl
theorem zad {n m : Int} (h : n.natAbs < big) (h' : m.natAbs < big) : Ev (fun k => Fha.f k (neg n) (mag n) (neg m) (mag m)) (neg (n + m), mag (n + m)) := by
 have ln := zas h
 have lm := zas h'
 refine Ev.congr (fun k => by rw [Fha.f]) ?_
 refine Ev.ite (fun hs => ?_) (fun hs => ?_)
 ·have hs' : neg n = neg m := by simpa using hs
  obtain ⟨S, okS, vS, lS, eS⟩ := zcu (zae n) (zae m) ln lm (neg n) (neg m)
  refine Ev.bind eS ?_
  have lS2 : S.length ≤ 1000000 := by
   have := zam h; have := zam h'
   omega
  have ht := zal okS lS2 (neg n)
  rw [vS, zab, zab] at ht
  have e1 : (neg n && decide (0 < n.natAbs + m.natAbs)) = neg (n + m) := by
   unfold neg at hs' ⊢
   by_cases h1 : n < 0 <;> by_cases h2 : m < 0 <;> simp [h1, h2] at hs' ⊢ <;> omega
  have e2 : n.natAbs + m.natAbs = (n + m).natAbs := by
   unfold neg at hs'
   by_cases h1 : n < 0 <;> by_cases h2 : m < 0 <;> simp [h1, h2] at hs' <;> omega
  rw [e1, e2] at ht
  exact Ev.bind ht (Ev.fin rfl)
 ·have hs' : ¬ neg n = neg m := by simpa using hs
  have hs2 : (n < 0 ∧ ¬ m < 0) ∨ (¬ n < 0 ∧ m < 0) := by
   unfold neg at hs'
   by_cases h1 : n < 0 <;> by_cases h2 : m < 0 <;> simp [h1, h2] at hs' ⊢
  refine Ev.bind (zbm (zae n) (zae m) ln lm (neg n) (neg m)) ?_
  rw [zab, zab]
  refine Ev.ite (fun hc => ?_) (fun hc => ?_)
  ·have hle : m.natAbs ≤ n.natAbs := by
    unfold cmpN at hc
    by_cases h1 : n.natAbs < m.natAbs
    ·rw [if_pos h1] at hc; omega
    ·omega
   obtain ⟨S, okS, vS, lS, eS⟩ := zbu (zae n) (zae m) ln (neg n) (neg m) (by rw [zab, zab]; exact hle)
   refine Ev.bind eS ?_
   have ht := zal okS (by omega) (neg n)
   rw [zab, zab] at vS
   have vS' : vl S = (n + m).natAbs := by rcases hs2 with ⟨h1, h2⟩ | ⟨h1, h2⟩ <;> omega
   have e1 : (neg n && decide (0 < (n + m).natAbs)) = neg (n + m) := by
    unfold neg
    rcases hs2 with ⟨h1, h2⟩ | ⟨h1, h2⟩
    ·rw [decide_eq_true h1, Bool.true_and]; exact decide_eq_decide.2 (by omega)
    ·rw [decide_eq_false h1, Bool.false_and]; exact (decide_eq_false (by omega)).symm
   rw [vS', e1] at ht
   exact Ev.bind ht (Ev.fin rfl)
  ·have hle : n.natAbs < m.natAbs := by
    unfold cmpN at hc
    by_cases h1 : n.natAbs < m.natAbs
    ·exact h1
    ·rw [if_neg h1] at hc
     split at hc <;> omega
   obtain ⟨S, okS, vS, lS, eS⟩ := zbu (zae m) (zae n) lm (neg m) (neg n) (by rw [zab, zab]; omega)
   refine Ev.bind eS ?_
   have ht := zal okS (by omega) (neg m)
   rw [zab, zab] at vS
   have vS' : vl S = (n + m).natAbs := by rcases hs2 with ⟨h1, h2⟩ | ⟨h1, h2⟩ <;> omega
   have e1 : (neg m && decide (0 < (n + m).natAbs)) = neg (n + m) := by
    unfold neg
    rcases hs2 with ⟨h1, h2⟩ | ⟨h1, h2⟩
    ·rw [decide_eq_false h2, Bool.false_and]; exact (decide_eq_false (by omega)).symm
    ·rw [decide_eq_true h2, Bool.true_and]; exact decide_eq_decide.2 (by omega)
   rw [vS', e1] at ht
   exact Ev.bind ht (Ev.fin rfl)
theorem zcd {n m : Int} (h : n.natAbs < big) (h' : m.natAbs < big) : Ev (fun k => Fgb.f k (neg n) (mag n) (neg m) (mag m)) (decide (n < m)) := by
 refine Ev.congr (fun k => by rw [Fgb.f]) (Ev.bind (zap h') ?_)
 refine Ev.bind (zad (n := n) (m := -m) h (by rw [Int.natAbs_neg]; exact h')) ?_
 refine Ev.fin ?_
 unfold neg
 by_cases hc : n < m <;> simp [hc] <;> omega
theorem dg4 {n : Nat} (h : n < 18446744073709551616) (s : Bool) :
  ∃ l : List Int, l = [((n % 65536 : Nat) : Int), ((n / 65536 % 65536 : Nat) : Int), ((n / 4294967296 % 65536 : Nat) : Int), ((n / 281474976710656 : Nat) : Int)] ∧ OkD l ∧ vl l = n := by
 refine ⟨_, rfl, ?_, ?_⟩
 ·intro x hx
  simp only [List.mem_cons, List.not_mem_nil, or_false] at hx
  omega
 ·simp only [vl, Int.toNat_natCast]; omega
theorem zac {n : Int} (h0 : -9223372036854775808 ≤ n) (h1 : n ≤ 9223372036854775807) : Ev (fun k => Fh.f k n) (neg n, mag n) := by
 have key : ∀ (s : Bool), s = decide (n < 0) → ∀ (x : Int), x = (n.natAbs : Int) → Ev (fun k => (Fic.f k s (([Go.bits .and .u64 x 65535, Go.bits .and .u64 (x / 65536) 65535, Go.bits .and .u64 (x / 4294967296) 65535, x / 281474976710656] : List Int))).bind fun b => some (b.1, b.2)) (neg n, mag n) := by
  rintro s hs _ rfl
  have hb : n.natAbs < 18446744073709551616 := by omega
  obtain ⟨l, hl, okl, vll⟩ := dg4 hb true
  have e : ([Go.bits .and .u64 (n.natAbs : Int) 65535, Go.bits .and .u64 ((n.natAbs : Int) / 65536) 65535, Go.bits .and .u64 ((n.natAbs : Int) / 4294967296) 65535, (n.natAbs : Int) / 281474976710656] : List Int) = l := by
   rw [hl, za9 (by omega) (by omega), za9 (by omega) (by omega), za9 (by omega) (by omega)]
   congr 1
  rw [e]
  have ht := zal okl (by rw [hl]; simp) s
  rw [vll] at ht
  refine Ev.bind ht (Ev.fin ?_)
  unfold neg mag
  rw [hs]
  congr 1
  by_cases hn : n < 0 <;> simp [hn] <;> omega
 refine Ev.congr (fun k => by rw [Fh.f]) ?_
 refine Ev.ite (fun h => ?_) (fun h => ?_)
 ·refine key _ (by simp [h]) _ ?_
  rw [zbl n, zbl]; omega
 ·refine key _ (by simp [h]) _ ?_
  rw [zbl n]; omega
theorem zc6 (l : List Int) (i : Nat) : vl (l.drop i) ≤ vl l := by
 induction i with
 | zero => simp
 | succ i ih => have := zah l i; omega
theorem zdp {x d : Int} (h0 : 0 ≤ x) (h1 : x * 65536 + d < 18446744073709551616) (d0 : 0 ≤ d) (d1 : d < 65536) : Go.bits .or .u64 (IntKind.u64.wrap (x * 65536)) d = x * 65536 + d := by
 rw [u64 (by omega) (by omega)]
 exact bits_join .u64 64 (by decide) (fun n a b => u64 a (by omega)) 16 (x * 65536) d (by omega) (by omega) (by omega) d0 (by omega) (by omega)
theorem zdi {l : List Int} (ok : OkD l) (hv : vl l ≤ 9223372036854775808) (s : Bool) (hs : s = false → vl l ≤ 9223372036854775807) :
  ∀ i : Nat, i ≤ l.length → i ≤ 1000000 → Ev (fun k => Fg.l0 k ((vl (l.drop i) : Nat) : Int) ((i : Int) - 1) s l) (if s = true then -(vl l : Int) else (vl l : Int), true) := by
 intro i
 induction i with
 | zero =>
  intro _ _
  refine Ev.step (fun k => by rw [Fg.l0]) ?_
  refine Ev.ncond (by omega) ?_
  rw [List.drop_zero]
  cases s with
  | true =>
   refine Ev.cond rfl (Ev.fin ?_)
   rw [zbl]; unfold wrap64
   simp only [if_true, Prod.mk.injEq, and_true]
   omega
  | false =>
   have := hs rfl
   refine Ev.ncond (by simp) (Ev.fin ?_)
   rw [w64 (by omega) (by omega)]
   simp
 | succ i ih =>
  intro hi hm
  have g := zaf ok i
  have hd := zah l i
  have hl := zc6 l i
  refine Ev.step (fun k => by rw [Fg.l0]) ?_
  rw [show (((i + 1 : Nat) : Int) - 1) = (i : Int) by omega, zar]
  refine Ev.cond (by omega) (Ev.cond (by omega) (Ev.cond (by omega) ?_))
  rw [zdp (by omega) (by omega) g.1 g.2, w64 (by omega) (by omega), show ((vl (l.drop (i + 1)) : Nat) : Int) * 65536 + l.getD i 0 = ((vl (l.drop i) : Nat) : Int) by omega]
  exact ih (by omega) (by omega)
theorem zcg {n : Int} (h : n.natAbs < big) : Ev (fun k => Fg.f k (neg n) (mag n)) (if -9223372036854775808 ≤ n ∧ n ≤ 9223372036854775807 then (n, true) else (0, false)) := by
 refine Ev.congr (fun k => by rw [Fg.f]) ?_
 refine Ev.bind (zac (n := -9223372036854775808) (by omega) (by omega)) ?_
 refine Ev.bind (zcd h (zaa (by omega) (by omega))) ?_
 have out : ¬ (-9223372036854775808 ≤ n ∧ n ≤ 9223372036854775807) → Ev (fun k => Fg.j0 k true (neg n) (mag n)) (if -9223372036854775808 ≤ n ∧ n ≤ 9223372036854775807 then (n, true) else (0, false)) := by
  intro ho
  rw [if_neg ho]
  exact Ev.step (fun k => by rw [Fg.j0]) (Ev.cond rfl (Ev.now _))
 refine Ev.ite (fun hc => out (by have := of_decide_eq_true hc; omega)) (fun hc => ?_)
 refine Ev.bind (zac (n := 9223372036854775807) (by omega) (by omega)) ?_
 refine Ev.bind (zcd (n := 9223372036854775807) (m := n) (zaa (by omega) (by omega)) h) ?_
 by_cases hc2 : 9223372036854775807 < n
 ·rw [show decide (9223372036854775807 < n) = true by simpa using hc2]
  exact out (by omega)
 ·rw [show decide (9223372036854775807 < n) = false by simpa using hc2]
  have hc' : ¬ n < -9223372036854775808 := by simpa using hc
  rw [if_pos ⟨by omega, by omega⟩]
  refine Ev.step (fun k => by rw [Fg.j0]) (Ev.ncond (by simp) ?_)
  have hl := zam h
  have := zdi (zae n) (by rw [zab]; omega) (neg n) (fun hs => by rw [zab]; unfold neg at hs; simp at hs; omega) (mag n).length (Nat.le_refl _) (by omega)
  rw [zag (Nat.le_refl _)] at this
  rw [w64 (by omega) (by omega)]
  refine (?_ : _ = (n, true)) ▸ this
  unfold neg
  rw [zab]
  by_cases hn : n < 0 <;> simp [hn] <;> omega
def zan (n : Int) : Int × Int := if -9223372036854775808 ≤ n ∧ n ≤ 9223372036854775807 then (n, 0) else (0, 10)
theorem zaz {n : Int} (h : n.natAbs < big) : Ev (fun k => Fjb.f k (neg n) (mag n)) (zan n) := by
 refine Ev.congr (fun k => by rw [Fjb.f]) (Ev.bind (zcg h) ?_)
 unfold zan
 split
 ·exact Ev.cond rfl (Ev.now _)
 ·exact Ev.ncond (by simp) (Ev.now _)
theorem bit_of (n i : Nat) : n / 65536 ^ (i / 16) % 65536 / 2 ^ (i % 16) % 2 = n / 2 ^ i % 2 := by
 have h1 : (65536 : Nat) ^ (i / 16) = 2 ^ (16 * (i / 16)) := by rw [Nat.pow_mul]
 have e : n / 2 ^ i % 2 = n / 2 ^ (16 * (i / 16)) / 2 ^ (i % 16) % 2 := by
  rw [Nat.div_div_eq_div_mul, ← Nat.pow_add]
  congr 3; omega
 rw [e, h1]
 generalize n / 2 ^ (16 * (i / 16)) = x
 have hs : i % 16 < 16 := Nat.mod_lt _ (by omega)
 generalize i % 16 = s at hs
 have h2 : (65536 : Nat) = 2 ^ s * 2 ^ (16 - s) := by rw [← Nat.pow_add, show s + (16 - s) = 16 by omega]
 rw [h2, Nat.mod_mul_right_div_self]
 have h3 : (2 : Nat) ∣ 2 ^ (16 - s) := ⟨2 ^ (15 - s), by rw [← Nat.pow_succ']; congr 1; omega⟩
 exact Nat.mod_mod_of_dvd _ h3
theorem zd2 {x : Int} (h0 : 0 ≤ x) (h1 : x < 18446744073709551616) : Go.bits .and .u64 x 1 = x % 2 :=
 bits_mask .u64 64 (by decide) (fun n a b => u64 a (by omega)) 1 (by decide) x h0 (by omega)
theorem negN (n : Nat) : neg (n : Int) = false := by unfold neg; simp
theorem magN (n : Nat) : mag (n : Int) = dg n := by unfold mag; rw [Int.natAbs_natCast]
theorem zbn (a : Int) : mag (a.natAbs : Int) = mag a := by unfold mag; rw [Int.natAbs_natCast]
theorem zat (n : Nat) : ((mag (n : Int)).length : Int) > 0 ↔ n ≠ 0 := by
 rw [magN]
 constructor
 ·rintro h rfl
  rw [zai] at h; simp at h
 ·intro h
  rw [zav h, List.length_cons]; omega
def zbw (a b : Int) : Int × Int := if b = 0 then (0, 2) else zan (Int.fdiv a b)
theorem zdm (X Y : Nat) (hY : 0 < Y) (a b : Int) (hX : X = a.natAbs) (hYb : Y = b.natAbs) :
  Int.fdiv a b = if (decide (a < 0) != decide (b < 0)) = true then (if X % Y ≠ 0 then -((X / Y : Nat) : Int) + -1 else -((X / Y : Nat) : Int)) else ((X / Y : Nat) : Int) := by
 subst hX hYb
 have hdm := Nat.div_add_mod a.natAbs b.natAbs
 have hlt := Nat.mod_lt a.natAbs hY
 have hb0 : b ≠ 0 := by omega
 have f1 := Int.mul_fdiv_add_fmod a b
 generalize hq : a.natAbs / b.natAbs = q at *
 generalize hr : a.natAbs % b.natAbs = r at *
 have hm : ((b.natAbs : Int)) * (q : Int) + (r : Int) = (a.natAbs : Int) := by exact_mod_cast hdm
 have key : ∀ (z s : Int), a = b * z + s → (0 < b → 0 ≤ s ∧ s < b) → (b < 0 → b < s ∧ s ≤ 0) → Int.fdiv a b = z := by
  intro z s he hp hn
  rcases Int.lt_or_gt_of_ne hb0 with hb | hb
  ·have := hn hb
   have e2 : Int.fdiv a b = Int.fdiv (-a) (-b) := (Int.neg_fdiv_neg a b).symm
   rw [e2, Int.fdiv_eq_ediv_of_nonneg _ (by omega), he]
   rw [show -(b * z + s) = -s + (-b) * z by rw [Int.neg_add, Int.neg_mul]; omega, Int.add_mul_ediv_left _ _ (by omega), Int.ediv_eq_zero_of_lt (by omega) (by omega)]
   omega
  ·have := hp hb
   rw [Int.fdiv_eq_ediv_of_nonneg _ (by omega), he, Int.add_comm, Int.add_mul_ediv_left _ _ (by omega), Int.ediv_eq_zero_of_lt (by omega) (by omega)]
   omega
 by_cases ha : a < 0 <;> by_cases hb : b < 0
 ·rw [decide_eq_true ha, decide_eq_true hb, if_neg (by simp)]
  refine key _ (-(r : Int)) ?_ (fun h => by omega) (fun h => by omega)
  have e1 : (b.natAbs : Int) = -b := by omega
  have e2 : (a.natAbs : Int) = -a := by omega
  rw [e1, e2, Int.neg_mul] at hm
  omega
 ·rw [decide_eq_true ha, decide_eq_false hb, if_pos (by simp)]
  have e1 : (b.natAbs : Int) = b := by omega
  have e2 : (a.natAbs : Int) = -a := by omega
  rw [e1, e2] at hm
  split
  ·refine key _ (b - r) ?_ (fun h => by omega) (fun h => by omega)
   rw [Int.mul_add, Int.mul_neg, Int.mul_neg]; omega
  ·refine key _ 0 ?_ (fun h => by omega) (fun h => by omega)
   rw [Int.mul_neg]; omega
 ·rw [decide_eq_false ha, decide_eq_true hb, if_pos (by simp)]
  have e1 : (b.natAbs : Int) = -b := by omega
  have e2 : (a.natAbs : Int) = a := by omega
  rw [e1, e2, Int.neg_mul] at hm
  split
  ·refine key _ (b + r) ?_ (fun h => by omega) (fun h => by omega)
   rw [Int.mul_add, Int.mul_neg, Int.mul_neg]; omega
  ·refine key _ 0 ?_ (fun h => by omega) (fun h => by omega)
   rw [Int.mul_neg]; omega
 ·rw [decide_eq_false ha, decide_eq_false hb, if_neg (by simp)]
  refine key _ (r : Int) ?_ (fun h => by omega) (fun h => by omega)
  have e1 : (b.natAbs : Int) = b := by omega
  have e2 : (a.natAbs : Int) = a := by omega
  rw [e1, e2] at hm
  omega
theorem zb3 (X i B : Nat) (hB : B = X / 2 ^ i % 2) : wrap64 (Go.bits .and .u64 (shr .u64 ((X / 65536 ^ (i / 16) % 65536 : Nat) : Int) ((i % 16 : Nat) : Int)) 1) = ((B : Nat) : Int) := by
 have hs : i % 16 < 16 := Nat.mod_lt _ (by omega)
 have hx : X / 65536 ^ (i / 16) % 65536 < 65536 := Nat.mod_lt _ (by omega)
 have hv : shr .u64 ((X / 65536 ^ (i / 16) % 65536 : Nat) : Int) ((i % 16 : Nat) : Int) = ((X / 65536 ^ (i / 16) % 65536 / 2 ^ (i % 16) : Nat) : Int) := by
  unfold shr
  rw [Int.toNat_natCast, Nat.min_eq_left (by simp [IntKind.bits]; omega)]
  simp
 have hle : X / 65536 ^ (i / 16) % 65536 / 2 ^ (i % 16) ≤ X / 65536 ^ (i / 16) % 65536 := Nat.div_le_self _ _
 have hB2 : X / 65536 ^ (i / 16) % 65536 / 2 ^ (i % 16) % 2 = B := by rw [hB, ← bit_of X i]
 rw [hv]
 clear hv
 generalize X / 65536 ^ (i / 16) % 65536 / 2 ^ (i % 16) = V at hle hB2 ⊢
 generalize X / 65536 ^ (i / 16) % 65536 = D at hle hx
 clear hB
 rw [zd2 (by omega) (by omega), w64 (by omega) (by omega)]
 omega
theorem zc3 {a b : Int} {X Y : Nat} (hX : X = a.natAbs) (hY : Y = b.natAbs) (hXb : X ≤ 9223372036854775808) (hY0 : 0 < Y) :
  Ev (fun k => Fga.l0 k a b (((0 : Nat) : Int) - 1) false (mag a) false (mag b) (neg ((X / 2 ^ 0 / Y : Nat) : Int)) (mag ((X / 2 ^ 0 / Y : Nat) : Int)) (neg ((X / 2 ^ 0 % Y : Nat) : Int)) (mag ((X / 2 ^ 0 % Y : Nat) : Int))) (zan (Int.fdiv a b)) := by
 refine Ev.step (fun k => by rw [Fga.l0]) ?_
 refine Ev.ncond (by omega) ?_
 rw [Nat.pow_zero, Nat.div_one]
 have hq : X / Y ≤ X := Nat.div_le_self _ _
 have fe := zdm X Y hY0 a b hX hY
 generalize X / Y = Q at hq fe ⊢
 generalize X % Y = R0 at fe ⊢
 have hQb : ∀ z : Int, -1 ≤ z → z ≤ 1 → (-(Q : Int) + z).natAbs < big ∧ ((Q : Int) + z).natAbs < big := fun z _ _ => ⟨zaa (by omega) (by omega), zaa (by omega) (by omega)⟩
 have hQ0 : ((Q : Int)).natAbs < big := by have := (hQb 0 (by omega) (by omega)).2; simpa using this
 have hQ1 : (-(Q : Int)).natAbs < big := by rw [Int.natAbs_neg]; exact hQ0
 refine Ev.ite (fun hs => ?_) (fun hs => ?_)
 ·rw [if_pos hs] at fe
  refine Ev.bind (zap hQ0) ?_
  refine Ev.ite (fun hr => ?_) (fun hr => ?_)
  ·rw [zat] at hr
   rw [if_pos hr] at fe
   refine Ev.bind (zac (n := -1) (by omega) (by omega)) ?_
   refine Ev.bind (zad (n := -(Q : Int)) (m := -1) hQ1 (zaa (by omega) (by omega))) ?_
   rw [fe]
   exact Ev.bind (zaz (hQb (-1) (by omega) (by omega)).1) (Ev.fin rfl)
  ·rw [zat] at hr
   rw [if_neg hr] at fe
   rw [fe]
   exact Ev.bind (zaz hQ1) (Ev.fin rfl)
 ·rw [if_neg hs] at fe
  rw [fe]
  exact Ev.bind (zaz hQ0) (Ev.fin rfl)
theorem zc8 {a b : Int} {X Y i : Nat} (hXb : X ≤ 9223372036854775808) (hYb : Y ≤ 9223372036854775808) (hY0 : 0 < Y) (mX : mag a = mag (X : Int)) (mY : mag b = mag (Y : Int)) (hi : i + 1 ≤ 1000000)
  (ih : Ev (fun k => Fga.l0 k a b (((i : Nat) : Int) - 1) false (mag a) false (mag b) (neg ((X / 2 ^ i / Y : Nat) : Int)) (mag ((X / 2 ^ i / Y : Nat) : Int)) (neg ((X / 2 ^ i % Y : Nat) : Int)) (mag ((X / 2 ^ i % Y : Nat) : Int))) (zan (Int.fdiv a b))) :
  Ev (fun k => Fga.l0 k a b ((((i + 1) : Nat) : Int) - 1) false (mag a) false (mag b) (neg ((X / 2 ^ (i + 1) / Y : Nat) : Int)) (mag ((X / 2 ^ (i + 1) / Y : Nat) : Int)) (neg ((X / 2 ^ (i + 1) % Y : Nat) : Int)) (mag ((X / 2 ^ (i + 1) % Y : Nat) : Int))) (zan (Int.fdiv a b)) := by
 have hrest : X / 2 ^ (i + 1) % Y < Y := Nat.mod_lt _ hY0
 have hq : X / 2 ^ (i + 1) / Y ≤ X := Nat.le_trans (Nat.div_le_self _ _) (Nat.div_le_self _ _)
 have hbit : X / 2 ^ i % 2 < 2 := Nat.mod_lt _ (by omega)
 have hstep : X / 2 ^ i = 2 * (X / 2 ^ (i + 1)) + X / 2 ^ i % 2 := by
  rw [Nat.pow_succ, ← Nat.div_div_eq_div_mul]; omega
 obtain ⟨H, hH⟩ : ∃ H, H = X / 2 ^ (i + 1) := ⟨_, rfl⟩
 obtain ⟨B, hB⟩ : ∃ B, B = X / 2 ^ i % 2 := ⟨_, rfl⟩
 rw [← hH] at hrest hq hstep
 rw [← hB] at hstep hbit
 have hdm := Nat.div_add_mod H Y
 have hX2' : H = Y * (H / Y) + H % Y := hdm.symm
 rw [← hH]
 generalize H / Y = Q at hq hX2' ⊢
 generalize H % Y = P at hrest hX2' ⊢
 clear hdm
 have hPb : ((P : Int)).natAbs < big := zaa (by omega) (by omega)
 have hQb : ((Q : Int)).natAbs < big := zaa (by omega) (by omega)
 refine Ev.step (fun k => by rw [Fga.l0]) ?_
 rw [show (((i + 1 : Nat) : Int) - 1) = (i : Int) by omega]
 refine Ev.cond (by omega) ?_
 refine Ev.bind (zad (n := (P : Int)) (m := (P : Int)) hPb hPb) ?_
 have e3 := zb3 X i B hB
 have hdig : (mag a).getD (i / 16) 0 = ((X / 65536 ^ (i / 16) % 65536 : Nat) : Int) := by rw [mX, magN, zcs]
 have e1 : wrap64 (Int.tdiv (i : Int) 16) = ((i / 16 : Nat) : Int) := by
  clear e3 hdig
  rw [Int.tdiv_eq_ediv_of_nonneg (by omega), w64 (by omega) (by omega)]; omega
 have e2 : IntKind.u64.wrap (Int.tmod (i : Int) 16) = ((i % 16 : Nat) : Int) := by
  clear e1 e3 hdig
  rw [Int.tmod_eq_emod_of_nonneg (by omega), u64 (by omega) (by omega)]; omega
 rw [← hdig] at e3
 generalize i / 16 = j at e1 e3
 generalize i % 16 = s at e2 e3
 clear hdig
 have ed : Fib.f false (mag a) (wrap64 (Int.tdiv (i : Int) 16)) = some ((mag a).getD j 0) := by rw [e1, za0]
 clear e1
 have hc0 : 0 ≤ IntKind.u64.wrap (Int.tmod (i : Int) 16) := by rw [e2]; exact Int.natCast_nonneg _
 refine Ev.ret ed ?_
 refine Ev.cond hc0 ?_
 have ob : Ev (fun k => Fh.f k (wrap64 (Go.bits .and .u64 (shr .u64 ((mag a).getD j 0) (IntKind.u64.wrap (Int.tmod (i : Int) 16))) 1))) (neg (B : Int), mag (B : Int)) := by
  rw [e2, e3]
  clear ed e2 e3 hc0
  exact zac (n := (B : Int)) (by omega) (by omega)
 clear ed e2 e3 hc0
 refine Ev.bind ob ?_
 clear ob
 refine Ev.bind (zad (n := (P : Int) + (P : Int)) (m := (B : Int)) (zaa (by omega) (by omega)) (zaa (by omega) (by omega))) ?_
 refine Ev.bind (zad (n := (Q : Int)) (m := (Q : Int)) hQb hQb) ?_
 have hR : (P : Int) + (P : Int) + (B : Int) = ((2 * P + B : Nat) : Int) := by omega
 have hQ : (Q : Int) + (Q : Int) = ((2 * Q : Nat) : Int) := by omega
 rw [hR, hQ, mY]
 obtain ⟨R, hRd⟩ : ∃ R, R = 2 * P + B := ⟨_, rfl⟩
 rw [← hRd]
 have hwi : wrap64 ((i : Int) - 1) = (i : Int) - 1 := w64 (by omega) (by omega)
 have hbR : (((R : Nat) : Int)).natAbs < big := zaa (by omega) (by omega)
 have hbY : (((Y : Nat) : Int)).natAbs < big := zaa (by omega) (by omega)
 refine Ev.bind (zbm (zae _) (zae _) (zas hbR) (zas hbY) (neg (R : Int)) false) ?_
 rw [zab, zab, Int.natAbs_natCast, Int.natAbs_natCast, hwi]
 have hX2 : X / 2 ^ i = Y * (2 * Q) + R := by
  have : Y * (2 * Q) = 2 * (Y * Q) := by rw [Nat.mul_left_comm]
  rw [hstep, hRd, this]
  generalize Y * Q = Z at hX2' ⊢
  omega
 have ih' := ih
 rw [mY] at ih'
 clear hwi
 refine Ev.ite (fun hc => ?_) (fun hc => ?_)
 ·have hle : Y ≤ R := by
   unfold cmpN at hc
   by_cases h1 : R < Y
   ·rw [if_pos h1] at hc; omega
   ·omega
  have hq2 : X / 2 ^ i / Y = 2 * Q + 1 := by
   rw [hX2, Nat.mul_add_div hY0, show R / Y = 1 from Nat.div_eq_of_lt_le (by omega) (by omega)]
  have hr2 : X / 2 ^ i % Y = R - Y := by
   rw [hX2, Nat.mul_add_mod, Nat.mod_eq_sub_mod hle, Nat.mod_eq_of_lt (by omega)]
  rw [hq2, hr2] at ih'
  have mm := zap (n := (Y : Int)) hbY
  rw [negN] at mm
  refine Ev.bind mm ?_
  refine Ev.bind (zad (n := (R : Int)) (m := -(Y : Int)) hbR (zaa (by omega) (by omega))) ?_
  refine Ev.bind (zac (n := 1) (by omega) (by omega)) ?_
  refine Ev.bind (zad (n := ((2 * Q : Nat) : Int)) (m := 1) (zaa (by omega) (by omega)) (zaa (by omega) (by omega))) ?_
  rw [show (R : Int) + -(Y : Int) = ((R - Y : Nat) : Int) by omega, show ((2 * Q : Nat) : Int) + 1 = ((2 * Q + 1 : Nat) : Int) by omega]
  exact ih'
 ·have hlt : R < Y := by
   unfold cmpN at hc
   by_cases h1 : R < Y
   ·exact h1
   ·rw [if_neg h1] at hc
    split at hc <;> omega
  have hq2 : X / 2 ^ i / Y = 2 * Q := by
   rw [hX2, Nat.mul_add_div hY0, Nat.div_eq_of_lt hlt, Nat.add_zero]
  have hr2 : X / 2 ^ i % Y = R := by
   rw [hX2, Nat.mul_add_mod, Nat.mod_eq_of_lt hlt]
  rw [hq2, hr2] at ih'
  exact ih'
theorem zdd {a b : Int} (ha0 : -9223372036854775808 ≤ a) (ha1 : a ≤ 9223372036854775807) (hb0 : -9223372036854775808 ≤ b) (hb1 : b ≤ 9223372036854775807) :
  Ev (fun k => Fga.f k a b) (zbw a b) := by
 refine Ev.congr (fun k => by rw [Fga.f]) ?_
 unfold zbw
 by_cases hz : b = 0
 ·rw [if_pos hz]
  exact Ev.cond hz (Ev.now _)
 rw [if_neg hz]
 refine Ev.ncond hz ?_
 obtain ⟨X, hX⟩ : ∃ X, X = a.natAbs := ⟨_, rfl⟩
 obtain ⟨Y, hY⟩ : ∃ Y, Y = b.natAbs := ⟨_, rfl⟩
 have hXb : X ≤ 9223372036854775808 := by omega
 have hYb : Y ≤ 9223372036854775808 := by omega
 have hY0 : 0 < Y := by omega
 have mX : mag a = mag (X : Int) := by rw [hX, zbn]
 have mY : mag b = mag (Y : Int) := by rw [hY, zbn]
 have key : ∀ (i : Nat), i ≤ 1000000 → Ev (fun k => Fga.l0 k a b (((i : Nat) : Int) - 1) false (mag a) false (mag b) (neg ((X / 2 ^ i / Y : Nat) : Int)) (mag ((X / 2 ^ i / Y : Nat) : Int)) (neg ((X / 2 ^ i % Y : Nat) : Int)) (mag ((X / 2 ^ i % Y : Nat) : Int))) (zan (Int.fdiv a b)) := by
  intro i
  induction i with
  | zero => exact fun _ => zc3 hX hY hXb hY0
  | succ i ih => exact fun hi => zc8 hXb hYb hY0 mX mY hi (ih (by omega))
 refine Ev.bind (zac ha0 ha1) ?_
 refine Ev.bind (zac hb0 hb1) ?_
 refine Ev.bind (zac (n := 0) (by omega) (by omega)) ?_
 refine Ev.bind (zac (n := 0) (by omega) (by omega)) ?_
 have hl := zam (n := a) (zaa (by omega) (by omega))
 have e1 : wrap64 (wrap64 (((mag a).length : Int) * 16) - 1) = (((mag a).length * 16 : Nat) : Int) - 1 := by
  rw [w64 (x := ((mag a).length : Int) * 16) (by omega) (by omega), w64 (by omega) (by omega)]; omega
 have hX0 : X / 2 ^ ((mag a).length * 16) = 0 := by
  apply Nat.div_eq_of_lt
  have := zb9 (zae a)
  rw [zab, ← hX] at this
  rwa [Nat.mul_comm, Nat.pow_mul]
 have hk := key ((mag a).length * 16) (by omega)
 rw [hX0, Nat.zero_div, Nat.zero_mod] at hk
 simp only [e1]
 exact hk
end Go.Proofs.Ythgoonohpfoagaa.Pure
namespace Go.Proofs.Ythgoonohpfoagaa.Pure
open Go.RowKit Go.Proofs.YthgoonohpfoagaaW.PrintWords Go.Proofs.YthgoonohpfoagaaW.PrintLast Go.Proofs.YthgoonohpfoagaaW.PrintMore Go.Proofs.Ythgoonohpfoagaa.X
set_option linter.unusedVariables false
theorem zej {a m : Int} (h0 : R64 a) (h1 : 1 ≤ m) (h2 : m ≤ 9223372036854775807) : ∃ e, Fcb.f a m = some (a % m, e) := by
 obtain ⟨a0, a1⟩ := h0
 have q0 := Int.emod_nonneg a (show m ≠ 0 by omega)
 have q1 := Int.emod_lt_of_pos a (show 0 < m by omega)
 unfold Fcb.f
 rw [if_neg (by omega), if_neg (by omega)]
 by_cases c : 0 ≤ a
 ·have e := Int.tmod_eq_emod_of_nonneg (b := m) c
  rw [e, if_neg (by omega)]
  exact ⟨_, rfl⟩
 ·have n0 : Int.tmod a m = -(Int.tmod (-a) m) := by rw [Int.neg_tmod, Int.neg_neg]
  have n1 := Int.tmod_eq_emod_of_nonneg (a := -a) (b := m) (by omega)
  have n2 := Int.emod_nonneg (-a) (show m ≠ 0 by omega)
  have n3 := Int.emod_lt_of_pos (-a) (show 0 < m by omega)
  have n4 : m ∣ (a + (-a) % m) := ⟨-((-a) / m), by have := Int.mul_ediv_add_emod (-a) m; rw [Int.mul_neg]; omega⟩
  by_cases z : (-a) % m = 0
  ·have t0 : Int.tmod a m = 0 := by omega
   have : a % m = 0 := by rw [z, Int.add_zero] at n4; exact Int.emod_eq_zero_of_dvd n4
   rw [t0, if_neg (by omega), this]
   exact ⟨_, rfl⟩
  ·have t0 : Int.tmod a m = -((-a) % m) := by omega
   have t1 : a % m = m - (-a) % m := by
    obtain ⟨k, hk⟩ := n4
    have : a = (m - (-a) % m) + m * (k - 1) := by rw [Int.mul_sub, ← hk]; omega
    exact (congrArg (· % m) this).trans (by rw [Int.add_mul_emod_self_left, Int.emod_eq_of_lt (by omega) (by omega)])
   rw [t0, if_pos (by omega), w64 (by omega) (by omega), t1]
   exact ⟨_, by rw [show -(-a % m) + m = m - -a % m by omega]⟩
structure PlMod (p : Fa.Place) : Prop where
 no : p.2.2.2.1 = false
 r0 : 0 ≤ p.1
 r1 : p.1 < p.2.1
 m2 : p.2.1 ≤ 9223372036854775807
theorem zaw {m a b : Int} (h : m ∣ a - b) : m ∣ a ↔ m ∣ b :=
 ⟨fun k => by have := Int.dvd_sub k h; rwa [Int.sub_sub_self] at this, fun k => by have := Int.dvd_add h k; rwa [Int.sub_add_cancel] at this⟩
theorem zay (s m : Int) : m ∣ s - s % m := ⟨s / m, by have := Int.mul_ediv_add_emod s m; omega⟩
theorem za5 {m x : Int} (h : m % 2 = 1) : m ∣ 2 * x ↔ m ∣ x := by
 constructor
 ·intro k
  have k2 : m ∣ 2 * x * (m / 2) := Int.dvd_mul_of_dvd_left k
  have e : x = m * x - 2 * x * (m / 2) := by
   have : m = 2 * (m / 2) + 1 := by omega
   generalize m / 2 = j at *
   subst this
   grind
  rw [e]
  exact Int.dvd_sub (Int.dvd_mul_right m x) k2
 ·intro k
  rw [Int.mul_comm]
  exact Int.dvd_mul_of_dvd_left k
theorem zbd {m x : Int} (h : m % 2 = 0) : m ∣ 2 * x ↔ m / 2 ∣ x := by
 have e : m = 2 * (m / 2) := by omega
 constructor
 ·rintro ⟨k, hk⟩
  refine ⟨k, ?_⟩
  rw [e, Int.mul_assoc] at hk
  omega
 ·rintro ⟨k, hk⟩
  refine ⟨k, ?_⟩
  rw [hk, ← Int.mul_assoc, ← e]
theorem zao {m x : Int} (h0 : 0 ≤ x) (h1 : x < m) (h : m ∣ x) : x = 0 := by
 by_cases c : x = 0
 ·exact c
 ·have := Int.le_of_dvd (by omega) h; omega
theorem zdy {r t m s : Int} (m1 : 1 ≤ m) (r0 : 0 ≤ r) (r1 : r < m) (ht : t = s % m) : (r == (m - t) % m) = decide (m ∣ (r + s)) := by
 have t0 := Int.emod_nonneg s (show m ≠ 0 by omega)
 have t1 := Int.emod_lt_of_pos s (show 0 < m by omega)
 rw [Bool.eq_iff_iff, beq_iff_eq, decide_eq_true_iff]
 have sh : m ∣ (r + s) ↔ m ∣ (r + t) := zaw (by rw [ht, show r + s - (r + s % m) = s - s % m by omega]; exact zay s m)
 rw [sh]
 by_cases z : t = 0
 ·rw [z, Int.sub_zero, Int.emod_self, Int.add_zero]
  constructor
  ·intro h; rw [h]; exact Int.dvd_zero m
  ·intro h; exact zao r0 r1 h
 ·rw [Int.emod_eq_of_lt (by omega) (by omega)]
  constructor
  ·intro h; rw [h, Int.sub_add_cancel]; exact Int.dvd_refl m
  ·intro h
   have h2 : m ∣ (r + t - m) := Int.dvd_sub h (Int.dvd_refl m)
   by_cases c : 0 ≤ r + t - m
   ·have := zao c (by omega) h2; omega
   ·have h3 : m ∣ (r + t) := h
    have := zao (by omega) (by omega) h3; omega
theorem to_mod {p : Fa.Place} {s : Int} (h : PlMod p) (s0 : 0 ≤ s) (s1 : s ≤ 9223372036854775807) : ∃ z, Fa.to 2 p s = some z ∧
  (z = (0, 0, false, true, false) ∧ (∀ W : Int, ¬ p.2.1 ∣ (s + 2 * W - p.1)) ∨ PlMod z ∧ z.2.2.2.2 = decide (p.2.1 ∣ (p.1 + s)) ∧ z.2.2.1 = false ∧ z.2.1 = (if p.2.1 % 2 = 0 then p.2.1 / 2 else p.2.1) ∧ ∀ W : Int, p.2.1 ∣ (s + 2 * W - p.1) ↔ z.2.1 ∣ (W - z.1)) := by
 obtain ⟨no, r0, r1, m2⟩ := h
 obtain ⟨r, m, x1, x2, x3⟩ := p
 simp only at no r0 r1 m2 ⊢
 obtain ⟨t, ht⟩ : ∃ t, t = s % m := ⟨_, rfl⟩
 have t0 := Int.emod_nonneg s (show m ≠ 0 by omega)
 have t1 := Int.emod_lt_of_pos s (show 0 < m by omega)
 rw [← ht] at t0 t1
 have tm : Int.tmod s m = t := by rw [Int.tmod_eq_emod_of_nonneg s0, ht]
 have td : Int.tdiv m 2 = m / 2 := Int.tdiv_eq_ediv_of_nonneg (by omega)
 have tell := zdy (t := t) (s := s) (by omega) r0 r1 ht
 have tw : Int.tmod (wrap64 (m - t)) m = (m - t) % m := by rw [w64 (by omega) (by omega), Int.tmod_eq_emod_of_nonneg (by omega)]
 have sh : ∀ W : Int, m ∣ (s + 2 * W - r) ↔ m ∣ (2 * W - (r - t)) := fun W => zaw (by rw [ht, show s + 2 * W - r - (2 * W - (r - s % m)) = s - s % m by omega]; exact zay s m)
 have red : ∀ z : Fa.Place, Faa.f r m x1 x2 x3 s = some z → R64 z.1 → R64 z.2.1 → Fa.to 2 (r, m, x1, x2, x3) s = some z := fun z hz a b => by
  unfold Fa.to Fb.f
  rw [if_neg (show ¬ x2 = true by rw [no]; decide), if_neg (by decide), if_neg (by decide)]
  simp only
  rw [hz]
  simp only [Option.bind_some]
  rw [if_pos a.wf, if_pos b.wf]
 have wd : wrap64 (r - t) = r - t := w64 (by omega) (by omega)
 by_cases me : m % 2 = 0
 ·by_cases de : (r - t) % 2 = 0
  ·have hr : ∃ e, Fcb.f ((r - t) / 2) (m / 2) = some ((r - t) / 2 % (m / 2), e) := zej ⟨by omega, by omega⟩ (by omega) (by omega)
   obtain ⟨e, he⟩ := hr
   have q0 := Int.emod_nonneg ((r - t) / 2) (show m / 2 ≠ 0 by omega)
   have q1 := Int.emod_lt_of_pos ((r - t) / 2) (show 0 < m / 2 by omega)
   refine ⟨((r - t) / 2 % (m / 2), m / 2, false, false, r == (m - t) % m), red _ ?_ ⟨by simp only; omega, by simp only; omega⟩ ⟨by simp only; omega, by simp only; omega⟩, .inr ⟨⟨rfl, q0, q1, by simp only; omega⟩, tell, rfl, (if_pos me).symm, fun W => ?_⟩⟩
   ·unfold Faa.f
    rw [if_neg (by omega), and1, if_pos me, tm, wd, and1, if_pos de, Fc.f, Option.bind_some, td, w64 (x := m / 2) (by omega) (by omega), he, Option.bind_some, tw]
   ·rw [sh, show 2 * W - (r - t) = 2 * (W - (r - t) / 2) by omega, zbd me]
    exact zaw (by
     rw [show W - (r - t) / 2 - (W - (r - t) / 2 % (m / 2)) = -((r - t) / 2 - (r - t) / 2 % (m / 2)) by omega, Int.dvd_neg]
     exact zay _ _)
  ·refine ⟨(0, 0, false, true, false), red _ ?_ ⟨by decide, by decide⟩ ⟨by decide, by decide⟩, .inl ⟨rfl, fun W hk => ?_⟩⟩
   ·unfold Faa.f
    rw [if_neg (by omega), and1, if_pos me, tm, wd, and1, if_neg de]
   ·rw [sh] at hk
    obtain ⟨k, hk⟩ := hk
    have e : m = 2 * (m / 2) := by omega
    rw [e, Int.mul_assoc] at hk
    omega
 ·have me' : m % 2 = 1 := by omega
  have fin : ∀ d : Int, 0 ≤ d → d < m → (m ∣ (d - (r - t))) → ∃ z : Fa.Place, z = (if d % 2 = 0 then d / 2 else (d + m) / 2, m, false, false, r == (m - t) % m) ∧ (PlMod z ∧ z.2.2.2.2 = decide (m ∣ (r + s)) ∧ z.2.2.1 = false ∧ z.2.1 = (if m % 2 = 0 then m / 2 else m) ∧ ∀ W : Int, m ∣ (s + 2 * W - r) ↔ z.2.1 ∣ (W - z.1)) := by
   intro d d0 d1 hd
   have sd : ∀ W : Int, m ∣ (2 * W - (r - t)) ↔ m ∣ (2 * W - d) := fun W => zaw (by rw [show 2 * W - (r - t) - (2 * W - d) = d - (r - t) by omega]; exact hd)
   refine ⟨_, rfl, ⟨rfl, ?_, ?_, m2⟩, tell, rfl, (if_neg me).symm, fun W => ?_⟩
   ·show 0 ≤ (if d % 2 = 0 then d / 2 else (d + m) / 2); split <;> omega
   ·show (if d % 2 = 0 then d / 2 else (d + m) / 2) < m; split <;> omega
   ·show m ∣ (s + 2 * W - r) ↔ m ∣ (W - (if d % 2 = 0 then d / 2 else (d + m) / 2))
    rw [sh, sd]
    split
    ·rw [show 2 * W - d = 2 * (W - d / 2) by omega, za5 me']
    ·rw [← za5 me' (x := W - (d + m) / 2)]
     exact zaw (by rw [show 2 * W - d - 2 * (W - (d + m) / 2) = m by omega]; exact Int.dvd_refl m)
  by_cases dn : r - t < 0
  ·obtain ⟨z, hz, ok⟩ := fin (r - t + m) (by omega) (by omega) (by rw [show r - t + m - (r - t) = m by omega]; exact Int.dvd_refl m)
   refine ⟨z, red _ ?_ ⟨by have := ok.1.r0; omega, by have := ok.1.r1; have := ok.1.m2; omega⟩ ⟨by have := ok.1.r0; have := ok.1.r1; omega, ok.1.m2⟩, .inr ok⟩
   unfold Faa.f
   rw [if_neg (by omega), and1, if_neg me, tm, wd, if_pos dn, w64 (x := r - t + m) (by omega) (by omega), and1, td, tw, Int.tdiv_eq_ediv_of_nonneg (by omega : 0 ≤ r - t + m), w64 (x := (r - t + m) / 2) (by omega) (by omega), w64 (x := m / 2) (by omega) (by omega), w64 (x := (r - t + m) / 2 + m / 2) (by omega) (by omega), hz]
   by_cases de : (r - t + m) % 2 = 0
   ·rw [if_pos de, if_pos de]
   ·rw [if_neg de, if_neg de, w64 (by omega) (by omega)]
    exact congrArg some (congrArg (fun q : Int => (q, m, false, false, r == (m - t) % m)) (by omega))
  ·obtain ⟨z, hz, ok⟩ := fin (r - t) (by omega) (by omega) (by rw [Int.sub_self]; exact Int.dvd_zero m)
   refine ⟨z, red _ ?_ ⟨by have := ok.1.r0; omega, by have := ok.1.r1; have := ok.1.m2; omega⟩ ⟨by have := ok.1.r0; have := ok.1.r1; omega, ok.1.m2⟩, .inr ok⟩
   unfold Faa.f
   rw [if_neg (by omega), and1, if_neg me, tm, wd, if_neg dn, and1, td, tw, Int.tdiv_eq_ediv_of_nonneg (by omega : 0 ≤ r - t), w64 (x := (r - t) / 2) (by omega) (by omega), w64 (x := m / 2) (by omega) (by omega), w64 (x := (r - t) / 2 + m / 2) (by omega) (by omega), hz]
   by_cases de : (r - t) % 2 = 0
   ·rw [if_pos de, if_pos de]
   ·rw [if_neg de, if_neg de, w64 (by omega) (by omega)]
    exact congrArg some (congrArg (fun q : Int => (q, m, false, false, r == (m - t) % m)) (by omega))
end Go.Proofs.Ythgoonohpfoagaa.Pure
namespace Go.Proofs.Ythgoonohpfoagaa.Pure
open Go.RowKit Go.Proofs.YthgoonohpfoagaaW.PrintWords Go.Proofs.YthgoonohpfoagaaW.PrintLast Go.Proofs.YthgoonohpfoagaaW.PrintMore Go.Proofs.Ythgoonohpfoagaa.X
set_option linter.unusedVariables false
def lsum : List Int → Nat → Int
 | [], _ => 0
 | c :: cs, a => c * ((a % 2 : Nat) : Int) + lsum cs (a / 2)
theorem zci : ∀ (l acc : List Int) (a : Nat), 0 < acc.length → a < acc.length * 2 ^ l.length → (za1 acc l).getD a 0 = acc.getD (a % acc.length) 0 + lsum l (a / acc.length)
 | [], acc, a, h0, h => by
  rw [List.length_nil, Nat.pow_zero, Nat.mul_one] at h
  rw [za1, lsum, Nat.mod_eq_of_lt h, Int.add_zero]
 | c :: cs, acc, a, h0, h => by
  have len : (acc ++ acc.map (· + c)).length = acc.length * 2 := by simp; omega
  rw [za1, zci cs (acc ++ acc.map (· + c)) a (by rw [len]; omega) (by rw [len, Nat.mul_assoc, ← Nat.pow_succ']; exact h), len, lsum, Nat.mod_mul, Nat.div_div_eq_div_mul]
  have hr := Nat.mod_lt a h0
  generalize a % acc.length = r at *
  generalize lsum cs (a / (acc.length * 2)) = z
  rcases Nat.mod_two_eq_zero_or_one (a / acc.length) with e | e
  ·rw [e, Nat.mul_zero, Nat.add_zero, List.getD_eq_getElem?_getD, List.getElem?_append_left hr, ← List.getD_eq_getElem?_getD]
   simp
  ·rw [e, Nat.mul_one, List.getD_eq_getElem?_getD, List.getElem?_append_right (by omega), List.getElem?_map, show r + acc.length - acc.length = r by omega, List.getD_eq_getElem?_getD, List.getElem?_eq_getElem hr]
   simp; omega
theorem zcv {coefs : List Int} {a : Nat} (h : a < 2 ^ coefs.length) : (za1 [0] coefs).getD a 0 = lsum coefs a := by
 have := zci coefs [0] a (by simp) (by simpa using h)
 rw [this]
 simp [Nat.mod_one]
theorem zbp : ∀ (l : List Int) (a : Nat), (∀ c ∈ l, 0 ≤ c) → 0 ≤ lsum l a
 | [], _, _ => Int.le_refl _
 | c :: cs, a, h => by
  have h1 := Int.mul_nonneg (h c List.mem_cons_self) (show (0 : Int) ≤ ((a % 2 : Nat) : Int) by omega)
  have h2 := zbp cs (a / 2) (fun x hx => h x (List.mem_cons_of_mem _ hx))
  rw [lsum]; omega
end Go.Proofs.Ythgoonohpfoagaa.Pure
namespace Go.Proofs.Ythgoonohpfoagaa.Pure
open Go.RowKit Go.Proofs.YthgoonohpfoagaaW.PrintWords Go.Proofs.YthgoonohpfoagaaW.PrintLast Go.Proofs.YthgoonohpfoagaaW.PrintMore Go.Proofs.Ythgoonohpfoagaa.X
set_option linter.unusedVariables false
theorem zbz (n : Int) : Foa.f (neg n) (mag n) = some (decide (n % 2 = 1)) := by
 unfold Foa.f
 by_cases c : n = 0
 ·subst c
  rw [if_neg (by unfold mag; rw [Int.natAbs_zero, zai]; simp)]
  exact congrArg some (by decide)
 ·have hl : (mag n).length ≠ 0 := fun h => by
   have := List.eq_nil_of_length_eq_zero h
   unfold mag at this
   rw [zav (by omega)] at this; cases this
  rw [if_pos (by omega), if_pos (by omega)]
  have hd : rd (mag n) 0 = ((n.natAbs % 65536 : Nat) : Int) := by
   have := zar (mag n) 0
   rw [show (((0 : Nat) : Int)) = 0 from rfl] at this
   rw [this, mag, zcm]
  rw [hd, Int.tmod_eq_emod_of_nonneg (by omega)]
  refine congrArg some ?_
  rw [Bool.eq_iff_iff, beq_iff_eq, decide_eq_true_iff]
  omega
theorem zbi : vl [] = 0 := rfl
theorem zb0 : OkD [] := fun d h => by cases h
theorem zcq {l : List Int} (h : OkD l) (i : Nat) {x : Int} (h0 : 0 ≤ x) (h1 : x < 65536) : OkD (l.set i x) := fun d hd => by
 rcases List.mem_or_eq_of_mem_set hd with hd | rfl
 ·exact h d hd
 ·exact ⟨h0, h1⟩
theorem zcn (l : List Int) {i j : Nat} (x : Int) (h : i < j) : (l.set i x).drop j = l.drop j := by
 rw [List.drop_set, if_pos h]
theorem zax {n : Int} (he : n % 2 = 0) (hb : n.natAbs < big) (hr : R64 (n / 2)) : Ev (fun k => Fo.f k (neg n) (mag n)) (n / 2) := by
 have ml := zam hb
 have ok := zae n
 have fin : ∀ o : List Int, OkD o → o.length ≤ 8 → vl o = n.natAbs / 2 → Ev (fun k => (Fh.f k 0).bind fun z => (Fha.f k (neg n) o z.1 z.2).bind fun p => (Fg.f k p.1 p.2).bind fun q => some q.1) (n / 2) := by
  intro o oko ol hv
  have hz : Ev (fun k => Fh.f k 0) (false, []) := by
   have := zac (n := 0) (by omega) (by omega)
   have e : (neg (0 : Int), mag 0) = (false, ([] : List Int)) := by unfold neg mag; rw [Int.natAbs_zero, zai]; rfl
   rw [e] at this; exact this
  have hn : (n / 2).natAbs = n.natAbs / 2 := by omega
  have pl : Ev (fun k => Fha.f k (neg n) o false []) (neg (n / 2), mag (n / 2)) := by
   refine Ev.congr (fun k => by rw [Fha.f]) ?_
   by_cases c : n < 0
   ·have nn : neg n = true := decide_eq_true c
    have n2 : neg (n / 2) = true := decide_eq_true (by omega)
    rw [nn]
    refine Ev.ncond (by decide) (Ev.bind (zbm oko zb0 (by omega) (by simp) true false) ?_)
    have ge : cmpN (vl o) (vl []) ≥ 0 := by unfold cmpN; rw [if_neg (by rw [zbi]; omega)]; split <;> omega
    obtain ⟨S, okS, vS, lS, eS⟩ := zbu oko zb0 (by omega) true false (by rw [zbi]; omega)
    rw [zbi, Nat.add_zero] at vS
    refine Ev.cond ge (Ev.bind eS ?_)
    have ht := zal okS (by omega) true
    rw [vS, hv] at ht
    have e1 : (true && decide (0 < n.natAbs / 2)) = neg (n / 2) := by rw [n2, Bool.true_and]; exact decide_eq_true (by omega)
    rw [e1, ← hn] at ht
    exact Ev.bind ht (Ev.fin rfl)
   ·have nn : neg n = false := decide_eq_false c
    have n2 : neg (n / 2) = false := decide_eq_false (by omega)
    rw [nn]
    obtain ⟨S, okS, vS, lS, eS⟩ := zcu oko zb0 (by omega) (by simp) false false
    rw [zbi, Nat.add_zero] at vS
    refine Ev.cond rfl (Ev.bind eS ?_)
    have ht := zal okS (by simp at lS; omega) false
    rw [vS, hv, Bool.false_and, ← hn] at ht
    rw [n2]
    exact Ev.bind ht (Ev.fin rfl)
  have ft := zcg (n := n / 2) (Nat.lt_of_le_of_lt (by omega) hb)
  rw [if_pos ⟨hr.1, hr.2⟩] at ft
  exact Ev.bind hz (Ev.bind pl (Ev.bind ft (Ev.fin rfl)))
 have key : ∀ i, i ≤ (mag n).length → ∀ o : List Int, o.length = (mag n).length → OkD o → vl (o.drop i) = vl ((mag n).drop i) / 2 →
   Ev (fun k => Fo.l0 k o ((vl ((mag n).drop i) % 2 : Nat) : Int) ((i : Int) - 1) (neg n) (mag n)) (n / 2) := by
  intro i
  induction i with
  | zero =>
   intro _ o ol oko hv
   refine Ev.step (fun k => by rw [Fo.l0]) (Ev.ncond (by omega) (fin o oko (by omega) ?_))
   rw [List.drop_zero, List.drop_zero, zab] at hv
   exact hv
  | succ i ih =>
   intro hi o ol oko hv
   have e0 : ((i + 1 : Nat) : Int) - 1 = (i : Int) := by omega
   have vd := zah (mag n) i
   have dO := zaf ok i
   have rdi : rd (mag n) (i : Int) = (mag n).getD i 0 := zar _ _
   obtain ⟨d, hd⟩ : ∃ d, d = (mag n).getD i 0 := ⟨_, rfl⟩
   rw [← hd] at vd dO rdi
   obtain ⟨V, hV⟩ : ∃ V, V = vl ((mag n).drop (i + 1)) := ⟨_, rfl⟩
   rw [← hV] at vd hv ⊢
   refine Ev.step (fun k => by rw [Fo.l0]) ?_
   rw [e0, rdi, zdp (x := ((V % 2 : Nat) : Int)) (d := d) (by omega) (by omega) dO.1 dO.2]
   obtain ⟨e, he⟩ : ∃ e : Int, e = ((V % 2 : Nat) : Int) * 65536 + d := ⟨_, rfl⟩
   have e01 : 0 ≤ e ∧ e < 131072 := by omega
   rw [← he]
   have t2 := Int.tdiv_eq_ediv_of_nonneg (a := e) (b := 2) e01.1
   have t3 := Int.tmod_eq_emod_of_nonneg (a := e) (b := 2) e01.1
   rw [t2, t3]
   clear t2 t3
   rw [u64 (x := e / 2) (by omega) (by omega)]
   have nxt := ih (by omega) (o.set i (e / 2)) (by rw [List.length_set]; exact ol) (zcq oko i (by omega) (by omega)) (by
    have vs := zah (o.set i (e / 2)) i
    rw [zcn o _ (Nat.lt_succ_self i), hv] at vs
    have g : (o.set i (e / 2)).getD i 0 = e / 2 := by
     rw [List.getD_eq_getElem?_getD, List.getElem?_set_self (by omega)]; rfl
    rw [g] at vs
    rw [vs, vd]
    omega)
   have cy : e % 2 = ((vl ((mag n).drop i) % 2 : Nat) : Int) := by rw [vd]; omega
   rw [cy, Int.toNat_natCast, w64 (by omega) (by omega)]
   exact Ev.cond (by omega) (Ev.cond (by omega) (Ev.cond (by omega) (Ev.cond (by omega) nxt)))
 refine Ev.congr (fun k => by rw [Fo.f]) (Ev.cond (by omega) (Ev.cond (by omega) ?_))
 have := key (mag n).length (Nat.le_refl _) (List.replicate (mag n).length 0) (by simp) (fun d hd => by rw [(List.mem_replicate.1 hd).2]; decide) (by rw [zag (by simp), zag (Nat.le_refl _)])
 rw [zag (Nat.le_refl _)] at this
 rw [w64 (by omega) (by omega), Int.toNat_natCast]
 exact this
theorem zc5 {n : Int} (h0 : -18446744073709551616 ≤ n) (h1 : n ≤ 18446744073709551615) : Ev (fun k => Fnc.f k (neg n) (mag n)) (n / 2) := by
 refine Ev.congr (fun k => by rw [Fnc.f]) (Ev.ret (zbz n) ?_)
 have hb : n.natAbs < big := zaa (by omega) (by omega)
 by_cases c : n % 2 = 1
 ·rw [decide_eq_true c]
  have hm : Ev (fun k => Fh.f k (-1)) (neg (-1), mag (-1)) := zac (by omega) (by omega)
  have hp := zad (n := n) (m := -1) hb (zaa (by omega) (by omega))
  have hh := zax (n := n + -1) (by omega) (zbf (by omega)) ⟨by omega, by omega⟩
  rw [show (n + -1) / 2 = n / 2 by omega] at hh
  exact Ev.cond rfl (Ev.bind hm (Ev.bind hp (Ev.bind hh (Ev.fin rfl))))
 ·rw [decide_eq_false c]
  have hh := zax (n := n) (by omega) hb ⟨by omega, by omega⟩
  exact Ev.ncond (by decide) (Ev.bind hh (Ev.fin rfl))
theorem tmod2 (b : Nat) : Int.tmod (b : Int) 2 = ((b % 2 : Nat) : Int) := by rw [Int.tmod_eq_emod_of_nonneg (by omega)]; omega
theorem tdiv2 (b : Nat) (h : b < 64) : wrap64 (Int.tdiv (b : Int) 2) = ((b / 2 : Nat) : Int) := by rw [Int.tdiv_eq_ediv_of_nonneg (by omega), w64 (by omega) (by omega)]; omega
theorem zdq {coefs : List Int} (hl : coefs.length ≤ 6) (hw : ∀ x ∈ coefs, R64 x) {a : Nat} (ha : a < 64) : Ev (fun k => Fob.f k coefs (a : Int)) (neg (lsum coefs a), mag (lsum coefs a)) := by
 have key : ∀ (m i : Nat) (b : Nat) (s : Int), i + m = coefs.length → b < 64 → s.natAbs ≤ i * 9223372036854775808 → Ev (fun k => Fob.l0 k coefs (b : Int) (i : Int) (neg s) (mag s)) (neg (s + lsum (coefs.drop i) b), mag (s + lsum (coefs.drop i) b)) := by
  intro m
  induction m with
  | zero =>
   intro i b s hi hb hs
   rw [List.drop_of_length_le (by omega), lsum, Int.add_zero]
   exact Ev.step (fun k => by rw [Fob.l0]) (Ev.ncond (by omega) (Ev.fin rfl))
  | succ m ih =>
   intro i b s hi hb hs
   have ii : i < coefs.length := by omega
   have rc : rd coefs (i : Int) = coefs[i] := zbc coefs ii
   obtain ⟨r0, r1⟩ := hw _ (List.getElem_mem ii)
   refine Ev.step (fun k => by rw [Fob.l0]) (Ev.cond (by omega) ?_)
   rw [tmod2 b, tdiv2 b hb, w64 (x := (i : Int) + 1) (by omega) (by omega), List.drop_eq_getElem_cons ii, lsum, rc]
   by_cases c : b % 2 = 1
   ·rw [c]
    have sb : s.natAbs ≤ 55340232221128654848 := by omega
    have hp := zad (n := s) (m := coefs[i]) (zbf (Nat.lt_of_le_of_lt sb (by decide))) (zaa (by omega) (by omega))
    have nxt := ih (i + 1) (b / 2) (s + coefs[i]) (by omega) (by omega) (by omega)
    rw [show s + (coefs[i] * ((1 : Nat) : Int) + lsum (coefs.drop (i + 1)) (b / 2)) = s + coefs[i] + lsum (coefs.drop (i + 1)) (b / 2) by omega]
    exact Ev.cond rfl (Ev.cond (by omega) (Ev.bind (zac r0 r1) (Ev.bind hp nxt)))
   ·have c0 : b % 2 = 0 := by omega
    rw [c0]
    have nxt := ih (i + 1) (b / 2) s (by omega) (by omega) (Nat.le_trans hs (Nat.mul_le_mul_right _ (Nat.le_succ i)))
    rw [show s + (coefs[i] * ((0 : Nat) : Int) + lsum (coefs.drop (i + 1)) (b / 2)) = s + lsum (coefs.drop (i + 1)) (b / 2) by omega]
    exact Ev.ncond (by decide) nxt
 have := key coefs.length 0 a 0 (by omega) ha (by simp)
 rw [List.drop_zero, Int.zero_add] at this
 exact Ev.congr (fun k => by rw [Fob.f]) (Ev.bind (zac (n := 0) (by omega) (by omega)) this)
end Go.Proofs.Ythgoonohpfoagaa.Pure
namespace Go.Proofs.Ythgoonohpfoagaa.Pure
open Go.RowKit Go.Proofs.YthgoonohpfoagaaW.PrintWords Go.Proofs.YthgoonohpfoagaaW.PrintLast Go.Proofs.YthgoonohpfoagaaW.PrintMore Go.Proofs.Ythgoonohpfoagaa.X
set_option linter.unusedVariables false
def vz (l : List Int) : Int := (vl l : Int)
theorem zdb : ∀ (l : List Int) (i : Nat) (x : Int), OkD l → 0 ≤ x → i < l.length → vz (l.set i x) = vz l + (x - l.getD i 0) * (65536 : Int) ^ i
 | [], i, x, _, _, h => by simp at h
 | d :: l, 0, x, ok, h0, h => by
  have := zbq ok
  simp only [List.set_cons_zero, vz, vl, List.getD_cons_zero, Int.pow_zero]
  omega
 | d :: l, i + 1, x, ok, h0, h => by
  have ih := zdb l i x (zbt ok) h0 (by simpa using h)
  simp only [vz] at ih
  rw [List.set_cons_succ, List.getD_cons_succ, Int.pow_succ]
  simp only [vz, vl]
  have e : ((d.toNat + 65536 * vl (l.set i x) : Nat) : Int) = (d.toNat : Int) + 65536 * ((vl (l.set i x) : Nat) : Int) := by omega
  rw [e, ih]
  have e2 : ((d.toNat + 65536 * vl l : Nat) : Int) = (d.toNat : Int) + 65536 * ((vl l : Nat) : Int) := by omega
  rw [e2]
  generalize (65536 : Int) ^ i = B
  generalize l.getD i 0 = y
  grind
theorem zbg (l : List Int) (ok : OkD l) (i : Nat) : vz (l.take (i + 1)) = vz (l.take i) + l.getD i 0 * (65536 : Int) ^ i := by
 by_cases c : i < l.length
 ·have h := zba (l.take (i + 1)) i
  rw [List.take_take, Nat.min_eq_left (Nat.le_succ i), List.drop_take, Nat.add_sub_cancel_left, List.drop_eq_getElem_cons c, List.take_succ_cons, List.take_zero] at h
  have d := zaf ok i
  rw [List.getD_eq_getElem?_getD, List.getElem?_eq_getElem c] at d ⊢
  simp only [Option.getD_some] at d ⊢
  simp only [vl, Nat.mul_zero, Nat.add_zero] at h
  have hp : ((65536 ^ i * l[i].toNat : Nat) : Int) = l[i] * (65536 : Int) ^ i := by
   rw [Int.natCast_mul, Int.natCast_pow, Int.mul_comm, Int.toNat_of_nonneg d.1]; rfl
  unfold vz
  rw [h, Int.natCast_add, hp]
 ·rw [List.take_of_length_le (by omega), List.take_of_length_le (by omega), zbh (by omega), Int.zero_mul, Int.add_zero]
theorem zbe (l : List Int) : 0 ≤ vz l := by unfold vz; omega
theorem za4 (n : Nat) : 0 < (65536 : Int) ^ n := Int.pow_pos (by decide)
theorem vz_lt {l : List Int} (ok : OkD l) : vz l < (65536 : Int) ^ l.length := by
 have := zb9 ok
 unfold vz
 have e : ((65536 ^ l.length : Nat) : Int) = (65536 : Int) ^ l.length := by rw [Int.natCast_pow]; rfl
 rw [← e]; omega
theorem zdt {m n : Nat} (h : m ≤ n) : (65536 : Int) ^ m ≤ (65536 : Int) ^ n := by
 obtain ⟨d, rfl⟩ := Nat.le.dest h
 rw [Int.pow_add]
 have h1 := za4 m
 have h2 := za4 d
 have := Int.mul_le_mul_of_nonneg_left (show (1 : Int) ≤ (65536 : Int) ^ d by omega) (show (0 : Int) ≤ (65536 : Int) ^ m by omega)
 omega
theorem zd8 {mo cy X Y K a T b og sm w : Int} (he : mo + cy * (X * Y) = K + a * T * X) (hs : sm = og + a * b + cy) : mo + (sm - 65536 * w - og) * (X * Y) + w * (X * Y * 65536) = K + a * (T + b * Y) * X := by
 subst hs; grind
theorem zcy {a b o c : Int} (a0 : 0 ≤ a) (a1 : a < 65536) (b0 : 0 ≤ b) (b1 : b < 65536) (o0 : 0 ≤ o) (o1 : o < 65536) (c0 : 0 ≤ c) (c1 : c < 65536) : 0 ≤ a * b ∧ o + a * b + c ≤ 4294967295 := by
 have h0 := Int.mul_nonneg a0 b0
 have h1 : a * b ≤ 65535 * 65535 := Int.mul_le_mul (by omega) (by omega) b0 (by decide)
 omega
theorem zee {a b o c : Int} (a0 : 0 ≤ a) (a1 : a < 65536) (b0 : 0 ≤ b) (b1 : b < 65536) (o0 : 0 ≤ o) (o1 : o < 65536) (c0 : 0 ≤ c) (c1 : c < 65536) :
  IntKind.u64.wrap (IntKind.u64.wrap (o + IntKind.u64.wrap (a * b)) + c) = o + a * b + c := by
 obtain ⟨m0, m1⟩ := zcy a0 a1 b0 b1 o0 o1 c0 c1
 rw [u64 (x := a * b) m0 (by omega), u64 (x := o + a * b) (by omega) (by omega), u64 (by omega) (by omega)]
theorem zcp {P R a X : Int} : P * R + a * R * X = (P + a * X) * R := by grind
theorem zcz (l : List Int) (m : Nat) : vz (l.take m) ≤ vz l := by
 have := zba l m
 unfold vz
 omega
theorem timesG {x y : List Int} (okx : OkD x) (oky : OkD y) (lx : x.length ≤ 1000) (ly : y.length ≤ 1000) (s t : Bool) :
  ∃ o, OkD o ∧ o.length ≤ 2001 ∧ vz o = vz x * vz y ∧ Ev (fun k => Fi.f k s x t y) (((s != t) && decide (0 < vl o), dg (vl o))) := by
 obtain ⟨N, hN⟩ : ∃ N, N = x.length + y.length + 1 := ⟨_, rfl⟩
 have bound : vz x * vz y < (65536 : Int) ^ (x.length + y.length) := by
  have h1 := vz_lt okx; have h2 := vz_lt oky
  rw [Int.pow_add]
  have h3 := Int.mul_le_mul_of_nonneg_right (Int.le_of_lt h1) (zbe y)
  have h4 := Int.mul_lt_mul_of_pos_left h2 (za4 x.length)
  omega
 have rows : ∀ (d i : Nat) (o : List Int), i + d = x.length → o.length = N → OkD o → vz o = vz (x.take i) * vz y →
   ∃ o', OkD o' ∧ o'.length ≤ 2001 ∧ vz o' = vz x * vz y ∧ Ev (fun k => Fi.l0 k o (i : Int) s x t y) (((s != t) && decide (0 < vl o'), dg (vl o'))) := by
  intro d
  induction d with
  | zero =>
   intro i o hi ho oko he
   rw [List.take_of_length_le (l := x) (i := i) (by omega)] at he
   exact ⟨o, oko, by omega, he, Ev.step (fun k => by rw [Fi.l0]) (Ev.ncond (by omega) (Ev.bind (zal oko (by omega) (s != t)) (Ev.fin rfl)))⟩
  | succ d ih =>
   intro i o hi ho oko he
   have ii : i < x.length := by omega
   have dA := zaf okx i
   have full : vz (x.take (i + 1)) * vz y ≤ vz x * vz y := Int.mul_le_mul_of_nonneg_right (zcz x (i + 1)) (zbe y)
   have tk := zbg x okx i
   have rx : rd x (i : Int) = x.getD i 0 := zar x i
   obtain ⟨a, ea⟩ : ∃ a, a = x.getD i 0 := ⟨_, rfl⟩
   rw [← ea] at dA tk rx
   have inner : ∀ (u q : Nat) (o : List Int) (cy : Int), q + u = N → o.length = N → OkD o → 0 ≤ cy → cy < 65536 →
     vz o + cy * (65536 : Int) ^ (i + q) = vz (x.take i) * vz y + a * vz (y.take q) * (65536 : Int) ^ i →
     ∃ o', OkD o' ∧ o'.length ≤ 2001 ∧ vz o' = vz x * vz y ∧ Ev (fun k => Fi.l1 k o (i : Int) cy (q : Int) s x t y) (((s != t) && decide (0 < vl o'), dg (vl o'))) := by
    intro u
    have ends : ∀ (q : Nat) (o : List Int), ¬ q < y.length → o.length = N → OkD o → vz o + 0 * (65536 : Int) ^ (i + q) = vz (x.take i) * vz y + a * vz (y.take q) * (65536 : Int) ^ i →
      ∃ o', OkD o' ∧ o'.length ≤ 2001 ∧ vz o' = vz x * vz y ∧ Ev (fun k => Fi.l1 k o (i : Int) 0 (q : Int) s x t y) (((s != t) && decide (0 < vl o'), dg (vl o'))) := by
     intro q o hq ho oko he
     rw [List.take_of_length_le (l := y) (i := q) (by omega), Int.zero_mul, Int.add_zero] at he
     obtain ⟨o', h1, h2, h3, h4⟩ := ih (i + 1) o (by clear he; omega) ho oko (by rw [he, tk]; exact zcp)
     exact ⟨o', h1, h2, h3, Ev.step (fun k => by rw [Fi.l1]) (Ev.ncond (by clear he; omega) (Ev.ncond (by decide) (by rw [w64 (by clear he; omega) (by clear he; omega)]; exact h4)))⟩
    have off : ∀ (q : Nat) (o : List Int) (cy : Int), ¬ q < y.length → OkD o → 0 < cy → vz o + cy * (65536 : Int) ^ (i + q) = vz (x.take i) * vz y + a * vz (y.take q) * (65536 : Int) ^ i → i + q < x.length + y.length := by
     intro q o cy hq oko c0 he
     rw [List.take_of_length_le (l := y) (i := q) (by omega)] at he
     have e2 : vz (x.take i) * vz y + a * vz y * (65536 : Int) ^ i = vz (x.take (i + 1)) * vz y := by rw [tk]; exact zcp
     rw [e2] at he
     have n0 := zbe o
     rcases Nat.lt_or_ge (i + q) (x.length + y.length) with h | h
     ·exact h
     ·have h5 := zdt h
      have h6 := Int.mul_le_mul_of_nonneg_right (show (1 : Int) ≤ cy by clear he; omega) (Int.le_of_lt (za4 (i + q)))
      rw [Int.one_mul] at h6
      generalize (65536 : Int) ^ (i + q) = B1 at *
      generalize (65536 : Int) ^ (x.length + y.length) = B2 at *
      generalize cy * B1 = B3 at *
      generalize vz (x.take (i + 1)) * vz y = B4 at *
      generalize vz x * vz y = B5 at *
      omega
    induction u with
    | zero =>
     intro q o cy hq ho oko c0 c1 he
     have hq2 : ¬ q < y.length := by clear he; omega
     by_cases cz : cy = 0
     ·subst cz; exact ends q o hq2 ho oko he
     ·have := off q o cy hq2 oko (by clear he; omega) he
      clear he; omega
    | succ u ihu =>
     intro q o cy hq ho oko c0 c1 he
     have go : i + q < x.length + y.length → ∃ o', OkD o' ∧ o'.length ≤ 2001 ∧ vz o' = vz x * vz y ∧ Ev (fun k => Fi.l1 k (o.set (i + q) ((o.getD (i + q) 0 + a * y.getD q 0 + cy) % 65536)) (i : Int) ((o.getD (i + q) 0 + a * y.getD q 0 + cy) / 65536) ((q + 1 : Nat) : Int) s x t y) (((s != t) && decide (0 < vl o'), dg (vl o'))) := by
      intro hlt
      have dB := zaf oky q
      have dO := zaf oko (i + q)
      obtain ⟨sm, hsm⟩ : ∃ sm, sm = o.getD (i + q) 0 + a * y.getD q 0 + cy := ⟨_, rfl⟩
      have s01 : 0 ≤ sm ∧ sm ≤ 4294967295 := by
       obtain ⟨m0, m1⟩ := zcy dA.1 dA.2 dB.1 dB.2 dO.1 dO.2 c0 c1
       rw [hsm]
       clear he
       exact ⟨by omega, m1⟩
      rw [← hsm]
      have key : vz (o.set (i + q) (sm % 65536)) + sm / 65536 * (65536 : Int) ^ (i + (q + 1)) = vz (x.take i) * vz y + a * vz (y.take (q + 1)) * (65536 : Int) ^ i := by
       have z : sm % 65536 = sm - 65536 * (sm / 65536) := by clear he hsm; omega
       rw [zdb o (i + q) (sm % 65536) oko (by clear he hsm; omega) (by clear he hsm; omega), zbg y oky q, show i + (q + 1) = (i + q) + 1 from rfl, Int.pow_succ, z, Int.pow_add]
       rw [Int.pow_add] at he
       exact zd8 he hsm
      clear he hsm
      exact ihu (q + 1) _ _ (by omega) (by rw [List.length_set]; exact ho) (zcq oko _ (by omega) (by omega)) (by omega) (by omega) key
     have stp : i + q < x.length + y.length → ∀ k, (if 0 ≤ wrap64 ((i : Int) + (q : Int)) then (if wrap64 ((i : Int) + (q : Int)) < (o.length : Int) then (if 0 ≤ (i : Int) then (if (i : Int) < (x.length : Int) then ((Fib.f t y (q : Int)).bind fun t488 => (Fi.l1 k (o.set ((wrap64 ((i : Int) + (q : Int))) : Int).toNat (Go.bits .and .u64 (IntKind.u64.wrap ((IntKind.u64.wrap ((rd o (wrap64 ((i : Int) + (q : Int)))) + (IntKind.u64.wrap ((rd x (i : Int)) * t488)))) + cy)) 65535)) (i : Int) ((IntKind.u64.wrap ((IntKind.u64.wrap ((rd o (wrap64 ((i : Int) + (q : Int)))) + (IntKind.u64.wrap ((rd x (i : Int)) * t488)))) + cy)) / 65536) (wrap64 ((q : Int) + 1)) s x t y)) else (none)) else (none)) else (none)) else (none)) =
       Fi.l1 k (o.set (i + q) ((o.getD (i + q) 0 + a * y.getD q 0 + cy) % 65536)) (i : Int) ((o.getD (i + q) 0 + a * y.getD q 0 + cy) / 65536) ((q + 1 : Nat) : Int) s x t y := by
      intro hlt k
      clear he ends off
      have dB := zaf oky q
      have dO := zaf oko (i + q)
      obtain ⟨m0, m1⟩ := zcy dA.1 dA.2 dB.1 dB.2 dO.1 dO.2 c0 c1
      rw [w64 (x := (i : Int) + (q : Int)) (by omega) (by omega), show ((i : Int) + (q : Int)) = ((i + q : Nat) : Int) by omega, if_pos (by omega), if_pos (by omega), if_pos (by omega), if_pos (by omega), za0, Option.bind_some, zar, rx, zee dA.1 dA.2 dB.1 dB.2 dO.1 dO.2 c0 c1, za9 (by omega) (by omega), Int.toNat_natCast, w64 (x := (q : Int) + 1) (by omega) (by omega)]
      rfl
     by_cases hq2 : q < y.length
     ·obtain ⟨o', h1, h2, h3, h4⟩ := go (by clear he; omega)
      refine ⟨o', h1, h2, h3, Ev.step (fun k => by rw [Fi.l1]) (Ev.cond (by clear he; omega) (Ev.congr (fun k => stp (by clear he; omega) k) h4))⟩
     ·by_cases cz : cy = 0
      ·subst cz; exact ends q o hq2 ho oko he
      ·have hlt := off q o cy hq2 oko (by clear he; omega) he
       obtain ⟨o', h1, h2, h3, h4⟩ := go hlt
       exact ⟨o', h1, h2, h3, Ev.step (fun k => by rw [Fi.l1]) (Ev.ncond (by clear he; omega) (Ev.cond (by clear he; omega) (Ev.congr (fun k => stp hlt k) h4)))⟩
   obtain ⟨o', h1, h2, h3, h4⟩ := inner N 0 o 0 (by omega) ho oko (by omega) (by omega) (by rw [List.take_zero, show vz [] = 0 from rfl, he]; simp)
   have h4' : Ev (fun k => Fi.l1 k o (i : Int) 0 0 s x t y) (((s != t) && decide (0 < vl o'), dg (vl o'))) := h4
   exact ⟨o', h1, h2, h3, Ev.step (fun k => by rw [Fi.l0]) (Ev.cond (by clear he; omega) h4')⟩
 obtain ⟨o, h1, h2, h3, h4⟩ := rows x.length 0 (List.replicate N 0) (by omega) (by simp) (fun d hd => by rw [(List.mem_replicate.1 hd).2]; decide) (by
  rw [List.take_zero, show vz [] = 0 from rfl, Int.zero_mul]
  unfold vz
  rw [zb1 (fun i => by rw [List.getD_eq_getElem?_getD, List.getElem?_replicate]; split <;> rfl)]; rfl)
 refine ⟨o, h1, h2, h3, Ev.congr (fun k => by rw [Fi.f]) ?_⟩
 rw [w64 (x := (x.length : Int) + (y.length : Int)) (by omega) (by omega), w64 (x := (x.length : Int) + (y.length : Int) + 1) (by omega) (by omega), show ((x.length : Int) + (y.length : Int) + 1) = ((N : Nat) : Int) by omega, Int.toNat_natCast]
 exact Ev.cond (by omega) (Ev.cond (by omega) h4)
theorem zdf {a b : Int} (ha : a.natAbs < big) (hb : b.natAbs < big) : Ev (fun k => Fi.f k (neg a) (mag a) (neg b) (mag b)) (neg (a * b), mag (a * b)) := by
 obtain ⟨o, h1, h2, h3, h4⟩ := timesG (zae a) (zae b) (Nat.le_trans (zam ha) (by omega)) (Nat.le_trans (zam hb) (by omega)) (neg a) (neg b)
 have e : vl o = (a * b).natAbs := by
  unfold vz at h3
  rw [zab, zab] at h3
  rw [Int.natAbs_mul]
  exact_mod_cast h3
 rw [e] at h4
 have e1 : ((neg a != neg b) && decide (0 < (a * b).natAbs)) = neg (a * b) := by
  unfold neg
  by_cases a0 : a = 0
  ·subst a0; simp
  by_cases b0 : b = 0
  ·subst b0; simp
  have p : 0 < (a * b).natAbs := Int.natAbs_pos.2 (Int.mul_ne_zero a0 b0)
  rw [decide_eq_true p, Bool.and_true]
  by_cases h1 : a < 0 <;> by_cases h2 : b < 0
  ·have := Int.mul_pos_of_neg_of_neg h1 h2
   simp [h1, h2]; omega
  ·have := Int.mul_neg_of_neg_of_pos h1 (show 0 < b by omega)
   simp [h1, h2, this]
  ·have := Int.mul_neg_of_pos_of_neg (show 0 < a by omega) h2
   simp [h1, h2, this]
  ·have := Int.mul_pos (show 0 < a by omega) (show 0 < b by omega)
   simp [h1, h2]; omega
 rw [e1] at h4
 exact h4
end Go.Proofs.Ythgoonohpfoagaa.Pure
namespace Go.Proofs.Ythgoonohpfoagaa.Pure
open Go.RowKit Go.Proofs.YthgoonohpfoagaaW.PrintWords Go.Proofs.YthgoonohpfoagaaW.PrintLast Go.Proofs.YthgoonohpfoagaaW.PrintMore Go.Proofs.Ythgoonohpfoagaa.X
set_option linter.unusedVariables false
theorem zbv {a m : Int} (ha : R64 a) (m1 : 1 ≤ m) (m2 : m ≤ 9223372036854775807) : Ev (fun k => Fhb.f k a m) (a % m, 0) := by
 obtain ⟨a0, a1⟩ := ha
 have r0 := Int.emod_nonneg a (show m ≠ 0 by omega)
 have r1 := Int.emod_lt_of_pos a (show 0 < m by omega)
 have dm := Int.mul_ediv_add_emod a m
 obtain ⟨q, hq⟩ : ∃ q, q = a / m := ⟨_, rfl⟩
 have q0 : -9223372036854775808 ≤ q ∧ q ≤ 9223372036854775807 := by
  rw [hq]
  by_cases c : 0 ≤ a
  ·have h1 := Int.ediv_nonneg c (show 0 ≤ m by omega)
   have h2 := Int.ediv_le_self m c
   omega
  ·have h1 := Int.ediv_neg_of_neg_of_pos (show a < 0 by omega) (show 0 < m by omega)
   have h2 : a ≤ a / m := by
    have := Int.le_ediv_of_mul_le (show 0 < m by omega) (show a * m ≤ a by
     have := Int.mul_le_mul_of_nonpos_left (show a ≤ 0 by omega) m1
     omega)
    exact this
   omega
 rw [← hq] at dm
 have qm : (q * m).natAbs < big := by
  have : q * m = a - a % m := by rw [Int.mul_comm]; omega
  rw [this]
  exact zaa (by omega) (by omega)
 have fl := zdd (a := a) (b := m) a0 a1 (by omega) (by omega)
 have ef : zbw a m = (q, 0) := by
  unfold zbw
  rw [if_neg (by omega), Int.fdiv_eq_ediv_of_nonneg a (show 0 ≤ m by omega), ← hq]
  unfold zan
  rw [if_pos q0]
 rw [ef] at fl
 have tm := zdf (a := q) (b := m) (zaa (by omega) (by omega)) (zaa (by omega) (by omega))
 have mn := zap (n := q * m) qm
 have pl := zad (n := a) (m := -(q * m)) (zaa (by omega) (by omega)) (by rw [Int.natAbs_neg]; exact qm)
 have es : a + -(q * m) = a % m := by rw [Int.mul_comm q m]; omega
 rw [es] at pl
 have td := zaz (n := a % m) (zaa (by omega) (by omega))
 have et : zan (a % m) = (a % m, 0) := by unfold zan; rw [if_pos ⟨by omega, by omega⟩]
 rw [et] at td
 exact Ev.congr (fun k => by rw [Fhb.f]) (Ev.ncond (by omega) (Ev.bind fl (Ev.bind (zac a0 a1) (Ev.bind (zac q0.1 q0.2) (Ev.bind (zac (n := m) (by omega) (by omega)) (Ev.bind tm (Ev.bind mn (Ev.bind pl (Ev.bind td (Ev.fin rfl))))))))))
theorem zeg (i : Nat) : IntKind.u64.wrap (Int.tmod (i : Int) 16) = ((i % 16 : Nat) : Int) := by
 rw [Int.tmod_eq_emod_of_nonneg (by omega), u64 (by omega) (by omega)]; omega
theorem div16 (i : Nat) (h : i ≤ 1000000) : wrap64 (Int.tdiv (i : Int) 16) = ((i / 16 : Nat) : Int) := by
 rw [Int.tdiv_eq_ediv_of_nonneg (by omega), w64 (by omega) (by omega)]; omega
theorem zcb {n m : Int} (hn : n.natAbs < big) (m1 : 1 ≤ m) (m2 : m ≤ 9223372036854775807) : Ev (fun k => Flc.f k (neg n) (mag n) m) (decide (m ∣ n)) := by
 have ml := zam hn
 obtain ⟨X, hX⟩ : ∃ X : Nat, X = n.natAbs := ⟨_, rfl⟩
 obtain ⟨M, hM⟩ : ∃ M : Nat, (M : Int) = m := ⟨m.toNat, by omega⟩
 have M1 : 1 ≤ M := by omega
 have M2 : M ≤ 9223372036854775807 := by omega
 have key : ∀ (i : Nat), i ≤ (mag n).length * 16 → Ev (fun k => Flc.l0 k ((i : Int) - 1) (neg n) (mag n) (neg ((X / 2 ^ i % M : Nat) : Int)) (mag ((X / 2 ^ i % M : Nat) : Int)) (neg m) (mag m)) (decide (m ∣ n)) := by
  intro i
  induction i with
  | zero =>
   intro _
   refine Ev.step (fun k => by rw [Flc.l0]) (Ev.ncond (by omega) (Ev.fin ?_))
   rw [Nat.pow_zero, Nat.div_one]
   have h1 : (m ∣ n) ↔ X % M = 0 := by
    rw [← hM, hX, Int.ofNat_dvd_left]
    exact Nat.dvd_iff_mod_eq_zero
   rw [Bool.eq_iff_iff, beq_iff_eq, decide_eq_true_iff, h1]
   have h2 := zat (X % M)
   omega
  | succ i ih =>
   intro hi
   have e1 : ((i + 1 : Nat) : Int) - 1 = (i : Int) := by omega
   rw [e1]
   obtain ⟨R, hR⟩ : ∃ R : Nat, R = X / 2 ^ (i + 1) % M := ⟨_, rfl⟩
   have R1 : R < M := by rw [hR]; exact Nat.mod_lt _ (by omega)
   obtain ⟨B, hB⟩ : ∃ B : Nat, B = X / 2 ^ i % 2 := ⟨_, rfl⟩
   have B1 : B < 2 := by rw [hB]; exact Nat.mod_lt _ (by omega)
   have rdd : rd (mag n) ((i / 16 : Nat) : Int) = ((X / 65536 ^ (i / 16) % 65536 : Nat) : Int) := by
    rw [zar, mag, zcs, hX]
   have step : (2 * R + B) % M = X / 2 ^ i % M := by
    have e2 : X / 2 ^ i = 2 * (X / 2 ^ (i + 1)) + B := by
     rw [hB, Nat.pow_succ, ← Nat.div_div_eq_div_mul]; omega
    rw [e2, hR]
    rw [Nat.add_mod, Nat.mul_mod, Nat.mod_mod, ← Nat.mul_mod, ← Nat.add_mod]
   rw [← hR]
   have p1 := zad (n := (R : Int)) (m := (R : Int)) (zaa (by omega) (by omega)) (zaa (by omega) (by omega))
   have p2 := zad (n := (R : Int) + (R : Int)) (m := (B : Int)) (zaa (by omega) (by omega)) (zaa (by omega) (by omega))
   have ob := zac (n := (B : Int)) (by omega) (by omega)
   have sz := zbm (zae ((R : Int) + (R : Int) + (B : Int))) (zae m) (zas (zaa (by omega) (by omega))) (zas (zaa (by omega) (by omega))) (neg ((R : Int) + (R : Int) + (B : Int))) (neg m)
   rw [zab, zab] at sz
   refine Ev.step (fun k => by rw [Flc.l0]) (Ev.cond (by omega) (Ev.bind p1 ?_))
   rw [div16 i (by omega), zeg, rdd, zb3 X i B hB]
   refine Ev.cond (by omega) (Ev.cond (by omega) (Ev.cond (by omega) (Ev.bind ob (Ev.bind p2 (Ev.bind sz ?_)))))
   clear rdd p1 p2 ob sz
   rw [w64 (x := (i : Int) - 1) (by omega) (by omega)]
   by_cases c : M ≤ 2 * R + B
   ·have ge : cmpN ((R : Int) + (R : Int) + (B : Int)).natAbs m.natAbs ≥ 0 := by
     unfold cmpN
     rw [if_neg (by omega)]
     split <;> omega
    have mi := zap (n := m) (zaa (by omega) (by omega))
    have p3 := zad (n := (R : Int) + (R : Int) + (B : Int)) (m := -m) (zaa (by omega) (by omega)) (zaa (by omega) (by omega))
    have nx := ih (by omega)
    have e3 : X / 2 ^ i % M = 2 * R + B - M := by rw [← step, Nat.mod_eq_sub_mod c, Nat.mod_eq_of_lt (by omega)]
    rw [e3] at nx
    rw [show (R : Int) + (R : Int) + (B : Int) + -m = ((2 * R + B - M : Nat) : Int) by omega] at p3
    exact Ev.cond ge (Ev.bind mi (Ev.bind p3 nx))
   ·have lt : ¬ cmpN ((R : Int) + (R : Int) + (B : Int)).natAbs m.natAbs ≥ 0 := by
     unfold cmpN
     rw [if_pos (by omega)]
     decide
    have nx := ih (by omega)
    have e3 : X / 2 ^ i % M = 2 * R + B := by rw [← step, Nat.mod_eq_of_lt (by omega)]
    rw [e3] at nx
    rw [show (R : Int) + (R : Int) + (B : Int) = ((2 * R + B : Nat) : Int) by omega]
    exact Ev.ncond (by rw [show ((2 * R + B : Nat) : Int) = (R : Int) + (R : Int) + (B : Int) by omega]; exact lt) nx
 have h0 := key ((mag n).length * 16) (Nat.le_refl _)
 have z : X / 2 ^ ((mag n).length * 16) % M = 0 := by
  have h1 := zb9 (zae n)
  rw [zab, ← hX] at h1
  have h2 : (65536 : Nat) ^ (mag n).length = 2 ^ ((mag n).length * 16) := by rw [Nat.mul_comm, Nat.pow_mul]
  rw [h2] at h1
  rw [Nat.div_eq_of_lt h1, Nat.zero_mod]
 rw [z] at h0
 refine Ev.congr (fun k => by rw [Flc.f]) (Ev.bind (zac (n := 0) (by omega) (by omega)) (Ev.bind (zac (n := m) (by omega) (by omega)) ?_))
 rw [w64 (x := ((mag n).length : Int) * 16) (by omega) (by omega), w64 (by omega) (by omega), show ((mag n).length : Int) * 16 = (((mag n).length * 16 : Nat) : Int) by omega]
 exact h0
end Go.Proofs.Ythgoonohpfoagaa.Pure
namespace Go.Proofs.Ythgoonohpfoagaa.Pure
open Go.RowKit Go.Proofs.YthgoonohpfoagaaW.PrintWords Go.Proofs.YthgoonohpfoagaaW.PrintLast Go.Proofs.YthgoonohpfoagaaW.PrintMore Go.Proofs.Ythgoonohpfoagaa.X
set_option linter.unusedVariables false
theorem zde {l : List Int} (hl : l.length ≤ 17592186044415) (hw : ∀ x ∈ l, R64 x) : Ev (fun k => Fia.f k l) (zan (absS l)) := by
 have key : ∀ (m i : Nat) (s : Nat), i + m = l.length → s ≤ i * 9223372036854775808 → Ev (fun k => Fia.l0 k l (i : Int) (neg (s : Int)) (mag (s : Int))) (zan ((s : Int) + absS (l.drop i))) := by
  intro m
  induction m with
  | zero =>
   intro i s hi hs
   rw [List.drop_of_length_le (by omega), absS, Int.add_zero]
   have sb : s ≤ 162259276829213354603544576327680 := Nat.le_trans hs (Nat.le_trans (Nat.mul_le_mul_right _ (show i ≤ 17592186044415 by omega)) (by decide))
   have td := zaz (n := (s : Int)) (by rw [Int.natAbs_natCast]; exact zbf (Nat.lt_of_le_of_lt sb (by decide)))
   exact Ev.step (fun k => by rw [Fia.l0]) (Ev.ncond (by omega) (Ev.bind td (Ev.fin rfl)))
  | succ m ih =>
   intro i s hi hs
   have ii : i < l.length := by omega
   have rc : rd l (i : Int) = l[i] := zbc l ii
   obtain ⟨r0, r1⟩ := hw _ (List.getElem_mem ii)
   have sb : s ≤ 162259276829213354603544576327680 := Nat.le_trans hs (Nat.le_trans (Nat.mul_le_mul_right _ (show i ≤ 17592186044415 by omega)) (by decide))
   have pl := zad (n := (s : Int)) (m := (l[i].natAbs : Int)) (by rw [Int.natAbs_natCast]; exact zbf (Nat.lt_of_le_of_lt sb (by decide))) (zaa (by omega) (by omega))
   rw [negN l[i].natAbs, zbn] at pl
   have nxt := ih (i + 1) (s + l[i].natAbs) (by omega) (by
    have : l[i].natAbs ≤ 9223372036854775808 := by omega
    rw [Nat.succ_mul]
    exact Nat.add_le_add hs this)
   rw [List.drop_eq_getElem_cons ii, absS]
   rw [show ((s : Int) + ((l[i].natAbs : Int) + absS (l.drop (i + 1)))) = (((s + l[i].natAbs : Nat) : Int) + absS (l.drop (i + 1))) by omega]
   rw [show (s : Int) + (l[i].natAbs : Int) = ((s + l[i].natAbs : Nat) : Int) by omega] at pl
   refine Ev.step (fun k => by rw [Fia.l0]) (Ev.cond (by omega) (Ev.cond (by omega) ?_))
   rw [rc, w64 (by omega) (by omega)]
   exact Ev.bind (zac r0 r1) (Ev.bind pl nxt)
 have h := key l.length 0 0 (by omega) (by simp)
 rw [List.drop_zero, show (((0 : Nat) : Int)) = 0 from rfl, Int.zero_add] at h
 exact Ev.congr (fun k => by rw [Fia.f]) (Ev.bind (zac (n := 0) (by omega) (by omega)) h)
theorem zcw (kind bound md : Int) (names : List ByteArray) (coefs : List Int) (h0 : names.length * 16 ≤ 140737488351232) (hs : ∀ x ∈ names, x.size ≤ 9223372036854775807) (h1 : coefs.length * 8 ≤ 140737488351232)
  (hw : ∀ x ∈ coefs, (Lit.int .i64 x).wf = true) (hb : (Lit.int .i64 bound).wf = true) : Ev (fun k => Flb.f k kind names coefs bound md) (zbj kind names coefs bound md) := by
 have bad : Ev (fun k => Flb.j0 k kind true kind names coefs bound md) false := Ev.step (fun k => by rw [Flb.j0]) (Ev.cond rfl (Ev.fin rfl))
 have bad1 : Ev (fun k => Flb.j1 k kind true kind names coefs bound md) false := Ev.step (fun k => by rw [Flb.j1]) (Ev.cond rfl (Ev.fin rfl))
 refine Ev.congr (fun k => by rw [Flb.f]) ?_
 unfold zbj
 by_cases c0 : kind < 0
 ·rw [decide_eq_false (show ¬ 0 ≤ kind by omega), Bool.false_and]
  exact Ev.cond c0 bad
 by_cases c2 : kind > 2
 ·rw [decide_eq_false (show ¬ kind ≤ 2 by omega), Bool.false_and, Bool.and_false]
  exact Ev.ncond c0 (Ev.cond c2 bad)
 rw [decide_eq_true (show 0 ≤ kind by omega), decide_eq_true (show kind ≤ 2 by omega), Bool.true_and, Bool.true_and]
 refine Ev.ncond c0 (Ev.ncond c2 (Ev.bind (zdj names (by omega) hs) ?_))
 cases hr : zbx names with
 | false => rw [Bool.false_and]; exact Ev.ncond (by decide) bad
 | true =>
  rw [Bool.true_and]
  refine Ev.cond rfl ?_
  by_cases ln : names.length = coefs.length
  rotate_left
  ·rw [decide_eq_false ln, Bool.false_and, show ((names.length : Int) != (coefs.length : Int)) = true by simp; omega]
   exact bad
  rw [decide_eq_true ln, Bool.true_and, show ((names.length : Int) != (coefs.length : Int)) = false by simp [ln]]
  refine Ev.step (fun k => by rw [Flb.j0]) (Ev.ncond (by decide) (Ev.ret rfl ?_))
  have tw := zde (l := [bound] ++ coefs) (by simp; omega) (fun x hx => by
   rcases List.mem_append.1 hx with h | h
   ·rw [List.mem_singleton.1 h]; exact za7 hb
   ·exact za7 (hw x h))
  refine Ev.cond (by simp; omega) (Ev.bind tw ?_)
  have ab : absS ([bound] ++ coefs) = absS (bound :: coefs) := rfl
  have an := zau (bound :: coefs)
  rw [ab]
  unfold zan
  by_cases tot : absS (bound :: coefs) ≤ 9223372036854775807
  rotate_left
  ·rw [decide_eq_false tot, Bool.false_and, if_neg (by omega)]
   exact Ev.ncond (by decide) bad1
  rw [decide_eq_true tot, Bool.true_and, if_pos ⟨by omega, tot⟩]
  refine Ev.cond rfl ?_
  by_cases k2 : kind = 2
  ·rw [if_pos k2]
   refine Ev.cond k2 ?_
   by_cases m1 : md < 1
   ·rw [decide_eq_false (show ¬ 1 ≤ md by omega), Bool.false_and]
    exact Ev.cond m1 bad1
   rw [decide_eq_true (show 1 ≤ md by omega), Bool.true_and, List.all_cons]
   by_cases b0 : bound < 0
   ·rw [decide_eq_false (show ¬ 0 ≤ bound by omega), Bool.false_and, Bool.false_and]
    exact Ev.ncond m1 (Ev.cond b0 bad1)
   rw [decide_eq_true (show 0 ≤ bound by omega), Bool.true_and]
   refine Ev.ncond m1 (Ev.ncond b0 ?_)
   by_cases b1 : bound ≥ md
   ·rw [decide_eq_false (show ¬ bound < md by omega), Bool.false_and, decide_eq_true b1]
    exact bad1
   rw [decide_eq_true (show bound < md by omega), Bool.true_and, decide_eq_false b1]
   refine Ev.step (fun k => by rw [Flb.j1]) (Ev.ncond (by decide) ?_)
   have key : ∀ (m i : Nat), i + m = coefs.length → Ev (fun k => Flb.l0 k kind (i : Int) kind names coefs bound md) ((coefs.drop i).all fun c => decide (0 ≤ c) && decide (c < md)) := by
    intro m
    induction m with
    | zero =>
     intro i hi
     rw [List.drop_of_length_le (by omega), List.all_nil]
     exact Ev.step (fun k => by rw [Flb.l0]) (Ev.ncond (by omega) (Ev.step (fun k => by rw [Flb.j3]) (Ev.ncond (by decide) (Ev.fin rfl))))
    | succ m ih =>
     intro i hi
     have ii : i < coefs.length := by omega
     have rc : rd coefs (i : Int) = coefs[i] := zbc coefs ii
     refine Ev.step (fun k => by rw [Flb.l0]) (Ev.cond (by omega) ?_)
     rw [show (kind == 2) = true by rw [k2]; rfl, List.drop_eq_getElem_cons ii, List.all_cons]
     refine Ev.step (fun k => by rw [Flb.j3]) (Ev.cond rfl (Ev.cond (by omega) (Ev.cond (by omega) ?_)))
     rw [rc, w64 (by omega) (by omega)]
     by_cases x0 : coefs[i] < 0
     ·rw [decide_eq_false (show ¬ 0 ≤ coefs[i] by omega), Bool.false_and, Bool.false_and]
      exact Ev.cond x0 (Ev.fin rfl)
     by_cases x1 : coefs[i] ≥ md
     ·rw [decide_eq_false (show ¬ coefs[i] < md by omega), Bool.and_false, Bool.false_and]
      exact Ev.ncond x0 (Ev.cond x1 (Ev.fin rfl))
     rw [decide_eq_true (show 0 ≤ coefs[i] by omega), decide_eq_true (show coefs[i] < md by omega), Bool.true_and, Bool.true_and]
     exact Ev.ncond x0 (Ev.ncond x1 (ih (i + 1) (by omega)))
   have h := key coefs.length 0 (by omega)
   rw [List.drop_zero] at h
   exact h
  ·rw [if_neg k2]
   refine Ev.ncond k2 ?_
   by_cases m0 : md = 0
   ·rw [decide_eq_true m0]
    refine Ev.cond m0 (Ev.step (fun k => by rw [Flb.j1]) (Ev.ncond (by decide) (Ev.step (fun k => by rw [Flb.l0]) ?_)))
    have ft : Ev (fun k => Flb.j3 k kind 0 false kind names coefs bound md) true := Ev.step (fun k => by rw [Flb.j3]) (Ev.ncond (by decide) (Ev.fin rfl))
    rw [show (kind == 2) = false by simp [k2]]
    exact Ev.ite (fun _ => ft) (fun _ => ft)
   ·rw [decide_eq_false m0]
    exact Ev.ncond m0 bad1
structure PlN (kind : Int) (p : Fa.Place) : Prop where
 r : R64 p.1
 m0 : kind ≠ 2 → p.2.1 = 0
 md : p.2.2.2.1 = false → kind = 2 → PlMod p
theorem PlN.none (kind : Int) : PlN kind (0, 0, false, true, false) := ⟨⟨by decide, by decide⟩, fun _ => rfl, fun h => by cases h⟩
theorem zec {kind : Int} (k0 : 0 ≤ kind) (k2 : kind ≤ 2) {p : Fa.Place} (hp : PlN kind p) {s : Int} (hs : (s.natAbs : Int) ≤ 9223372036854775807) (hs2 : kind = 2 → 0 ≤ s) :
  ∃ z, Fa.to kind p s = some z ∧ PlN kind z ∧ Ev (fun k => Fna.f k kind p.1 p.2.1 p.2.2.2.2 p.2.2.1 p.2.2.2.1 (neg s) (mag s)) (z.1, z.2.1, z.2.2.2.2, z.2.2.1, z.2.2.2.1) := by
 by_cases nn : p.2.2.2.1 = true
 ·refine ⟨(0, 0, false, true, false), ?_, PlN.none kind, Ev.congr (fun k => by rw [Fna.f]) (Ev.cond nn (Ev.fin rfl))⟩
  unfold Fa.to Fb.f
  rw [if_pos nn]; rfl
 have nf : p.2.2.2.1 = false := by simpa using nn
 obtain ⟨r0, r1⟩ := hp.r
 have sr : R64 s := ⟨by omega, by omega⟩
 have of := zac r0 r1
 have up := zad (n := p.1) (m := s) (zaa (by omega) (by omega)) (zaa (by omega) (by omega))
 have mi := zap (n := s) (zaa (by omega) (by omega))
 have dn := zad (n := p.1) (m := -s) (zaa (by omega) (by omega)) (zaa (by omega) (by omega))
 by_cases c0 : kind = 0
 ·subst c0
  have e := to_le hp.r sr (by omega) nf
  have fl := zc5 (n := p.1 + -s) (by omega) (by omega)
  refine ⟨_, e, ⟨zcr hp.r sr, fun _ => rfl, fun _ h => by cases h⟩, Ev.congr (fun k => by rw [Fna.f]) (Ev.ncond nn (Ev.bind of (Ev.bind up (Ev.bind mi (Ev.bind dn ?_)))))⟩
  refine Ev.cond (show (0 : Int) = 0 from rfl) ?_
  refine Ev.bind fl ?_
  refine Ev.fin ?_
  simp only [Prod.mk.injEq, and_true]
  refine ⟨by omega, hp.m0 (by decide), ?_⟩
  unfold neg
  rw [← decide_not]
  exact decide_eq_decide.2 (by omega)
 by_cases c1 : kind = 1
 ·subst c1
  have e := to_eq hp.r sr (by omega) nf
  refine ⟨_, e, ?_, Ev.congr (fun k => by rw [Fna.f]) (Ev.ncond nn (Ev.bind of (Ev.bind up (Ev.bind mi (Ev.bind dn (Ev.ncond c0 (Ev.cond rfl (Ev.ret (zbz _) ?_))))))))⟩
  ·by_cases c : p.1 % 2 = s % 2
   ·rw [if_pos c]; exact ⟨zcr hp.r sr, fun _ => rfl, fun _ h => by cases h⟩
   ·rw [if_neg c]; exact PlN.none 1
  ·by_cases c : p.1 % 2 = s % 2
   ·rw [if_pos c, decide_eq_false (by omega)]
    refine Ev.ncond (by decide) (Ev.bind (zax (by omega) (zaa (by omega) (by omega)) ⟨by omega, by omega⟩) (Ev.fin ?_))
    simp only [Prod.mk.injEq, and_true]
    refine ⟨by omega, hp.m0 (by decide), ?_⟩
    rw [Bool.eq_iff_iff, beq_iff_eq, decide_eq_true_iff]
    have h := zat (p.1 + s).natAbs
    rw [zbn] at h
    omega
   ·rw [if_neg c, decide_eq_true (by omega)]
    exact Ev.cond rfl (Ev.fin rfl)
 obtain rfl : kind = 2 := by omega
 have pm := hp.md nf rfl
 have s0 := hs2 rfl
 have p0 := pm.r0
 have p1 := pm.r1
 have p2 := pm.m2
 obtain ⟨z, e, hz⟩ := to_mod pm s0 (by omega)
 have mu := zcb (n := p.1 + s) (m := p.2.1) (zaa (by omega) (by omega)) (by omega) p2
 have tm : Int.tmod p.2.1 2 = p.2.1 % 2 := Int.tmod_eq_emod_of_nonneg (by omega)
 have uni : ∀ W : Int, p.2.1 ∣ (s + 2 * W - p.1) → z.2.1 ∣ (W - z.1) → 0 ≤ W → W < z.2.1 → PlMod z → W = z.1 := fun W _ h w0 w1 ok => by
  have q0 := ok.r0
  have q1 := ok.r1
  by_cases c : 0 ≤ W - z.1
  ·have := zao (m := z.2.1) c (by omega) h; omega
  ·have := zao (m := z.2.1) (x := z.1 - W) (by omega) (by omega) (by rw [show z.1 - W = -(W - z.1) by omega, Int.dvd_neg]; exact h)
   omega
 refine ⟨z, e, ?_, Ev.congr (fun k => by rw [Fna.f]) (Ev.ncond nn (Ev.bind of (Ev.bind up (Ev.bind mi (Ev.bind dn (Ev.ncond c0 (Ev.ncond c1 (Ev.bind mu ?_))))))))⟩
 ·rcases hz with ⟨rfl, _⟩ | ⟨ok, _⟩
  ·exact PlN.none 2
  ·have q0 := ok.r0
   have q1 := ok.r1
   have q2 := ok.m2
   exact ⟨⟨by omega, by omega⟩, fun h => absurd rfl h, fun _ _ => ok⟩
 rw [tm]
 by_cases me : p.2.1 % 2 = 0
 ·refine Ev.cond me (Ev.ret (zbz _) ?_)
  by_cases de : (p.1 + -s) % 2 = 1
  ·rw [decide_eq_true de]
   rcases hz with ⟨rfl, _⟩ | ⟨ok, _, _, hm, hz⟩
   ·exact Ev.cond rfl (Ev.fin rfl)
   ·have h := (hz z.1).2 (by rw [Int.sub_self]; exact Int.dvd_zero _)
    obtain ⟨c, hc⟩ := h
    have em : p.2.1 = 2 * (p.2.1 / 2) := by omega
    rw [em, Int.mul_assoc] at hc
    omega
  ·rw [decide_eq_false de]
   rcases hz with ⟨rfl, hz⟩ | ⟨ok, ht, hst, hm, hz⟩
   ·exact absurd (show p.2.1 ∣ (s + 2 * ((p.1 + -s) / 2) - p.1) by rw [show s + 2 * ((p.1 + -s) / 2) - p.1 = 0 by omega]; exact Int.dvd_zero _) (hz _)
   ·rw [if_pos me] at hm
    have td : Int.tdiv p.2.1 2 = p.2.1 / 2 := Int.tdiv_eq_ediv_of_nonneg (by omega)
    have hh := zax (n := p.1 + -s) (by omega) (zaa (by omega) (by omega)) ⟨by omega, by omega⟩
    have rr := zbv (a := (p.1 + -s) / 2) (m := p.2.1 / 2) ⟨by omega, by omega⟩ (by omega) (by omega)
    have w0 := Int.emod_nonneg ((p.1 + -s) / 2) (show p.2.1 / 2 ≠ 0 by omega)
    have w1 := Int.emod_lt_of_pos ((p.1 + -s) / 2) (show 0 < p.2.1 / 2 by omega)
    have dv : p.2.1 ∣ (s + 2 * ((p.1 + -s) / 2 % (p.2.1 / 2)) - p.1) := by
     have h := zay ((p.1 + -s) / 2) (p.2.1 / 2)
     have h2 := (zbd me).2 h
     rw [show s + 2 * ((p.1 + -s) / 2 % (p.2.1 / 2)) - p.1 = -(2 * ((p.1 + -s) / 2 - (p.1 + -s) / 2 % (p.2.1 / 2))) by omega, Int.dvd_neg]
     exact h2
    have eq := uni _ dv ((hz _).1 dv) w0 (by rw [hm]; exact w1) ok
    rw [td, w64 (by omega) (by omega)]
    refine Ev.ncond (by decide) (Ev.bind hh (Ev.bind rr (Ev.fin ?_)))
    rw [eq, hm, ht, hst, ok.no]
 ·have me' : p.2.1 % 2 = 1 := by omega
  refine Ev.ncond me (Ev.ret (zbz _) ?_)
  have fin : ∀ D : Int, (p.2.1 ∣ (D - (p.1 + -s))) → D % 2 = 0 → ((D / 2) % p.2.1, p.2.1, decide (p.2.1 ∣ (p.1 + s)), false, false) = (z.1, z.2.1, z.2.2.2.2, z.2.2.1, z.2.2.2.1) := fun D hD h2 => by
   have w0 := Int.emod_nonneg (D / 2) (show p.2.1 ≠ 0 by omega)
   have w1 := Int.emod_lt_of_pos (D / 2) (show 0 < p.2.1 by omega)
   have dv : p.2.1 ∣ (s + 2 * (D / 2 % p.2.1) - p.1) := by
    have h := zay (D / 2) p.2.1
    have h3 := (za5 me').2 h
    have h4 := Int.dvd_sub hD h3
    rw [show D - (p.1 + -s) - 2 * (D / 2 - D / 2 % p.2.1) = s + 2 * (D / 2 % p.2.1) - p.1 by omega] at h4
    exact h4
   rcases hz with ⟨rfl, hz⟩ | ⟨ok, ht, hst, hm, hz⟩
   ·exact absurd dv (hz _)
   ·rw [if_neg me] at hm
    have eq := uni _ dv ((hz _).1 dv) w0 (by rw [hm]; exact w1) ok
    rw [eq, hm, ht, hst, ok.no]
  by_cases de : (p.1 + -s) % 2 = 1
  ·rw [decide_eq_true de]
   have pl := zad (n := p.1 + -s) (m := p.2.1) (zaa (by omega) (by omega)) (zaa (by omega) (by omega))
   have hh := zax (n := p.1 + -s + p.2.1) (by omega) (zaa (by omega) (by omega)) ⟨by omega, by omega⟩
   have rr := zbv (a := (p.1 + -s + p.2.1) / 2) (m := p.2.1) ⟨by omega, by omega⟩ (by omega) p2
   exact Ev.cond rfl (Ev.bind (zac (n := p.2.1) (by omega) (by omega)) (Ev.bind pl (Ev.bind hh (Ev.bind rr (Ev.fin (fin _ (by rw [show p.1 + -s + p.2.1 - (p.1 + -s) = p.2.1 by omega]; exact Int.dvd_refl _) (by omega)))))))
  ·rw [decide_eq_false de]
   have hh := zax (n := p.1 + -s) (by omega) (zaa (by omega) (by omega)) ⟨by omega, by omega⟩
   have rr := zbv (a := (p.1 + -s) / 2) (m := p.2.1) ⟨by omega, by omega⟩ (by omega) p2
   exact Ev.ncond (by decide) (Ev.bind hh (Ev.bind rr (Ev.fin (fin _ (by rw [Int.sub_self]; exact Int.dvd_zero _) (by omega)))))
end Go.Proofs.Ythgoonohpfoagaa.Pure
namespace Go.Proofs.Ythgoonohpfoagaa.Pure
open Go.RowKit Go.Proofs.YthgoonohpfoagaaW.PrintWords Go.Proofs.YthgoonohpfoagaaW.PrintLast Go.Proofs.YthgoonohpfoagaaW.PrintMore Go.Proofs.Ythgoonohpfoagaa.X
set_option linter.unusedVariables false
def enc (p : Fa.Place) : S67 := ⟨p.1, p.2.1, p.2.2.2.2, p.2.2.1, p.2.2.2.1⟩
def encS (s : Int) : S73 := ⟨neg s, mag s⟩
theorem rd67 {ps : List Fa.Place} {i : Nat} {p : Fa.Place} (h : ps[i]? = some p) : rd_T67 (ps.map enc) (i : Int) = enc p := by
 simp [rd_T67, List.getD_eq_getElem?_getD, h]
theorem rd73 {S : List Int} {i : Nat} (h : i < S.length) : rd_T73 (S.map encS) (i : Int) = encS S[i] := by
 simp [rd_T73, List.getD_eq_getElem?_getD, h]
theorem zdk (p z : Fa.Place) : (!(((enc p).f0) == z.1) || (!(((enc p).f1) == z.2.1) || (!(((enc p).f2) == z.2.2.2.2) || (!(((enc p).f3) == z.2.2.1) || (!(((enc p).f4) == z.2.2.2.1)))))) = !decide (p = z) := by
 obtain ⟨a, b, c, d, e⟩ := p
 obtain ⟨a', b', c', d', e'⟩ := z
 simp only [enc]
 by_cases h1 : a = a'
 ·by_cases h2 : b = b'
  ·subst h1; subst h2
   cases c <;> cases c' <;> cases d <;> cases d' <;> cases e <;> cases e' <;> simp
  ·simp [h2]
 ·simp [h1]
theorem zdc {α : Type} [DecidableEq α] {z : α} : ∀ (ps : List α) (i : Nat), i < num1 ps z → ∃ p, ps[i]? = some p ∧ p ≠ z
 | [], i, h => by simp [num1] at h
 | p :: ps, i, h => by
  unfold num1 at h
  rw [List.idxOf_cons] at h
  by_cases c : p = z
  ·simp [c] at h
  ·cases i with
   | zero => exact ⟨p, rfl, c⟩
   | succ i =>
    have : (p == z) = false := by simpa using c
    rw [this] at h
    exact zdc ps i (by unfold num1; simpa using h)
theorem zei {α : Type} [DecidableEq α] (ps : List α) (z : α) : num1 ps z ≤ ps.length := List.idxOf_le_length
theorem zb4 {α : Type} [DecidableEq α] {ps : List α} {z : α} (h : ¬ z ∈ ps) : num1 ps z = ps.length := List.idxOf_eq_length h
theorem zda {ps : List Fa.Place} {z : Fa.Place} (hl : ps.length ≤ 256) (L : List S73) (q : Int) (r : List Int) (a : Int) (kind : Int) (names : List ByteArray) (coefs : List Int) (bound md : Int) (tr : List ByteArray) (ac : List Bool) (nx : List (List Int)) {R : List ByteArray × List Bool × (List (List Int)) × Int}
  (h : Ev (fun k => Fnb.j4 k (ps.map enc) L q r a ((num1 ps z : Nat) : Int) kind names coefs bound md tr ac nx z.1 z.2.1 z.2.2.2.2 z.2.2.1 z.2.2.2.1) R) :
  ∀ (m i : Nat), i + m = num1 ps z → Ev (fun k => Fnb.l3 k (ps.map enc) L q r a (i : Int) kind names coefs bound md tr ac nx z.1 z.2.1 z.2.2.2.2 z.2.2.1 z.2.2.2.1) R := by
 intro m
 induction m with
 | zero =>
  intro i hi
  obtain rfl : i = num1 ps z := by omega
  refine Ev.step (fun k => by rw [Fnb.l3]) ?_
  by_cases c : z ∈ ps
  ·have lt := zbk c
   refine Ev.cond (by rw [List.length_map]; omega) (Ev.cond (by omega) ?_)
   rw [rd67 (zd0 c), zdk, decide_eq_true rfl]
   exact Ev.ncond (by simp) h
  ·have e := zb4 c
   exact Ev.ncond (by rw [List.length_map]; omega) h
 | succ m ih =>
  intro i hi
  obtain ⟨p, hp, ne⟩ := zdc ps i (by omega : i < num1 ps z)
  have le := zei ps z
  refine Ev.step (fun k => by rw [Fnb.l3]) (Ev.cond (by rw [List.length_map]; omega) (Ev.cond (by omega) ?_))
  rw [rd67 hp, zdk, decide_eq_false ne, w64 (by omega) (by omega)]
  exact Ev.cond rfl (ih (i + 1) (by omega))
theorem zdv {xs : List Int} {a : Nat} {x : Int} (h : a < xs.length) : (xs.set a x).take (a + 1) = xs.take a ++ [x] := by
 rw [List.take_add_one, List.take_set_of_le (Nat.le_refl a), List.getElem?_set_self h]; rfl
theorem row_ev {kind : Int} (k0 : 0 ≤ kind) (k2 : kind ≤ 2) {S : List Int} (hS : S.length ≤ 64) (hs : ∀ s ∈ S, (s.natAbs : Int) ≤ 9223372036854775807) (hs2 : kind = 2 → ∀ s ∈ S, 0 ≤ s) {q : Nat} {p : Fa.Place} (hp : PlN kind p)
  (names : List ByteArray) (coefs : List Int) (bound md : Int) (tr : List ByteArray) (ac : List Bool) (nx : List (List Int)) (ha : ac.length ≤ 256) (hn : nx.length ≤ 256) :
  ∀ (m a : Nat) (ps : List Fa.Place) (xs : List Int), a + m = S.length → xs.length = S.length → ps.length ≤ 256 → (∀ p ∈ ps, PlN kind p) → ps[q]? = some p →
   ∃ b ps' xs', Fa.row kind p (S.drop a) a ps xs = some (b, ps', xs') ∧ xs'.length = S.length ∧
    (b = false → Ev (fun k => Fnb.l2 k (ps.map enc) (S.map encS) (q : Int) (xs.take a) (a : Int) kind names coefs bound md tr ac nx) ([], [], [], 140)) ∧
    (b = true → (∀ p ∈ ps', PlN kind p) ∧ ps'.length ≤ 256 ∧ ps'[q]? = some p ∧ ∀ R, Ev (fun k => Fnb.l1 k (ps'.map enc) (S.map encS) ((q + 1 : Nat) : Int) kind names coefs bound md tr (ac ++ [p.2.2.2.2]) (nx ++ [xs'])) R →
     Ev (fun k => Fnb.l2 k (ps.map enc) (S.map encS) (q : Int) (xs.take a) (a : Int) kind names coefs bound md tr ac nx) R) := by
 intro m
 induction m with
 | zero =>
  intro a ps xs hi hx hl hps hq
  have ql := (List.getElem?_eq_some_iff.1 hq).1
  refine ⟨true, ps, xs, ?_, hx, fun h => (by cases h), fun _ => ⟨hps, hl, hq, fun R hR => ?_⟩⟩
  ·rw [List.drop_of_length_le (by omega)]; rfl
  rw [List.take_of_length_le (by omega)]
  refine Ev.step (fun k => by rw [Fnb.l2]) (Ev.ncond (by rw [List.length_map]; omega) (Ev.cond (by omega) (Ev.cond (by rw [List.length_map]; omega) (Ev.cond (by omega) (Ev.cond (by omega) ?_)))))
  rw [rd67 hq, w64 (by omega) (by omega)]
  exact hR
 | succ m ih =>
  intro a ps xs hi hx hl hps hq
  have ql := (List.getElem?_eq_some_iff.1 hq).1
  have ii : a < S.length := by omega
  have sm := List.getElem_mem ii
  obtain ⟨z, hz, zok, hne⟩ := zec k0 k2 hp (hs _ sm) (fun h => hs2 h _ sm)
  have go : ∀ {R : List ByteArray × List Bool × (List (List Int)) × Int}, Ev (fun k => Fnb.j4 k (ps.map enc) (S.map encS) (q : Int) (xs.take a) (a : Int) ((num1 ps z : Nat) : Int) kind names coefs bound md tr ac nx z.1 z.2.1 z.2.2.2.2 z.2.2.1 z.2.2.2.1) R →
    Ev (fun k => Fnb.l2 k (ps.map enc) (S.map encS) (q : Int) (xs.take a) (a : Int) kind names coefs bound md tr ac nx) R := fun {R} h => by
   have h3 := zda hl (S.map encS) (q : Int) (xs.take a) (a : Int) kind names coefs bound md tr ac nx h (num1 ps z) 0 (by omega)
   refine Ev.step (fun k => by rw [Fnb.l2]) (Ev.cond (by rw [List.length_map]; omega) (Ev.cond (by omega) (Ev.cond (by rw [List.length_map]; omega) (Ev.cond (by omega) ?_))))
   rw [rd67 hq, rd73 ii]
   exact Ev.bind hne h3
  have tl : (xs.take a).length = a := by rw [List.length_take]; omega
  have fin : ∀ (ps2 : List Fa.Place) (n : Nat), ps2.length ≤ 256 → (∀ p ∈ ps2, PlN kind p) → ps2[q]? = some p → Fa.row kind p (S.drop a) a ps xs = Fa.row kind p (S.drop (a + 1)) (a + 1) ps2 (xs.set a ((n : Nat) : Int)) →
    (∀ {R : List ByteArray × List Bool × (List (List Int)) × Int}, Ev (fun k => Fnb.l2 k (ps2.map enc) (S.map encS) (q : Int) (xs.take a ++ [((n : Nat) : Int)]) ((a + 1 : Nat) : Int) kind names coefs bound md tr ac nx) R → Ev (fun k => Fnb.l2 k (ps.map enc) (S.map encS) (q : Int) (xs.take a) (a : Int) kind names coefs bound md tr ac nx) R) →
    ∃ b ps' xs', Fa.row kind p (S.drop a) a ps xs = some (b, ps', xs') ∧ xs'.length = S.length ∧
     (b = false → Ev (fun k => Fnb.l2 k (ps.map enc) (S.map encS) (q : Int) (xs.take a) (a : Int) kind names coefs bound md tr ac nx) ([], [], [], 140)) ∧
     (b = true → (∀ p ∈ ps', PlN kind p) ∧ ps'.length ≤ 256 ∧ ps'[q]? = some p ∧ ∀ R, Ev (fun k => Fnb.l1 k (ps'.map enc) (S.map encS) ((q + 1 : Nat) : Int) kind names coefs bound md tr (ac ++ [p.2.2.2.2]) (nx ++ [xs'])) R →
      Ev (fun k => Fnb.l2 k (ps.map enc) (S.map encS) (q : Int) (xs.take a) (a : Int) kind names coefs bound md tr ac nx) R) := fun ps2 n h1 h2 h3 he hc => by
   obtain ⟨b, ps', xs', e1, e0, e2, e3⟩ := ih (a + 1) ps2 (xs.set a ((n : Nat) : Int)) (by omega) (by rw [List.length_set]; exact hx) h1 h2 h3
   rw [zdv (by omega)] at e2 e3
   refine ⟨b, ps', xs', by rw [he, e1], e0, fun hb => hc (e2 hb), fun hb => ?_⟩
   obtain ⟨f1, f2, f3, f4⟩ := e3 hb
   exact ⟨f1, f2, f3, fun R hR => hc (f4 R hR)⟩
  have hd : S.drop a = S[a] :: S.drop (a + 1) := List.drop_eq_getElem_cons ii
  by_cases c : z ∈ ps
  ·have lt := zbk c
   refine fin ps (num1 ps z) hl hps hq (by rw [hd, Fa.row, hz, Option.bind_some, if_pos c]) (fun {R} h => go ?_)
   refine Ev.step (fun k => by rw [Fnb.j4]) (Ev.ncond (by rw [List.length_map]; omega) (Ev.cond (by rw [tl]; omega) ?_))
   rw [w64 (by omega) (by omega)]
   exact h
  ·have e := zb4 c
   by_cases d : ps.length = 256
   ·refine ⟨false, ps, xs, by rw [hd, Fa.row, hz, Option.bind_some, if_neg c, if_pos d], hx, fun _ => go ?_, fun h => by cases h⟩
    exact Ev.step (fun k => by rw [Fnb.j4]) (Ev.cond (by rw [List.length_map]; omega) (Ev.cond (by omega) (Ev.fin rfl)))
   ·refine fin (ps ++ [z]) ps.length (by simp; omega) (fun x hx => by
     rcases List.mem_append.1 hx with h | h
     ·exact hps x h
     ·rw [List.mem_singleton.1 h]; exact zok) (by rw [List.getElem?_append_left ql]; exact hq) (by rw [hd, Fa.row, hz, Option.bind_some, if_neg c, if_neg d]) (fun {R} h => go ?_)
    refine Ev.step (fun k => by rw [Fnb.j4]) (Ev.cond (by rw [List.length_map]; omega) (Ev.ncond (by omega) (Ev.cond (by rw [List.length_map]; omega) (Ev.cond (by rw [tl]; omega) ?_))))
    rw [w64 (by omega) (by omega), e]
    rw [List.map_append] at h
    exact h
theorem go_ev {kind : Int} (k0 : 0 ≤ kind) (k2 : kind ≤ 2) {S : List Int} (hS : S.length ≤ 64) (hs : ∀ s ∈ S, (s.natAbs : Int) ≤ 9223372036854775807) (hs2 : kind = 2 → ∀ s ∈ S, 0 ≤ s)
  (names : List ByteArray) (coefs : List Int) (bound md : Int) (tr : List ByteArray) :
  ∀ (k q : Nat) (ps : List Fa.Place) (ac : List Bool) (nx : List (List Int)), ps.length ≤ 256 → (∀ p ∈ ps, PlN kind p) → 257 ≤ q + k → q ≤ ps.length → ac.length = q → nx.length = q → (∀ r ∈ nx, r.length = S.length) →
   ∃ z, Fa.go kind S k q ps ac nx = some z ∧ z.2.1.length ≤ 256 ∧ z.2.2.length ≤ 256 ∧ (∀ r ∈ z.2.2, r.length = S.length) ∧
    Ev (fun k => Fnb.l1 k (ps.map enc) (S.map encS) (q : Int) kind names coefs bound md tr ac nx) (if z.1 = true then (tr, z.2.1, z.2.2, 0) else ([], [], [], 140)) := by
 intro k
 induction k with
 | zero => intro q ps ac nx _ _ _ _ _ _ h; omega
 | succ k ih =>
  intro q ps ac nx hl hps hk hq ha hn hr
  rw [Fa.go]
  by_cases c : q < ps.length
  ·rw [if_pos c]
   have hp : ps[q]? = some (ps.getD q Fa.noPlace) := by rw [List.getD_eq_getElem?_getD, List.getElem?_eq_getElem c]; rfl
   obtain ⟨b, ps', xs', e1, e0, e2, e3⟩ := row_ev k0 k2 hS hs hs2 (q := q) (hps _ (List.mem_of_getElem? hp)) names coefs bound md tr ac nx (by omega) (by omega) S.length 0 ps (List.replicate S.length 0) (by omega) (by simp) hl hps hp
   rw [List.drop_zero] at e1
   rw [List.take_zero] at e2 e3
   rw [e1, Option.bind_some]
   have go1 : (q : Int) < ((ps.map enc).length : Int) := by rw [List.length_map]; omega
   cases b with
   | false =>
    rw [if_neg (by simp)]
    refine ⟨(false, ac, nx), rfl, by simp only; omega, by simp only; omega, hr, ?_⟩
    refine Ev.step (fun k => by rw [Fnb.l1]) ?_
    exact Ev.cond go1 (e2 rfl)
   | true =>
    rw [if_pos rfl]
    obtain ⟨f1, f2, f3, f4⟩ := e3 rfl
    have eg : ps'.getD q Fa.noPlace = ps.getD q Fa.noPlace := by rw [List.getD_eq_getElem?_getD, f3]; rfl
    rw [eg]
    obtain ⟨z, g1, g2, g3, g4, g5⟩ := ih (q + 1) ps' (ac ++ [(ps.getD q Fa.noPlace).2.2.2.2]) (nx ++ [xs']) f2 f1 (by omega) (List.getElem?_eq_some_iff.1 f3).1 (by simp [ha]) (by simp [hn]) (fun r h => by
     rcases List.mem_append.1 h with h | h
     ·exact hr r h
     ·rw [List.mem_singleton.1 h]; exact e0)
    refine ⟨z, g1, g2, g3, g4, ?_⟩
    refine Ev.step (fun k => by rw [Fnb.l1]) ?_
    exact Ev.cond go1 (f4 _ g5)
  ·rw [if_neg c]
   refine ⟨(true, ac, nx), rfl, by simp only; omega, by simp only; omega, hr, ?_⟩
   refine Ev.step (fun k => by rw [Fnb.l1]) ?_
   exact Ev.ncond (by rw [List.length_map]; omega) (Ev.fin rfl)
end Go.Proofs.Ythgoonohpfoagaa.Pure
namespace Go.Proofs.Ythgoonohpfoagaa.Pure
open Go.RowKit Go.Proofs.YthgoonohpfoagaaW.PrintWords Go.Proofs.YthgoonohpfoagaaW.PrintLast Go.Proofs.YthgoonohpfoagaaW.PrintMore Go.Proofs.Ythgoonohpfoagaa.X
set_option linter.unusedVariables false
theorem zea : Ev (fun k => Ffb.f k) true := Ev.of (fun k => Ffb.mono k) (k := 300) (by decide +kernel)
theorem zdh {coefs : List Int} (h : absS coefs ≤ 9223372036854775807) : Fba.L [0] coefs = (List.range (2 ^ coefs.length)).map (fun a => lsum coefs a) ∧ ∀ s ∈ Fba.L [0] coefs, (s.natAbs : Int) ≤ 9223372036854775807 := by
 obtain ⟨e, b⟩ := zby coefs [0] (absS coefs) h (fun s hs => by rw [List.mem_singleton.1 hs]; simp)
 have hl := zb2 coefs [0]
 rw [e, List.length_singleton, Nat.one_mul] at hl
 refine ⟨?_, fun s hs => ?_⟩
 ·rw [e]
  refine List.ext_getElem (by rw [hl]; simp) (fun i h1 h2 => ?_)
  have := zcv (coefs := coefs) (a := i) (by omega)
  rw [List.getD_eq_getElem?_getD, List.getElem?_eq_getElem h1, Option.getD_some] at this
  rw [this]; simp
 ·rw [e] at hs
  have := b s hs
  omega
theorem zdu {kind bound md : Int} {names : List ByteArray} {coefs : List Int} (h0 : names.length * 16 ≤ 140737488351232) (hs : ∀ x ∈ names, x.size ≤ 9223372036854775807) (h1 : coefs.length * 8 ≤ 140737488351232)
  (hw : ∀ x ∈ coefs, (Lit.int .i64 x).wf = true) (hb : (Lit.int .i64 bound).wf = true) (hm : (Lit.int .i64 md).wf = true) :
  ∃ tr ac nx er, Ev (fun k => Fa.f k kind names coefs bound md) (tr, ac, nx, er) ∧ Ev (fun k => Fnb.f k kind names coefs bound md) (tr, ac, nx, er) ∧ tr.length ≤ 6 ∧ ac.length ≤ 256 ∧ nx.length ≤ 256 ∧ ∀ r ∈ nx, r.length ≤ 64 := by
 have hc := zdx kind bound md names coefs h0 hs h1 hw hb
 have hg := zcw kind bound md names coefs h0 hs h1 hw hb
 cases g : zbj kind names coefs bound md with
 | false =>
  rw [g, if_neg (by decide)] at hc
  rw [g] at hg
  exact ⟨[], [], [], 3, Ev.congr (fun k => by rw [Fa.f]) (Ev.bind hc (Ev.ncond (show ¬ ((3 : Int) = 0) by decide) (Ev.fin rfl))), Ev.congr (fun k => by rw [Fnb.f]) (Ev.bind hg (Ev.ncond (show ¬ (false = true) by decide) (Ev.fin rfl))), by decide, by decide, by decide, fun r h => by cases h⟩
 | true =>
  rw [g, if_pos rfl] at hc
  rw [g] at hg
  unfold zbj at g
  simp only [Bool.and_eq_true, decide_eq_true_eq] at g
  obtain ⟨g0, g1, g2, g3, g4, g5⟩ := g
  by_cases c : (6 : Int) < (names.length : Int)
  ·exact ⟨[], [], [], 150, Ev.congr (fun k => by rw [Fa.f]) (Ev.bind hc (Ev.cond rfl (Ev.cond c (Ev.fin rfl)))), Ev.congr (fun k => by rw [Fnb.f]) (Ev.bind hg (Ev.cond rfl (Ev.cond (by omega) (Ev.fin rfl)))), by decide, by decide, by decide, fun r h => by cases h⟩
  ·have hcl : Fec.f names = some names := by unfold Fec.f; exact if_pos (by omega)
   have hsl : Fba.f coefs = some (Fba.L [0] coefs) := by unfold Fba.f; exact if_pos (by omega)
   have hL := zb2 coefs [0]
   rw [List.length_singleton, Nat.one_mul] at hL
   have p6 : 2 ^ coefs.length ≤ 64 := Nat.le_trans (Nat.pow_le_pow_right (by decide) (show coefs.length ≤ 6 by omega)) (by decide)
   have h64 : (Fba.L [0] coefs).length ≤ 64 := by rw [hL]; exact p6
   have a0 : absS coefs ≤ 9223372036854775807 := by
    have h := g4
    rw [absS] at h
    omega
   obtain ⟨hS, hSb⟩ := zdh a0
   have hS2 : kind = 2 → ∀ s ∈ Fba.L [0] coefs, 0 ≤ s := fun hk s hs => by
    rw [if_pos hk, Bool.and_eq_true, List.all_eq_true] at g5
    rw [hS] at hs
    obtain ⟨a, _, rfl⟩ := List.mem_map.1 hs
    exact zbp coefs a (fun c hc => by
     have := g5.2 c (List.mem_cons_of_mem _ hc)
     rw [Bool.and_eq_true, decide_eq_true_eq] at this
     exact this.1)
   have okN : PlN kind (bound, md, true, false, false) := ⟨za7 hb, fun hk => by
    rw [if_neg hk, decide_eq_true_eq] at g5
    exact g5, fun _ hk => by
    rw [if_pos hk, Bool.and_eq_true, decide_eq_true_eq, List.all_cons, Bool.and_eq_true, Bool.and_eq_true, decide_eq_true_eq, decide_eq_true_eq] at g5
    exact ⟨rfl, g5.2.1.1, g5.2.1.2, (za7 hm).2⟩⟩
   obtain ⟨⟨z1, z2, z3⟩, hz, y1, y2, y3, hgo⟩ := go_ev g0 g1 h64 hSb hS2 names coefs bound md names 257 0 [(bound, md, true, false, false)] [] [] (by simp) (fun p hp => by rw [List.mem_singleton.1 hp]; exact okN) (by omega) (by simp) rfl rfl (fun r h => by cases h)
   have hR : Ev (fun k => Fnb.f k kind names coefs bound md) (if z1 = true then (names, z2, z3, 0) else ([], [], [], 140)) := by
    refine Ev.congr (fun k => by rw [Fnb.f]) (Ev.bind hg (Ev.cond rfl (Ev.ncond (by omega) ?_)))
    have lt : Ev (fun k => Fm.f k (names.length : Int)) ((2 ^ coefs.length : Nat) : Int) := by
     have := zce (n := names.length) (by omega)
     rw [g3] at this
     rw [g3]; exact this
    obtain ⟨N, hN⟩ : ∃ N, N = 2 ^ coefs.length := ⟨_, rfl⟩
    rw [← hN] at lt p6 hS
    have key : ∀ (m i : Nat), i + m = N → Ev (fun k => Fnb.l0 k [(⟨bound, md, false, true, false⟩ : S67)] ((List.range i).map fun a => encS (lsum coefs a)) (i : Int) kind names coefs bound md) (if z1 = true then (names, z2, z3, 0) else ([], [], [], 140)) := by
     intro m
     induction m with
     | zero =>
      intro i hi
      have e : (List.range i).map (fun a => encS (lsum coefs a)) = (Fba.L [0] coefs).map encS := by
       rw [hS, List.map_map, show i = N by omega]; rfl
      rw [e]
      refine Ev.step (fun k => by rw [Fnb.l0]) (Ev.bind lt ?_)
      refine Ev.ncond (show ¬ ((i : Int) < (N : Int)) by omega) ?_
      have nl : ([] : List ByteArray).length + names.length < 8796093022208 := by rw [List.length_nil]; omega
      refine Ev.ret rfl (Ev.cond nl ?_)
      rw [List.nil_append]
      exact hgo
     | succ m ih =>
      intro i hi
      have sm := zdq (coefs := coefs) (by omega) (fun x hx => za7 (hw x hx)) (a := i) (by omega)
      have nxt := ih (i + 1) (by omega)
      rw [List.range_succ, List.map_append] at nxt
      have ml : ((List.range i).map fun a => encS (lsum coefs a)).length < 4398046511104 := by rw [List.length_map, List.length_range]; omega
      refine Ev.step (fun k => by rw [Fnb.l0]) (Ev.bind lt ?_)
      refine Ev.cond (show (i : Int) < (N : Int) by omega) ?_
      refine Ev.bind sm ?_
      refine Ev.cond ml ?_
      rw [w64 (x := (i : Int) + 1) (by omega) (by omega)]
      exact nxt
    exact key N 0 (by omega)
   cases z1 with
   | true =>
    rw [if_pos rfl] at hR
    refine ⟨names, z2, z3, 0, Ev.congr (fun k => by rw [Fa.f]) (Ev.bind hc (Ev.cond rfl (Ev.ncond c (Ev.fin' ?_)))), hR, by omega, y1, y2, fun r h => by rw [y3 r h]; exact h64⟩
    rw [hcl, Option.bind_some, hsl, Option.bind_some, if_pos hb, if_pos hm, hz, Option.bind_some, if_pos rfl]
   | false =>
    rw [if_neg (by simp)] at hR
    refine ⟨[], [], [], 140, Ev.congr (fun k => by rw [Fa.f]) (Ev.bind hc (Ev.cond rfl (Ev.ncond c (Ev.fin' ?_)))), hR, by decide, by decide, by decide, fun r h => by cases h⟩
    rw [hcl, Option.bind_some, hsl, Option.bind_some, if_pos hb, if_pos hm, hz, Option.bind_some, if_neg (by simp)]
theorem AtomRaws (kind : Int) (hkw : (Lit.int .i64 kind).wf = true) (names : List ByteArray) (h0 : names.length * 16 ≤ 140737488351232) (hs : ∀ x ∈ names, x.size ≤ maxLen) (coefs : List Int) (h1 : coefs.length * 8 ≤ 140737488351232)
  (hw : ∀ x ∈ coefs, (Lit.int .i64 x).wf = true) (bound : Int) (hb : (Lit.int .i64 bound).wf = true) (md : Int) (hm : (Lit.int .i64 md).wf = true) :
  ∃ k, Ff.f k kind names coefs bound md = some true := by
 obtain ⟨tr, ac, nx, er, e1, e2, l1, l2, l3, l4⟩ := zdu (kind := kind) h0 hs h1 hw hb hm
 refine Ev.rounds (Ev.congr (fun k => by rw [Ff.f]) (Ev.ret (zdn h0 h1) (Ev.bind e1 (Ev.bind e2 (Ev.bind zea ?_)))))
 refine Ev.cond rfl (Ev.cond rfl (Ev.bind (zc7 (ns := tr) (ac := ac) (nx := nx) (by omega) (by omega) (by omega) (fun r hr => by have := l4 r hr; omega)) ?_))
 exact Ev.cond rfl (Ev.bind (zco kind bound md names coefs (by omega) (by omega)) (Ev.fin rfl))
end Go.Proofs.Ythgoonohpfoagaa.Pure
