/- What the functions of this seat compute, and that the program's calls come to just that: written by this session's own program out of the translation; no condition. -/
import Derived.Test.YthgoonohpfoagaaX0
import Derived.Test.YthgoonohpfoagaaX3
import Derived.Test.YthgoonohpfoagaaX4
namespace Go.Proofs.Ythgoonohpfoagaa.X
open Go.RowKit Go.Proofs.YthgoonohpfoagaaW.PrintWords Go.Proofs.YthgoonohpfoagaaW.PrintLast Go.Proofs.YthgoonohpfoagaaW.PrintMore
attribute [local go_sem] max2_int min2_int max_two min_two max_three min_three max_four min_four
set_option linter.unusedVariables false
set_option linter.unusedSimpArgs false

/-! ### glyph_Name: function 72 -/
/-- Is it a name, from a byte on, behind so many characters? -/
def glyph_Name.l0 : Nat → ByteArray → Nat → Int → Option Bool
 | 0, _, _, _ => none
 | k + 1, s, p, n =>
  if p < s.size then
   (if p = 0 then glyph_Start.f k ((Utf8.decode s p).1 : Int) else some true).bind fun t =>
    if t = true then (glyph_Rest.f k ((Utf8.decode s p).1 : Int)).bind fun u => if u = true then glyph_Name.l0 k s (p + (Utf8.decode s p).2) (wrap64 (n + 1)) else some false
    else some false
  else if n > 0 then (if n ≤ 16 then (glyph_Reserved.f s).bind fun t => some (!t) else some false) else some false
def glyph_Name.f (k : Nat) (a0 : ByteArray) : Option Bool := glyph_Name.l0 k a0 0 0
theorem glyph_Name.mono_l : ∀ k, (∀ y0 y1 y2, LeO (glyph_Name.l0 k y0 y1 y2) (glyph_Name.l0 (k + 1) y0 y1 y2))
 | 0 => fun _ _ _ r h => by simp [glyph_Name.l0] at h
 | k + 1 => by
  have ih0 := glyph_Name.mono_l k; intro y0 y1 y2
  unfold glyph_Name.l0
  repeat' first
   | (with_reducible exact ih0 _ _ _)
   | (with_reducible exact glyph_Start.mono _ _)
   | (with_reducible exact glyph_Rest.mono _ _)
   | (with_reducible exact LeO.refl _)
   | (with_reducible exact LeO.none _)
   | (with_reducible refine LeO.ite ?_ ?_)
   | (with_reducible refine LeO.bind ?_ (fun _ => ?_))
theorem glyph_Name.mono : ∀ a0 k, LeO (glyph_Name.f k a0) (glyph_Name.f (k + 1) a0) := fun a0 k => glyph_Name.mono_l k a0 0 0
/-- The text's iterator: block g, at a byte. -/
structure glyph_Name.Inv (w W : World) (g : Nat) (s : ByteArray) (p : Nat) : Prop where
 ge : w.heap.size ≤ g
 it : W.heap[g]? = some (.stringIter s p)
 below : Below w.heap.size w W
theorem glyph_Name.Inv.on {w W : World} {g : Nat} {s : ByteArray} {p : Nat} (h : glyph_Name.Inv w W g s p) (q : Nat) : glyph_Name.Inv w (W.iterAt g s q) g s q :=
 ⟨h.ge, Go.Lib.iterAt_heap W g s p q h.it, Go.Lib.below_iterAt h.below h.ge s q⟩
theorem glyph_Name.Inv.drewN {w W : World} {g : Nat} {s : ByteArray} {p : Nat} (h : glyph_Name.Inv w W g s p) (n : Nat) : glyph_Name.Inv w (W.drewN n) g s p := ⟨h.ge, h.it, pw_below_drewN h.below n⟩
theorem glyph_Name.width (s : ByteArray) (pos : Nat) (h : pos < s.size) : 1 ≤ (Utf8.decode s pos).2 := by
 by_cases ha : (s[pos]'h).toNat < 128
 ·rw [decode_ascii s pos h ha]; exact Nat.le_refl _
 ·exact (decode_high s pos h (by omega)).2
set_option maxRecDepth 1000000 in
theorem glyph_Name.calls (k : Nat) (z : ByteArray) (r : Bool) (w : World) (h : glyph_Name.f k z = some r) : Calls Try.prog 72 #[.string z] w fun e w' => e = .returned (.bool r) ∧ Below w.heap.size w w' := by
 have HF := aM (show glyph_Name.l0 k z 0 0 = some r from h); clear h
 go_enter Try.func72, Try.ntmps72
 go_wp2
 go_loopw [3] (fun v w' => ∃ (p k : Nat) (n : Int), v = .int .i64 n ∧ glyph_Name.Inv w w' w.heap.size z p ∧ glyph_Name.l0 k z p n = some r) (fun _ w' => z.size - w'.iterPos w.heap.size)
 case atStart => exact ⟨0, k, 0, rfl, ⟨Nat.le_refl _, World.iter_heap _ _ _, below_alloc (Below.refl _ _) _⟩, HF.out⟩
 case round =>
  obtain ⟨p, k, n, rfl, hI, hl⟩ := hrel; cases k with
  | zero => cases hl
  | succ k =>
   rw [glyph_Name.l0] at hl; have hit := hI.it; have HI := aM hI; clear hI
   by_cases hp : p < z.size
   ·rw [if_pos hp] at hl
    have hnx : ∀ ty, (Instr.next (.pointer (some ⟨w.heap.size, 0, none⟩)) true ty).run Try.prog wr = _ := fun ty => Go.Lib.run_next_any_at wr w.heap.size z p ty hit hp
    have hwd := glyph_Name.width z p hp; have HW := aM hwd; have HP := aM hp; clear hit hwd; replace hl := Option.bind_eq_some_iff.mp hl; obtain ⟨t, hS, hl⟩ := hl; have HL := aM hl; clear hl
    by_cases hz : p = 0
    ·rw [if_pos hz] at hS; have F : ((p : Int) == 0) = true := beq_iff_eq.mpr (by omega); have HS := aM hS; clear hS hz hp; cases t with
     | false =>
      have hr := HL.out; rw [if_neg (by decide)] at hr; obtain rfl := Option.some.inj hr; clear hr
      go_wp2_with (go_at_call 91; (with_reducible refine (glyph_Start.calls k _ false _ HS.out).mono ?_); rintro e G ⟨rfl, ⟨nd, rfl⟩⟩)
      go_ret
      exact ⟨rfl, ((HI.out.on _).drewN nd).below⟩
     | true =>
      have hl := HL.out; rw [if_pos rfl] at hl; replace hl := Option.bind_eq_some_iff.mp hl; obtain ⟨u, hR, hl⟩ := hl; have HR := aM hR; have HM := aM hl; clear hl hR; cases u with
      | false =>
       have hr := HM.out; rw [if_neg (by decide)] at hr; obtain rfl := Option.some.inj hr; clear hr
       go_wp2_with (first | (go_at_call 91; (with_reducible refine (glyph_Start.calls k _ true _ HS.out).mono ?_); rintro e G ⟨rfl, ⟨nd, rfl⟩⟩) | (go_at_call 92; (with_reducible refine (glyph_Rest.calls k _ false _ HR.out).mono ?_); rintro e C ⟨rfl, ⟨ne, rfl⟩⟩))
       go_ret
       exact ⟨rfl, ((HI.out.on _).drewN (nd + ne)).below⟩
      | true =>
       go_wp2_with (first | (go_at_call 91; (with_reducible refine (glyph_Start.calls k _ true _ HS.out).mono ?_); rintro e G ⟨rfl, ⟨nd, rfl⟩⟩) | (go_at_call 92; (with_reducible refine (glyph_Rest.calls k _ true _ HR.out).mono ?_); rintro e C ⟨rfl, ⟨ne, rfl⟩⟩))
       go_roundw
       case rel => exact ⟨p + (Utf8.decode z p).2, k, _, rfl, (HI.out.on _).drewN (nd + ne), by simpa using HM.out⟩
       case measure =>
        have D := ((HI.out.on (p + (Utf8.decode z p).2)).drewN (nd + ne)).it; have E := HI.out.it; have := HW.out; have := HP.out; simp only [World.iterPos, D, E]
        omega
    ·rw [if_neg hz] at hS; have F : ((p : Int) == 0) = false := beq_eq_false_iff_ne.mpr (by omega); obtain rfl := Option.some.inj hS; clear hS hz hp; have hl := HL.out; rw [if_pos rfl] at hl; replace hl := Option.bind_eq_some_iff.mp hl; obtain ⟨u, hR, hl⟩ := hl; have HR := aM hR; have HM := aM hl; clear hl hR; cases u with
     | false =>
      have hr := HM.out; rw [if_neg (by decide)] at hr; obtain rfl := Option.some.inj hr; clear hr
      go_wp2_with (go_at_call 92; (with_reducible refine (glyph_Rest.calls k _ false _ HR.out).mono ?_); rintro e C ⟨rfl, ⟨ne, rfl⟩⟩)
      go_ret
      exact ⟨rfl, ((HI.out.on _).drewN ne).below⟩
     | true =>
      go_wp2_with (go_at_call 92; (with_reducible refine (glyph_Rest.calls k _ true _ HR.out).mono ?_); rintro e C ⟨rfl, ⟨ne, rfl⟩⟩)
      go_roundw
      case rel => exact ⟨p + (Utf8.decode z p).2, k, _, rfl, (HI.out.on _).drewN ne, by simpa using HM.out⟩
      case measure =>
       have D := ((HI.out.on (p + (Utf8.decode z p).2)).drewN ne).it; have E := HI.out.it; have := HW.out; have := HP.out; simp only [World.iterPos, D, E]
       omega
   ·rw [if_neg hp] at hl
    have hnx : ∀ ty, (Instr.next (.pointer (some ⟨w.heap.size, 0, none⟩)) true ty).run Try.prog wr = _ := fun ty => Go.Lib.run_next_end_at wr w.heap.size z p ty hit hp
    clear hit hp
    by_cases A : n > 0
    ·rw [if_pos A] at hl; have d1 : decide (n > 0) = true := dT A; clear A
     by_cases B : n ≤ 16
     ·rw [if_pos B] at hl; have d2 : decide (n ≤ 16) = true := dT B; clear B; replace hl := Option.bind_eq_some_iff.mp hl; obtain ⟨t, hV, hl⟩ := hl; obtain rfl := Option.some.inj hl; have HV := aM hV; clear hl hV
      go_wp2_with (go_at_call 93; (with_reducible refine (glyph_Reserved.calls _ t _ HV.out).mono ?_); rintro e C ⟨rfl, ⟨ne, rfl⟩⟩)
      go_ret
      exact ⟨rfl, (HI.out.drewN ne).below⟩
     ·rw [if_neg B] at hl; have d2 : decide (n ≤ 16) = false := decide_eq_false B; clear B; obtain rfl := Option.some.inj hl; clear hl
      go_wp2
      go_ret
      exact ⟨rfl, HI.out.below⟩
    ·rw [if_neg A] at hl; have d1 : decide (n > 0) = false := decide_eq_false A; clear A; obtain rfl := Option.some.inj hl; clear hl
     go_wp2
     go_ret
     exact ⟨rfl, HI.out.below⟩

end Go.Proofs.Ythgoonohpfoagaa.X
