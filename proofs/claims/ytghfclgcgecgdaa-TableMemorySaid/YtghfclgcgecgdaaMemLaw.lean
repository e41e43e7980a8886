/- What the program's calls on sets come to, by hand: each call's own contract; no condition beyond what each contract says. -/
import Derived.Test.YtghfclgcgecgdaaX18
import Derived.Test.YtghfclgcgecgdaaX11
import Derived.Test.YtghfclgcgecgdaaX25
import Derived.Test.YtghfclgcgecgdaaX24
import Derived.Test.YtghfclgcgecgdaaX2
import Derived.Test.YtghfclgcgecgdaaX27
import Derived.Test.YtghfclgcgecgdaaX21
import Derived.Test.YtghfclgcgecgdaaWk
import Derived.Deep.CutBlock
namespace Go.Proofs.Ytghfclgcgecgdaa.X
open Go.RowKit Go.Proofs.YtghfclgcgecgdaaW.PrintWords Go.Proofs.YtghfclgcgecgdaaW.PrintLast Go.Proofs.YtghfclgcgecgdaaW.PrintMore
set_option linter.unusedVariables false
set_option linter.unusedSimpArgs false
section
variable {α : Type} {d : Kd α} {e : TypeId} {W W1 : World} {base : Nat} {ok : Nat → Prop} {v : Value} {xs : List α}
theorem R_off (h : d.R e W base ok v xs) {row : Option Nat} (hg : W.grownBy W1 row) (hr : ∀ g, row = some g → ok g → ∀ q, q ∈ e :: d.E → ∀ cs, W.heap[g]? ≠ some (.cells cs q (0, 0))) : d.R e W1 base ok v xs :=
  Kd.R_mono (Kd.R_move (Kd.R_bound h) (fun k hk => hg.block k hk.2.2.1 (fun he => by
    obtain ⟨h1, _, _, q, hq, cs, hc⟩ := hk
    exact hr k he.symm h1 q hq cs hc))) (fun _ hk => hk.1)
end
def Off (W : World) (row : Option Nat) (T : List Nat) : Prop := ∀ g, row = some g → ∀ q, q ∈ T → ∀ cs, W.heap[g]? ≠ some (.cells cs q (0, 0))
theorem Off.typed {W : World} {row : Option Nat} {T : List Nat} {t : Nat} (h : ∀ k, row = some k → ∃ cells, W.heap[k]? = some (.cells cells t (0, 0))) (ht : ∀ q, q ∈ T → q ≠ t) : Off W row T := fun g hg q hq cs hc => by
  obtain ⟨c', h'⟩ := h g hg
  rw [hc] at h'
  injection h' with h'
  injection h' with _ h' _
  exact ht q hq h'
theorem blk_off {W W1 : World} {g t : Nat} {cs : Array Value} {row : Option Nat} {T : List Nat} (h : W.heap[g]? = some (.cells cs t (0, 0))) (hg : W.grownBy W1 row) (ho : Off W row T) (ht : t ∈ T) : W1.heap[g]? = some (.cells cs t (0, 0)) :=
  blk_grown h hg (fun e => ho g e.symm t ht cs h)
/-- What stands beside what is written over. -/
structure Led (w0 W : World) (okp : Nat → Prop) (g1 g3 g6 g8 g10 : Nat) (c1 : Array Value) (m1 m2 m3 b1 b2 b3 b4 k1 k2 k3 k4 v1 v2 v3 : Value) (tr : List ByteArray) (ac : List Bool) (nx : List (List Int)) (t1 : List ByteArray) (t2 : List Bool) (t3 : List Int) (t4 : List S58) : Prop where
  bel : Below w0.heap.size w0 W
  n1 : W.heap[g1]? = some (.cells c1 26 (0, 0))
  mb : W.heap[g3]? = some (.cells #[m1, m2, m3] 26 (0, 0))
  mr1 : Kd.string.R 9 W w0.heap.size (fun k => ¬ okp k) m1 tr
  mr2 : Kd.bool.R 4 W w0.heap.size (fun k => ¬ okp k) m2 ac
  mr3 : Kd.S (Kd.slice 3 (Kd.int .i64)) 29 W w0.heap.size (fun k => ¬ okp k) m3 nx
  bb : W.heap[g6]? = some (.cells #[b1, b2, b3, b4] 32 (0, 0))
  br1 : Kd.string.R 9 W w0.heap.size (fun k => ¬ okp k) b1 t1
  br2 : Kd.bool.R 4 W w0.heap.size (fun k => ¬ okp k) b2 t2
  br3 : (Kd.int .i64).R 3 W w0.heap.size (fun k => ¬ okp k) b3 t3
  br4 : k58.R 58 W w0.heap.size (fun k => ¬ okp k) b4 t4
  kb : W.heap[g8]? = some (.cells #[k1, k2, k3, k4] 32 (0, 0))
  kr1 : Kd.string.R 9 W w0.heap.size (fun k => ¬ okp k) k1 t1
  kr2 : Kd.bool.R 4 W w0.heap.size (fun k => ¬ okp k) k2 t2
  kr3 : (Kd.int .i64).R 3 W w0.heap.size (fun k => ¬ okp k) k3 t3
  kr4 : k58.R 58 W w0.heap.size (fun k => ¬ okp k) k4 t4
  vb : W.heap[g10]? = some (.cells #[v1, v2, v3] 26 (0, 0))
  vr1 : Kd.string.R 9 W w0.heap.size (fun k => ¬ okp k) v1 tr
  vr2 : Kd.bool.R 4 W w0.heap.size (fun k => ¬ okp k) v2 ac
  vr3 : Kd.S (Kd.slice 3 (Kd.int .i64)) 29 W w0.heap.size (fun k => ¬ okp k) v3 nx
  o1 : ¬ okp g1
  o3 : ¬ okp g3
  o6 : ¬ okp g6
  o8 : ¬ okp g8
  o10 : ¬ okp g10
  hp : ∀ k, okp k → w0.heap.size ≤ k
section
variable {w0 W W1 : World} {okp : Nat → Prop} {g1 g3 g6 g8 g10 : Nat} {c1 : Array Value} {m1 m2 m3 b1 b2 b3 b4 k1 k2 k3 k4 v1 v2 v3 : Value} {tr : List ByteArray} {ac : List Bool} {nx : List (List Int)} {t1 : List ByteArray} {t2 : List Bool} {t3 : List Int} {t4 : List S58}
theorem Led.kept (h : Led w0 W okp g1 g3 g6 g8 g10 c1 m1 m2 m3 b1 b2 b3 b4 k1 k2 k3 k4 v1 v2 v3 tr ac nx t1 t2 t3 t4) (hb : Below W.heap.size W W1) : Led w0 W1 okp g1 g3 g6 g8 g10 c1 m1 m2 m3 b1 b2 b3 b4 k1 k2 k3 k4 v1 v2 v3 tr ac nx t1 t2 t3 t4 :=
  ⟨below_step h.bel hb, blk_below h.n1 hb, blk_below h.mb hb, Kd.R_below h.mr1 hb, Kd.R_below h.mr2 hb, Kd.S_below h.mr3 hb, blk_below h.bb hb, Kd.R_below h.br1 hb, Kd.R_below h.br2 hb, Kd.R_below h.br3 hb, Kd.R_below h.br4 hb, blk_below h.kb hb, Kd.R_below h.kr1 hb, Kd.R_below h.kr2 hb, Kd.R_below h.kr3 hb, Kd.R_below h.kr4 hb, blk_below h.vb hb, Kd.R_below h.vr1 hb, Kd.R_below h.vr2 hb, Kd.S_below h.vr3 hb, h.o1, h.o3, h.o6, h.o8, h.o10, h.hp⟩
theorem Led.fr (h : Led w0 W okp g1 g3 g6 g8 g10 c1 m1 m2 m3 b1 b2 b3 b4 k1 k2 k3 k4 v1 v2 v3 tr ac nx t1 t2 t3 t4) (f : Fr okp W W1) : Led w0 W1 okp g1 g3 g6 g8 g10 c1 m1 m2 m3 b1 b2 b3 b4 k1 k2 k3 k4 v1 v2 v3 tr ac nx t1 t2 t3 t4 :=
  ⟨f.bel h.bel h.hp, f.blk h.n1 h.o1, f.blk h.mb h.o3, f.R h.mr1 (fun _ h => h), f.R h.mr2 (fun _ h => h), f.S h.mr3 (fun _ h => h), f.blk h.bb h.o6, f.R h.br1 (fun _ h => h), f.R h.br2 (fun _ h => h), f.R h.br3 (fun _ h => h), f.R h.br4 (fun _ h => h), f.blk h.kb h.o8, f.R h.kr1 (fun _ h => h), f.R h.kr2 (fun _ h => h), f.R h.kr3 (fun _ h => h), f.R h.kr4 (fun _ h => h), f.blk h.vb h.o10, f.R h.vr1 (fun _ h => h), f.R h.vr2 (fun _ h => h), f.S h.vr3 (fun _ h => h), h.o1, h.o3, h.o6, h.o8, h.o10, h.hp⟩
end
/-- The two that are written over: a table in the blocks from z1 to z2, a machine in those from z4 to z5 (its rows may move behind z7). -/
structure St (base z1 z2 z4 z5 z7 : Nat) (w7 W : World) (g4 g9 : Nat) (s1 s2 s3 s4 u1 u2 u3 : Value) (x1 : List ByteArray) (x2 : List Bool) (x3 : List Int) (x4 : List S58) (y1 : List ByteArray) (y2 : List Bool) (gn n : Nat) (row : Nat → Value) (len : Nat → Nat) : Prop where
  fr : Fr (fun k => (z1 ≤ k ∧ k < z2) ∨ (z4 ≤ k ∧ k < z5)) w7 W
  b4 : W.heap[g4]? = some (.cells #[s1, s2, s3, s4] 32 (0, 0))
  b9 : W.heap[g9]? = some (.cells #[u1, u2, u3] 26 (0, 0))
  a1 : Kd.string.R 9 W base (fun k => z1 ≤ k ∧ k < z2) s1 x1
  a2 : Kd.bool.R 4 W base (fun k => z1 ≤ k ∧ k < z2) s2 x2
  a3 : (Kd.int .i64).R 3 W base (fun k => z1 ≤ k ∧ k < z2) s3 x3
  a4 : k58.R 58 W base (fun k => z1 ≤ k ∧ k < z2) s4 x4
  d1 : Kd.string.R 9 W base (fun k => z4 ≤ k ∧ k < z5) u1 y1
  d2 : Kd.bool.R 4 W base (fun k => z4 ≤ k ∧ k < z5) u2 y2
  d3 : 0 < n → Wk 3 29 W base (fun k => (z4 ≤ k ∧ k < z5) ∨ z7 ≤ k) gn n row len
  q1 : z2 ≤ z4
  q2 : z5 ≤ z7
  q3 : z7 = w7.heap.size
  q4 : z4 ≤ z5
section
variable {base z1 z2 z4 z5 z7 : Nat} {w7 W W1 : World} {g4 g9 : Nat} {s1 s2 s3 s4 u1 u2 u3 : Value} {x1 x1' : List ByteArray} {x2 x2' : List Bool} {x3 x3' : List Int} {x4 x4' : List S58} {y1 y1' : List ByteArray} {y2 y2' : List Bool} {gn n : Nat} {row row' : Nat → Value} {len len' : Nat → Nat}
theorem St.kept (h : St base z1 z2 z4 z5 z7 w7 W g4 g9 s1 s2 s3 s4 u1 u2 u3 x1 x2 x3 x4 y1 y2 gn n row len) (hb : Below W.heap.size W W1) : St base z1 z2 z4 z5 z7 w7 W1 g4 g9 s1 s2 s3 s4 u1 u2 u3 x1 x2 x3 x4 y1 y2 gn n row len :=
  ⟨h.fr.below hb, blk_below h.b4 hb, blk_below h.b9 hb, Kd.R_below h.a1 hb, Kd.R_below h.a2 hb, Kd.R_below h.a3 hb, Kd.R_below h.a4 hb, Kd.R_below h.d1 hb, Kd.R_below h.d2 hb, fun hn => (h.d3 hn).below hb, h.q1, h.q2, h.q3, h.q4⟩
/-- A block of the table's has been written. -/
theorem St.wA (h : St base z1 z2 z4 z5 z7 w7 W g4 g9 s1 s2 s3 s4 u1 u2 u3 x1 x2 x3 x4 y1 y2 gn n row len) {b t : Nat} (gr : W.grownBy W1 (some b)) (TY : ∀ k, some b = some k → ∃ cells, W.heap[k]? = some (.cells cells t (0, 0))) (hz : z1 ≤ b ∧ b < z2) (ht : t ≠ 32 ∧ t ≠ 26)
    (n1 : (t ≠ 9 ∧ x1' = x1) ∨ Kd.string.R 9 W1 base (fun k => z1 ≤ k ∧ k < z2) s1 x1') (n2 : (t ≠ 4 ∧ x2' = x2) ∨ Kd.bool.R 4 W1 base (fun k => z1 ≤ k ∧ k < z2) s2 x2')
    (n3 : (t ≠ 3 ∧ x3' = x3) ∨ (Kd.int .i64).R 3 W1 base (fun k => z1 ≤ k ∧ k < z2) s3 x3') (n4 : (t ≠ 58 ∧ x4' = x4) ∨ k58.R 58 W1 base (fun k => z1 ≤ k ∧ k < z2) s4 x4') :
    St base z1 z2 z4 z5 z7 w7 W1 g4 g9 s1 s2 s3 s4 u1 u2 u3 x1' x2' x3' x4' y1 y2 gn n row len := by
  have off : ∀ q, t ≠ q → Off W (some b) [q] := fun q hq => Off.typed TY (fun q' h' => by rw [List.mem_singleton.1 h']; exact fun e => hq e.symm)
  have q1 := h.q1
  have q2 := h.q2
  have q4 := h.q4
  refine ⟨h.fr.grown gr (fun b' e => by obtain rfl := Option.some.inj e; exact .inl (.inl hz)), blk_off h.b4 gr (off _ ht.1) (by simp), blk_off h.b9 gr (off _ ht.2) (by simp), ?_, ?_, ?_, ?_,
    R_off h.d1 gr (fun g e hk => by obtain rfl := Option.some.inj e; omega), R_off h.d2 gr (fun g e hk => by obtain rfl := Option.some.inj e; omega),
    fun hn => (h.d3 hn).far gr (fun b' e hk => by obtain rfl := Option.some.inj e; omega), h.q1, h.q2, h.q3, h.q4⟩
  · rcases n1 with ⟨ne, rfl⟩ | n1
    · exact R_off h.a1 gr (fun g e _ => off _ ne g e)
    · exact n1
  · rcases n2 with ⟨ne, rfl⟩ | n2
    · exact R_off h.a2 gr (fun g e _ => off _ ne g e)
    · exact n2
  · rcases n3 with ⟨ne, rfl⟩ | n3
    · exact R_off h.a3 gr (fun g e _ => off _ ne g e)
    · exact n3
  · rcases n4 with ⟨ne, rfl⟩ | n4
    · exact R_off h.a4 gr (fun g e _ => off _ ne g e)
    · exact n4
/-- A block of the machine's has been written, or grown. -/
theorem St.wU (h : St base z1 z2 z4 z5 z7 w7 W g4 g9 s1 s2 s3 s4 u1 u2 u3 x1 x2 x3 x4 y1 y2 gn n row len) {r : Option Nat} {t : Nat} (gr : W.grownBy W1 r) (TY : ∀ k, r = some k → ∃ cells, W.heap[k]? = some (.cells cells t (0, 0))) (hz : ∀ b, r = some b → (z4 ≤ b ∧ b < z5) ∨ z7 ≤ b) (ht : t ≠ 32 ∧ t ≠ 26)
    (n1 : (t ≠ 9 ∧ y1' = y1) ∨ Kd.string.R 9 W1 base (fun k => z4 ≤ k ∧ k < z5) u1 y1') (n2 : (t ≠ 4 ∧ y2' = y2) ∨ Kd.bool.R 4 W1 base (fun k => z4 ≤ k ∧ k < z5) u2 y2')
    (n3 : ((t ≠ 3 ∧ t ≠ 29) ∧ row' = row ∧ len' = len) ∨ (0 < n → Wk 3 29 W1 base (fun k => (z4 ≤ k ∧ k < z5) ∨ z7 ≤ k) gn n row' len')) :
    St base z1 z2 z4 z5 z7 w7 W1 g4 g9 s1 s2 s3 s4 u1 u2 u3 x1 x2 x3 x4 y1' y2' gn n row' len' := by
  have off : ∀ q, t ≠ q → Off W r [q] := fun q hq => Off.typed TY (fun q' h' => by rw [List.mem_singleton.1 h']; exact fun e => hq e.symm)
  have q1 := h.q1
  have q2 := h.q2
  have q3 := h.q3
  have q4 := h.q4
  have zA : ∀ g, r = some g → ¬ (z1 ≤ g ∧ g < z2) := fun g e => by have := hz g e; omega
  refine ⟨h.fr.grown gr (fun b' e => by have := hz b' e; omega), blk_off h.b4 gr (off _ ht.1) (by simp), blk_off h.b9 gr (off _ ht.2) (by simp), R_off h.a1 gr (fun g e hk => absurd hk (zA g e)), R_off h.a2 gr (fun g e hk => absurd hk (zA g e)), R_off h.a3 gr (fun g e hk => absurd hk (zA g e)), R_off h.a4 gr (fun g e hk => absurd hk (zA g e)), ?_, ?_, ?_, h.q1, h.q2, h.q3, h.q4⟩
  · rcases n1 with ⟨ne, rfl⟩ | n1
    · exact R_off h.d1 gr (fun g e _ => off _ ne g e)
    · exact n1
  · rcases n2 with ⟨ne, rfl⟩ | n2
    · exact R_off h.d2 gr (fun g e _ => off _ ne g e)
    · exact n2
  · rcases n3 with ⟨⟨ne1, ne2⟩, rfl, rfl⟩ | n3
    · exact fun hn => (h.d3 hn).off gr (fun b e q hq cs => by rcases hq with rfl | rfl; exact off _ ne2 b e _ (by simp) cs; exact off _ ne1 b e _ (by simp) cs)
    · exact n3
theorem St.n0 (h : St base z1 z2 z4 z5 z7 w7 W g4 g9 s1 s2 s3 s4 u1 u2 u3 x1 x2 x3 x4 y1 y2 gn n row len) : St base z1 z2 z4 z5 z7 w7 W g4 g9 s1 s2 s3 s4 u1 u2 u3 x1 x2 x3 x4 y1 y2 gn 0 row len :=
  ⟨h.fr, h.b4, h.b9, h.a1, h.a2, h.a3, h.a4, h.d1, h.d2, fun h0 => absurd h0 (by omega), h.q1, h.q2, h.q3, h.q4⟩
theorem St.with3 (h : St base z1 z2 z4 z5 z7 w7 W g4 g9 s1 s2 s3 s4 u1 u2 u3 x1 x2 x3 x4 y1 y2 gn 0 row len) (k : 0 < n → Wk 3 29 W base (fun k => (z4 ≤ k ∧ k < z5) ∨ z7 ≤ k) gn n row' len') : St base z1 z2 z4 z5 z7 w7 W g4 g9 s1 s2 s3 s4 u1 u2 u3 x1 x2 x3 x4 y1 y2 gn n row' len' :=
  ⟨h.fr, h.b4, h.b9, h.a1, h.a2, h.a3, h.a4, h.d1, h.d2, k, h.q1, h.q2, h.q3, h.q4⟩
/-- A row of the machine's has grown, and is stored in its place. -/
theorem St.next (h : St base z1 z2 z4 z5 z7 w7 W g4 g9 s1 s2 s3 s4 u1 u2 u3 x1 x2 x3 x4 y1 y2 gn n row len) {i : Nat} (hi : i < n) (gr : W.grownBy W1 (row i).ownBlock) {v1 : Value} {m : Nat} {ys : List Value} (ho : W1.ownsRow base 3 1 v1 m ys) (hat : v1.ownBlock = (row i).ownBlock ∨ ∃ b, v1.ownBlock = some b ∧ W.heap.size ≤ b) :
    St base z1 z2 z4 z5 z7 w7 (W1.setCell ⟨gn, i, none⟩ v1) g4 g9 s1 s2 s3 s4 u1 u2 u3 x1 x2 x3 x4 y1 y2 gn n (updv row i v1) (updn len i m) := by
  have WK := h.d3 (by omega)
  obtain ⟨xs, hx⟩ := WK.own i hi
  have TY := own_typed hx
  have q3 := h.q3
  have hs := h.fr.size
  obtain ⟨cur, hcur, hcr⟩ := WK.hd
  have hc1 := blk_off hcur gr (Off.typed (T := [29]) TY (by decide)) (by simp)
  have TG : ∀ k, some gn = some k → ∃ cells, W1.heap[k]? = some (.cells cells 29 (0, 0)) := fun k e => by obtain rfl := Option.some.inj e; exact ⟨_, hc1⟩
  have S1 := h.n0.wU (row' := row) (len' := len) (y1' := y1) (y2' := y2) gr TY (WK.okk i hi) (by decide) (.inl ⟨by decide, rfl⟩) (.inl ⟨by decide, rfl⟩) (.inr (fun h0 => absurd h0 (by omega)))
  have S2 := S1.wU (row' := row) (len' := len) (y1' := y1) (y2' := y2) (grown_cell W1 gn i v1) TG (fun b e => by obtain rfl := Option.some.inj e; exact WK.okg) (by decide) (.inl ⟨by decide, rfl⟩) (.inl ⟨by decide, rfl⟩) (.inr (fun h0 => absurd h0 (by omega)))
  exact S2.with3 (fun _ => WK.next (by decide) hi gr ho hat (fun k hk => .inr (by omega)))
end
theorem R_in {α : Type} {d : Kd α} {e : TypeId} {W : World} {base b2 : Nat} {ok ok' : Nat → Prop} {v : Value} {xs : List α} (h : d.R e W base ok v xs) (hb : b2 ≤ base) (hk : ∀ k, base ≤ k → k < W.heap.size → ok' k) : d.R e W b2 ok' v xs := Kd.R_mono (Kd.R_lower (Kd.R_bound h) hb) (fun k hk' => hk k hk'.2.1 hk'.2.2.1)
theorem S_in {α : Type} {d : Kd α} {e : TypeId} {W : World} {base b2 : Nat} {ok ok' : Nat → Prop} {v : Value} {xs : List α} (h : Kd.S d e W base ok v xs) (hb : b2 ≤ base) (hk : ∀ k, base ≤ k → k < W.heap.size → ok' k) : Kd.S d e W b2 ok' v xs := by
  obtain ⟨f, h⟩ := Kd.S_bound h
  exact Kd.S_mono ⟨f, Kd.R_lower h hb⟩ (fun k hk' => hk k hk'.2.1 hk'.2.2.1)
set_option maxHeartbeats 400000000 in
set_option maxRecDepth 100000 in
theorem tabardlaw12_TableMemory.calls (k : Nat) (A0_0 : Option Addr) (c0_0 : Nat) (tr : List ByteArray) (A0_1 : Option Addr) (c0_1 : Nat) (ac : List Bool) (A0_2 : Option Addr) (c0_2 : Nat) (nx : List (List Int)) (t1 : List ByteArray) (t2 : List Bool) (t3 : List Int) (t4 : List S58) (er : Int) (w : World)
    (hr0_0 : Kd.C Kd.string w A0_0 tr.length tr) (hc0_0 : tr.length ≤ c0_0) (hr0_1 : Kd.C Kd.bool w A0_1 ac.length ac) (hc0_1 : ac.length ≤ c0_1) (hr0_2 : Kd.C (Kd.slice 3 (Kd.int .i64)) w A0_2 nx.length nx) (hc0_2 : nx.length ≤ c0_2)
    (hF : tabardlaw12_fixed.f k = some true) (hcd : tabardref12_CopyDense.f k tr ac nx = some (tr, ac, nx)) (hpk : table_Pack.f k tr ac nx = some (t1, t2, t3, t4, er))
    (hok : er = 0 → tabardref12_Copy.f t1 t2 t3 t4 = some (t1, t2, t3, t4) ∧ table_Unpack.f k t1 t2 t3 t4 = some (tr, ac, nx, 0) ∧ tabardref12_SameDense.f k tr ac nx tr ac nx = some true ∧ tabardref12_Same.f k t1 t2 t3 t4 t1 t2 t3 t4 = some true ∧
      t1.length = tr.length ∧ t2.length = ac.length ∧ nx.length = ac.length ∧ t4.length ≤ 1073741824 ∧ ∀ i, i < nx.length → (nx.getD i []).length ≤ 1073741824) :
    Calls Try.prog 7 #[.agg #[.slice A0_0 tr.length c0_0, .slice A0_1 ac.length c0_1, .slice A0_2 nx.length c0_2]] w fun e w' => e = .returned (.bool true) ∧ Below w.heap.size w w' := by
  have H1 := Aside0.mk hr0_0
  have H2 := Aside0.mk hr0_1
  have H3 := Aside0.mk hr0_2
  have C1 := Aside0.mk hc0_0
  have C2 := Aside0.mk hc0_1
  have C3 := Aside0.mk hc0_2
  have HF := Aside0.mk hF
  have HCD := Aside0.mk hcd
  have HPK := Aside0.mk hpk
  have HOK := Aside0.mk hok
  clear hr0_0 hr0_1 hr0_2 hc0_0 hc0_1 hc0_2 hF hcd hpk hok
  go_enter Try.func7, Try.ntmps7
  go_upto_region 3 with (first
    | ((with_reducible refine gate_dst (N := 1) rfl ?_); refine be_ (cs := #[.slice A0_0 tr.length c0_0, .slice A0_1 ac.length c0_1, .slice A0_2 nx.length c0_2]) (t := 26) ?_; intro g1 hg wa hbox hb; have N1 := Aside0.mk hbox; have HB := Aside0.mk hb; have LO1 := Aside0.mk (show w.heap.size ≤ g1 from Nat.le_of_eq hg.symm); clear hb hbox hg)
    | (go_at_call 13; (with_reducible refine (tabardlaw12_fixed.calls k true _ HF.out).mono ?_); rintro _ w0_ ⟨rfl, hb⟩; replace N1 := Aside0.mk (blk_below N1.out hb); replace HB := Aside0.mk (below_step HB.out hb); clear hb))
  obtain ⟨z0, ez_⟩ : ∃ z, z = w0_.heap.size := ⟨_, rfl⟩
  have EZ0 := Aside0.mk ez_
  have LT1 := Aside0.mk (show g1 < z0 by rw [ez_]; exact blk_lt N1.out)
  have LW0 := Aside0.mk (show w.heap.size ≤ w0_.heap.size from below_size HB.out)
  clear ez_
  obtain ⟨hz0, hz1, hz2, _, _, _⟩ := bF3 N1.out
  go_upto_region 4 with (first
    | (go_at_call 10; (with_reducible refine (tabardref12_CopyDense.calls k _ _ tr _ _ ac _ _ nx tr ac nx _ (Kd.C_below H1.out HB.out) C1.out (Kd.C_below H2.out HB.out) C2.out (Kd.C_below H3.out HB.out) C3.out HCD.out).mono ?_); rintro _ wc ⟨vM1, vM2, vM3, rfl, h1, h2, h3, hb⟩; obtain ⟨AM1, cM1, eM1⟩ := Kd.R_slice h1; obtain ⟨AM2, cM2, eM2⟩ := Kd.R_slice h2; obtain ⟨AM3, cM3, eM3⟩ := Kd.R_slice (Kd.S_R h3); subst eM1 eM2 eM3; have M1 := Aside0.mk h1; have M2 := Aside0.mk h2; have M3 := Aside0.mk h3; have HBC := Aside0.mk hb; clear h1 h2 h3 hb)
    | ((with_reducible refine gate_dst (N := 3) rfl ?_); refine be_ (cs := #[.slice none 0 0, .slice none 0 0, .slice none 0 0]) (t := 26) ?_; intro g3 hg wd hbox hb; have KM := Aside0.mk hbox; have HG := Aside0.mk hg; have HBD := Aside0.mk hb; clear hb hbox hg; obtain ⟨pz0, pz1, pz2, pf0, pf1, pf2⟩ := bF3 KM.out))
  have le_ := Nat.le_of_eq HG.out.symm
  have hBX := (below_set (g := g3) (j := 2) (v := .slice AM3 nx.length cM3) (below_set (g := g3) (j := 1) (v := .slice AM2 ac.length cM2) (below_set (g := g3) (j := 0) (v := .slice AM1 tr.length cM1) HBD.out le_) le_) le_)
  have hKX := (blk_put (blk_put (blk_put KM.out 0 (.slice AM1 tr.length cM1) rfl) 1 (.slice AM2 ac.length cM2) rfl) 2 (.slice AM3 nx.length cM3) rfl)
  generalize (((wd.setCell ⟨g3, 0, none⟩ (.slice AM1 tr.length cM1)).setCell ⟨g3, 1, none⟩ (.slice AM2 ac.length cM2)).setCell ⟨g3, 2, none⟩ (.slice AM3 nx.length cM3)) = w1 at hBX hKX ⊢
  have b_ := below_step HBC.out hBX
  replace N1 := Aside0.mk (blk_below N1.out b_)
  replace HB := Aside0.mk (below_step HB.out b_)
  have LGM := Aside0.mk (show z0 ≤ g3 by rw [EZ0.out, HG.out]; exact below_size HBC.out)
  have LZ1 := Aside0.mk (show z0 ≤ w1.heap.size by rw [EZ0.out]; exact below_size b_)
  replace M1 := Aside0.mk (R_in (ok' := fun k => z0 ≤ k ∧ k < w1.heap.size) (b2 := w.heap.size) (Kd.R_below M1.out hBX) LW0.out (fun k h1 h2 => ⟨by rw [EZ0.out]; exact h1, h2⟩))
  replace M2 := Aside0.mk (R_in (ok' := fun k => z0 ≤ k ∧ k < w1.heap.size) (b2 := w.heap.size) (Kd.R_below M2.out hBX) LW0.out (fun k h1 h2 => ⟨by rw [EZ0.out]; exact h1, h2⟩))
  replace M3 := Aside0.mk (S_in (ok' := fun k => z0 ≤ k ∧ k < w1.heap.size) (b2 := w.heap.size) (Kd.S_below M3.out hBX) LW0.out (fun k h1 h2 => ⟨by rw [EZ0.out]; exact h1, h2⟩))
  replace KM := Aside0.mk hKX
  have LTM := Aside0.mk (show g3 < w1.heap.size from blk_lt hKX)
  have LW1 := Aside0.mk (show w.heap.size ≤ w1.heap.size from below_size HB.out)
  obtain ⟨z1, ez_⟩ : ∃ z, z = w1.heap.size := ⟨_, rfl⟩
  rw [← ez_] at M1 M2 M3 LTM LZ1
  have EZ1 := Aside0.mk ez_
  clear hBX hKX b_ le_ HG HBD HBC ez_ hz0 hz1 hz2 pz0 pz1 pz2 pf0 pf1 pf2
  obtain ⟨hz0, hz1, hz2, _, _, _⟩ := bF3 KM.out
  go_upto_region 5 with (first
    | (go_at_call 12; (with_reducible refine (table_Pack.calls k _ _ tr _ _ ac _ _ nx t1 t2 t3 t4 er _ (Kd.R_reads' M1.out).2.2 (Kd.R_reads' M1.out).2.1 (Kd.R_reads' M2.out).2.2 (Kd.R_reads' M2.out).2.1 (Kd.R_reads' (Kd.S_R M3.out)).2.2 (Kd.R_reads' (Kd.S_R M3.out)).2.1 HPK.out).mono ?_); rintro _ wc ⟨vA1, vA2, vA3, vA4, rfl, h1, h2, h3, h4, hb⟩; obtain ⟨AA1, cA1, eA1⟩ := Kd.R_slice h1; obtain ⟨AA2, cA2, eA2⟩ := Kd.R_slice h2; obtain ⟨AA3, cA3, eA3⟩ := Kd.R_slice h3; obtain ⟨AA4, cA4, eA4⟩ := Kd.R_slice h4; subst eA1 eA2 eA3 eA4; have A1 := Aside0.mk h1; have A2 := Aside0.mk h2; have A3 := Aside0.mk h3; have A4 := Aside0.mk h4; have HBC := Aside0.mk hb; clear h1 h2 h3 h4 hb)
    | ((with_reducible refine gate_dst (N := 4) rfl ?_); refine be_ (cs := #[.slice none 0 0, .slice none 0 0, .slice none 0 0, .slice none 0 0]) (t := 32) ?_; intro g4 hg wd hbox hb; have KA := Aside0.mk hbox; have HG := Aside0.mk hg; have HBD := Aside0.mk hb; clear hb hbox hg; obtain ⟨pz0, pz1, pz2, pz3, pf0, pf1, pf2, pf3⟩ := bF4 KA.out))
  have le_ := Nat.le_of_eq HG.out.symm
  have hBX := (below_set (g := g4) (j := 3) (v := .slice AA4 t4.length cA4) (below_set (g := g4) (j := 2) (v := .slice AA3 t3.length cA3) (below_set (g := g4) (j := 1) (v := .slice AA2 t2.length cA2) (below_set (g := g4) (j := 0) (v := .slice AA1 t1.length cA1) HBD.out le_) le_) le_) le_)
  have hKX := (blk_put (blk_put (blk_put (blk_put KA.out 0 (.slice AA1 t1.length cA1) rfl) 1 (.slice AA2 t2.length cA2) rfl) 2 (.slice AA3 t3.length cA3) rfl) 3 (.slice AA4 t4.length cA4) rfl)
  generalize ((((wd.setCell ⟨g4, 0, none⟩ (.slice AA1 t1.length cA1)).setCell ⟨g4, 1, none⟩ (.slice AA2 t2.length cA2)).setCell ⟨g4, 2, none⟩ (.slice AA3 t3.length cA3)).setCell ⟨g4, 3, none⟩ (.slice AA4 t4.length cA4)) = w2 at hBX hKX ⊢
  have b_ := below_step HBC.out hBX
  replace N1 := Aside0.mk (blk_below N1.out b_)
  replace HB := Aside0.mk (below_step HB.out b_)
  replace M1 := Aside0.mk (Kd.R_below M1.out b_)
  replace M2 := Aside0.mk (Kd.R_below M2.out b_)
  replace M3 := Aside0.mk (Kd.S_below M3.out b_)
  replace KM := Aside0.mk (blk_below KM.out b_)
  have LGA := Aside0.mk (show z1 ≤ g4 by rw [EZ1.out, HG.out]; exact below_size HBC.out)
  have LZ2 := Aside0.mk (show z1 ≤ w2.heap.size by rw [EZ1.out]; exact below_size b_)
  replace A1 := Aside0.mk (R_in (ok' := fun k => z1 ≤ k ∧ k < w2.heap.size) (b2 := w.heap.size) (Kd.R_below A1.out hBX) LW1.out (fun k h1 h2 => ⟨by rw [EZ1.out]; exact h1, h2⟩))
  replace A2 := Aside0.mk (R_in (ok' := fun k => z1 ≤ k ∧ k < w2.heap.size) (b2 := w.heap.size) (Kd.R_below A2.out hBX) LW1.out (fun k h1 h2 => ⟨by rw [EZ1.out]; exact h1, h2⟩))
  replace A3 := Aside0.mk (R_in (ok' := fun k => z1 ≤ k ∧ k < w2.heap.size) (b2 := w.heap.size) (Kd.R_below A3.out hBX) LW1.out (fun k h1 h2 => ⟨by rw [EZ1.out]; exact h1, h2⟩))
  replace A4 := Aside0.mk (R_in (ok' := fun k => z1 ≤ k ∧ k < w2.heap.size) (b2 := w.heap.size) (Kd.R_below A4.out hBX) LW1.out (fun k h1 h2 => ⟨by rw [EZ1.out]; exact h1, h2⟩))
  replace KA := Aside0.mk hKX
  have LTA := Aside0.mk (show g4 < w2.heap.size from blk_lt hKX)
  have LW2 := Aside0.mk (show w.heap.size ≤ w2.heap.size from below_size HB.out)
  obtain ⟨z2, ez_⟩ : ∃ z, z = w2.heap.size := ⟨_, rfl⟩
  rw [← ez_] at A1 A2 A3 A4 LTA LZ2
  have EZ2 := Aside0.mk ez_
  clear hBX hKX b_ le_ HG HBD HBC ez_ hz0 hz1 hz2 pz0 pz1 pz2 pz3 pf0 pf1 pf2 pf3
  obtain ⟨hz0, hz1, hz2, _, _, _⟩ := bF3 KM.out
  go_upto_region 6 with (first
    | (go_at_call 12; (with_reducible refine (table_Pack.calls k _ _ tr _ _ ac _ _ nx t1 t2 t3 t4 er _ (Kd.R_reads' M1.out).2.2 (Kd.R_reads' M1.out).2.1 (Kd.R_reads' M2.out).2.2 (Kd.R_reads' M2.out).2.1 (Kd.R_reads' (Kd.S_R M3.out)).2.2 (Kd.R_reads' (Kd.S_R M3.out)).2.1 HPK.out).mono ?_); rintro _ wc ⟨vB1, vB2, vB3, vB4, rfl, h1, h2, h3, h4, hb⟩; obtain ⟨AB1, cB1, eB1⟩ := Kd.R_slice h1; obtain ⟨AB2, cB2, eB2⟩ := Kd.R_slice h2; obtain ⟨AB3, cB3, eB3⟩ := Kd.R_slice h3; obtain ⟨AB4, cB4, eB4⟩ := Kd.R_slice h4; subst eB1 eB2 eB3 eB4; have B1 := Aside0.mk h1; have B2 := Aside0.mk h2; have B3 := Aside0.mk h3; have B4 := Aside0.mk h4; have HBC := Aside0.mk hb; clear h1 h2 h3 h4 hb)
    | ((with_reducible refine gate_dst (N := 6) rfl ?_); refine be_ (cs := #[.slice none 0 0, .slice none 0 0, .slice none 0 0, .slice none 0 0]) (t := 32) ?_; intro g6 hg wd hbox hb; have KB := Aside0.mk hbox; have HG := Aside0.mk hg; have HBD := Aside0.mk hb; clear hb hbox hg; obtain ⟨pz0, pz1, pz2, pz3, pf0, pf1, pf2, pf3⟩ := bF4 KB.out))
  have le_ := Nat.le_of_eq HG.out.symm
  have hBX := (below_set (g := g6) (j := 3) (v := .slice AB4 t4.length cB4) (below_set (g := g6) (j := 2) (v := .slice AB3 t3.length cB3) (below_set (g := g6) (j := 1) (v := .slice AB2 t2.length cB2) (below_set (g := g6) (j := 0) (v := .slice AB1 t1.length cB1) HBD.out le_) le_) le_) le_)
  have hKX := (blk_put (blk_put (blk_put (blk_put KB.out 0 (.slice AB1 t1.length cB1) rfl) 1 (.slice AB2 t2.length cB2) rfl) 2 (.slice AB3 t3.length cB3) rfl) 3 (.slice AB4 t4.length cB4) rfl)
  generalize ((((wd.setCell ⟨g6, 0, none⟩ (.slice AB1 t1.length cB1)).setCell ⟨g6, 1, none⟩ (.slice AB2 t2.length cB2)).setCell ⟨g6, 2, none⟩ (.slice AB3 t3.length cB3)).setCell ⟨g6, 3, none⟩ (.slice AB4 t4.length cB4)) = w3 at hBX hKX ⊢
  have b_ := below_step HBC.out hBX
  replace N1 := Aside0.mk (blk_below N1.out b_)
  replace HB := Aside0.mk (below_step HB.out b_)
  replace M1 := Aside0.mk (Kd.R_below M1.out b_)
  replace M2 := Aside0.mk (Kd.R_below M2.out b_)
  replace M3 := Aside0.mk (Kd.S_below M3.out b_)
  replace KM := Aside0.mk (blk_below KM.out b_)
  replace A1 := Aside0.mk (Kd.R_below A1.out b_)
  replace A2 := Aside0.mk (Kd.R_below A2.out b_)
  replace A3 := Aside0.mk (Kd.R_below A3.out b_)
  replace A4 := Aside0.mk (Kd.R_below A4.out b_)
  replace KA := Aside0.mk (blk_below KA.out b_)
  have LGB := Aside0.mk (show z2 ≤ g6 by rw [EZ2.out, HG.out]; exact below_size HBC.out)
  have LZ3 := Aside0.mk (show z2 ≤ w3.heap.size by rw [EZ2.out]; exact below_size b_)
  replace B1 := Aside0.mk (R_in (ok' := fun k => z2 ≤ k ∧ k < w3.heap.size) (b2 := w.heap.size) (Kd.R_below B1.out hBX) LW2.out (fun k h1 h2 => ⟨by rw [EZ2.out]; exact h1, h2⟩))
  replace B2 := Aside0.mk (R_in (ok' := fun k => z2 ≤ k ∧ k < w3.heap.size) (b2 := w.heap.size) (Kd.R_below B2.out hBX) LW2.out (fun k h1 h2 => ⟨by rw [EZ2.out]; exact h1, h2⟩))
  replace B3 := Aside0.mk (R_in (ok' := fun k => z2 ≤ k ∧ k < w3.heap.size) (b2 := w.heap.size) (Kd.R_below B3.out hBX) LW2.out (fun k h1 h2 => ⟨by rw [EZ2.out]; exact h1, h2⟩))
  replace B4 := Aside0.mk (R_in (ok' := fun k => z2 ≤ k ∧ k < w3.heap.size) (b2 := w.heap.size) (Kd.R_below B4.out hBX) LW2.out (fun k h1 h2 => ⟨by rw [EZ2.out]; exact h1, h2⟩))
  replace KB := Aside0.mk hKX
  have LTB := Aside0.mk (show g6 < w3.heap.size from blk_lt hKX)
  have LW3 := Aside0.mk (show w.heap.size ≤ w3.heap.size from below_size HB.out)
  obtain ⟨z3, ez_⟩ : ∃ z, z = w3.heap.size := ⟨_, rfl⟩
  rw [← ez_] at B1 B2 B3 B4 LTB LZ3
  have EZ3 := Aside0.mk ez_
  clear hBX hKX b_ le_ HG HBD HBC ez_ hz0 hz1 hz2 pz0 pz1 pz2 pz3 pf0 pf1 pf2 pf3
  by_cases he : er = 0
  case neg =>
    have hne : (er != 0) = true := by simpa using he
    have heq : (er == er) = true := by simp
    clear he
    go_wp2
    go_ret
    exact ⟨rfl, HB.out⟩
  case pos =>
  subst he
  obtain ⟨hcp, hun, hsd, hsm, hl1, hl2, hl3, hl4, hlen⟩ := HOK.out rfl
  have HCP := Aside0.mk hcp
  have HUN := Aside0.mk hun
  have HSD := Aside0.mk hsd
  have HSM := Aside0.mk hsm
  have HL1 := Aside0.mk hl1
  have HL2 := Aside0.mk hl2
  have HL3 := Aside0.mk hl3
  have HL4 := Aside0.mk hl4
  have HLEN := Aside0.mk hlen
  clear hcp hun hsd hsm hl1 hl2 hl3 hl4 hlen HOK HPK
  go_upto_region 8 with (fail)
  obtain ⟨hz0, hz1, hz2, hz3, _, _, _, _⟩ := bF4 KB.out
  go_upto_region 9 with (first
    | (go_at_call 26; (with_reducible refine (tabardref12_Copy.calls _ _ t1 _ _ t2 _ _ t3 _ _ t4 t1 t2 t3 t4 _ (Kd.R_reads' B1.out).2.2 (Kd.R_reads' B1.out).2.1 (Kd.R_reads' B2.out).2.2 (Kd.R_reads' B2.out).2.1 (Kd.R_reads' B3.out).2.2 (Kd.R_reads' B3.out).2.1 (Kd.R_reads' B4.out).2.2 (Kd.R_reads' B4.out).2.1 HCP.out).mono ?_); rintro _ wc ⟨vK1, vK2, vK3, vK4, rfl, h1, h2, h3, h4, hb⟩; obtain ⟨AK1, cK1, eK1⟩ := Kd.R_slice h1; obtain ⟨AK2, cK2, eK2⟩ := Kd.R_slice h2; obtain ⟨AK3, cK3, eK3⟩ := Kd.R_slice h3; obtain ⟨AK4, cK4, eK4⟩ := Kd.R_slice h4; subst eK1 eK2 eK3 eK4; have K1 := Aside0.mk h1; have K2 := Aside0.mk h2; have K3 := Aside0.mk h3; have K4 := Aside0.mk h4; have HBC := Aside0.mk hb; clear h1 h2 h3 h4 hb)
    | ((with_reducible refine gate_dst (N := 8) rfl ?_); refine be_ (cs := #[.slice none 0 0, .slice none 0 0, .slice none 0 0, .slice none 0 0]) (t := 32) ?_; intro g8 hg wd hbox hb; have KK := Aside0.mk hbox; have HG := Aside0.mk hg; have HBD := Aside0.mk hb; clear hb hbox hg; obtain ⟨pz0, pz1, pz2, pz3, pf0, pf1, pf2, pf3⟩ := bF4 KK.out))
  have le_ := Nat.le_of_eq HG.out.symm
  have hBX := (below_set (g := g8) (j := 3) (v := .slice AK4 t4.length cK4) (below_set (g := g8) (j := 2) (v := .slice AK3 t3.length cK3) (below_set (g := g8) (j := 1) (v := .slice AK2 t2.length cK2) (below_set (g := g8) (j := 0) (v := .slice AK1 t1.length cK1) HBD.out le_) le_) le_) le_)
  have hKX := (blk_put (blk_put (blk_put (blk_put KK.out 0 (.slice AK1 t1.length cK1) rfl) 1 (.slice AK2 t2.length cK2) rfl) 2 (.slice AK3 t3.length cK3) rfl) 3 (.slice AK4 t4.length cK4) rfl)
  generalize ((((wd.setCell ⟨g8, 0, none⟩ (.slice AK1 t1.length cK1)).setCell ⟨g8, 1, none⟩ (.slice AK2 t2.length cK2)).setCell ⟨g8, 2, none⟩ (.slice AK3 t3.length cK3)).setCell ⟨g8, 3, none⟩ (.slice AK4 t4.length cK4)) = w4 at hBX hKX ⊢
  have b_ := below_step HBC.out hBX
  replace N1 := Aside0.mk (blk_below N1.out b_)
  replace HB := Aside0.mk (below_step HB.out b_)
  replace M1 := Aside0.mk (Kd.R_below M1.out b_)
  replace M2 := Aside0.mk (Kd.R_below M2.out b_)
  replace M3 := Aside0.mk (Kd.S_below M3.out b_)
  replace KM := Aside0.mk (blk_below KM.out b_)
  replace A1 := Aside0.mk (Kd.R_below A1.out b_)
  replace A2 := Aside0.mk (Kd.R_below A2.out b_)
  replace A3 := Aside0.mk (Kd.R_below A3.out b_)
  replace A4 := Aside0.mk (Kd.R_below A4.out b_)
  replace KA := Aside0.mk (blk_below KA.out b_)
  replace B1 := Aside0.mk (Kd.R_below B1.out b_)
  replace B2 := Aside0.mk (Kd.R_below B2.out b_)
  replace B3 := Aside0.mk (Kd.R_below B3.out b_)
  replace B4 := Aside0.mk (Kd.R_below B4.out b_)
  replace KB := Aside0.mk (blk_below KB.out b_)
  have LGK := Aside0.mk (show z3 ≤ g8 by rw [EZ3.out, HG.out]; exact below_size HBC.out)
  have LZ4 := Aside0.mk (show z3 ≤ w4.heap.size by rw [EZ3.out]; exact below_size b_)
  replace K1 := Aside0.mk (R_in (ok' := fun k => z3 ≤ k ∧ k < w4.heap.size) (b2 := w.heap.size) (Kd.R_below K1.out hBX) LW3.out (fun k h1 h2 => ⟨by rw [EZ3.out]; exact h1, h2⟩))
  replace K2 := Aside0.mk (R_in (ok' := fun k => z3 ≤ k ∧ k < w4.heap.size) (b2 := w.heap.size) (Kd.R_below K2.out hBX) LW3.out (fun k h1 h2 => ⟨by rw [EZ3.out]; exact h1, h2⟩))
  replace K3 := Aside0.mk (R_in (ok' := fun k => z3 ≤ k ∧ k < w4.heap.size) (b2 := w.heap.size) (Kd.R_below K3.out hBX) LW3.out (fun k h1 h2 => ⟨by rw [EZ3.out]; exact h1, h2⟩))
  replace K4 := Aside0.mk (R_in (ok' := fun k => z3 ≤ k ∧ k < w4.heap.size) (b2 := w.heap.size) (Kd.R_below K4.out hBX) LW3.out (fun k h1 h2 => ⟨by rw [EZ3.out]; exact h1, h2⟩))
  replace KK := Aside0.mk hKX
  have LTK := Aside0.mk (show g8 < w4.heap.size from blk_lt hKX)
  have LW4 := Aside0.mk (show w.heap.size ≤ w4.heap.size from below_size HB.out)
  obtain ⟨z4, ez_⟩ : ∃ z, z = w4.heap.size := ⟨_, rfl⟩
  rw [← ez_] at K1 K2 K3 K4 LTK LZ4
  have EZ4 := Aside0.mk ez_
  clear hBX hKX b_ le_ HG HBD HBC ez_ hz0 hz1 hz2 hz3 pz0 pz1 pz2 pz3 pf0 pf1 pf2 pf3
  obtain ⟨hz0, hz1, hz2, hz3, _, _, _, _⟩ := bF4 KB.out
  go_upto_region 10 with (first
    | (go_at_call 27; (with_reducible refine (table_Unpack.calls k _ _ t1 _ _ t2 _ _ t3 _ _ t4 tr ac nx 0 _ (Kd.R_reads' B1.out).2.2 (Kd.R_reads' B1.out).2.1 (Kd.R_reads' B2.out).2.2 (Kd.R_reads' B2.out).2.1 (Kd.R_reads' B3.out).2.2 (Kd.R_reads' B3.out).2.1 (Kd.R_reads' B4.out).2.2 (Kd.R_reads' B4.out).2.1 HUN.out).mono ?_); rintro _ wc ⟨vU1, vU2, vU3, rfl, h1, h2, h3, hb⟩; obtain ⟨AU1, cU1, eU1⟩ := Kd.R_slice h1; obtain ⟨AU2, cU2, eU2⟩ := Kd.R_slice h2; obtain ⟨AU3, cU3, eU3⟩ := Kd.R_slice (Kd.S_R h3); subst eU1 eU2 eU3; have U1 := Aside0.mk h1; have U2 := Aside0.mk h2; have U3 := Aside0.mk h3; have HBC := Aside0.mk hb; clear h1 h2 h3 hb)
    | ((with_reducible refine gate_dst (N := 9) rfl ?_); refine be_ (cs := #[.slice none 0 0, .slice none 0 0, .slice none 0 0]) (t := 26) ?_; intro g9 hg wd hbox hb; have KU := Aside0.mk hbox; have HG := Aside0.mk hg; have HBD := Aside0.mk hb; clear hb hbox hg; obtain ⟨pz0, pz1, pz2, pf0, pf1, pf2⟩ := bF3 KU.out))
  have le_ := Nat.le_of_eq HG.out.symm
  have hBX := (below_set (g := g9) (j := 2) (v := .slice AU3 nx.length cU3) (below_set (g := g9) (j := 1) (v := .slice AU2 ac.length cU2) (below_set (g := g9) (j := 0) (v := .slice AU1 tr.length cU1) HBD.out le_) le_) le_)
  have hKX := (blk_put (blk_put (blk_put KU.out 0 (.slice AU1 tr.length cU1) rfl) 1 (.slice AU2 ac.length cU2) rfl) 2 (.slice AU3 nx.length cU3) rfl)
  generalize (((wd.setCell ⟨g9, 0, none⟩ (.slice AU1 tr.length cU1)).setCell ⟨g9, 1, none⟩ (.slice AU2 ac.length cU2)).setCell ⟨g9, 2, none⟩ (.slice AU3 nx.length cU3)) = w5 at hBX hKX ⊢
  have b_ := below_step HBC.out hBX
  replace N1 := Aside0.mk (blk_below N1.out b_)
  replace HB := Aside0.mk (below_step HB.out b_)
  replace M1 := Aside0.mk (Kd.R_below M1.out b_)
  replace M2 := Aside0.mk (Kd.R_below M2.out b_)
  replace M3 := Aside0.mk (Kd.S_below M3.out b_)
  replace KM := Aside0.mk (blk_below KM.out b_)
  replace A1 := Aside0.mk (Kd.R_below A1.out b_)
  replace A2 := Aside0.mk (Kd.R_below A2.out b_)
  replace A3 := Aside0.mk (Kd.R_below A3.out b_)
  replace A4 := Aside0.mk (Kd.R_below A4.out b_)
  replace KA := Aside0.mk (blk_below KA.out b_)
  replace B1 := Aside0.mk (Kd.R_below B1.out b_)
  replace B2 := Aside0.mk (Kd.R_below B2.out b_)
  replace B3 := Aside0.mk (Kd.R_below B3.out b_)
  replace B4 := Aside0.mk (Kd.R_below B4.out b_)
  replace KB := Aside0.mk (blk_below KB.out b_)
  replace K1 := Aside0.mk (Kd.R_below K1.out b_)
  replace K2 := Aside0.mk (Kd.R_below K2.out b_)
  replace K3 := Aside0.mk (Kd.R_below K3.out b_)
  replace K4 := Aside0.mk (Kd.R_below K4.out b_)
  replace KK := Aside0.mk (blk_below KK.out b_)
  have LGU := Aside0.mk (show z4 ≤ g9 by rw [EZ4.out, HG.out]; exact below_size HBC.out)
  have LZ5 := Aside0.mk (show z4 ≤ w5.heap.size by rw [EZ4.out]; exact below_size b_)
  replace U1 := Aside0.mk (R_in (ok' := fun k => z4 ≤ k ∧ k < w5.heap.size) (b2 := w.heap.size) (Kd.R_below U1.out hBX) LW4.out (fun k h1 h2 => ⟨by rw [EZ4.out]; exact h1, h2⟩))
  replace U2 := Aside0.mk (R_in (ok' := fun k => z4 ≤ k ∧ k < w5.heap.size) (b2 := w.heap.size) (Kd.R_below U2.out hBX) LW4.out (fun k h1 h2 => ⟨by rw [EZ4.out]; exact h1, h2⟩))
  replace U3 := Aside0.mk (S_in (ok' := fun k => z4 ≤ k ∧ k < w5.heap.size) (b2 := w.heap.size) (Kd.S_below U3.out hBX) LW4.out (fun k h1 h2 => ⟨by rw [EZ4.out]; exact h1, h2⟩))
  replace KU := Aside0.mk hKX
  have LTU := Aside0.mk (show g9 < w5.heap.size from blk_lt hKX)
  have LW5 := Aside0.mk (show w.heap.size ≤ w5.heap.size from below_size HB.out)
  obtain ⟨z5, ez_⟩ : ∃ z, z = w5.heap.size := ⟨_, rfl⟩
  rw [← ez_] at U1 U2 U3 LTU LZ5
  have EZ5 := Aside0.mk ez_
  clear hBX hKX b_ le_ HG HBD HBC ez_ hz0 hz1 hz2 hz3 pz0 pz1 pz2 pf0 pf1 pf2
  obtain ⟨hz0, hz1, hz2, hz3, _, _, _, _⟩ := bF4 KB.out
  go_upto_region 11 with (first
    | (go_at_call 27; (with_reducible refine (table_Unpack.calls k _ _ t1 _ _ t2 _ _ t3 _ _ t4 tr ac nx 0 _ (Kd.R_reads' B1.out).2.2 (Kd.R_reads' B1.out).2.1 (Kd.R_reads' B2.out).2.2 (Kd.R_reads' B2.out).2.1 (Kd.R_reads' B3.out).2.2 (Kd.R_reads' B3.out).2.1 (Kd.R_reads' B4.out).2.2 (Kd.R_reads' B4.out).2.1 HUN.out).mono ?_); rintro _ wc ⟨vV1, vV2, vV3, rfl, h1, h2, h3, hb⟩; obtain ⟨AV1, cV1, eV1⟩ := Kd.R_slice h1; obtain ⟨AV2, cV2, eV2⟩ := Kd.R_slice h2; obtain ⟨AV3, cV3, eV3⟩ := Kd.R_slice (Kd.S_R h3); subst eV1 eV2 eV3; have V1 := Aside0.mk h1; have V2 := Aside0.mk h2; have V3 := Aside0.mk h3; have HBC := Aside0.mk hb; clear h1 h2 h3 hb)
    | ((with_reducible refine gate_dst (N := 10) rfl ?_); refine be_ (cs := #[.slice none 0 0, .slice none 0 0, .slice none 0 0]) (t := 26) ?_; intro g10 hg wd hbox hb; have KV := Aside0.mk hbox; have HG := Aside0.mk hg; have HBD := Aside0.mk hb; clear hb hbox hg; obtain ⟨pz0, pz1, pz2, pf0, pf1, pf2⟩ := bF3 KV.out))
  have le_ := Nat.le_of_eq HG.out.symm
  have hBX := (below_set (g := g10) (j := 2) (v := .slice AV3 nx.length cV3) (below_set (g := g10) (j := 1) (v := .slice AV2 ac.length cV2) (below_set (g := g10) (j := 0) (v := .slice AV1 tr.length cV1) HBD.out le_) le_) le_)
  have hKX := (blk_put (blk_put (blk_put KV.out 0 (.slice AV1 tr.length cV1) rfl) 1 (.slice AV2 ac.length cV2) rfl) 2 (.slice AV3 nx.length cV3) rfl)
  generalize (((wd.setCell ⟨g10, 0, none⟩ (.slice AV1 tr.length cV1)).setCell ⟨g10, 1, none⟩ (.slice AV2 ac.length cV2)).setCell ⟨g10, 2, none⟩ (.slice AV3 nx.length cV3)) = w6 at hBX hKX ⊢
  have b_ := below_step HBC.out hBX
  replace N1 := Aside0.mk (blk_below N1.out b_)
  replace HB := Aside0.mk (below_step HB.out b_)
  replace M1 := Aside0.mk (Kd.R_below M1.out b_)
  replace M2 := Aside0.mk (Kd.R_below M2.out b_)
  replace M3 := Aside0.mk (Kd.S_below M3.out b_)
  replace KM := Aside0.mk (blk_below KM.out b_)
  replace A1 := Aside0.mk (Kd.R_below A1.out b_)
  replace A2 := Aside0.mk (Kd.R_below A2.out b_)
  replace A3 := Aside0.mk (Kd.R_below A3.out b_)
  replace A4 := Aside0.mk (Kd.R_below A4.out b_)
  replace KA := Aside0.mk (blk_below KA.out b_)
  replace B1 := Aside0.mk (Kd.R_below B1.out b_)
  replace B2 := Aside0.mk (Kd.R_below B2.out b_)
  replace B3 := Aside0.mk (Kd.R_below B3.out b_)
  replace B4 := Aside0.mk (Kd.R_below B4.out b_)
  replace KB := Aside0.mk (blk_below KB.out b_)
  replace K1 := Aside0.mk (Kd.R_below K1.out b_)
  replace K2 := Aside0.mk (Kd.R_below K2.out b_)
  replace K3 := Aside0.mk (Kd.R_below K3.out b_)
  replace K4 := Aside0.mk (Kd.R_below K4.out b_)
  replace KK := Aside0.mk (blk_below KK.out b_)
  replace U1 := Aside0.mk (Kd.R_below U1.out b_)
  replace U2 := Aside0.mk (Kd.R_below U2.out b_)
  replace U3 := Aside0.mk (Kd.S_below U3.out b_)
  replace KU := Aside0.mk (blk_below KU.out b_)
  have LGV := Aside0.mk (show z5 ≤ g10 by rw [EZ5.out, HG.out]; exact below_size HBC.out)
  have LZ6 := Aside0.mk (show z5 ≤ w6.heap.size by rw [EZ5.out]; exact below_size b_)
  replace V1 := Aside0.mk (R_in (ok' := fun k => z5 ≤ k ∧ k < w6.heap.size) (b2 := w.heap.size) (Kd.R_below V1.out hBX) LW5.out (fun k h1 h2 => ⟨by rw [EZ5.out]; exact h1, h2⟩))
  replace V2 := Aside0.mk (R_in (ok' := fun k => z5 ≤ k ∧ k < w6.heap.size) (b2 := w.heap.size) (Kd.R_below V2.out hBX) LW5.out (fun k h1 h2 => ⟨by rw [EZ5.out]; exact h1, h2⟩))
  replace V3 := Aside0.mk (S_in (ok' := fun k => z5 ≤ k ∧ k < w6.heap.size) (b2 := w.heap.size) (Kd.S_below V3.out hBX) LW5.out (fun k h1 h2 => ⟨by rw [EZ5.out]; exact h1, h2⟩))
  replace KV := Aside0.mk hKX
  have LTV := Aside0.mk (show g10 < w6.heap.size from blk_lt hKX)
  have LW6 := Aside0.mk (show w.heap.size ≤ w6.heap.size from below_size HB.out)
  obtain ⟨z6, ez_⟩ : ∃ z, z = w6.heap.size := ⟨_, rfl⟩
  rw [← ez_] at V1 V2 V3 LTV LZ6
  have EZ6 := Aside0.mk ez_
  clear hBX hKX b_ le_ HG HBD HBC ez_ hz0 hz1 hz2 hz3 pz0 pz1 pz2 pf0 pf1 pf2
  have S6 := Aside0.mk (show z6 ≤ w6.heap.size from Nat.le_of_eq EZ6.out)
  obtain ⟨uz0, uz1, uz2, _, _, _⟩ := bF3 KU.out
  obtain ⟨nz0, nz1, nz2, _, _, _⟩ := bF3 N1.out
  go_upto_region 13 with (first
    | (go_at_call 16; (with_reducible refine (tabardref12_SameDense.calls k _ _ tr _ _ ac _ _ nx _ _ tr _ _ ac _ _ nx true _ (Kd.R_reads' U1.out).2.2 (Kd.R_reads' U1.out).2.1 (Kd.R_reads' U2.out).2.2 (Kd.R_reads' U2.out).2.1 (Kd.R_reads' (Kd.S_R U3.out)).2.2 (Kd.R_reads' (Kd.S_R U3.out)).2.1 (Kd.C_below H1.out HB.out) C1.out (Kd.C_below H2.out HB.out) C2.out (Kd.C_below H3.out HB.out) C3.out HSD.out).mono ?_); rintro _ w6a ⟨rfl, hb⟩; replace N1 := Aside0.mk (blk_below N1.out hb); replace HB := Aside0.mk (below_step HB.out hb); replace M1 := Aside0.mk (Kd.R_below M1.out hb); replace M2 := Aside0.mk (Kd.R_below M2.out hb); replace M3 := Aside0.mk (Kd.S_below M3.out hb); replace KM := Aside0.mk (blk_below KM.out hb); replace A1 := Aside0.mk (Kd.R_below A1.out hb); replace A2 := Aside0.mk (Kd.R_below A2.out hb); replace A3 := Aside0.mk (Kd.R_below A3.out hb); replace A4 := Aside0.mk (Kd.R_below A4.out hb); replace KA := Aside0.mk (blk_below KA.out hb); replace B1 := Aside0.mk (Kd.R_below B1.out hb); replace B2 := Aside0.mk (Kd.R_below B2.out hb); replace B3 := Aside0.mk (Kd.R_below B3.out hb); replace B4 := Aside0.mk (Kd.R_below B4.out hb); replace KB := Aside0.mk (blk_below KB.out hb); replace K1 := Aside0.mk (Kd.R_below K1.out hb); replace K2 := Aside0.mk (Kd.R_below K2.out hb); replace K3 := Aside0.mk (Kd.R_below K3.out hb); replace K4 := Aside0.mk (Kd.R_below K4.out hb); replace KK := Aside0.mk (blk_below KK.out hb); replace U1 := Aside0.mk (Kd.R_below U1.out hb); replace U2 := Aside0.mk (Kd.R_below U2.out hb); replace U3 := Aside0.mk (Kd.S_below U3.out hb); replace KU := Aside0.mk (blk_below KU.out hb); replace V1 := Aside0.mk (Kd.R_below V1.out hb); replace V2 := Aside0.mk (Kd.R_below V2.out hb); replace V3 := Aside0.mk (Kd.S_below V3.out hb); replace KV := Aside0.mk (blk_below KV.out hb); replace S6 := Aside0.mk (Nat.le_trans S6.out hb.size); clear hb uz0 uz1 uz2 nz0 nz1 nz2; obtain ⟨az0, az1, az2, az3, _, _, _, _⟩ := bF4 KA.out; obtain ⟨kz0, kz1, kz2, kz3, _, _, _, _⟩ := bF4 KK.out)
    | (go_at_call 19; (with_reducible refine (tabardref12_Same.calls k _ _ t1 _ _ t2 _ _ t3 _ _ t4 _ _ t1 _ _ t2 _ _ t3 _ _ t4 true _ (Kd.R_reads' A1.out).2.2 (Kd.R_reads' A1.out).2.1 (Kd.R_reads' A2.out).2.2 (Kd.R_reads' A2.out).2.1 (Kd.R_reads' A3.out).2.2 (Kd.R_reads' A3.out).2.1 (Kd.R_reads' A4.out).2.2 (Kd.R_reads' A4.out).2.1 (Kd.R_reads' K1.out).2.2 (Kd.R_reads' K1.out).2.1 (Kd.R_reads' K2.out).2.2 (Kd.R_reads' K2.out).2.1 (Kd.R_reads' K3.out).2.2 (Kd.R_reads' K3.out).2.1 (Kd.R_reads' K4.out).2.2 (Kd.R_reads' K4.out).2.1 HSM.out).mono ?_); rintro _ w7 ⟨rfl, hb⟩; replace N1 := Aside0.mk (blk_below N1.out hb); replace HB := Aside0.mk (below_step HB.out hb); replace M1 := Aside0.mk (Kd.R_below M1.out hb); replace M2 := Aside0.mk (Kd.R_below M2.out hb); replace M3 := Aside0.mk (Kd.S_below M3.out hb); replace KM := Aside0.mk (blk_below KM.out hb); replace A1 := Aside0.mk (Kd.R_below A1.out hb); replace A2 := Aside0.mk (Kd.R_below A2.out hb); replace A3 := Aside0.mk (Kd.R_below A3.out hb); replace A4 := Aside0.mk (Kd.R_below A4.out hb); replace KA := Aside0.mk (blk_below KA.out hb); replace B1 := Aside0.mk (Kd.R_below B1.out hb); replace B2 := Aside0.mk (Kd.R_below B2.out hb); replace B3 := Aside0.mk (Kd.R_below B3.out hb); replace B4 := Aside0.mk (Kd.R_below B4.out hb); replace KB := Aside0.mk (blk_below KB.out hb); replace K1 := Aside0.mk (Kd.R_below K1.out hb); replace K2 := Aside0.mk (Kd.R_below K2.out hb); replace K3 := Aside0.mk (Kd.R_below K3.out hb); replace K4 := Aside0.mk (Kd.R_below K4.out hb); replace KK := Aside0.mk (blk_below KK.out hb); replace U1 := Aside0.mk (Kd.R_below U1.out hb); replace U2 := Aside0.mk (Kd.R_below U2.out hb); replace U3 := Aside0.mk (Kd.S_below U3.out hb); replace KU := Aside0.mk (blk_below KU.out hb); replace V1 := Aside0.mk (Kd.R_below V1.out hb); replace V2 := Aside0.mk (Kd.R_below V2.out hb); replace V3 := Aside0.mk (Kd.S_below V3.out hb); replace KV := Aside0.mk (blk_below KV.out hb); replace S6 := Aside0.mk (Nat.le_trans S6.out hb.size); clear hb az0 az1 az2 az3 kz0 kz1 kz2 kz3))
  obtain ⟨z7, ez7⟩ : ∃ z, z = w7.heap.size := ⟨_, rfl⟩
  have l0 := LW0.out
  rw [← EZ0.out] at l0
  have l1 := LZ1.out
  have l2 := LZ2.out
  have l3 := LZ3.out
  have l4 := LZ4.out
  have l5 := LZ5.out
  have l6 := LZ6.out
  have l7 := S6.out
  rw [← ez7] at l7
  have LED7 := Aside0.mk (show Led w w7 (fun k => (z1 ≤ k ∧ k < z2) ∨ (z4 ≤ k ∧ k < z5)) g1 g3 g6 g8 g10 _ _ _ _ _ _ _ _ _ _ _ _ _ _ _ tr ac nx t1 t2 t3 t4 from ⟨HB.out, N1.out, KM.out, Kd.R_mono M1.out (fun k hk => by omega), Kd.R_mono M2.out (fun k hk => by omega), Kd.S_mono M3.out (fun k hk => by omega), KB.out, Kd.R_mono B1.out (fun k hk => by omega), Kd.R_mono B2.out (fun k hk => by omega), Kd.R_mono B3.out (fun k hk => by omega), Kd.R_mono B4.out (fun k hk => by omega), KK.out, Kd.R_mono K1.out (fun k hk => by omega), Kd.R_mono K2.out (fun k hk => by omega), Kd.R_mono K3.out (fun k hk => by omega), Kd.R_mono K4.out (fun k hk => by omega), KV.out, Kd.R_mono V1.out (fun k hk => by omega), Kd.R_mono V2.out (fun k hk => by omega), Kd.S_mono V3.out (fun k hk => by omega), fun h => by have a := LT1.out; omega, fun h => by have a := LTM.out; omega, fun h => by have a := And.intro LGB.out LTB.out; omega, fun h => by have a := And.intro LGK.out LTK.out; omega, fun h => by have a := LGV.out; omega, fun k hk => by omega⟩)
  obtain ⟨gn, row, len, hwk⟩ := Wk.of_S' (Kd.S_mono (ok' := fun k => (z4 ≤ k ∧ k < z5) ∨ z7 ≤ k) U3.out (fun k h => .inl h))
  have AN := Aside0.mk (fun h => (hwk h).1)
  have LEN : Aside0 (∀ j, 0 ≤ j → j < nx.length → len j ≤ 1073741824) := ⟨fun j _ hj => by rw [(hwk (by omega)).2.2 j hj]; exact HLEN.out j hj⟩
  have ST := Aside0.mk (show St w.heap.size z1 z2 z4 z5 z7 w7 w7 g4 g9 (.slice AA1 t1.length cA1) (.slice AA2 t2.length cA2) (.slice AA3 t3.length cA3) (.slice AA4 t4.length cA4) (.slice AU1 tr.length cU1) (.slice AU2 ac.length cU2) (.slice AU3 nx.length cU3) t1 t2 t3 t4 tr ac gn nx.length row len from
    ⟨Fr.refl _ _, KA.out, KU.out, A1.out, A2.out, A3.out, A4.out, U1.out, U2.out, fun h => (hwk h).2.1, by omega, by omega, ez7, by omega⟩)
  have hm1 : (t1.length : Int) ≤ 9223372036854775807 := by have := (Kd.R_reads' A1.out).2.2.2.1; omega
  have hm2 : (t2.length : Int) ≤ 9223372036854775807 := by have := (Kd.R_reads' A2.out).2.2.2.1; omega
  have hm3 : (t3.length : Int) ≤ 9223372036854775807 := by have := (Kd.R_reads' A3.out).2.2.2.1; omega
  have hm4 : (t4.length : Int) ≤ 1073741824 := by have := HL4.out; omega
  clear hwk HLEN N1 HB KM M1 M2 M3 KA A1 A2 A3 A4 KB B1 B2 B3 B4 KK K1 K2 K3 K4 KU U1 U2 U3 KV V1 V2 V3 EZ0 EZ1 EZ2 EZ3 EZ4 EZ5 EZ6 LW0 LW1 LW2 LW3 LW4 LW5 LW6 LZ1 LZ2 LZ3 LZ4 LZ5 LZ6 S6 LGM LGA LGB LGK LGU LGV LTM LTA LTB LTK LTU LTV LT1 LO1 HCD HCP HUN HF l0 l1 l2 l3 l4 l5 l6 l7 ez7
  obtain ⟨az0, az1, az2, az3, _, _, _, _⟩ := bF4 ST.out.b4
  go_wp2
  clear az0 az1 az2 az3
  go_loopw [73] (fun v73 wq => ∃ (i : Nat) (x4 : List S58), v73 = .int .i64 (i : Int) ∧ i ≤ t4.length ∧ Aside0 (x4.length = t4.length) ∧ Aside0 (St w.heap.size z1 z2 z4 z5 z7 w7 wq g4 g9 (.slice AA1 t1.length cA1) (.slice AA2 t2.length cA2) (.slice AA3 t3.length cA3) (.slice AA4 t4.length cA4) (.slice AU1 tr.length cU1) (.slice AU2 ac.length cU2) (.slice AU3 nx.length cU3) t1 t2 t3 x4 tr ac gn nx.length row len)) (fun v73 _ => t4.length - (intOf v73).toNat)
  case atStart => exact ⟨0, t4, rfl, Nat.zero_le _, ⟨rfl⟩, ST⟩
  case round =>
    clear ST
    obtain ⟨i, x4, rfl, hi, X4, ST⟩ := hrel
    obtain ⟨az0, az1, az2, az3, _, _, _, _⟩ := bF4 ST.out.b4
    by_cases ci : i < t4.length
    · obtain ⟨ga, ca_, ea, _⟩ := Kd.R_form ST.out.a4 (by rw [X4.out]; omega)
      rw [X4.out] at ea
      injection ea with ea1 ea2 ea3
      subst ea1 ea3
      obtain ⟨cc, hcl, hM, hcell, hfr⟩ := Kd.R_elem ST.out.a4 z58 (i : Int) (by omega) (by omega)
      obtain rfl := k58_openM hM
      have HP := Kd.R_seg ST.out.a4 (i : Int) (by omega) (by omega) (seg := [.int .i64 (-1)]) (j := 2) hcl hcell (show 3 ≤ 3 from by decide) (x' := (⟨(rd_T58 x4 (i : Int)).f0, (rd_T58 x4 (i : Int)).f1, -1⟩ : S58)) (k58_mkM _ _ _ (⟨(rd_T58 x4 (i : Int)).f0, (rd_T58 x4 (i : Int)).f1, -1⟩ : S58)) (fun _ hk => hk)
      have hy2 := hcell 2 _ rfl
      have hf2 := hfr 2
      simp only [show k58.sz = 3 from rfl, Int.toNat_natCast] at hy2 hf2
      rw [show k58.sz = 3 from rfl, Int.toNat_natCast] at HP
      have HP := Aside0.mk HP
      have cb : decide ((i : Int) < (t4.length : Int)) = true := decide_eq_true (by omega)
      have hwi : wrap64 ((i : Int) + 1) = ((i + 1 : Nat) : Int) := by unfold wrap64; omega
      clear ea2 hcl hM hcell hfr
      go_wp2
      have TY := Kd.R_typed ST.out.a4
      have TY' : ∀ k, some ga = some k → ∃ cells, wr.heap[k]? = some (.cells cells 58 (0, 0)) := fun k e => TY k (by rw [← e]; rfl)
      go_roundw
      case rel => exact ⟨i + 1, _, (by first | (rw [hwi]) | (simp)), by omega, ⟨by rw [List.length_set]; exact X4.out⟩, ⟨ST.out.wA HP.out.2 TY' (ST.out.a4.1 ga (by simp [Value.ownBlock])) (by decide) (.inl ⟨by decide, rfl⟩) (.inl ⟨by decide, rfl⟩) (.inl ⟨by decide, rfl⟩) (.inr HP.out.1)⟩⟩
      case measure => (try rw [hwi]); simp [intOf]; omega
    · obtain rfl : i = t4.length := by omega
      have cb : decide ((t4.length : Int) < (t4.length : Int)) = false := by simp
      clear hi ci
      go_wp2
      clear az0 az1 az2 az3 cb
      go_loopw [85] (fun v85 wq => ∃ (i : Nat) (x3 : List Int), v85 = .int .i64 (i : Int) ∧ i ≤ t3.length ∧ Aside0 (x3.length = t3.length) ∧ Aside0 (St w.heap.size z1 z2 z4 z5 z7 w7 wq g4 g9 (.slice AA1 t1.length cA1) (.slice AA2 t2.length cA2) (.slice AA3 t3.length cA3) (.slice AA4 t4.length cA4) (.slice AU1 tr.length cU1) (.slice AU2 ac.length cU2) (.slice AU3 nx.length cU3) t1 t2 x3 x4 tr ac gn nx.length row len)) (fun v85 _ => t3.length - (intOf v85).toNat)
      case atStart => exact ⟨0, t3, rfl, Nat.zero_le _, ⟨rfl⟩, ST⟩
      case round =>
        clear ST
        obtain ⟨i, x3, rfl, hi, X3, ST⟩ := hrel
        obtain ⟨az0, az1, az2, az3, _, _, _, _⟩ := bF4 ST.out.b4
        by_cases ci : i < t3.length
        · obtain ⟨ga, ca_, ea, _⟩ := Kd.R_form ST.out.a3 (by rw [X3.out]; omega)
          rw [X3.out] at ea
          injection ea with ea1 ea2 ea3
          subst ea1 ea3
          obtain ⟨hy, hz⟩ := Kd.R_celln 0 ST.out.a3 (i : Int) (by omega) (by omega)
          rw [Int.toNat_natCast] at hy hz
          have HP := Kd.R_putg ST.out.a3 (i : Int) (-2)
          rw [Int.toNat_natCast] at HP
          have HP := Aside0.mk HP
          have cb : decide ((i : Int) < (t3.length : Int)) = true := decide_eq_true (by omega)
          have hwi : wrap64 ((i : Int) + 1) = ((i + 1 : Nat) : Int) := by unfold wrap64; omega
          clear ea2
          go_wp2
          have TY := Kd.R_typed ST.out.a3
          have TY' : ∀ k, some ga = some k → ∃ cells, wr.heap[k]? = some (.cells cells 3 (0, 0)) := fun k e => TY k (by rw [← e]; rfl)
          go_roundw
          case rel => exact ⟨i + 1, _, (by first | (rw [hwi]) | (simp)), by omega, ⟨by rw [List.length_set]; exact X3.out⟩, ⟨ST.out.wA HP.out.2 TY' (ST.out.a3.1 ga (by simp [Value.ownBlock])) (by decide) (.inl ⟨by decide, rfl⟩) (.inl ⟨by decide, rfl⟩) (.inr HP.out.1) (.inl ⟨by decide, rfl⟩)⟩⟩
          case measure => (try rw [hwi]); simp [intOf]; omega
        · obtain rfl : i = t3.length := by omega
          have cb : decide ((t3.length : Int) < (t3.length : Int)) = false := by simp
          clear hi ci
          go_wp2
          clear az0 az1 az2 az3 cb
          go_loopw [96] (fun v96 wq => ∃ (i : Nat) (x2 : List Bool) (y2 : List Bool) (row : Nat → Value) (len : Nat → Nat), v96 = .int .i64 (i : Int) ∧ i ≤ t2.length ∧ Aside0 (x2.length = t2.length) ∧ Aside0 (y2.length = ac.length) ∧ Aside0 (∀ j, i ≤ j → j < nx.length → len j ≤ 1073741824) ∧ Aside0 (St w.heap.size z1 z2 z4 z5 z7 w7 wq g4 g9 (.slice AA1 t1.length cA1) (.slice AA2 t2.length cA2) (.slice AA3 t3.length cA3) (.slice AA4 t4.length cA4) (.slice AU1 tr.length cU1) (.slice AU2 ac.length cU2) (.slice AU3 nx.length cU3) t1 x2 x3 x4 tr y2 gn nx.length row len)) (fun v96 _ => t2.length - (intOf v96).toNat)
          case atStart => exact ⟨0, t2, ac, row, len, rfl, Nat.zero_le _, ⟨rfl⟩, ⟨rfl⟩, LEN, ST⟩
          case round =>
            clear ST LEN
            obtain ⟨i, x2, y2, row, len, rfl, hi, X2, Y2, LEN, ST⟩ := hrel
            obtain ⟨az0, az1, az2, az3, _, _, _, _⟩ := bF4 ST.out.b4
            by_cases hi1 : i < t2.length
            · have hi2 : i < ac.length := by have := HL2.out; omega
              have hi3 : i < nx.length := by have := HL3.out; omega
              obtain rfl := AN.out (by omega)
              obtain ⟨ga, ca_, ea, _⟩ := Kd.R_form ST.out.a2 (by rw [X2.out]; omega)
              rw [X2.out] at ea
              injection ea with ea1 ea2 ea3
              subst ea1 ea3
              clear ea2
              obtain ⟨gu, cu_, eu, _⟩ := Kd.R_form ST.out.d2 (by rw [Y2.out]; omega)
              rw [Y2.out] at eu
              injection eu with eu1 eu2 eu3
              subst eu1 eu3
              clear eu2
              obtain ⟨hxc, hxf⟩ := Kd.R_celln false ST.out.a2 (i : Int) (by omega) (by omega)
              rw [Int.toNat_natCast] at hxc hxf
              obtain ⟨xb, exb⟩ : ∃ xb, xb = rdOf false x2 (i : Int) := ⟨_, rfl⟩
              rw [← exb] at hxc
              have hxc : wr.cell? ⟨ga, i, none⟩ = some (.bool xb) := hxc
              have hb4 := az1
              have HPA := Kd.R_putg ST.out.a2 (i : Int) (!xb)
              rw [Int.toNat_natCast] at HPA
              have TYa := Kd.R_typed ST.out.a2
              have STA := Aside0.mk ((ST.out.wA HPA.2 (fun k e => TYa k (by rw [← e]; rfl)) (ST.out.a2.1 ga (by simp [Value.ownBlock])) (by decide) (.inl ⟨by decide, rfl⟩) (.inr HPA.1) (.inl ⟨by decide, rfl⟩) (.inl ⟨by decide, rfl⟩)).kept (below_drew (Below.refl _ _)))
              have cb : decide ((i : Int) < (t2.length : Int)) = true := decide_eq_true (by omega)
              have HWI := Aside0.mk (show wrap64 ((i : Int) + 1) = ((i + 1 : Nat) : Int) by unfold wrap64; omega)
              have hi9 : i + 1 ≤ t2.length := by omega
              clear HPA TYa exb
              go_upto_region 26 with (fail)
              clear az0 az1 az2 az3
              refine start_ (n := 11) (S := fun w' => w'.cell? ⟨g4, 1, none⟩ = some (.slice (some ⟨ga, 0, none⟩) t2.length cA2) ∧ w'.cell? ⟨ga, i, none⟩ = some (.bool xb)) (ds := [10]) #[false, false, false, false, false, false, false, false, false, false, false] (by kernel_rfl) rfl rfl ⟨hb4, hxc⟩ (fun hHeld => ?_)
              refine pure_ (i := 0) (N := some 99) (v := ?_) (a' := ?_) #[true, false, false, false, false, false, false, false, false, false, false] rfl rfl (by kernel_rfl) (fun _ _ _ h => h) (Or.inl ⟨by rfl, ?_⟩) ?_ ?_
              rotate_left
              · intro w'
                go_simp
                with_reducible rfl
              rotate_left
              · simp only [Act.put, List.setIfInBounds_toArray, List.set_cons_zero, List.set_cons_succ, i64_w, i32_w]
                rfl
              refine pure_ (i := 2) (N := some 101) (v := ?_) (a' := ?_) #[true, false, true, false, false, false, false, false, false, false, false] rfl rfl (by kernel_rfl) (fun _ _ _ h => h) (Or.inl ⟨by rfl, ?_⟩) ?_ ?_
              rotate_left
              · intro w'
                go_simp
                with_reducible rfl
              rotate_left
              · simp only [Act.put, List.setIfInBounds_toArray, List.set_cons_zero, List.set_cons_succ, i64_w, i32_w]
                rfl
              refine pure_ (i := 3) (N := some 102) (v := ?_) (a' := ?_) #[true, false, true, true, false, false, false, false, false, false, false] rfl rfl (by kernel_rfl) (fun _ _ _ h => h) (Or.inl ⟨by rfl, ?_⟩) ?_ ?_
              rotate_left
              · intro w'
                go_simp
                with_reducible rfl
              rotate_left
              · simp only [Act.put, List.setIfInBounds_toArray, List.set_cons_zero, List.set_cons_succ, i64_w, i32_w]
                rfl
              refine pure_ (i := 5) (N := some 104) (v := ?_) (a' := ?_) #[true, false, true, true, false, true, false, false, false, false, false] rfl rfl (by kernel_rfl) (fun _ _ _ h => h) (Or.inl ⟨by rfl, ?_⟩) ?_ ?_
              rotate_left
              · intro w'
                go_simp
                with_reducible rfl
              rotate_left
              · simp only [Act.put, List.setIfInBounds_toArray, List.set_cons_zero, List.set_cons_succ, i64_w, i32_w]
                rfl
              refine take_ (i := 1) (N := some 100) (v := ?_) (a' := ?_) #[true, true, true, true, false, true, false, false, false, false, false] rfl rfl (by kernel_rfl) (fun _ _ _ h => h) (Or.inl ⟨by rfl, ?_⟩) hHeld ?_ ?_
              rotate_left
              · rintro w' ⟨s0, s1⟩
                go_simp
                with_reducible rfl
              rotate_left
              · simp only [Act.put, List.setIfInBounds_toArray, List.set_cons_zero, List.set_cons_succ, i64_w, i32_w]
                rfl
              refine take_ (i := 4) (N := some 103) (v := ?_) (a' := ?_) #[true, true, true, true, true, true, false, false, false, false, false] rfl rfl (by kernel_rfl) (fun _ _ _ h => h) (Or.inl ⟨by rfl, ?_⟩) hHeld ?_ ?_
              rotate_left
              · rintro w' ⟨s0, s1⟩
                go_simp
                with_reducible rfl
              rotate_left
              · simp only [Act.put, List.setIfInBounds_toArray, List.set_cons_zero, List.set_cons_succ, i64_w, i32_w]
                rfl
              refine pure_ (i := 6) (N := some 105) (v := ?_) (a' := ?_) #[true, true, true, true, true, true, true, false, false, false, false] rfl rfl (by kernel_rfl) (fun _ _ _ h => h) (Or.inl ⟨by rfl, ?_⟩) ?_ ?_
              rotate_left
              · intro w'
                go_simp
                with_reducible rfl
              rotate_left
              · simp only [Act.put, List.setIfInBounds_toArray, List.set_cons_zero, List.set_cons_succ, i64_w, i32_w]
                rfl
              refine take_ (i := 7) (N := some 106) (v := ?_) (a' := ?_) #[true, true, true, true, true, true, true, true, false, false, false] rfl rfl (by kernel_rfl) (fun _ _ _ h => h) (Or.inl ⟨by rfl, ?_⟩) hHeld ?_ ?_
              rotate_left
              · rintro w' ⟨s0, s1⟩
                go_simp
                with_reducible rfl
              rotate_left
              · simp only [Act.put, List.setIfInBounds_toArray, List.set_cons_zero, List.set_cons_succ, i64_w, i32_w]
                rfl
              refine pure_ (i := 8) (N := some 107) (v := ?_) (a' := ?_) #[true, true, true, true, true, true, true, true, true, false, false] rfl rfl (by kernel_rfl) (fun _ _ _ h => h) (Or.inl ⟨by rfl, ?_⟩) ?_ ?_
              rotate_left
              · intro w'
                go_simp
                with_reducible rfl
              rotate_left
              · simp only [Act.put, List.setIfInBounds_toArray, List.set_cons_zero, List.set_cons_succ, i64_w, i32_w]
                rfl
              refine pure_ (i := 9) (N := some 108) (v := ?_) (a' := ?_) #[true, true, true, true, true, true, true, true, true, true, false] rfl rfl (by kernel_rfl) (fun _ _ _ h => h) (Or.inl ⟨by rfl, ?_⟩) ?_ ?_
              rotate_left
              · intro w'
                go_simp
                with_reducible rfl
              rotate_left
              · simp only [Act.put, List.setIfInBounds_toArray, List.set_cons_zero, List.set_cons_succ, i64_w, i32_w]
                rfl
              refine last_ (i := 10) (N := none) #[true, true, true, true, true, true, true, true, true, true, true] rfl rfl (by kernel_rfl) (by decide) (fun K hK => ?_)
              refine skip_ (w1 := ?_) (by rfl) rfl ?_ ?_
              rotate_left
              · go_simp
                rfl
              refine hK.out _ _ ?_
              clear hK K
              refine done_ (by kernel_rfl) ?_
              clear hb4 hxc hxf ST
              have STA : Aside0 (St _ _ _ _ _ _ _ (wr.setCell ⟨ga, i, none⟩ (.bool (!xb))).drew _ _ _ _ _ _ _ _ _ _ _ _ _ _ _ _ _ _ _) := STA
              obtain ⟨wx, ex⟩ : ∃ wx, wx = (wr.setCell ⟨ga, i, none⟩ (.bool (!xb))).drew := ⟨_, rfl⟩
              rw [← ex] at STA ⊢
              clear ex
              obtain ⟨hyc, hyf⟩ := Kd.R_celln false STA.out.d2 (i : Int) (by omega) (by omega)
              rw [Int.toNat_natCast] at hyc hyf
              obtain ⟨yb, eyb⟩ : ∃ yb, yb = rdOf false y2 (i : Int) := ⟨_, rfl⟩
              rw [← eyb] at hyc
              have hyc : wx.cell? ⟨gu, i, none⟩ = some (.bool yb) := hyc
              obtain ⟨uz0, hb9, uz2, _, _, _⟩ := bF3 STA.out.b9
              have HPB := Kd.R_putg STA.out.d2 (i : Int) (!yb)
              rw [Int.toNat_natCast] at HPB
              have TYb := Kd.R_typed STA.out.d2
              have STB := Aside0.mk ((STA.out.wU HPB.2 (fun k e => TYb k (by rw [← e]; rfl)) (fun b e => by obtain rfl := Option.some.inj e; exact .inl (STA.out.d2.1 _ (by simp [Value.ownBlock]))) (by decide) (.inl ⟨by decide, rfl⟩) (.inr HPB.1) (.inl ⟨by decide, rfl, rfl⟩)).kept (below_drew (Below.refl _ _)))
              clear HPB TYb eyb
              go_upto_region 27 with (fail)
              clear uz0 uz2
              refine start_ (n := 11) (S := fun w' => w'.cell? ⟨g9, 1, none⟩ = some (.slice (some ⟨gu, 0, none⟩) ac.length cU2) ∧ w'.cell? ⟨gu, i, none⟩ = some (.bool yb)) (ds := [10]) #[false, false, false, false, false, false, false, false, false, false, false] (by kernel_rfl) rfl rfl ⟨hb9, hyc⟩ (fun hHeld => ?_)
              refine pure_ (i := 0) (N := some 109) (v := ?_) (a' := ?_) #[true, false, false, false, false, false, false, false, false, false, false] rfl rfl (by kernel_rfl) (fun _ _ _ h => h) (Or.inl ⟨by rfl, ?_⟩) ?_ ?_
              rotate_left
              · intro w'
                go_simp
                with_reducible rfl
              rotate_left
              · simp only [Act.put, List.setIfInBounds_toArray, List.set_cons_zero, List.set_cons_succ, i64_w, i32_w]
                rfl
              refine pure_ (i := 2) (N := some 111) (v := ?_) (a' := ?_) #[true, false, true, false, false, false, false, false, false, false, false] rfl rfl (by kernel_rfl) (fun _ _ _ h => h) (Or.inl ⟨by rfl, ?_⟩) ?_ ?_
              rotate_left
              · intro w'
                go_simp
                with_reducible rfl
              rotate_left
              · simp only [Act.put, List.setIfInBounds_toArray, List.set_cons_zero, List.set_cons_succ, i64_w, i32_w]
                rfl
              refine pure_ (i := 3) (N := some 112) (v := ?_) (a' := ?_) #[true, false, true, true, false, false, false, false, false, false, false] rfl rfl (by kernel_rfl) (fun _ _ _ h => h) (Or.inl ⟨by rfl, ?_⟩) ?_ ?_
              rotate_left
              · intro w'
                go_simp
                with_reducible rfl
              rotate_left
              · simp only [Act.put, List.setIfInBounds_toArray, List.set_cons_zero, List.set_cons_succ, i64_w, i32_w]
                rfl
              refine pure_ (i := 5) (N := some 114) (v := ?_) (a' := ?_) #[true, false, true, true, false, true, false, false, false, false, false] rfl rfl (by kernel_rfl) (fun _ _ _ h => h) (Or.inl ⟨by rfl, ?_⟩) ?_ ?_
              rotate_left
              · intro w'
                go_simp
                with_reducible rfl
              rotate_left
              · simp only [Act.put, List.setIfInBounds_toArray, List.set_cons_zero, List.set_cons_succ, i64_w, i32_w]
                rfl
              refine take_ (i := 1) (N := some 110) (v := ?_) (a' := ?_) #[true, true, true, true, false, true, false, false, false, false, false] rfl rfl (by kernel_rfl) (fun _ _ _ h => h) (Or.inl ⟨by rfl, ?_⟩) hHeld ?_ ?_
              rotate_left
              · rintro w' ⟨s0, s1⟩
                go_simp
                with_reducible rfl
              rotate_left
              · simp only [Act.put, List.setIfInBounds_toArray, List.set_cons_zero, List.set_cons_succ, i64_w, i32_w]
                rfl
              refine take_ (i := 4) (N := some 113) (v := ?_) (a' := ?_) #[true, true, true, true, true, true, false, false, false, false, false] rfl rfl (by kernel_rfl) (fun _ _ _ h => h) (Or.inl ⟨by rfl, ?_⟩) hHeld ?_ ?_
              rotate_left
              · rintro w' ⟨s0, s1⟩
                go_simp
                with_reducible rfl
              rotate_left
              · simp only [Act.put, List.setIfInBounds_toArray, List.set_cons_zero, List.set_cons_succ, i64_w, i32_w]
                rfl
              refine pure_ (i := 6) (N := some 115) (v := ?_) (a' := ?_) #[true, true, true, true, true, true, true, false, false, false, false] rfl rfl (by kernel_rfl) (fun _ _ _ h => h) (Or.inl ⟨by rfl, ?_⟩) ?_ ?_
              rotate_left
              · intro w'
                go_simp
                with_reducible rfl
              rotate_left
              · simp only [Act.put, List.setIfInBounds_toArray, List.set_cons_zero, List.set_cons_succ, i64_w, i32_w]
                rfl
              refine take_ (i := 7) (N := some 116) (v := ?_) (a' := ?_) #[true, true, true, true, true, true, true, true, false, false, false] rfl rfl (by kernel_rfl) (fun _ _ _ h => h) (Or.inl ⟨by rfl, ?_⟩) hHeld ?_ ?_
              rotate_left
              · rintro w' ⟨s0, s1⟩
                go_simp
                with_reducible rfl
              rotate_left
              · simp only [Act.put, List.setIfInBounds_toArray, List.set_cons_zero, List.set_cons_succ, i64_w, i32_w]
                rfl
              refine pure_ (i := 8) (N := some 117) (v := ?_) (a' := ?_) #[true, true, true, true, true, true, true, true, true, false, false] rfl rfl (by kernel_rfl) (fun _ _ _ h => h) (Or.inl ⟨by rfl, ?_⟩) ?_ ?_
              rotate_left
              · intro w'
                go_simp
                with_reducible rfl
              rotate_left
              · simp only [Act.put, List.setIfInBounds_toArray, List.set_cons_zero, List.set_cons_succ, i64_w, i32_w]
                rfl
              refine pure_ (i := 9) (N := some 118) (v := ?_) (a' := ?_) #[true, true, true, true, true, true, true, true, true, true, false] rfl rfl (by kernel_rfl) (fun _ _ _ h => h) (Or.inl ⟨by rfl, ?_⟩) ?_ ?_
              rotate_left
              · intro w'
                go_simp
                with_reducible rfl
              rotate_left
              · simp only [Act.put, List.setIfInBounds_toArray, List.set_cons_zero, List.set_cons_succ, i64_w, i32_w]
                rfl
              refine last_ (i := 10) (N := none) #[true, true, true, true, true, true, true, true, true, true, true] rfl rfl (by kernel_rfl) (by decide) (fun K hK => ?_)
              refine skip_ (w1 := ?_) (by rfl) rfl ?_ ?_
              rotate_left
              · go_simp
                rfl
              refine hK.out _ _ ?_
              clear hK K
              refine done_ (by kernel_rfl) ?_
              clear hb9 hyc hyf STA
              have STB : Aside0 (St _ _ _ _ _ _ _ (wx.setCell ⟨gu, i, none⟩ (.bool (!yb))).drew _ _ _ _ _ _ _ _ _ _ _ _ _ _ _ _ _ _ _) := STB
              obtain ⟨wy, ey⟩ : ∃ wy, wy = (wx.setCell ⟨gu, i, none⟩ (.bool (!yb))).drew := ⟨_, rfl⟩
              rw [← ey] at STB ⊢
              clear ey
              obtain ⟨Ai, ci, er_, _⟩ := (STB.out.d3 (by omega)).form hi3
              obtain ⟨hc1, hf1⟩ := (STB.out.d3 (by omega)).cell hi3
              rw [er_] at hc1
              have EROW := Aside0.mk er_
              have hli : (len i : Int) ≤ 1073741824 := by have := LEN.out i (Nat.le_refl _) hi3; omega
              have hlN : len i ≤ 1073741824 := by omega
              obtain ⟨uz0, uz1, uz2, _, _, _⟩ := bF3 STB.out.b9
              clear er_ hi
              go_wp2
              clear uz0 uz1 uz2 hc1 hf1
              go_loopw [125] (fun v125 wq => ∃ (j : Nat), v125 = .int .i64 (j : Int) ∧ j ≤ len i ∧ Aside0 (St w.heap.size z1 z2 z4 z5 z7 w7 wq g4 g9 (.slice AA1 t1.length cA1) (.slice (some ⟨ga, 0, none⟩) t2.length cA2) (.slice AA3 t3.length cA3) (.slice AA4 t4.length cA4) (.slice AU1 tr.length cU1) (.slice (some ⟨gu, 0, none⟩) ac.length cU2) (.slice (some ⟨gn, 0, none⟩) nx.length cU3) t1 (x2.set i (!xb)) x3 x4 tr (y2.set i (!yb)) gn nx.length row len)) (fun v125 _ => len i - (intOf v125).toNat)
              case atStart => exact ⟨0, rfl, Nat.zero_le _, STB⟩
              case round =>
                clear STB
                obtain ⟨j, rfl, hj, ST⟩ := hrel
                obtain ⟨uz0, uz1, uz2, _, _, _⟩ := bF3 ST.out.b9
                obtain ⟨hc1, hf1⟩ := (ST.out.d3 (by omega)).cell hi3
                rw [EROW.out] at hc1
                by_cases cj : j < len i
                · have WK := Aside0.mk (ST.out.d3 (by omega))
                  obtain ⟨A', c', e', hcell⟩ := WK.out.form hi3
                  rw [EROW.out] at e'
                  injection e' with e1 e2 e3
                  subst e1 e3
                  obtain ⟨b, rfl, hbok, ⟨x, hx⟩, hxf⟩ := hcell j cj
                  obtain ⟨xsi, hxi⟩ := WK.out.own i hi3
                  have TYB := Aside0.mk (show ∀ k, some b = some k → ∃ cells, wr.heap[k]? = some (.cells cells 3 (0, 0)) from fun k e => own_typed hxi k (by rw [EROW.out]; exact e))
                  have HBO := Aside0.mk hbok
                  have cb2 : decide ((j : Int) < (len i : Int)) = true := decide_eq_true (by omega)
                  have HWJ := Aside0.mk (show wrap64 ((j : Int) + 1) = ((j + 1 : Nat) : Int) by unfold wrap64; omega)
                  clear e2 hcell hbok hxi
                  go_wp2
                  go_roundw
                  case rel => exact ⟨j + 1, (by first | (rw [HWJ.out]) | (simp)), by omega, ⟨ST.out.wU (grown_cell wr b j _) TYB.out (fun b' e => by obtain rfl := Option.some.inj e; exact HBO.out) (by decide) (.inl ⟨by decide, rfl⟩) (.inl ⟨by decide, rfl⟩) (.inr (fun _ => WK.out.put (by decide) hi3 EROW.out j _))⟩⟩
                  case measure => (try rw [HWJ.out]); simp [intOf]; omega
                · obtain rfl : j = len i := by omega
                  have cb2 : decide ((len i : Int) < (len i : Int)) = false := by simp
                  obtain ⟨xsi, hxi⟩ := (ST.out.d3 (by omega)).own i hi3
                  rw [EROW.out] at hxi
                  have HOI : Aside0 (wr.drew.ownsRow w.heap.size 3 1 (.slice Ai (len i) ci) (len i) xsi) := ⟨hxi⟩
                  have HS1 : Aside0 (w.heap.size ≤ wr.drew.heap.size) := ⟨Nat.le_trans (below_size LED7.out.bel) ST.out.fr.size⟩
                  have hb9 := uz2
                  have hrow := hc1
                  clear hxi cj hj
                  go_upto_region 33 with (fail)
                  clear uz0 uz1 uz2 hc1 hf1
                  refine start_ (n := 12) (S := fun w' => w'.cell? ⟨g9, 2, none⟩ = some (.slice (some ⟨gn, 0, none⟩) nx.length cU3) ∧ w'.cell? ⟨gn, i, none⟩ = some (.slice Ai (len i) ci)) (ds := [11]) #[false, false, false, false, false, false, false, false, false, false, false, false] (by kernel_rfl) rfl rfl ⟨hb9, hrow⟩ (fun hHeld => ?_)
                  refine pure_ (i := 0) (N := some 136) (v := ?_) (a' := ?_) #[true, false, false, false, false, false, false, false, false, false, false, false] rfl rfl (by kernel_rfl) (fun _ _ _ h => h) (Or.inl ⟨by rfl, ?_⟩) ?_ ?_
                  rotate_left
                  · intro w'
                    go_simp
                    with_reducible rfl
                  rotate_left
                  · simp only [Act.put, List.setIfInBounds_toArray, List.set_cons_zero, List.set_cons_succ, i64_w, i32_w]
                    rfl
                  refine pure_ (i := 2) (N := some 138) (v := ?_) (a' := ?_) #[true, false, true, false, false, false, false, false, false, false, false, false] rfl rfl (by kernel_rfl) (fun _ _ _ h => h) (Or.inl ⟨by rfl, ?_⟩) ?_ ?_
                  rotate_left
                  · intro w'
                    go_simp
                    with_reducible rfl
                  rotate_left
                  · simp only [Act.put, List.setIfInBounds_toArray, List.set_cons_zero, List.set_cons_succ, i64_w, i32_w]
                    rfl
                  refine pure_ (i := 3) (N := some 139) (v := ?_) (a' := ?_) #[true, false, true, true, false, false, false, false, false, false, false, false] rfl rfl (by kernel_rfl) (fun _ _ _ h => h) (Or.inl ⟨by rfl, ?_⟩) ?_ ?_
                  rotate_left
                  · intro w'
                    go_simp
                    with_reducible rfl
                  rotate_left
                  · simp only [Act.put, List.setIfInBounds_toArray, List.set_cons_zero, List.set_cons_succ, i64_w, i32_w]
                    rfl
                  refine pure_ (i := 5) (N := some 141) (v := ?_) (a' := ?_) #[true, false, true, true, false, true, false, false, false, false, false, false] rfl rfl (by kernel_rfl) (fun _ _ _ h => h) (Or.inl ⟨by rfl, ?_⟩) ?_ ?_
                  rotate_left
                  · intro w'
                    go_simp
                    with_reducible rfl
                  rotate_left
                  · simp only [Act.put, List.setIfInBounds_toArray, List.set_cons_zero, List.set_cons_succ, i64_w, i32_w]
                    rfl
                  refine take_ (i := 1) (N := some 137) (v := ?_) (a' := ?_) #[true, true, true, true, false, true, false, false, false, false, false, false] rfl rfl (by kernel_rfl) (fun _ _ _ h => h) (Or.inl ⟨by rfl, ?_⟩) hHeld ?_ ?_
                  rotate_left
                  · rintro w' ⟨s0, s1⟩
                    go_simp
                    with_reducible rfl
                  rotate_left
                  · simp only [Act.put, List.setIfInBounds_toArray, List.set_cons_zero, List.set_cons_succ, i64_w, i32_w]
                    rfl
                  refine take_ (i := 4) (N := some 140) (v := ?_) (a' := ?_) #[true, true, true, true, true, true, false, false, false, false, false, false] rfl rfl (by kernel_rfl) (fun _ _ _ h => h) (Or.inl ⟨by rfl, ?_⟩) hHeld ?_ ?_
                  rotate_left
                  · rintro w' ⟨s0, s1⟩
                    go_simp
                    with_reducible rfl
                  rotate_left
                  · simp only [Act.put, List.setIfInBounds_toArray, List.set_cons_zero, List.set_cons_succ, i64_w, i32_w]
                    rfl
                  refine pure_ (i := 6) (N := some 142) (v := ?_) (a' := ?_) #[true, true, true, true, true, true, true, false, false, false, false, false] rfl rfl (by kernel_rfl) (fun _ _ _ h => h) (Or.inl ⟨by rfl, ?_⟩) ?_ ?_
                  rotate_left
                  · intro w'
                    go_simp
                    with_reducible rfl
                  rotate_left
                  · simp only [Act.put, List.setIfInBounds_toArray, List.set_cons_zero, List.set_cons_succ, i64_w, i32_w]
                    rfl
                  refine take_ (i := 7) (N := some 143) (v := ?_) (a' := ?_) #[true, true, true, true, true, true, true, true, false, false, false, false] rfl rfl (by kernel_rfl) (fun _ _ _ h => h) (Or.inl ⟨by rfl, ?_⟩) hHeld ?_ ?_
                  rotate_left
                  · rintro w' ⟨s0, s1⟩
                    go_simp
                    with_reducible rfl
                  rotate_left
                  · simp only [Act.put, List.setIfInBounds_toArray, List.set_cons_zero, List.set_cons_succ, i64_w, i32_w]
                    rfl
                  refine one_ (i := 8) (N := some 144) #[true, true, true, true, true, true, true, true, true, false, false, false] rfl rfl (by kernel_rfl) (by decide) (fun K hK => ?_)
                  refine value_ (w1 := ?_) (v := ?_) (by rfl) rfl ?_ ?_
                  rotate_left 2
                  · go_simp
                    constructor
                    · rfl
                    · rfl
                  refine hK.out _ _ ⟨pw_cell_below (below_alloc (Below.refl _ _) _) hb9, pw_cell_below (below_alloc (Below.refl _ _) _) hrow⟩ (fun hHeld => ?_)
                  clear hK K
                  refine norm_ (a' := ?_) ?_ ?_
                  rotate_left
                  · show Act.put _ (some 144) _ = _
                    simp only [Act.put, List.setIfInBounds_toArray, List.set_cons_zero, List.set_cons_succ, i64_w, i32_w]
                    rfl
                  refine one_ (i := 9) (N := some 145) #[true, true, true, true, true, true, true, true, true, true, false, false] rfl rfl (by kernel_rfl) (by decide) (fun K hK => ?_)
                  refine step_append_cells (w0 := wr.drew) w.heap.size (by rfl) (.tmp 143) (.tmp 144) 29 3 (.int .i64 0) 1 8 rfl Try.underlying29 info3 rfl (by decide) (by omega) (.slice Ai (len i) ci) (len i) xsi [.int .i64 (-4)] ?aS ?aX rfl (fun u hu => by rw [List.mem_singleton.1 hu]; rfl) HOI.out (Below.refl _ _) HS1.out (by omega) ?_
                  case aS => rfl
                  case aX => rfl
                  intro v1 w17 ho _ hg hat
                  obtain ⟨A1_, c1_, e1_⟩ := own_slice ho
                  subst e1_
                  have TY := own_typed HOI.out
                  have STD := Aside0.mk (ST.out.kept (below_drew (Below.refl _ _)))
                  have ST1 := Aside0.mk (STD.out.next hi3 (show wr.drew.grownBy w17 (row i).ownBlock by rw [EROW.out]; exact hg) ho (show (Value.slice A1_ (len i + 1) c1_).ownBlock = (row i).ownBlock ∨ ∃ b, (Value.slice A1_ (len i + 1) c1_).ownBlock = some b ∧ wr.drew.heap.size ≤ b by rw [EROW.out]; exact hat))
                  have hb9b : w17.cell? ⟨g9, 2, none⟩ = some (.slice (some ⟨gn, 0, none⟩) nx.length cU3) := (blk_cell (blk_off STD.out.b9 hg (Off.typed (T := [26]) TY (by decide)) (by simp)) 2).trans rfl
                  obtain ⟨cur, hcur, hcr⟩ := (STD.out.d3 (by omega)).hd
                  have hcur1 := blk_off hcur hg (Off.typed (T := [29]) TY (by decide)) (by simp)
                  have hrowb : w17.cell? ⟨gn, i, none⟩ = some (.slice Ai (len i) ci) := (blk_cell hcur1 i).trans (by rw [hcr i hi3, EROW.out])
                  have hfb : w17.frozen? ⟨gn, i, none⟩ = false := blk_frozen hcur1 i
                  clear ho hg hat TY hcur hcr hcur1 STD
                  refine hK.out _ _ ⟨hb9b, hrowb⟩ (fun hHeld => ?_)
                  clear hK K
                  refine norm_ (a' := ?_) ?_ ?_
                  rotate_left
                  · show Act.put _ (some 145) _ = _
                    simp only [Act.put, List.setIfInBounds_toArray, List.set_cons_zero, List.set_cons_succ, i64_w, i32_w]
                    rfl
                  refine pure_ (i := 10) (N := some 146) (v := ?_) (a' := ?_) #[true, true, true, true, true, true, true, true, true, true, true, false] rfl rfl (by kernel_rfl) (fun _ _ _ h => h) (Or.inl ⟨by rfl, ?_⟩) ?_ ?_
                  rotate_left
                  · intro w'
                    go_simp
                    with_reducible rfl
                  rotate_left
                  · simp only [Act.put, List.setIfInBounds_toArray, List.set_cons_zero, List.set_cons_succ, i64_w, i32_w]
                    rfl
                  refine last_ (i := 11) (N := none) #[true, true, true, true, true, true, true, true, true, true, true, true] rfl rfl (by kernel_rfl) (by decide) (fun K hK => ?_)
                  refine skip_ (w1 := ?_) (by rfl) rfl ?_ ?_
                  rotate_left
                  · go_simp
                    rfl
                  refine hK.out _ _ ?_
                  clear hK K
                  refine done_ (by kernel_rfl) ?_
                  clear hb9 hrow hb9b hrowb hfb
                  go_wp2
                  go_roundw
                  case rel => exact ⟨i + 1, _, _, _, _, (by first | (rw [HWI.out]) | (simp)), hi9, ⟨by rw [List.length_set]; exact X2.out⟩, ⟨by rw [List.length_set]; exact Y2.out⟩, ⟨fun j h1 h2 => by rw [updn, if_neg (by omega)]; exact LEN.out j (by omega) h2⟩, ST1⟩
                  case measure => (try rw [HWI.out]); simp [intOf]; omega
            · obtain rfl : i = t2.length := by omega
              have cb : decide ((t2.length : Int) < (t2.length : Int)) = false := by simp
              clear hi hi1 LEN
              go_wp2
              clear az0 az1 az2 az3 cb
              go_loopw [151] (fun v151 wq => ∃ (i : Nat) (x1 : List ByteArray) (y1 : List ByteArray), v151 = .int .i64 (i : Int) ∧ i ≤ t1.length ∧ Aside0 (x1.length = t1.length) ∧ Aside0 (y1.length = tr.length) ∧ Aside0 (St w.heap.size z1 z2 z4 z5 z7 w7 wq g4 g9 (.slice AA1 t1.length cA1) (.slice AA2 t2.length cA2) (.slice AA3 t3.length cA3) (.slice AA4 t4.length cA4) (.slice AU1 tr.length cU1) (.slice AU2 ac.length cU2) (.slice AU3 nx.length cU3) x1 x2 x3 x4 y1 y2 gn nx.length row len)) (fun v151 _ => t1.length - (intOf v151).toNat)
              case atStart => exact ⟨0, t1, tr, rfl, Nat.zero_le _, ⟨rfl⟩, ⟨rfl⟩, ST⟩
              case round =>
                clear ST
                obtain ⟨i, x1, y1, rfl, hi, X1, Y1, ST⟩ := hrel
                obtain ⟨az0, az1, az2, az3, _, _, _, _⟩ := bF4 ST.out.b4
                by_cases hi1 : i < t1.length
                · have hi2 : i < tr.length := by have := HL1.out; omega
                  obtain ⟨ga, ca_, ea, _⟩ := Kd.R_form ST.out.a1 (by rw [X1.out]; omega)
                  rw [X1.out] at ea
                  injection ea with ea1 ea2 ea3
                  subst ea1 ea3
                  clear ea2
                  obtain ⟨gu, cu_, eu, _⟩ := Kd.R_form ST.out.d1 (by rw [Y1.out]; omega)
                  rw [Y1.out] at eu
                  injection eu with eu1 eu2 eu3
                  subst eu1 eu3
                  clear eu2
                  obtain ⟨hyc, hyf⟩ := Kd.R_celln ⟨#[]⟩ ST.out.a1 (i : Int) (Int.natCast_nonneg _) (Int.ofNat_lt.mpr hi1)
                  rw [Int.toNat_natCast] at hyc hyf
                  have HPA := Kd.R_putg ST.out.a1 (i : Int) (⟨#[116]⟩ : ByteArray)
                  rw [Int.toNat_natCast] at HPA
                  have TYa := Kd.R_typed ST.out.a1
                  have STA := Aside0.mk (ST.out.wA HPA.2 (fun k e => TYa k (by rw [← e]; rfl)) (ST.out.a1.1 ga (by simp [Value.ownBlock])) (by decide) (.inr HPA.1) (.inl ⟨by decide, rfl⟩) (.inl ⟨by decide, rfl⟩) (.inl ⟨by decide, rfl⟩))
                  obtain ⟨huc, huf⟩ := Kd.R_celln ⟨#[]⟩ STA.out.d1 (i : Int) (Int.natCast_nonneg _) (Int.ofNat_lt.mpr hi2)
                  rw [Int.toNat_natCast] at huc huf
                  have HPB := Kd.R_putg STA.out.d1 (i : Int) (⟨#[117]⟩ : ByteArray)
                  rw [Int.toNat_natCast] at HPB
                  have TYb := Kd.R_typed STA.out.d1
                  have STB := Aside0.mk (STA.out.wU HPB.2 (fun k e => TYb k (by rw [← e]; rfl)) (fun b e => by obtain rfl := Option.some.inj e; exact .inl (STA.out.d1.1 _ (by simp [Value.ownBlock]))) (by decide) (.inr HPB.1) (.inl ⟨by decide, rfl⟩) (.inl ⟨by decide, rfl, rfl⟩))
                  obtain ⟨uz0, uz1, uz2, _, _, _⟩ := bF3 ST.out.b9
                  obtain ⟨vz0, vz1, vz2, _, _, _⟩ := bF3 STA.out.b9
                  obtain ⟨va0, va1, va2, va3, _, _, _, _⟩ := bF4 STA.out.b4
                  replace STB := Aside0.mk (STB.out.kept (below_drew (Below.refl _ _)))
                  have cb : decide ((i : Int) < (t1.length : Int)) = true := decide_eq_true (by omega)
                  have HWI := Aside0.mk (show wrap64 ((i : Int) + 1) = ((i + 1 : Nat) : Int) by unfold wrap64; omega)
                  have hi9 : i + 1 ≤ t1.length := by omega
                  clear HPA TYa HPB TYb STA ST
                  go_upto_region 38 with (fail)
                  refine start_ (n := 10) (S := fun w' => w'.cell? ⟨g4, 0, none⟩ = some (.slice (some ⟨ga, 0, none⟩) t1.length cA1) ∧ w'.cell? ⟨g9, 0, none⟩ = some (.slice (some ⟨gu, 0, none⟩) tr.length cU1)) (ds := [9]) #[false, false, false, false, false, false, false, false, false, false] (by kernel_rfl) rfl rfl ⟨az0, uz0⟩ (fun hHeld => ?_)
                  refine pure_ (i := 0) (N := some 154) (v := ?_) (a' := ?_) #[true, false, false, false, false, false, false, false, false, false] rfl rfl (by kernel_rfl) (fun _ _ _ h => h) (Or.inl ⟨by rfl, ?_⟩) ?_ ?_
                  rotate_left
                  · intro w'
                    go_simp
                    with_reducible rfl
                  rotate_left
                  · simp only [Act.put, List.setIfInBounds_toArray, List.set_cons_zero, List.set_cons_succ, i64_w, i32_w]
                    rfl
                  refine pure_ (i := 2) (N := some 156) (v := ?_) (a' := ?_) #[true, false, true, false, false, false, false, false, false, false] rfl rfl (by kernel_rfl) (fun _ _ _ h => h) (Or.inl ⟨by rfl, ?_⟩) ?_ ?_
                  rotate_left
                  · intro w'
                    go_simp
                    with_reducible rfl
                  rotate_left
                  · simp only [Act.put, List.setIfInBounds_toArray, List.set_cons_zero, List.set_cons_succ, i64_w, i32_w]
                    rfl
                  refine pure_ (i := 3) (N := some 157) (v := ?_) (a' := ?_) #[true, false, true, true, false, false, false, false, false, false] rfl rfl (by kernel_rfl) (fun _ _ _ h => h) (Or.inl ⟨by rfl, ?_⟩) ?_ ?_
                  rotate_left
                  · intro w'
                    go_simp
                    with_reducible rfl
                  rotate_left
                  · simp only [Act.put, List.setIfInBounds_toArray, List.set_cons_zero, List.set_cons_succ, i64_w, i32_w]
                    rfl
                  refine pure_ (i := 5) (N := some 159) (v := ?_) (a' := ?_) #[true, false, true, true, false, true, false, false, false, false] rfl rfl (by kernel_rfl) (fun _ _ _ h => h) (Or.inl ⟨by rfl, ?_⟩) ?_ ?_
                  rotate_left
                  · intro w'
                    go_simp
                    with_reducible rfl
                  rotate_left
                  · simp only [Act.put, List.setIfInBounds_toArray, List.set_cons_zero, List.set_cons_succ, i64_w, i32_w]
                    rfl
                  refine take_ (i := 1) (N := some 155) (v := ?_) (a' := ?_) #[true, true, true, true, false, true, false, false, false, false] rfl rfl (by kernel_rfl) (fun _ _ _ h => h) (Or.inl ⟨by rfl, ?_⟩) hHeld ?_ ?_
                  rotate_left
                  · rintro w' ⟨s0, s1⟩
                    go_simp
                    with_reducible rfl
                  rotate_left
                  · simp only [Act.put, List.setIfInBounds_toArray, List.set_cons_zero, List.set_cons_succ, i64_w, i32_w]
                    rfl
                  refine pure_ (i := 6) (N := some 160) (v := ?_) (a' := ?_) #[true, true, true, true, false, true, true, false, false, false] rfl rfl (by kernel_rfl) (fun _ _ _ h => h) (Or.inl ⟨by rfl, ?_⟩) ?_ ?_
                  rotate_left
                  · intro w'
                    go_simp
                    with_reducible rfl
                  rotate_left
                  · simp only [Act.put, List.setIfInBounds_toArray, List.set_cons_zero, List.set_cons_succ, i64_w, i32_w]
                    rfl
                  refine take_ (i := 4) (N := some 158) (v := ?_) (a' := ?_) #[true, true, true, true, true, true, true, false, false, false] rfl rfl (by kernel_rfl) (fun _ _ _ h => h) (Or.inl ⟨by rfl, ?_⟩) hHeld ?_ ?_
                  rotate_left
                  · rintro w' ⟨s0, s1⟩
                    go_simp
                    with_reducible rfl
                  rotate_left
                  · simp only [Act.put, List.setIfInBounds_toArray, List.set_cons_zero, List.set_cons_succ, i64_w, i32_w]
                    rfl
                  refine one_ (i := 7) (N := none) #[true, true, true, true, true, true, true, true, false, false] rfl rfl (by kernel_rfl) (by decide) (fun K hK => ?_)
                  refine skip_ (w1 := ?_) (by rfl) rfl ?_ ?_
                  rotate_left
                  · go_simp
                    rfl
                  refine hK.out _ _ ⟨va0, vz0⟩ (fun hHeld => ?_)
                  clear hK K
                  refine pure_ (i := 8) (N := some 161) (v := ?_) (a' := ?_) #[true, true, true, true, true, true, true, true, true, false] rfl rfl (by kernel_rfl) (fun _ _ _ h => h) (Or.inl ⟨by rfl, ?_⟩) ?_ ?_
                  rotate_left
                  · intro w'
                    go_simp
                    with_reducible rfl
                  rotate_left
                  · simp only [Act.put, List.setIfInBounds_toArray, List.set_cons_zero, List.set_cons_succ, i64_w, i32_w]
                    rfl
                  refine last_ (i := 9) (N := none) #[true, true, true, true, true, true, true, true, true, true] rfl rfl (by kernel_rfl) (by decide) (fun K hK => ?_)
                  refine skip_ (w1 := ?_) (by rfl) rfl ?_ ?_
                  rotate_left
                  · go_simp
                    rfl
                  refine hK.out _ _ ?_
                  clear hK K
                  refine done_ (by kernel_rfl) ?_
                  go_wp2
                  go_roundw
                  case rel => exact ⟨i + 1, _, _, (by first | (rw [HWI.out]) | (simp)), hi9, ⟨by rw [List.length_set]; exact X1.out⟩, ⟨by rw [List.length_set]; exact Y1.out⟩, STB⟩
                  case measure => (try rw [HWI.out]); simp [intOf]; omega
                · obtain rfl : i = t1.length := by omega
                  have cb : decide ((t1.length : Int) < (t1.length : Int)) = false := by simp
                  clear hi hi1
                  go_upto_region 40 with (fail)
                  clear cb
                  go_upto_region 41 with ((with_reducible refine gate_builtin (b := .append) (xs := #[.tmp 164, .tmp 166]) rfl ?_); at_builtin; go_loud (refine Kd.R_append k58 (w0 := wr) w.heap.size rfl (.tmp 164) (.tmp 166) 30 58 (.agg #[(.int .i64 0), (.int .i64 0), (.int .i64 0)]) 24 rfl Try.underlying30 info58 rfl (by decide) (by omega) (.slice AA4 t4.length cA4) x4 ⟨0, 0, -5⟩ [.int .i64 0, .int .i64 0, .int .i64 (-5)] (fun _ => True) (fun _ => False) rfl rfl (k58_mkM _ _ _ _) (fun _ hk => hk.elim) (fun _ _ => trivial) (Kd.R_mono ST.out.a4 (fun _ _ => trivial)) (Below.refl _ _) (Nat.le_trans (below_size LED7.out.bel) ST.out.fr.size) (by have := X4.out; omega) ?_; intro v1_ w41 ho _ hg _; have LED := Aside0.mk (LED7.out.fr (ST.out.fr.grown hg (fun b hb => .inl (.inl (ST.out.a4.1 b hb))))); have B41 := Aside0.mk (blk_off ST.out.b4 hg (Off.typed (T := [32]) (Kd.R_typed ST.out.a4) (by decide)) (by simp)); obtain ⟨gl, cl_, el_, _⟩ := Kd.R_form ho (by simp); rw [List.length_append, X4.out] at el_; replace el_ : v1_ = .slice (some ⟨gl, 0, none⟩) (t4.length + 1) cl_ := el_; subst el_; obtain ⟨cc, hcl, hM, hcell, hfr⟩ := Kd.R_elem ho z58 ((t4.length : Nat) : Int) (by omega) (by omega); obtain rfl := k58_openM hM; have hlast := hcell 2 _ rfl; simp only [show k58.sz = 3 from rfl, Int.toNat_natCast] at hlast; have hval : ((x4 ++ [(⟨0, 0, -5⟩ : S58)]).getD t4.length z58).f2 = -5 := (by rw [← X4.out]; simp [List.getD_eq_getElem?_getD]); rw [hval] at hlast; clear ho hg hcl hM hcell hfr hval))
                  clear ST LED7 X1 Y1 X2 Y2 X3 X4
                  clear az0 az1 az2 az3
                  obtain ⟨az0, az1, az2, az3, _, _, _, _⟩ := bF4 B41.out
                  obtain ⟨bz0, bz1, bz2, bz3, _, _, _, _⟩ := bF4 LED.out.bb
                  obtain ⟨kz0, kz1, kz2, kz3, _, _, _, _⟩ := bF4 LED.out.kb
                  go_wp2_with (first
                    | (go_at_call 19; (with_reducible refine (tabardref12_Same.calls k _ _ t1 _ _ t2 _ _ t3 _ _ t4 _ _ t1 _ _ t2 _ _ t3 _ _ t4 true _ (Kd.R_reads' LED.out.br1).2.2 (Kd.R_reads' LED.out.br1).2.1 (Kd.R_reads' LED.out.br2).2.2 (Kd.R_reads' LED.out.br2).2.1 (Kd.R_reads' LED.out.br3).2.2 (Kd.R_reads' LED.out.br3).2.1 (Kd.R_reads' LED.out.br4).2.2 (Kd.R_reads' LED.out.br4).2.1 (Kd.R_reads' LED.out.kr1).2.2 (Kd.R_reads' LED.out.kr1).2.1 (Kd.R_reads' LED.out.kr2).2.2 (Kd.R_reads' LED.out.kr2).2.1 (Kd.R_reads' LED.out.kr3).2.2 (Kd.R_reads' LED.out.kr3).2.1 (Kd.R_reads' LED.out.kr4).2.2 (Kd.R_reads' LED.out.kr4).2.1 HSM.out).mono ?_); rintro _ w42 ⟨rfl, hb⟩; have LED2 := Aside0.mk (LED.out.kept hb); clear hb LED bz0 bz1 bz2 bz3 kz0 kz1 kz2 kz3; obtain ⟨vz0, vz1, vz2, _, _, _⟩ := bF3 LED2.out.vb; obtain ⟨nz0, nz1, nz2, _, _, _⟩ := bF3 LED2.out.n1)
                    | (go_at_call 16; (with_reducible refine (tabardref12_SameDense.calls k _ _ tr _ _ ac _ _ nx _ _ tr _ _ ac _ _ nx true _ (Kd.R_reads' LED2.out.vr1).2.2 (Kd.R_reads' LED2.out.vr1).2.1 (Kd.R_reads' LED2.out.vr2).2.2 (Kd.R_reads' LED2.out.vr2).2.1 (Kd.R_reads' (Kd.S_R LED2.out.vr3)).2.2 (Kd.R_reads' (Kd.S_R LED2.out.vr3)).2.1 (Kd.C_below H1.out LED2.out.bel) C1.out (Kd.C_below H2.out LED2.out.bel) C2.out (Kd.C_below H3.out LED2.out.bel) C3.out HSD.out).mono ?_); rintro _ w43 ⟨rfl, hb⟩; have LED3 := Aside0.mk (LED2.out.kept hb); clear hb LED2 vz0 vz1 vz2 nz0 nz1 nz2; obtain ⟨mz0, mz1, mz2, _, _, _⟩ := bF3 LED3.out.mb; obtain ⟨nz0, nz1, nz2, _, _, _⟩ := bF3 LED3.out.n1)
                    | (go_at_call 16; (with_reducible refine (tabardref12_SameDense.calls k _ _ tr _ _ ac _ _ nx _ _ tr _ _ ac _ _ nx true _ (Kd.R_reads' LED3.out.mr1).2.2 (Kd.R_reads' LED3.out.mr1).2.1 (Kd.R_reads' LED3.out.mr2).2.2 (Kd.R_reads' LED3.out.mr2).2.1 (Kd.R_reads' (Kd.S_R LED3.out.mr3)).2.2 (Kd.R_reads' (Kd.S_R LED3.out.mr3)).2.1 (Kd.C_below H1.out LED3.out.bel) C1.out (Kd.C_below H2.out LED3.out.bel) C2.out (Kd.C_below H3.out LED3.out.bel) C3.out HSD.out).mono ?_); rintro _ w44 ⟨rfl, hb⟩; have LED4 := Aside0.mk (LED3.out.kept hb); clear hb LED3))
                  go_ret
                  exact ⟨rfl, LED4.out.bel⟩

end Go.Proofs.Ytghfclgcgecgdaa.X
