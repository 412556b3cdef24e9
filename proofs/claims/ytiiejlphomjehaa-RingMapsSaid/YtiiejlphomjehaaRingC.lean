/- Layer 5: RingOrder, what it needs beside the ring: an append beside a ring; the room's remainder. No condition. -/
import Derived.Test.YtiiejlphomjehaaRingB
namespace Go.Proofs.Ytiiejlphomjehaa
open Go.RowKit

section
variable {ops : Array Oper} {rest : List Oper} {o : Oper} {a : Act} {w0 w : World} {Q : Exit → Act → World → Prop} {L : List (Nat × TypeId × Array Value)} {R : List Ow} {r : Ow}
variable {α : Type} {K : RK α} {gr room : Nat} {q : List α}
theorem app_rowG (hS : RG K w0 L (r :: R) gr room q w) (hgd : o.guard = none) (s x : Operand) (T : TypeId) (ho : o.op = .call { callee := .builtin .append, args := #[s, x], argTypes := #[T, T] }) (z : Value) (bytes : Nat) (hT : Try.prog.underlying T = some (.slice r.e))
    (hinfo : (Try.prog.info? r.e).map (fun i => (i.zero, i.size, i.bytes)) = some (some z, r.size, bytes)) (hz : z.cells.size = r.size) (hsz : 0 < r.size) (hs : a.eval s = r.v) (g : Nat) (cs : Array Value) (t : TypeId) (hx : a.eval x = .slice (some ⟨g, 0, none⟩) 1 1)
    (hb : Blk w g t cs) (hcs : cs.size = r.size) (h1 : cs.all (·.oneCell') = true) (hn : r.n ≤ 1000000) (hbytes : bytes ≤ 100000)
    (h : ∀ v' w', RG K w0 L (⟨v', r.e, r.size, r.n + 1, r.xs ++ cs.toList⟩ :: R) gr room q w' → wpList Try.prog ops Q rest (a.put o.dst v') w') : wpList Try.prog ops Q (o :: rest) a w := by
  obtain ⟨i0, hi, hz0, hz1, hz2⟩ := info_parts hinfo
  refine wpList_append_own_at w hgd s x T ho w0.heap.size r.e i0 z r.size bytes hT hi hz0 hz1 hz2 hz hsz r.v r.n r.xs hs (hS.sr.own r List.mem_cons_self) ⟨g, 0, none⟩ 1 1 cs.toList hx (by simpa using hcs) ?_ ?_ ?_ ?_ hS.sr.st.below.size fun v' w' h1 h2 _ h4 => h v' w' (hS.appended h1 h2 h4)
  · intro j y hj
    have := hb.cell j
    rw [Go.WideShapes.add_plain, Nat.zero_add, this, ← hj, Array.getElem?_toList]
  · intro u hu
    have := (Array.all_eq_true_iff_forall_mem.1 h1) u (by simpa using hu)
    exact this
  · unfold maxLen; omega
  · have : (r.n + 1) * bytes ≤ 1000001 * 100000 := Nat.mul_le_mul (by omega) hbytes
    omega
end
theorem mod50 (x : Int) : ∃ k : Nat, k < 50 ∧ (IntKind.u64.wrap x).tmod 50 = (k : Int) := by
  have h0 : 0 ≤ IntKind.u64.wrap x := by
    have : (0 : Int) ≤ x % 18446744073709551616 := Int.emod_nonneg _ (by decide)
    exact this
  obtain ⟨m, hm⟩ := Int.eq_ofNat_of_zero_le h0
  refine ⟨m % 50, Nat.mod_lt _ (by omega), ?_⟩
  rw [hm]
  rfl
theorem flat_snoc (l : List Int) (x : Int) : KI.flat l ++ [.int .i64 x] = KI.flat (l ++ [x]) := by rw [flat_int, flat_int, List.map_append]; rfl
end Go.Proofs.Ytiiejlphomjehaa
