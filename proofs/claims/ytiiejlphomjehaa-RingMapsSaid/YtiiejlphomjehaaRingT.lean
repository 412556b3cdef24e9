/- What the laws RingTwice and RingMaps need beside the ring. No condition. -/
import Derived.Test.YtiiejlphomjehaaRingN
namespace Go.Proofs.Ytiiejlphomjehaa
open Go.RowKit
theorem mod200 (x : Int) : ∃ k : Nat, k < 200 ∧ (IntKind.u64.wrap x).tmod 200 = (k : Int) := by
  have h0 : 0 ≤ IntKind.u64.wrap x := by
    have : (0 : Int) ≤ x % 18446744073709551616 := Int.emod_nonneg _ (by decide)
    exact this
  obtain ⟨m, hm⟩ := Int.eq_ofNat_of_zero_le h0
  refine ⟨m % 200, Nat.mod_lt _ (by omega), ?_⟩
  rw [hm]
  rfl
theorem mod3 (x : Int) : ∃ k : Nat, k < 3 ∧ (IntKind.u64.wrap x).tmod 3 = (k : Int) := by
  have h0 : 0 ≤ IntKind.u64.wrap x := by
    have : (0 : Int) ≤ x % 18446744073709551616 := Int.emod_nonneg _ (by decide)
    exact this
  obtain ⟨m, hm⟩ := Int.eq_ofNat_of_zero_le h0
  refine ⟨m % 3, Nat.mod_lt _ (by omega), ?_⟩
  rw [hm]
  rfl
/-- A predicate on worlds under a name that the walk's simp keeps as it is. -/
def PX (P : World → Prop) (W : World) : Prop := P W
/-- What stands in a ring of room k behind j pushes. -/
def stood (k : Nat) (zs : List Int) (j : Nat) : List Int := (zs.take j).take k
theorem stood_zero (k : Nat) (zs : List Int) : stood k zs 0 = [] := by simp [stood]
theorem stood_len (k : Nat) (zs : List Int) (j : Nat) (hj : j ≤ zs.length) : (stood k zs j).length = min k j := by simp [stood]; omega
theorem stood_more {k j : Nat} {zs : List Int} (hj : j < zs.length) (hk : j < k) : stood k zs (j + 1) = stood k zs j ++ [zs.getD j 0] := by
  have e : zs.getD j 0 = zs[j] := by simp [List.getD, hj]
  have h1 : (zs.take (j + 1)).take k = zs.take (j + 1) := List.take_of_length_le (by rw [List.length_take]; omega)
  have h2 : (zs.take j).take k = zs.take j := List.take_of_length_le (by rw [List.length_take]; omega)
  unfold stood
  rw [h1, h2, List.take_succ_eq_append_getElem hj, e]
theorem stood_same {k j : Nat} {zs : List Int} (hk : k ≤ j) : stood k zs (j + 1) = stood k zs j := by
  unfold stood
  rw [List.take_take, List.take_take, Nat.min_eq_left (by omega), Nat.min_eq_left hk]
theorem stood_all (k : Nat) (zs : List Int) : stood k zs zs.length = zs.take k := by unfold stood; rw [List.take_length]
theorem stood_get {k j : Nat} {zs : List Int} (h : j < (zs.take k).length) : (zs.take k)[j]? = some (zs.getD j 0) := by
  rw [List.length_take] at h
  rw [List.getElem?_take, if_pos (by omega), List.getElem?_eq_getElem (by omega)]
  simp [List.getD, show j < zs.length by omega]
/-- A readable row, as an append reads it. -/
theorem Rs.src {w : World} {p : Option Addr} {cap : Nat} {l : List Int} (h : Rs w (.slice p l.length cap) l) : (p = none → cap = 0 ∧ l = []) ∧ ∀ i y, l[i]? = some y → ∃ g f, p = some ⟨g, f, none⟩ ∧ w.cell? ⟨g, f + i, none⟩ = some (.int .i64 y) := by
  obtain ⟨p2, cap2, hv, h1, h2⟩ := h
  injection hv with e1 e2 e3
  subst e1 e3
  exact ⟨h1, fun i y hy => by
    obtain ⟨g, hg, hc⟩ := h2 i y hy
    exact ⟨g, 0, hg, by rw [Nat.zero_add]; exact hc⟩⟩
theorem map_no {w : World} (r f : Value) (h : r = .pointer none ∨ (∃ g, r = .pointer (some ⟨g, 0, none⟩)) ∧ f = .nilFunc) : Calls Try.prog 23 #[r, f] w fun e w' => e = .returned (.pointer none) ∧ w = w' := by
  rcases h with rfl | ⟨⟨g, rfl⟩, rfl⟩
  · exact map_nilr f w
  · exact map_nof g w
theorem fold_no {w : World} (r vu f : Value) (h : (r = .pointer none ∧ f = .func (.func 29) #[] #[]) ∨ f = .nilFunc) : Calls Try.prog 28 #[r, vu, f] w fun e w' => e = .returned vu ∧ w = w' := by
  rcases h with ⟨rfl, rfl⟩ | rfl
  · exact fold_nilr vu w
  · exact fold_nof r vu w
theorem drop_no {w : World} (r f : Value) (h : r = .pointer none ∨ (∃ g, r = .pointer (some ⟨g, 0, none⟩)) ∧ f = .nilFunc) : Calls Try.prog 20 #[r, f] w fun e w' => e = .returned (.int .i64 0) ∧ w = w' := by
  rcases h with rfl | ⟨⟨g, rfl⟩, rfl⟩
  · exact drop_nilr f w
  · exact drop_nof g w
theorem own7 {w : World} {base : Nat} {v : Value} {q : List Int} (h : w.ownsRow base KI.T 1 v (1 + q.length) ((#[Value.int .i64 7] : Array Value).toList ++ KI.flat q)) : Rd w v (7 :: q) := by
  have e : (7 :: q).length = 1 + q.length := by simp; omega
  exact Rd.own (base := base) (by rw [e]; exact h)
theorem rd3 {w : World} {g : Nat} (h : Blk w g 3 #[.int .i64 3]) : Rd w (.slice (some ⟨g, 0, none⟩) 1 1) [3] :=
  ⟨_, _, rfl, fun i x hx => by
    cases i with
    | zero => injection hx with hx; rw [← hx]; exact ⟨g, rfl, h.cell 0⟩
    | succ i => cases hx⟩
theorem rd3a (w : World) (o : Obj) {g : Nat} (hg : w.heap.size = g) : Rd ((w.alloc (.cells #[.int .i64 3] 3)).alloc o) (.slice (some ⟨g, 0, none⟩) 1 1) [3] := hg ▸ rd3 ((Blk.new w 3 _).alloc o)
theorem rd3b (w : World) {g : Nat} (hg : w.heap.size = g) : Rd (w.alloc (.cells #[.int .i64 3] 3)) (.slice (some ⟨g, 0, none⟩) 1 1) [3] := hg ▸ rd3 (Blk.new w 3 _)
theorem sz1 (w : World) (n : Nat) (o : Obj) : ((w.drewN n).alloc o).heap.size = w.heap.size + 1 := Array.size_push _
theorem sz2 (w : World) (n : Nat) (o p : Obj) : (((w.drewN n).alloc o).alloc p).heap.size = w.heap.size + 1 + 1 := (Array.size_push _).trans (congrArg (· + 1) (sz1 w n o))
theorem stay_twice (b : Int) (l : List Int) : stay b (stay b l) = stay b l := by simp [stay, List.filter_filter]
section
variable {rest : List Oper} {o : Oper} {a : Act} {w0 w : World} {Q : Exit → Act → World → Prop} {L : List (Nat × TypeId × Array Value)} {R : List Ow} {α : Type} {K : RK α} {gr room : Nat} {q : List α}
/-- A whole struct stored into the block that was just made, beside a ring. -/
theorem store_newT {P : Program} {ops : Array Oper} (hS : RG K w0 L R gr room q w) (hgd : o.guard = none) (hd : o.dst = none) (ty : TypeId) (x y : Operand) (ho : o.op = .store ty x y) (t : TypeId) (old cells : Array Value) (hx : a.eval x = .pointer (some ⟨w.heap.size, 0, none⟩)) (hy : a.eval y = .agg cells)
    (hi : (P.info? ty).map (·.size) = some cells.size) (hold : old.size = cells.size) (h1 : cells.all (·.oneCell') = true)
    (h : ∀ w2, RG K w0 ((w.heap.size, t, cells) :: L) R gr room q w2 → w.heap.size < w2.heap.size → wpList P ops Q rest a w2) : wpList P ops Q (o :: rest) a (w.alloc (.cells old t)) :=
  store_blk hgd ty x y ho w.heap.size cells hx hy t old hi hold h1 (Blk.new _ _ _) fun w2 ho hb => by rw [hd]; exact h w2 ((hS.alloc t old).setAt 0 rfl ho hb) hb.lt
end
end Go.Proofs.Ytiiejlphomjehaa
