/- Layer 22: what the laws FeedQuick and FeedParts need: an append beside a ring, rows of changes and notices. No condition. -/
import Derived.Test.YtjfpmolnipiphaaFeed6
import Derived.Test.YtjfpmolnipiphaaFeed7
import Derived.Test.YtjfpmolnipiphaaFeed8
namespace Go.Proofs.Ytjfpmolnipiphaa
open Go.RowKit
set_option linter.unusedVariables false
set_option linter.unusedSimpArgs false

section
variable {ops : Array Oper} {rest : List Oper} {o : Oper} {a : Act} {w0 w : World} {Q : Exit → Act → World → Prop} {L : List (Nat × TypeId × Array Value)} {R : List Ow} {r : Ow}
variable {α : Type} {K : RK α} {gr room : Nat} {q : List α}
theorem app_rowF (hS : RG K w0 L (r :: R) gr room q w) (hgd : o.guard = none) (s x : Operand) (T : TypeId) (ho : o.op = .call { callee := .builtin .append, args := #[s, x], argTypes := #[T, T] }) (z : Value) (bytes : Nat) (hT : Try.prog.underlying T = some (.slice r.e))
    (hinfo : (Try.prog.info? r.e).map (fun i => (i.zero, i.size, i.bytes)) = some (some z, r.size, bytes)) (hz : z.cells.size = r.size) (hsz : 0 < r.size) (hs : a.eval s = r.v) (g : Nat) (cs : Array Value) (t : TypeId) (hx : a.eval x = .slice (some ⟨g, 0, none⟩) 1 1)
    (hb : Blk w g t cs) (hcs : cs.size = r.size) (h1 : cs.all (·.oneCell') = true) (hn : r.n ≤ 1000000) (hbytes : bytes ≤ 100000)
    (h : ∀ v' w', RG K w0 L (⟨v', r.e, r.size, r.n + 1, r.xs ++ cs.toList⟩ :: R) gr room q w' → wpList Try.prog ops Q rest (a.put o.dst v') w') : wpList Try.prog ops Q (o :: rest) a w := by
  obtain ⟨i0, hi, hz0, hz1, hz2⟩ := info_parts hinfo
  refine wpList_append_own_at w hgd s x T ho w0.heap.size r.e i0 z r.size bytes hT hi hz0 hz1 hz2 hz hsz r.v r.n r.xs hs (hS.sr.own r List.mem_cons_self) ⟨g, 0, none⟩ 1 1 cs.toList hx (by simpa using hcs) ?_ ?_ ?_ ?_ hS.sr.st.below.size fun v' w' h1 h2 _ h4 => h v' w' (hS.appended h1 h2 h4)
  · intro j y hj
    have := hb.cell j
    rw [Go.WideShapes.add_plain, Nat.zero_add, this, ← hj, Array.getElem?_toList]
  · intro u hu
    have := (Array.all_eq_true_iff_forall_mem.1 h1) u (by simpa using hu)
    exact this
  · unfold maxLen; omega
  · have : (r.n + 1) * bytes ≤ 1000001 * 100000 := Nat.mul_le_mul (by omega) hbytes
    omega
end
theorem KN.snoc (l : List (Int × (Nat → Int))) (y : Int × (Nat → Int)) : KN.flat l ++ (#[.int .i64 y.1, .int .i64 (y.2 0), .int .i64 (y.2 1), .int .i64 (y.2 2), .int .i64 (y.2 3), .int .i64 (y.2 4), .int .i64 (y.2 5), .int .i64 (y.2 6), .int .i64 (y.2 7), .int .i64 (y.2 8), .int .i64 (y.2 9), .int .i64 (y.2 10)] : Array Value).toList = KN.flat (l ++ [y]) := by unfold KN.flat; rw [List.flatMap_append]; simp; rfl
theorem one_cells (x : Nat → Int) : ∀ i y, [x][i]? = some y → ∀ j v, (CC y).toList[j]? = some v → (CC x)[i * 11 + j]? = some v := fun i y hy j v hv => by
  cases i with
  | zero =>
    injection hy with hy
    subst hy
    rw [Nat.zero_mul, Nat.zero_add, ← Array.getElem?_toList]
    exact hv
  | succ i => cases hy
/-- The changes from F + 1 on, up to j. -/
def aQ (F : Nat) : Nat → List (Nat → Int)
  | 0 => []
  | j + 1 => if F < j + 1 then aQ F j ++ [chf ((j + 1 : Nat) : Int)] else aQ F j
def tQ (kd n : Int) (F j : Nat) : List (Int × (Nat → Int)) := ((aQ F j).filter (passV kd n)).map fun x => (x 0, x)
def hQ (F j : Nat) : Int := if j ≤ F then (F : Int) else (j : Int)
theorem aQ_old {F j : Nat} (h : ¬ F < j + 1) : aQ F (j + 1) = aQ F j := by rw [aQ, if_neg h]
theorem aQ_new {F j : Nat} (h : F < j + 1) : aQ F (j + 1) = aQ F j ++ [chf ((j + 1 : Nat) : Int)] := by rw [aQ, if_pos h]
theorem aQ_len (F : Nat) : ∀ j, (aQ F j).length ≤ j
  | 0 => Nat.le_refl _
  | j + 1 => by
    have := aQ_len F j
    by_cases h : F < j + 1
    · rw [aQ_new h, List.length_append, List.length_singleton]; omega
    · rw [aQ_old h]; omega
theorem tQ_old {kd n : Int} {F j : Nat} (h : ¬ F < j + 1) : tQ kd n F (j + 1) = tQ kd n F j := by unfold tQ; rw [aQ_old h]
theorem tQ_no {kd n : Int} {F j : Nat} (h : F < j + 1) (hp : passV kd n (chf ((j + 1 : Nat) : Int)) = false) : tQ kd n F (j + 1) = tQ kd n F j := by unfold tQ; rw [aQ_new h, List.filter_append]; simp only [List.filter_cons, hp, List.filter_nil]; simp
theorem tQ_new {kd n : Int} {F j : Nat} (h : F < j + 1) (hp : passV kd n (chf ((j + 1 : Nat) : Int)) = true) : tQ kd n F (j + 1) = tQ kd n F j ++ [(chf ((j + 1 : Nat) : Int) 0, chf ((j + 1 : Nat) : Int))] := by unfold tQ; rw [aQ_new h, List.filter_append, List.map_append]; simp only [List.filter_cons, hp, List.filter_nil]; simp
theorem tQ_len (kd n : Int) (F j : Nat) : (tQ kd n F j).length ≤ j := by
  unfold tQ
  rw [List.length_map]
  exact Nat.le_trans (List.length_filter_le _ _) (aQ_len F j)
theorem hQ_old {F j : Nat} (h : ¬ F < j + 1) : hQ F (j + 1) = hQ F j := by unfold hQ; rw [if_pos (by omega), if_pos (by omega)]
theorem hQ_new {F j : Nat} (h : F < j + 1) : hQ F (j + 1) = ((j + 1 : Nat) : Int) := by unfold hQ; rw [if_neg (by omega)]
theorem hQ_at {F j : Nat} (h : F < j + 1) : hQ F j = (j : Int) := by unfold hQ; split <;> omega
theorem fold_old {kd n : Int} {room F j : Nat} (h : ¬ F < j + 1) : [chf ((j + 1 : Nat) : Int)].foldl (hearF kd n room) ⟨hQ F j, 0, []⟩ = ⟨hQ F (j + 1), 0, []⟩ := by
  show hearF kd n room ⟨hQ F j, 0, []⟩ (chf ((j + 1 : Nat) : Int)) = _
  have hh : hQ F j = (F : Int) := by unfold hQ; rw [if_pos (by omega)]
  unfold hearF
  rw [chf_zero, hQ_old h, if_pos (by simp only [hh]; omega)]
theorem fold_no {kd n : Int} {room F j : Nat} (h : F < j + 1) (hp : passV kd n (chf ((j + 1 : Nat) : Int)) = false) : [chf ((j + 1 : Nat) : Int)].foldl (hearF kd n room) ⟨hQ F j, 0, []⟩ = ⟨hQ F (j + 1), 0, []⟩ := by
  show hearF kd n room ⟨hQ F j, 0, []⟩ (chf ((j + 1 : Nat) : Int)) = _
  unfold hearF
  rw [chf_zero, hQ_new h, hQ_at h, if_neg (by simp only []; omega), if_neg (by simp), if_pos hp]
theorem fold_new {kd n : Int} {room F j : Nat} (h : F < j + 1) (hp : passV kd n (chf ((j + 1 : Nat) : Int)) = true) (hr : 1 ≤ room) : [chf ((j + 1 : Nat) : Int)].foldl (hearF kd n room) ⟨hQ F j, 0, []⟩ = ⟨hQ F (j + 1), 0, [(chf ((j + 1 : Nat) : Int) 0, chf ((j + 1 : Nat) : Int))]⟩ := by
  show hearF kd n room ⟨hQ F j, 0, []⟩ (chf ((j + 1 : Nat) : Int)) = _
  unfold hearF
  rw [if_neg (by rw [chf_zero, hQ_at h]; show ¬ ((j + 1 : Nat) : Int) ≤ (j : Int); omega), if_neg (by simp), if_neg (by rw [hp]; simp), if_pos (by simp only [List.length_nil]; omega), hQ_new h, chf_zero]
  rfl
theorem app_all {w0 w : World} {L : List (Nat × TypeId × Array Value)} {R : List Ow} {gr room : Nat} {q : List (Int × (Nat → Int))} {v : Value} {l l2 : List (Nat → Int)} {x : Nat → Int} (h : l2 = l ++ [x])
    (hR : RG KN w0 L (⟨v, 38, 11, l.length + 1, KC.flat l ++ (CC x).toList⟩ :: R) gr room q w) : RG KN w0 L (⟨v, 38, 11, l2.length, KC.flat l2⟩ :: R) gr room q w := by
  rw [h, List.length_append, List.length_singleton, ← KC.snoc]
  exact hR
end Go.Proofs.Ytjfpmolnipiphaa
