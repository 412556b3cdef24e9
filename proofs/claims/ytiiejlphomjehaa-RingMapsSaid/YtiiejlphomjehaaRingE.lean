/- Layer 5: a row of numbers appended whole; the reference's Push. No condition. -/
import Derived.Test.YtiiejlphomjehaaRingD
import Derived.Laws.AppendOwnNone
namespace Go.Proofs.Ytiiejlphomjehaa
open Go.RowKit

/-- A slice whose cells are these numbers; one that is nil has no room. -/
def Rs (w : World) (v : Value) (l : List Int) : Prop := ∃ p cap, v = .slice p l.length cap ∧ (p = none → cap = 0 ∧ l = []) ∧ ∀ i x, l[i]? = some x → ∃ g, p = some ⟨g, 0, none⟩ ∧ w.cell? ⟨g, i, none⟩ = some (.int .i64 x)
theorem Rs.rd {w : World} {v : Value} {l : List Int} (h : Rs w v l) : Rd w v l := by
  obtain ⟨p, cap, h1, _, h2⟩ := h
  exact ⟨p, cap, h1, h2⟩
theorem Rs.own {w : World} {base : Nat} {v : Value} {l : List Int} (h : w.ownsRow base KI.T 1 v l.length (KI.flat l)) : Rs w v l := by
  have h' := h
  obtain ⟨_, ⟨rfl, hn⟩ | ⟨g, cap, cur, rfl, _⟩⟩ := h'
  · exact ⟨none, 0, by rw [hn], fun _ => ⟨rfl, List.eq_nil_of_length_eq_zero hn⟩, fun i x hx => absurd (lt_of_get hx) (by omega)⟩
  · refine ⟨_, _, rfl, (fun e => by cases e), ?_⟩
    obtain ⟨p, cap2, hv, hc⟩ := Rd.own h
    injection hv with hv _ _
    rw [hv]
    exact hc

section
variable {ops : Array Oper} {rest : List Oper} {o : Oper} {a : Act} {w0 w : World} {Q : Exit → Act → World → Prop} {L : List (Nat × TypeId × Array Value)} {R : List Ow} {v : Value} {n : Nat} {xs : List Value}
theorem app_src (hS : SR w0 L (⟨v, 3, 1, n, xs⟩ :: R) w) (hgd : o.guard = none) (s x : Operand) (ho : o.op = .call { callee := .builtin .append, args := #[s, x], argTypes := #[22, 22] }) (hs : a.eval s = v)
    (l : List Int) (p : Option Addr) (cap : Nat) (hx : a.eval x = .slice p l.length cap) (hp : p = none → cap = 0 ∧ l = []) (hc : ∀ i y, l[i]? = some y → ∃ g f, p = some ⟨g, f, none⟩ ∧ w.cell? ⟨g, f + i, none⟩ = some (.int .i64 y)) (hn : n ≤ 1000000) (hl : l.length ≤ 1000000)
    (h : ∀ v' w', SR w0 L (⟨v', 3, 1, n + l.length, xs ++ KI.flat l⟩ :: R) w' → wpList Try.prog ops Q rest (a.put o.dst v') w') : wpList Try.prog ops Q (o :: rest) a w := by
  obtain ⟨i0, hi, hz0, hz1, hz2⟩ := info_parts KI.info
  cases p with
  | none =>
    obtain ⟨rfl, rfl⟩ := hp rfl
    refine wpList_append_own_none hgd s x _ ho w0.heap.size 3 i0 1 Try.underlying22 hi v n xs hs (hS.own _ List.mem_cons_self) hx (h v w ?_)
    have e : xs ++ KI.flat [] = xs := by show xs ++ [] = xs; simp
    rw [e]
    exact hS
  | some ad =>
    refine wpList_append_own_at w hgd s x _ ho w0.heap.size 3 i0 _ 1 8 Try.underlying22 hi hz0 hz1 hz2 rfl (by omega) v n xs hs (hS.own _ List.mem_cons_self) ad l.length cap (KI.flat l) hx (by rw [flat_int]; simp) ?_ ?_ ?_ ?_ hS.st.below.size fun v' w' h1 h2 _ h4 => h v' w' (hS.appended h1 h2 h4)
    · intro j u hj
      rw [flat_int, List.getElem?_map] at hj
      obtain ⟨y, hy, rfl⟩ := Option.map_eq_some_iff.1 hj
      obtain ⟨g, f, he, hcell⟩ := hc j y hy
      injection he with he
      rw [he, Go.WideShapes.add_plain]
      exact hcell
    · intro u hu
      rw [flat_int] at hu
      obtain ⟨y, _, rfl⟩ := List.mem_map.1 hu
      rfl
    · unfold maxLen; omega
    · have : (n + l.length) * 8 ≤ 2000000 * 8 := Nat.mul_le_mul (by omega) (Nat.le_refl _)
      omega
end
theorem rpush_full {w : World} {v : Value} {l : List Int} (x : Int) {room : Nat} (h : Rs w v l) (hf : room ≤ l.length) : Calls Try.prog 17 #[v, .int .i64 (room : Int), .int .i64 x] w fun e w' => e = .returned (.tuple #[v, .bool false]) ∧ w = w' := by
  obtain ⟨p, cap, rfl, _⟩ := h
  have hz : (room : Int) ≤ (l.length : Int) := by omega
  clear hf
  go_enter Try.func17, Try.ntmps17
  go_wp2
  go_ret2
  exact ⟨rfl, rfl⟩
set_option maxRecDepth 100000 in
set_option maxHeartbeats 4000000 in
theorem rpush_new {w : World} {v : Value} {l : List Int} (x : Int) {room : Nat} (h : Rs w v l) (hm : l.length ≤ 1000) (hf : l.length < room) : Calls Try.prog 17 #[v, .int .i64 (room : Int), .int .i64 x] w fun e w' => ∃ v2, e = .returned (.tuple #[v2, .bool true]) ∧ SR w [] [⟨v2, 3, 1, (l ++ [x]).length, KI.flat (l ++ [x])⟩] w' := by
  obtain ⟨p, cap, rfl, hp, hc⟩ := h
  have hz : (l.length : Int) < (room : Int) := by omega
  have HM := Lib.hid hm
  have HP := Lib.hid hp
  have HC := Lib.hid hc
  have hR := (SR.ofSt (St.nil w)).newRow KI.T 1 0 #[] (by decide) rfl
  have hS : SR w [] [⟨.slice (some ⟨w.heap.size, 0, none⟩) 0 0, 3, 1, 0, []⟩] (w.alloc (.cells #[] 3)) := hR
  have hcw : ∀ i y, l[i]? = some y → ∃ g f, p = some ⟨g, f, none⟩ ∧ (w.alloc (.cells #[] 3)).cell? ⟨g, f + i, none⟩ = some (.int .i64 y) := fun i y hy => by
    obtain ⟨g, he, hg⟩ := hc i y hy
    refine ⟨g, 0, he, ?_⟩
    rw [Nat.zero_add]
    exact (hR.st.oldCell (World.block_lt_of_cell? w _ hg)).trans hg
  have HCW := Lib.hid hcw
  clear hR hcw hc hp hf hm
  go_enter Try.func17, Try.ntmps17
  go_wp2_with (first
    | (at_builtin; refine app_src hS rfl _ _ rfl rfl l p cap rfl HP.out HCW.out (by omega) (by have := HM.out; omega) ?_; intro v7 w7 hR7; clear hS)
    | (at_builtin; refine app_row (SR.old hR7 _) rfl _ _ 22 rfl (.int .i64 0) 8 Try.underlying22 KI.info rfl (by show 0 < 1; omega) rfl _ #[.int .i64 x] 3 rfl (Blk.new _ _ _) rfl (by simp [Value.oneCell']) (by have := HM.out; show 0 + l.length ≤ 1000000; omega) (by omega) ?_; intro v9 w9 hR9; clear hR7))
  go_ret2
  refine ⟨_, rfl, ?_⟩
  rw [← flat_snoc]
  (try rw [List.length_append, List.length_singleton])
  rw [Nat.zero_add, List.nil_append] at hR9
  exact hR9
end Go.Proofs.Ytiiejlphomjehaa
