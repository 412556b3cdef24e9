/- Rings of things of more than one cell: a whole thing read and written in the middle of a block. No condition. -/
import Derived.Test.YtjfpmolnipiphaaRing0
import Derived.Test.YtjfpmolnipiphaaRingMath
import Derived.Deep.RegionWith
import Derived.Deep.MidRow
namespace Go.Proofs.Ytjfpmolnipiphaa
open Go.RowKit

theorem setCells_blk : ∀ (vs : List Value) (p : Nat) {w : World} {g : Nat} {t : TypeId} {cs : Array Value}, Blk w g t cs → Blk (w.setCells g p vs) g t (putC cs p vs)
  | [], _, _, _, _, _, h => h
  | v :: vs, p, _, _, _, _, h => setCells_blk vs (p + 1) (h.set_ p v)
theorem setCells_only : ∀ (vs : List Value) (p : Nat) (w : World) (g : Nat), Only g w (w.setCells g p vs)
  | [], _, _, _ => ⟨rfl, rfl, rfl, rfl, fun _ _ => rfl⟩
  | v :: vs, p, w, g => (Only.setCell w g p v).trans (setCells_only vs (p + 1) _ g)
theorem Frame.setCells (w : World) (g p : Nat) (vs : List Value) {bad : List Nat} (h : g ∈ bad) : Frame w (w.setCells g p vs) bad := (Frame.ofOnly (setCells_only vs p w g)).mono fun _ hi => by simp at hi; rw [hi]; exact h
theorem St.setCellsFar {w0 a : World} {L : List (Nat × TypeId × Array Value)} {g : Nat} (h : St w0 L a) (hg : g ∉ L.map (·.1)) (h0 : w0.heap.size ≤ g) (p : Nat) (vs : List Value) : St w0 L (a.setCells g p vs) :=
  ((SR.ofSt h).frame (Frame.ofOnly (setCells_only vs p a g)) (fun x hx hm => hg (by simp at hm; rw [← hm]; exact List.mem_map.2 ⟨x, hx, rfl⟩)) (fun _ hr => by cases hr) (fun k hk => by simp at hk; rw [hk]; exact h0)).st
theorem there_blk {w : World} {g p n : Nat} {t : TypeId} {cs : Array Value} (h : Blk w g t cs) (hp : p + n ≤ cs.size) : w.there g p n := fun j hj =>
  ⟨by rw [h.cell (p + j), Array.getElem?_eq_getElem (by omega)]; rfl, h.frozen _⟩
theorem range_blk {w : World} {g : Nat} {t : TypeId} {cs : Array Value} (h : Blk w g t cs) (p : Nat) (l : List Value) (hl : ∀ j v, l[j]? = some v → cs[p + j]? = some v) : w.rangeAt g p l := fun j v hv => (h.cell (p + j)).trans (hl j v hv)
/-- Two blocks, and nothing else looked at. -/
theorem bare2 {w a : World} {g1 g2 : Nat} {t1 t2 : TypeId} {c1 c2 : Array Value} (hos : a.os = w.os) (ht : a.tape = w.tape) (ho : a.output = w.output) (h1 : Blk a g1 t1 c1) (h2 : Blk a g2 t2 c2) (hne : g1 ≠ g2) : St (bareW w) [(g1, t1, c1), (g2, t2, c2)] a :=
  ⟨⟨hos, ht, ho, Nat.zero_le _, fun k hk => absurd hk (Nat.not_lt_zero k)⟩, by simp [hne], fun x hx => by
    simp at hx
    rcases hx with rfl | rfl
    · exact ⟨Nat.zero_le _, h1⟩
    · exact ⟨Nat.zero_le _, h2⟩⟩
section
variable {ops : Array Oper} {o : Oper} {a : Act} {w : World} {Q : Exit → Act → World → Prop}
theorem step_store_mid {K : Act → World → Prop} {E : Prop} (hgd : o.guard = none) (ty : TypeId) (x y : Operand) (ho : o.op = .store ty x y) (b p : Nat) (cells : Array Value) (hx : a.eval x = .pointer (some ⟨b, p, none⟩)) (hy : a.eval y = .agg cells)
    (ht : w.there b p cells.size) (hi : (Try.prog.info? ty).map (·.size) = some cells.size) (h1 : cells.all (·.oneCell') = true)
    (h : K (a.put o.dst undef) (w.setCells b p cells.toList)) : if Region.wanted o (yielded ops a.tmps) = true then Oper.wp Try.prog o a w K Q else E := by
  have hw : Region.wanted o (yielded ops a.tmps) = true := by simp [Region.wanted, hgd]
  rw [if_pos hw]
  exact wp_store_mid ty x y ho b p cells hx hy ht hi h1 h
/-- A listed block read whole, in every world of the walk. -/
theorem St.load {w0 : World} {L : List (Nat × TypeId × Array Value)} (i : Nat) {g : Nat} {t : TypeId} {cs : Array Value} (ty : TypeId) (d : TypeDesc) (hi : L[i]? = some (g, t, cs)) (hu : Try.prog.underlying ty = some d) (hd : d.isRow = true) (hz : (Try.prog.info? ty).map (·.size) = some cs.size) :
    ∀ W, St w0 L W → (Instr.loadAt ty (.pointer (some ⟨g, 0, none⟩))).run Try.prog W = .ok (.agg cs) W := fun W h => by
  have hb := h.get i hi
  have := run_loadAt_mid (P := Try.prog) W g 0 ty cs.toList d (range_blk hb 0 cs.toList (fun j v hv => by rw [Nat.zero_add, ← Array.getElem?_toList]; exact hv)) hu hd (by rw [hz]; simp)
  rw [this]
end
/-- A method ran behind new memory. -/
theorem RPost.after0 {α : Type} {K : RK α} {w wA W : World} {gr room : Nat} {v : Value} {q : List α} (hf : Frame w wA []) (hP : RPost K wA gr v room q W) : RPost K w gr v room q W := by
  obtain ⟨v', fr', len', r, hf2, hat⟩ := hP
  refine ⟨v', fr', len', r, hf.trans hf2 (fun _ h => by cases h) (fun _ h _ => h), hat.imp id fun h k hk => Nat.le_trans hf.size (h k hk)⟩
end Go.Proofs.Ytjfpmolnipiphaa
