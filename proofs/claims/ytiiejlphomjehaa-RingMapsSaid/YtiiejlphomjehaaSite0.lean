/- Layer 7, first part: what the table of the numbers is in memory, and what a block of cells is that is known whole. No condition. -/
import Derived.Test.YtiiejlphomjehaaRows
import Derived.WalkKit
import Derived.WalkSpells
import Derived.WalkLawsBesides
import Derived.Laws.EntriesVeiled
import Derived.Lib.Hide
import Derived.Deep.DeepCutAuto
namespace Go.Proofs.Ytiiejlphomjehaa
open Go.RowKit

/-! ### a block that is known whole -/
def Blk (w : World) (g : Nat) (t : TypeId) (cs : Array Value) : Prop := w.heap[g]? = some (.cells cs t (0, 0))
section
variable {w w' : World} {g : Nat} {t : TypeId} {cs : Array Value}
theorem Blk.lt (h : Blk w g t cs) : g < w.heap.size := by
  unfold Blk at h
  rcases Nat.lt_or_ge g w.heap.size with hlt | hge
  · exact hlt
  · rw [Array.getElem?_eq_none hge] at h; cases h
theorem Blk.cell (h : Blk w g t cs) (i : Nat) : w.cell? ⟨g, i, none⟩ = cs[i]? := cell_of_row w g i cs t (0, 0) h
theorem Blk.frozen (h : Blk w g t cs) (i : Nat) : w.frozen? ⟨g, i, none⟩ = false := by
  unfold Blk at h
  simp [World.frozen?, h]
theorem Blk.new (w : World) (t : TypeId) (cs : Array Value) : Blk (w.alloc (.cells cs t)) w.heap.size t cs := heap_alloc_new w _
theorem Blk.drew (h : Blk w g t cs) : Blk w.drew g t cs := h
theorem Blk.drewN (h : Blk w g t cs) (n : Nat) : Blk (w.drewN n) g t cs := h
theorem Blk.alloc (h : Blk w g t cs) (o : Obj) : Blk (w.alloc o) g t cs := (Below.heap_alloc w o g h.lt).trans h
theorem Blk.set_ (h : Blk w g t cs) (i : Nat) (u : Value) : Blk (w.setCell ⟨g, i, none⟩ u) g t (cs.setIfInBounds i u) := by
  unfold Blk at h ⊢
  simp [World.setCell, Array.getElem?_modify, h]
theorem Blk.far (h : Blk w g t cs) {p : Addr} (hp : g ≠ p.block) (u : Value) : Blk (w.setCell p u) g t cs := (Below.heap_setCell w p u g hp).trans h
theorem Blk.below {B : Nat} (h : Blk w g t cs) (hb : Below B w w') (hg : g < B) : Blk w' g t cs := (hb.block g hg).trans h
end
theorem bel {w a b : World} {B : Nat} (h : Below B w a) (k : Below a.heap.size a b) (hB : B ≤ w.heap.size) : Below B w b := h.trans (k.mono (Nat.le_trans hB h.size))

/-! ### the table -/
abbrev cfgCells (c : Nat → Int) (s : Int) : Array Value := #[.int .i64 (c 0), .int .i64 (c 1), .int .i64 (c 2), .int .i64 (c 3), .int .i64 (c 4), .int .i64 (c 5), .int .i64 (c 6), .int .i64 (c 7), .int .i64 (c 8), .int .i64 (c 9), .int .i64 (c 10), .int .i64 (c 11), .int .i64 (c 12), .int .i64 (c 13), .int .i64 (c 14), .int .i64 (c 15), .int .i64 (c 16), .int .u32 s]

/-! ### the bounds -/
def nameL : List ByteArray := [⟨#[102, 108, 111, 111, 114, 115]⟩, ⟨#[99, 97, 114, 115]⟩, ⟨#[115, 101, 97, 116, 115]⟩, ⟨#[99, 97, 108, 108, 115]⟩, ⟨#[108, 105, 110, 101, 115]⟩, ⟨#[107, 101, 121, 115]⟩, ⟨#[119, 105, 110, 100, 111, 119]⟩, ⟨#[98, 117, 114, 115, 116]⟩, ⟨#[114, 97, 116, 101]⟩, ⟨#[105, 100, 108, 101]⟩, ⟨#[105, 110]⟩, ⟨#[111, 117, 116]⟩, ⟨#[102, 101, 101, 100]⟩, ⟨#[114, 101, 116, 114, 105, 101, 115]⟩, ⟨#[108, 105, 102, 101]⟩, ⟨#[100, 111, 111, 114]⟩, ⟨#[104, 111, 108, 100, 115]⟩]
def leastL : List Int := [2, 1, 1, 1, 1, 1, 1, 1, 1, 1, 1, 1, 1, 0, 0, 1, 0]
def mostL : List Int := [32, 4, 8, 64, 8, 64, 65536, 1024, 1024, 65536, 16, 16, 64, 8, 1048576, 4, 4]
def nameAt (k : Nat) : ByteArray := nameL.getD k ByteArray.empty
def least (k : Nat) : Int := leastL.getD k 0
def most (k : Nat) : Int := mostL.getD k 0
/-- Whether number k can be. -/
def okAt (c : Nat → Int) (k : Nat) : Prop := least k ≤ c k ∧ c k ≤ most k
def Good (c : Nat → Int) : Prop := ∀ k, k < 17 → okAt c k
instance (c : Nat → Int) (k : Nat) : Decidable (okAt c k) := inferInstanceAs (Decidable (_ ∧ _))
instance (c : Nat → Int) : Decidable (Good c) := inferInstanceAs (Decidable (∀ k, k < 17 → okAt c k))
/-- Whether a configuration can be. -/
def good (c : Nat → Int) : Bool := decide (Good c)
end Go.Proofs.Ytiiejlphomjehaa
