/- Layer 7, first part: what the table of the numbers is in memory, and what a block of cells is that is known whole. No condition. -/
import Derived.Test.YtjfpmolnipiphaaRows
import Derived.WalkKit
import Derived.WalkSpells
import Derived.WalkLawsBesides
import Derived.Laws.EntriesVeiled
import Derived.Lib.Hide
import Derived.Deep.DeepCutAuto
namespace Go.Proofs.Ytjfpmolnipiphaa
open Go.RowKit

/-! ### a block that is known whole -/
def Blk (w : World) (g : Nat) (t : TypeId) (cs : Array Value) : Prop := w.heap[g]? = some (.cells cs t (0, 0))
section
variable {w w' : World} {g : Nat} {t : TypeId} {cs : Array Value}
theorem Blk.lt (h : Blk w g t cs) : g < w.heap.size := by
  unfold Blk at h
  rcases Nat.lt_or_ge g w.heap.size with hlt | hge
  · exact hlt
  · rw [Array.getElem?_eq_none hge] at h; cases h
theorem Blk.cell (h : Blk w g t cs) (i : Nat) : w.cell? ⟨g, i, none⟩ = cs[i]? := cell_of_row w g i cs t (0, 0) h
theorem Blk.frozen (h : Blk w g t cs) (i : Nat) : w.frozen? ⟨g, i, none⟩ = false := by
  unfold Blk at h
  simp [World.frozen?, h]
theorem Blk.new (w : World) (t : TypeId) (cs : Array Value) : Blk (w.alloc (.cells cs t)) w.heap.size t cs := heap_alloc_new w _
theorem Blk.drew (h : Blk w g t cs) : Blk w.drew g t cs := h
theorem Blk.drewN (h : Blk w g t cs) (n : Nat) : Blk (w.drewN n) g t cs := h
theorem Blk.alloc (h : Blk w g t cs) (o : Obj) : Blk (w.alloc o) g t cs := (Below.heap_alloc w o g h.lt).trans h
theorem Blk.set_ (h : Blk w g t cs) (i : Nat) (u : Value) : Blk (w.setCell ⟨g, i, none⟩ u) g t (cs.setIfInBounds i u) := by
  unfold Blk at h ⊢
  simp [World.setCell, Array.getElem?_modify, h]
theorem Blk.far (h : Blk w g t cs) {p : Addr} (hp : g ≠ p.block) (u : Value) : Blk (w.setCell p u) g t cs := (Below.heap_setCell w p u g hp).trans h
theorem Blk.below {B : Nat} (h : Blk w g t cs) (hb : Below B w w') (hg : g < B) : Blk w' g t cs := (hb.block g hg).trans h
end
theorem bel {w a b : World} {B : Nat} (h : Below B w a) (k : Below a.heap.size a b) (hB : B ≤ w.heap.size) : Below B w b := h.trans (k.mono (Nat.le_trans hB h.size))

/-! ### the table -/
def numCells : Array Value :=
  #[.string ⟨#[102, 108, 111, 111, 114, 115]⟩, .func (.func 37) #[] #[], .int .i64 2, .int .i64 32,
    .string ⟨#[99, 97, 114, 115]⟩, .func (.func 38) #[] #[], .int .i64 1, .int .i64 4,
    .string ⟨#[115, 101, 97, 116, 115]⟩, .func (.func 39) #[] #[], .int .i64 1, .int .i64 8,
    .string ⟨#[99, 97, 108, 108, 115]⟩, .func (.func 40) #[] #[], .int .i64 1, .int .i64 64,
    .string ⟨#[108, 105, 110, 101, 115]⟩, .func (.func 41) #[] #[], .int .i64 1, .int .i64 8,
    .string ⟨#[107, 101, 121, 115]⟩, .func (.func 42) #[] #[], .int .i64 1, .int .i64 64,
    .string ⟨#[119, 105, 110, 100, 111, 119]⟩, .func (.func 43) #[] #[], .int .i64 1, .int .i64 65536,
    .string ⟨#[98, 117, 114, 115, 116]⟩, .func (.func 44) #[] #[], .int .i64 1, .int .i64 1024,
    .string ⟨#[114, 97, 116, 101]⟩, .func (.func 45) #[] #[], .int .i64 1, .int .i64 1024,
    .string ⟨#[105, 100, 108, 101]⟩, .func (.func 46) #[] #[], .int .i64 1, .int .i64 65536,
    .string ⟨#[105, 110]⟩, .func (.func 47) #[] #[], .int .i64 1, .int .i64 16,
    .string ⟨#[111, 117, 116]⟩, .func (.func 48) #[] #[], .int .i64 1, .int .i64 16,
    .string ⟨#[102, 101, 101, 100]⟩, .func (.func 49) #[] #[], .int .i64 1, .int .i64 64,
    .string ⟨#[114, 101, 116, 114, 105, 101, 115]⟩, .func (.func 50) #[] #[], .int .i64 0, .int .i64 8,
    .string ⟨#[108, 105, 102, 101]⟩, .func (.func 51) #[] #[], .int .i64 0, .int .i64 1048576,
    .string ⟨#[100, 111, 111, 114]⟩, .func (.func 52) #[] #[], .int .i64 1, .int .i64 4,
    .string ⟨#[104, 111, 108, 100, 115]⟩, .func (.func 53) #[] #[], .int .i64 0, .int .i64 4]
abbrev cfgCells (c : Nat → Int) (s : Int) : Array Value := #[.int .i64 (c 0), .int .i64 (c 1), .int .i64 (c 2), .int .i64 (c 3), .int .i64 (c 4), .int .i64 (c 5), .int .i64 (c 6), .int .i64 (c 7), .int .i64 (c 8), .int .i64 (c 9), .int .i64 (c 10), .int .i64 (c 11), .int .i64 (c 12), .int .i64 (c 13), .int .i64 (c 14), .int .i64 (c 15), .int .i64 (c 16), .int .u32 s]

set_option maxRecDepth 100000 in
set_option maxHeartbeats 1000000 in
theorem numbers_c (w : World) :
    Calls Try.prog 31 #[] w fun e w' => e = .returned (.slice (some ⟨w.heap.size, 0, none⟩) 17 17) ∧ w.alloc (.cells numCells 71) = w' := by
  go_enter Try.func31, Try.ntmps31
  go_wp2_with fail
  go_ret
  exact ⟨rfl, rfl⟩

theorem numbers_any (w : World) :
    Calls Try.prog 31 #[] w fun e w' => e = .returned (.slice (some ⟨w.heap.size, 0, none⟩) 17 17) ∧ Blk w' w.heap.size 71 numCells ∧ Below w.heap.size w w' ∧ w'.heap.size = w.heap.size + 1 :=
  (numbers_c w).mono fun _ _ ⟨he, hw⟩ => ⟨he, by subst hw; exact Blk.new _ _ _, by subst hw; exact (Below.refl _ _).alloc (Nat.le_refl _) _, by subst hw; simp⟩

/-! ### the bounds -/
def nameL : List ByteArray := [⟨#[102, 108, 111, 111, 114, 115]⟩, ⟨#[99, 97, 114, 115]⟩, ⟨#[115, 101, 97, 116, 115]⟩, ⟨#[99, 97, 108, 108, 115]⟩, ⟨#[108, 105, 110, 101, 115]⟩, ⟨#[107, 101, 121, 115]⟩, ⟨#[119, 105, 110, 100, 111, 119]⟩, ⟨#[98, 117, 114, 115, 116]⟩, ⟨#[114, 97, 116, 101]⟩, ⟨#[105, 100, 108, 101]⟩, ⟨#[105, 110]⟩, ⟨#[111, 117, 116]⟩, ⟨#[102, 101, 101, 100]⟩, ⟨#[114, 101, 116, 114, 105, 101, 115]⟩, ⟨#[108, 105, 102, 101]⟩, ⟨#[100, 111, 111, 114]⟩, ⟨#[104, 111, 108, 100, 115]⟩]
def leastL : List Int := [2, 1, 1, 1, 1, 1, 1, 1, 1, 1, 1, 1, 1, 0, 0, 1, 0]
def mostL : List Int := [32, 4, 8, 64, 8, 64, 65536, 1024, 1024, 65536, 16, 16, 64, 8, 1048576, 4, 4]
def nameAt (k : Nat) : ByteArray := nameL.getD k ByteArray.empty
def least (k : Nat) : Int := leastL.getD k 0
def most (k : Nat) : Int := mostL.getD k 0
/-- Whether number k can be. -/
def okAt (c : Nat → Int) (k : Nat) : Prop := least k ≤ c k ∧ c k ≤ most k
def Good (c : Nat → Int) : Prop := ∀ k, k < 17 → okAt c k
instance (c : Nat → Int) (k : Nat) : Decidable (okAt c k) := inferInstanceAs (Decidable (_ ∧ _))
instance (c : Nat → Int) : Decidable (Good c) := inferInstanceAs (Decidable (∀ k, k < 17 → okAt c k))
/-- Whether a configuration can be. -/
def good (c : Nat → Int) : Bool := decide (Good c)
end Go.Proofs.Ytjfpmolnipiphaa
