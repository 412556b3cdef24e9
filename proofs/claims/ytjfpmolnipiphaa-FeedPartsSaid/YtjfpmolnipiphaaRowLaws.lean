/- Whole structs and arrays read out of, and written into, a block that is known whole; functions that hand back a struct. No condition. -/
import Derived.Test.YtjfpmolnipiphaaSite0
import Derived.Laws.Rows
import Derived.Laws.Tables
namespace Go.Proofs.Ytjfpmolnipiphaa
open Go.RowKit

/-- Only block g may have changed between w and w', and no block is new. -/
structure Only (g : Nat) (w w' : World) : Prop where
  os : w'.os = w.os
  tape : w'.tape = w.tape
  output : w'.output = w.output
  size : w'.heap.size = w.heap.size
  block : ∀ k, k ≠ g → w'.heap[k]? = w.heap[k]?
theorem Only.below {g B : Nat} {w w' : World} (h : Only g w w') (hB : B ≤ g) : Below B w w' :=
  ⟨h.os, h.tape, h.output, by rw [h.size]; exact Nat.le_refl _, fun k hk => h.block k (by omega)⟩
theorem Blk.only {g k : Nat} {w w' : World} {t : TypeId} {cs : Array Value} (hb : Blk w k t cs) (h : Only g w w') (hk : k ≠ g) : Blk w' k t cs := (h.block k hk).trans hb
theorem Only.setCell (w : World) (g i : Nat) (u : Value) : Only g w (w.setCell ⟨g, i, none⟩ u) :=
  ⟨rfl, rfl, rfl, by simp [World.setCell], fun _ hk => Below.heap_setCell w ⟨g, i, none⟩ u _ hk⟩
theorem Only.trans {g : Nat} {a b c : World} (h : Only g a b) (k : Only g b c) : Only g a c :=
  ⟨k.os.trans h.os, k.tape.trans h.tape, k.output.trans h.output, k.size.trans h.size, fun i hi => (k.block i hi).trans (h.block i hi)⟩

section
variable {P : Program} {ops : Array Oper} {rest : List Oper} {o : Oper} {a : Act} {w : World} {Q : Exit → Act → World → Prop}

theorem load_blk (hgd : o.guard = none) (ty : TypeId) (x : Operand) (ho : o.op = .load ty x) (g : Nat) (hx : a.eval x = .pointer (some ⟨g, 0, none⟩)) (t : TypeId) (cs : Array Value) (d : TypeDesc)
    (hu : P.underlying ty = some d) (hd : (match d with | .struct _ | .array _ _ => true | _ => false) = true) (hi : (P.info? ty).map (·.size) = some cs.size) (hg : Blk w g t cs)
    (h : wpList P ops Q rest (a.put o.dst (.agg cs)) w) : wpList P ops Q (o :: rest) a w :=
  wpList_load_row hgd ty x ho g hx t cs (0, 0) d hg hu hd hi h

theorem store_blk (hgd : o.guard = none) (ty : TypeId) (x y : Operand) (ho : o.op = .store ty x y) (g : Nat) (cells : Array Value) (hx : a.eval x = .pointer (some ⟨g, 0, none⟩)) (hy : a.eval y = .agg cells)
    (t : TypeId) (old : Array Value) (hi : (P.info? ty).map (·.size) = some cells.size) (hold : old.size = cells.size) (h1 : cells.all (·.oneCell') = true) (hg : Blk w g t old)
    (h : ∀ w2, Only g w w2 → Blk w2 g t cells → wpList P ops Q rest (a.put o.dst undef) w2) : wpList P ops Q (o :: rest) a w :=
  wpList_store_row hgd ty x y ho g cells hx hy t old hg hi hold h1
    (h _ ⟨setRow_os _ _ _, setRow_tape _ _ _, setRow_output _ _ _, setRow_size _ _ _, fun _ hk => setRow_other _ _ _ _ hk⟩ (setRow_heap w g old cells t (0, 0) hg))

/-- A function that hands back a struct and a bool or number in a slot. -/
theorem results_cell_tmp {fn : Func} {p q : Tmp} {ty : TypeId} (h : fn.results = #[.cell p ty, .tmp q]) (tmps : Array Value) (w : World) (g : Nat) (t : TypeId) (cs : Array Value) (d : TypeDesc)
    (hp : tmps.getD p undef = .pointer (some ⟨g, 0, none⟩)) (hg : Blk w g t cs)
    (hu : P.underlying ty = some d) (hd : (match d with | .struct _ | .array _ _ => true | _ => false) = true) (hi : (P.info? ty).map (·.size) = some cs.size) :
    (results fn tmps).run P w = .ok (.tuple #[.agg cs, tmps.getD q undef]) w := by
  have hp' : tmps[p]?.getD undef = .pointer (some ⟨g, 0, none⟩) := by simpa using hp
  simp [results, h, hp', asAddr, run_loadVar_row w g t ty cs (0, 0) d hg hu hd hi]
end

/-! ### at this program's types -/
section
variable {ops : Array Oper} {rest : List Oper} {o : Oper} {a : Act} {w : World} {Q : Exit → Act → World → Prop}
theorem load_cfg (hgd : o.guard = none) (x : Operand) (ho : o.op = .load 24 x) (g : Nat) (hx : a.eval x = .pointer (some ⟨g, 0, none⟩)) (c : Nat → Int) (s : Int) (hg : Blk w g 24 (cfgCells c s))
    (h : wpList Try.prog ops Q rest (a.put o.dst (.agg (cfgCells c s))) w) : wpList Try.prog ops Q (o :: rest) a w :=
  load_blk hgd 24 x ho g hx 24 (cfgCells c s) _ Try.underlying24 rfl (by kernel_rfl) hg h
theorem store_cfg (hgd : o.guard = none) (x y : Operand) (ho : o.op = .store 24 x y) (g : Nat) (c : Nat → Int) (s : Int) (hx : a.eval x = .pointer (some ⟨g, 0, none⟩)) (hy : a.eval y = .agg (cfgCells c s))
    (old : Array Value) (hold : old.size = 18) (hg : Blk w g 24 old)
    (h : ∀ w2, Only g w w2 → Blk w2 g 24 (cfgCells c s) → wpList Try.prog ops Q rest (a.put o.dst undef) w2) : wpList Try.prog ops Q (o :: rest) a w :=
  store_blk hgd 24 x y ho g _ hx hy 24 old (by kernel_rfl) hold (by simp [Value.oneCell']) hg h
end

/-! ### a whole struct or array read or written at once: under names that the walk's simp does not open cell by cell -/
def loadBig (t : TypeId) (a : Addr) : Sem Value := loadVar t a
def storeBig (t : TypeId) (a : Addr) (v : Value) : Sem Unit := storeVar t a v
@[go_sem ↓] theorem loadVar_cfg (a : Addr) : loadVar 24 a = loadBig 24 a := rfl
@[go_sem ↓] theorem storeVar_cfg (a : Addr) (v : Value) : storeVar 24 a v = storeBig 24 a v := rfl
theorem run_storeBig {w : World} {g : Nat} {t : TypeId} {old cs : Array Value} (hg : Blk w g t old) (hi : (Try.prog.info? t).map (·.size) = some cs.size) (ho : old.size = cs.size) (h1 : cs.all (·.oneCell') = true) :
    (storeBig t ⟨g, 0, none⟩ (.agg cs)).run Try.prog w = .ok () (w.setRow g cs) :=
  run_storeVar_row w g t t old cs hg hi ho h1
/-- For the walk: a configuration read whole. -/
theorem lcfg {c : Nat → Int} {s : Int} {w : World} {g : Nat} (hg : Blk w g 24 (cfgCells c s)) : (loadBig 24 ⟨g, 0, none⟩).run Try.prog w = .ok (.agg (cfgCells c s)) w :=
  run_loadVar_row w g 24 24 _ (0, 0) _ hg Try.underlying24 rfl (by kernel_rfl)
theorem scfg {c : Nat → Int} {s : Int} {w : World} {g : Nat} {old : Array Value} (hg : Blk w g 24 old) (ho : old.size = 18) : (storeBig 24 ⟨g, 0, none⟩ (.agg (cfgCells c s))).run Try.prog w = .ok () (w.setRow g (cfgCells c s)) :=
  run_storeBig hg (by kernel_rfl) ho (by simp [Value.oneCell'])
theorem Only.setRow {w : World} {g : Nat} {t : TypeId} {old : Array Value} (cs : Array Value) (_ : Blk w g t old) : Only g w (w.setRow g cs) :=
  ⟨setRow_os _ _ _, setRow_tape _ _ _, setRow_output _ _ _, setRow_size _ _ _, fun _ hk => setRow_other _ _ _ _ hk⟩
theorem Blk.setRow {w : World} {g : Nat} {t : TypeId} {old : Array Value} (cs : Array Value) (h : Blk w g t old) : Blk (w.setRow g cs) g t cs := setRow_heap w g old cs t (0, 0) h
end Go.Proofs.Ytjfpmolnipiphaa
