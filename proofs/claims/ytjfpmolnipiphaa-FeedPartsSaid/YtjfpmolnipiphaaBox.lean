/- The blocks that a walk has made, each known whole, carried from world to world: one predicate for all of them. No condition. -/
import Derived.Test.YtjfpmolnipiphaaRowLaws
namespace Go.Proofs.Ytjfpmolnipiphaa
open Go.RowKit

/-- Nothing older than w0 has changed, and each block listed stands whole. -/
structure St (w0 : World) (L : List (Nat × TypeId × Array Value)) (w : World) : Prop where
  below : Below w0.heap.size w0 w
  nodup : (L.map (·.1)).Nodup
  blk : ∀ x ∈ L, w0.heap.size ≤ x.1 ∧ Blk w x.1 x.2.1 x.2.2

section
variable {w0 w a b : World} {L : List (Nat × TypeId × Array Value)} {g : Nat} {t : TypeId} {cs cs0 : Array Value}
theorem St.nil (w0 : World) : St w0 [] w0 := ⟨Below.refl _ _, List.nodup_nil, fun _ h => by cases h⟩
theorem St.step (h : St w0 L a) (hB : Below a.heap.size a b) : St w0 L b := ⟨bel h.below hB (Nat.le_refl _), h.nodup, fun x hx => ⟨(h.blk x hx).1, (h.blk x hx).2.below hB (h.blk x hx).2.lt⟩⟩
theorem St.drew (h : St w0 L a) : St w0 L a.drew := ⟨h.below.drew, h.nodup, fun x hx => ⟨(h.blk x hx).1, (h.blk x hx).2.drew⟩⟩
theorem St.drewN (h : St w0 L a) (n : Nat) : St w0 L (a.drewN n) := ⟨⟨h.below.os, h.below.tape, h.below.output, h.below.size, h.below.block⟩, h.nodup, fun x hx => ⟨(h.blk x hx).1, (h.blk x hx).2.drewN n⟩⟩
theorem St.alloc (h : St w0 L a) (t : TypeId) (cs : Array Value) : St w0 ((a.heap.size, t, cs) :: L) (a.alloc (.cells cs t)) := by
  refine ⟨h.below.alloc h.below.size _, ?_, fun x hx => ?_⟩
  · rw [List.map_cons, List.nodup_cons]
    refine ⟨fun hm => ?_, h.nodup⟩
    obtain ⟨x, hx, he⟩ := List.mem_map.1 hm
    have := (h.blk x hx).2.lt
    have he' : x.1 = a.heap.size := he
    omega
  · rcases List.mem_cons.1 hx with rfl | hx
    · exact ⟨h.below.size, Blk.new _ _ _⟩
    · exact ⟨(h.blk x hx).1, (h.blk x hx).2.alloc _⟩
theorem St.alloc' (h : St w0 L a) (n : Nat) (hn : a.heap.size = n) (t : TypeId) (cs : Array Value) : St w0 ((n, t, cs) :: L) (a.alloc (.cells cs t)) := hn ▸ h.alloc t cs
theorem St.old (h : St w0 L a) (o : Obj) : St w0 L (a.alloc o) := ⟨h.below.alloc h.below.size _, h.nodup, fun x hx => ⟨(h.blk x hx).1, (h.blk x hx).2.alloc _⟩⟩
/-- The head's block is written. -/
theorem St.head (h : St w0 ((g, t, cs0) :: L) a) (ho : Only g a b) (hb : Blk b g t cs) : St w0 ((g, t, cs) :: L) b := by
  have hg := (h.blk _ List.mem_cons_self).1
  have hn := h.nodup
  rw [List.map_cons, List.nodup_cons] at hn
  refine ⟨h.below.trans (ho.below hg), by rw [List.map_cons, List.nodup_cons]; exact hn, fun x hx => ?_⟩
  rcases List.mem_cons.1 hx with rfl | hx
  · exact ⟨hg, hb⟩
  · have h1 := h.blk x (List.mem_cons_of_mem _ hx)
    refine ⟨h1.1, h1.2.only ho (fun e => hn.1 ?_)⟩
    rw [← e]
    exact List.mem_map.2 ⟨x, hx, rfl⟩
theorem St.perm {L' : List (Nat × TypeId × Array Value)} (h : St w0 L a) (hp : L.Perm L') : St w0 L' a :=
  ⟨h.below, (hp.map _).nodup_iff.1 h.nodup, fun x hx => h.blk x (hp.mem_iff.2 hx)⟩
theorem St.sub {L' : List (Nat × TypeId × Array Value)} (h : St w0 L a) (hp : L'.Sublist L) : St w0 L' a :=
  ⟨h.below, (hp.map _).nodup h.nodup, fun x hx => h.blk x (hp.subset hx)⟩
theorem St.add (h : St w0 L a) (hg : w0.heap.size ≤ g) (hb : Blk a g t cs) (hn : g ∉ L.map (·.1)) : St w0 ((g, t, cs) :: L) a :=
  ⟨h.below, List.nodup_cons.2 ⟨hn, h.nodup⟩, fun x hx => by
    rcases List.mem_cons.1 hx with rfl | hx
    · exact ⟨hg, hb⟩
    · exact h.blk x hx⟩
theorem St.get (h : St w0 L a) (i : Nat) (hi : L[i]? = some (g, t, cs)) : Blk a g t cs := (h.blk _ (List.mem_of_getElem? hi)).2
/-- A listed block is written: whichever. -/
theorem St.setAt (h : St w0 L a) (i : Nat) (hi : L[i]? = some (g, t, cs0)) (ho : Only g a b) (hb : Blk b g t cs) : St w0 (L.set i (g, t, cs)) b := by
  have hg := (h.blk _ (List.mem_of_getElem? hi)).1
  have hil : i < L.length := by
    rcases Nat.lt_or_ge i L.length with hlt | hge
    · exact hlt
    · rw [List.getElem?_eq_none hge] at hi; cases hi
  have hLi : L[i] = (g, t, cs0) := by
    rw [List.getElem?_eq_getElem hil] at hi
    injection hi
  have hmap : (L.set i (g, t, cs)).map (·.1) = L.map (·.1) := by
    rw [List.map_set]
    apply List.ext_getElem (by simp)
    intro j h1 h2
    rw [List.getElem_set]
    split
    · rename_i e
      subst e
      simp [hLi]
    · rfl
  refine ⟨h.below.trans (ho.below hg), by rw [hmap]; exact h.nodup, fun x hx => ?_⟩
  obtain ⟨j, hj, rfl⟩ := List.getElem_of_mem hx
  rw [List.getElem_set]
  split
  · exact ⟨hg, hb⟩
  · rename_i hne
    have hjl : j < L.length := by simpa using hj
    have h1 := h.blk _ (List.getElem_mem hjl)
    refine ⟨h1.1, h1.2.only ho (fun e => hne ?_)⟩
    have hp := List.pairwise_iff_getElem.1 h.nodup
    have e1 : (L.map (·.1))[i]'(by simpa using hil) = g := by simp [hLi]
    have e2 : (L.map (·.1))[j]'(by simpa using hjl) = g := by simpa using e
    rcases Nat.lt_trichotomy i j with hlt | heq | hgt
    · exact absurd (e1.trans e2.symm) (hp i j (by simpa using hil) (by simpa using hjl) hlt)
    · exact heq
    · exact absurd (e2.trans e1.symm) (hp j i (by simpa using hjl) (by simpa using hil) hgt)
theorem St.setCellAt (h : St w0 L a) (i : Nat) (hi : L[i]? = some (g, t, cs0)) (k : Nat) (v : Value) : St w0 (L.set i (g, t, cs0.setIfInBounds k v)) (a.setCell ⟨g, k, none⟩ v) :=
  h.setAt i hi (Only.setCell _ _ _ _) ((h.get i hi).set_ k v)
theorem St.put (h : St w0 ((g, t, cs0) :: L) a) (cs : Array Value) : St w0 ((g, t, cs) :: L) (a.setRow g cs) := h.head (Only.setRow _ (h.get 0 rfl)) (Blk.setRow _ (h.get 0 rfl))
theorem St.putNew (h : St w0 L a) (t : TypeId) (old cs : Array Value) : St w0 ((a.heap.size, t, cs) :: L) ((a.alloc (.cells old t)).setRow a.heap.size cs) := (h.alloc t old).put cs
theorem St.put' (h : St w0 ((g, t, cs0) :: L) a) (cs : Array Value) : St w0 L (a.setRow g cs) := (h.put cs).sub (List.sublist_cons_self _ _)
theorem St.putNew' (h : St w0 L a) (t : TypeId) (old cs : Array Value) : St w0 L ((a.alloc (.cells old t)).setRow a.heap.size cs) := (h.putNew t old cs).sub (List.sublist_cons_self _ _)
theorem St.stepNew {t : TypeId} {cs : Array Value} (h : St w0 L a) (hB : Below (a.alloc (.cells cs t)).heap.size (a.alloc (.cells cs t)) b) : St w0 ((a.heap.size, t, cs) :: L) b := (h.alloc t cs).step hB
/-- For the walk: a whole value stored into the block that was just made, or into the first one listed. -/
theorem bnew {t : TypeId} {zero cells : Array Value} (hi : (Try.prog.info? t).map (·.size) = some cells.size) (ho : zero.size = cells.size) (h1 : cells.all (·.oneCell') = true) :
    ∀ W : World, (storeBig t ⟨W.heap.size, 0, none⟩ (.agg cells)).run Try.prog (W.alloc (.cells zero t)) = .ok () ((W.alloc (.cells zero t)).setRow W.heap.size cells) := fun _ => run_storeBig (Blk.new _ _ _) hi ho h1
theorem bput {w0 : World} {L : List (Nat × TypeId × Array Value)} {t : TypeId} {zero cells : Array Value} (hi : (Try.prog.info? t).map (·.size) = some cells.size) (ho : zero.size = cells.size) (h1 : cells.all (·.oneCell') = true) :
    ∀ g W, St w0 ((g, t, zero) :: L) W → (storeBig t ⟨g, 0, none⟩ (.agg cells)).run Try.prog W = .ok () (W.setRow g cells) := fun _ _ h => run_storeBig (h.get 0 rfl) hi ho h1
theorem St.call_new (h : St w0 L a) (hB : Below a.heap.size a b) (hg : a.heap.size ≤ g) (hb : Blk b g t cs) : St w0 ((g, t, cs) :: L) b :=
  (h.step hB).add (Nat.le_trans h.below.size hg) hb fun hm => by
    obtain ⟨x, hx, he⟩ := List.mem_map.1 hm
    have := (h.blk x hx).2.lt
    have he' : x.1 = g := he
    omega
theorem St.ge (h : St w0 L a) (i : Nat) (hi : L[i]? = some (g, t, cs)) : w0.heap.size ≤ g := (h.blk _ (List.mem_of_getElem? hi)).1
theorem St.lt (h : St w0 L a) (i : Nat) (hi : L[i]? = some (g, t, cs)) : g < a.heap.size := (h.get i hi).lt
/-- For the walk: a cell of a listed block, in every world. -/
theorem St.cell (i : Nat) (hi : L[i]? = some (g, t, cs)) (k : Nat) {v : Value} (hk : cs[k]? = some v) : ∀ W, St w0 L W → W.cell? ⟨g, k, none⟩ = some v := fun _ h => ((h.get i hi).cell k).trans hk
theorem St.froz (i : Nat) (hi : L[i]? = some (g, t, cs)) (k : Nat) : ∀ W, St w0 L W → W.frozen? ⟨g, k, none⟩ = false := fun _ h => (h.get i hi).frozen k
/-- For the walk: a configuration, or a row of numbers, read whole. -/
theorem St.loadC (i : Nat) {c : Nat → Int} {s : Int} (hi : L[i]? = some (g, 24, cfgCells c s)) : ∀ W, St w0 L W → (loadBig 24 ⟨g, 0, none⟩).run Try.prog W = .ok (.agg (cfgCells c s)) W := fun _ h => lcfg (h.get i hi)
/-- For the walk: a configuration stored into the block that was just made. -/
theorem snew (c : Nat → Int) (s : Int) (W : World) : (storeBig 24 ⟨W.heap.size, 0, none⟩ (.agg (cfgCells c s))).run Try.prog (W.alloc (.cells (cfgCells (fun _ => 0) 0) 24)) = .ok () ((W.alloc (.cells (cfgCells (fun _ => 0) 0) 24)).setRow W.heap.size (cfgCells c s)) := scfg (Blk.new _ _ _) rfl
theorem St.oldCell (h : St w0 L a) {p : Addr} (hp : p.block < w0.heap.size) : a.cell? p = w0.cell? p := h.below.cell hp
end

section
variable {P : Program} {ops : Array Oper} {rest : List Oper} {o : Oper} {a : Act} {w0 w : World} {Q : Exit → Act → World → Prop} {L : List (Nat × TypeId × Array Value)}
/-- A whole struct or array stored into the block that was just made. -/
theorem store_new (hS : St w0 L w) (hgd : o.guard = none) (hd : o.dst = none) (ty : TypeId) (x y : Operand) (ho : o.op = .store ty x y) (t : TypeId) (old cells : Array Value) (hx : a.eval x = .pointer (some ⟨w.heap.size, 0, none⟩)) (hy : a.eval y = .agg cells)
    (hi : (P.info? ty).map (·.size) = some cells.size) (hold : old.size = cells.size) (h1 : cells.all (·.oneCell') = true)
    (h : ∀ w2, St w0 ((w.heap.size, t, cells) :: L) w2 → w.heap.size < w2.heap.size → wpList P ops Q rest a w2) : wpList P ops Q (o :: rest) a (w.alloc (.cells old t)) :=
  store_blk hgd ty x y ho w.heap.size cells hx hy t old hi hold h1 (Blk.new _ _ _) fun w2 ho hb => by rw [hd]; exact h w2 ((hS.alloc t old).head ho hb) hb.lt
/-- A whole struct or array stored into a listed block. -/
theorem store_at (hS : St w0 L w) (hgd : o.guard = none) (hd : o.dst = none) (ty : TypeId) (x y : Operand) (ho : o.op = .store ty x y) (i : Nat) (g : Nat) (t : TypeId) (old cells : Array Value) (hL : L[i]? = some (g, t, old)) (hx : a.eval x = .pointer (some ⟨g, 0, none⟩)) (hy : a.eval y = .agg cells)
    (hi : (P.info? ty).map (·.size) = some cells.size) (hold : old.size = cells.size) (h1 : cells.all (·.oneCell') = true)
    (h : ∀ w2, St w0 (L.set i (g, t, cells)) w2 → wpList P ops Q rest a w2) : wpList P ops Q (o :: rest) a w :=
  store_blk hgd ty x y ho g cells hx hy t old hi hold h1 (hS.get i hL) fun w2 ho hb => by rw [hd]; exact h w2 (hS.setAt i hL ho hb)
/-- A configuration stored into the block that was just made. -/
theorem new_cfg {ops : Array Oper} (hS : St w0 L w) (hgd : o.guard = none) (hd : o.dst = none) (x y : Operand) (ho : o.op = .store 24 x y) (c : Nat → Int) (s : Int) (hx : a.eval x = .pointer (some ⟨w.heap.size, 0, none⟩)) (hy : a.eval y = .agg (cfgCells c s))
    (old : Array Value) (hold : old.size = 18)
    (h : ∀ w2, St w0 ((w.heap.size, 24, cfgCells c s) :: L) w2 → w.heap.size < w2.heap.size → wpList Try.prog ops Q rest a w2) : wpList Try.prog ops Q (o :: rest) a (w.alloc (.cells old 24)) :=
  store_new hS hgd hd 24 x y ho 24 old _ hx hy (by kernel_rfl) hold (by simp [Value.oneCell']) h
end
end Go.Proofs.Ytjfpmolnipiphaa
