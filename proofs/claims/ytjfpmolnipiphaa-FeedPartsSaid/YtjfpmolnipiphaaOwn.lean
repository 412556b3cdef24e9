/- The blocks and the growing slices that a walk has made, carried from world to world: one predicate for all of them. No condition. -/
import Derived.Test.YtjfpmolnipiphaaBox
import Derived.Maps.AppendAt
import Derived.Laws.OwnMore
import Derived.WideShapes
namespace Go.Proofs.Ytjfpmolnipiphaa
open Go.RowKit

/-- A slice that the walk owns: its value, its elements' type and number of cells, how many elements, and their cells. -/
structure Ow where
  v : Value
  e : TypeId
  size : Nat
  n : Nat
  xs : List Value

/-- Between a and b only the blocks listed have changed, and new ones were made. -/
structure Frame (a b : World) (bad : List Nat) : Prop where
  os : b.os = a.os
  tape : b.tape = a.tape
  output : b.output = a.output
  size : a.heap.size ≤ b.heap.size
  block : ∀ k, k < a.heap.size → k ∉ bad → b.heap[k]? = a.heap[k]?
theorem Frame.refl (a : World) (bad : List Nat) : Frame a a bad := ⟨rfl, rfl, rfl, Nat.le_refl _, fun _ _ _ => rfl⟩
theorem Frame.trans {a b c : World} {x y z : List Nat} (h : Frame a b x) (k : Frame b c y) (h1 : ∀ i ∈ x, i ∈ z) (h2 : ∀ i ∈ y, i < a.heap.size → i ∈ z) : Frame a c z :=
  ⟨k.os.trans h.os, k.tape.trans h.tape, k.output.trans h.output, Nat.le_trans h.size k.size, fun i hi hn => (k.block i (Nat.lt_of_lt_of_le hi h.size) fun hy => hn (h2 i hy hi)).trans (h.block i hi fun hx => hn (h1 i hx))⟩
theorem Frame.mono {a b : World} {x z : List Nat} (h : Frame a b x) (h1 : ∀ i ∈ x, i ∈ z) : Frame a b z := ⟨h.os, h.tape, h.output, h.size, fun i hi hn => h.block i hi fun hx => hn (h1 i hx)⟩
theorem Frame.ofBelow {a b : World} (h : Below a.heap.size a b) (bad : List Nat) : Frame a b bad := ⟨h.os, h.tape, h.output, h.size, fun k hk _ => h.block k hk⟩
theorem Frame.ofOnly {a b : World} {g : Nat} (h : Only g a b) : Frame a b [g] := ⟨h.os, h.tape, h.output, by rw [h.size]; exact Nat.le_refl _, fun k _ hn => h.block k (by simpa using hn)⟩
theorem Frame.ofGrown {a b : World} {row : Option Nat} (h : a.grownBy b row) : Frame a b row.toList := ⟨h.os, h.tape, h.output, h.size, fun k hk hn => h.block k hk (by cases row <;> simp_all)⟩
theorem Frame.alloc (a : World) (o : Obj) (bad : List Nat) : Frame a (a.alloc o) bad := ⟨rfl, rfl, rfl, by simp, fun k hk _ => Below.heap_alloc a o k hk⟩
theorem Frame.below {a b w0 : World} {bad : List Nat} (h : Frame a b bad) (hB : Below w0.heap.size w0 a) (h0 : ∀ k ∈ bad, w0.heap.size ≤ k) : Below w0.heap.size w0 b :=
  ⟨h.os.trans hB.os, h.tape.trans hB.tape, h.output.trans hB.output, Nat.le_trans hB.size h.size, fun k hk => (h.block k (Nat.lt_of_lt_of_le hk hB.size) fun hb => by have := h0 k hb; omega).trans (hB.block k hk)⟩
theorem Frame.blk {a b : World} {bad : List Nat} {g : Nat} {t : TypeId} {cs : Array Value} (h : Frame a b bad) (hb : Blk a g t cs) (hn : g ∉ bad) : Blk b g t cs := (h.block g hb.lt hn).trans hb

/-- Nothing older than w0 has changed, each block listed stands whole, each slice listed is owned, and none of them is another one's memory. -/
structure SR (w0 : World) (L : List (Nat × TypeId × Array Value)) (R : List Ow) (w : World) : Prop where
  st : St w0 L w
  own : ∀ r ∈ R, w.ownsRow w0.heap.size r.e r.size r.v r.n r.xs
  apart : ∀ r ∈ R, ∀ x ∈ L, r.v.ownBlock ≠ some x.1
  rows : R.Pairwise fun r r' => r.v.ownBlock = none ∨ r.v.ownBlock ≠ r'.v.ownBlock

theorem own_kept {w w' : World} {base : Nat} {e : TypeId} {size : Nat} {v : Value} {n : Nat} {xs : List Value} (h : w.ownsRow base e size v n xs) (hk : ∀ g, v.ownBlock = some g → g < w.heap.size → w'.heap[g]? = w.heap[g]?) : w'.ownsRow base e size v n xs := by
  refine ⟨h.1, ?_⟩
  have hlt := h.lt
  rcases h.2 with hn | ⟨g, cap, cur, rfl, hb, hgg, rest⟩
  · exact .inl hn
  · exact .inr ⟨g, cap, cur, rfl, hb, (hk g rfl (hlt g rfl).2).trans hgg, rest⟩

section
variable {w0 w a b : World} {L L' : List (Nat × TypeId × Array Value)} {R R' : List Ow} {r : Ow} {g : Nat} {t : TypeId} {cs cs0 : Array Value}
theorem SR.below (h : SR w0 L R a) : Below w0.heap.size w0 a := h.st.below
theorem SR.ofSt (h : St w0 L a) : SR w0 L [] a := ⟨h, (fun _ hr => by cases hr), (fun _ hr => by cases hr), List.Pairwise.nil⟩
theorem SR.frame {bad : List Nat} (h : SR w0 L R a) (hf : Frame a b bad) (hL : ∀ x ∈ L, x.1 ∉ bad) (hR : ∀ r ∈ R, ∀ k, r.v.ownBlock = some k → k ∉ bad) (h0 : ∀ k ∈ bad, w0.heap.size ≤ k) : SR w0 L R b :=
  ⟨⟨hf.below h.st.below h0, h.st.nodup, fun x hx => ⟨(h.st.blk x hx).1, hf.blk (h.st.blk x hx).2 (hL x hx)⟩⟩,
    fun r hr => own_kept (h.own r hr) fun g hg hlt => hf.block g hlt (hR r hr g hg), h.apart, h.rows⟩
theorem SR.step (h : SR w0 L R a) (hB : Below a.heap.size a b) : SR w0 L R b := h.frame (Frame.ofBelow hB []) (by simp) (by simp) (by simp)
theorem SR.drew (h : SR w0 L R a) : SR w0 L R a.drew := ⟨h.st.drew, h.own, h.apart, h.rows⟩
theorem SR.drewN (h : SR w0 L R a) (n : Nat) : SR w0 L R (a.drewN n) := ⟨h.st.drewN n, h.own, h.apart, h.rows⟩
theorem SR.old (h : SR w0 L R a) (o : Obj) : SR w0 L R (a.alloc o) := h.frame (Frame.alloc a o []) (by simp) (by simp) (by simp)
theorem SR.ownLt (h : SR w0 L R a) {r : Ow} (hr : r ∈ R) {k : Nat} (hk : r.v.ownBlock = some k) : w0.heap.size ≤ k ∧ k < a.heap.size := (h.own r hr).lt k hk
theorem SR.addBox (h : SR w0 L R a) (hg : w0.heap.size ≤ g) (hb : Blk a g t cs) (h1 : g ∉ L.map (·.1)) (h2 : ∀ r ∈ R, r.v.ownBlock ≠ some g) : SR w0 ((g, t, cs) :: L) R a :=
  ⟨h.st.add hg hb h1, h.own, fun r hr x hx => by
    rcases List.mem_cons.1 hx with rfl | hx
    · exact h2 r hr
    · exact h.apart r hr x hx, h.rows⟩
theorem SR.addRow (h : SR w0 L R a) (r : Ow) (ho : a.ownsRow w0.heap.size r.e r.size r.v r.n r.xs) (h1 : ∀ x ∈ L, r.v.ownBlock ≠ some x.1) (h2 : ∀ r' ∈ R, r.v.ownBlock = none ∨ r.v.ownBlock ≠ r'.v.ownBlock) : SR w0 L (r :: R) a :=
  ⟨h.st, fun r' hr => by
    rcases List.mem_cons.1 hr with rfl | hr
    · exact ho
    · exact h.own r' hr, fun r' hr x hx => by
    rcases List.mem_cons.1 hr with rfl | hr
    · exact h1 x hx
    · exact h.apart r' hr x hx, List.pairwise_cons.2 ⟨h2, h.rows⟩⟩
theorem SR.dropRow (h : SR w0 L (r :: R) a) : SR w0 L R a := ⟨h.st, fun r' hr => h.own r' (List.mem_cons_of_mem _ hr), fun r' hr => h.apart r' (List.mem_cons_of_mem _ hr), (List.pairwise_cons.1 h.rows).2⟩
theorem SR.sub (h : SR w0 L R a) (hp : L'.Sublist L) : SR w0 L' R a := ⟨h.st.sub hp, h.own, fun r hr x hx => h.apart r hr x (hp.subset hx), h.rows⟩
theorem SR.dropBox {x : Nat × TypeId × Array Value} (h : SR w0 (x :: L) R a) : SR w0 L R a := h.sub (List.sublist_cons_self _ _)
theorem SR.subR (h : SR w0 L R a) (hp : R'.Sublist R) : SR w0 L R' a := ⟨h.st, fun r hr => h.own r (hp.subset hr), fun r hr => h.apart r (hp.subset hr), h.rows.sublist hp⟩
theorem SR.perm (h : SR w0 L R a) (hp : L.Perm L') : SR w0 L' R a := ⟨h.st.perm hp, h.own, fun r hr x hx => h.apart r hr x (hp.mem_iff.2 hx), h.rows⟩
theorem rel_symm {r r' : Ow} (h : r.v.ownBlock = none ∨ r.v.ownBlock ≠ r'.v.ownBlock) : r'.v.ownBlock = none ∨ r'.v.ownBlock ≠ r.v.ownBlock := by
  rcases h with h | h
  · cases hx : r'.v.ownBlock
    · exact .inl rfl
    · right; rw [h]; simp
  · exact .inr (Ne.symm h)
theorem SR.permR (h : SR w0 L R a) (hp : R.Perm R') : SR w0 L R' a :=
  ⟨h.st, fun r hr => h.own r (hp.mem_iff.2 hr), fun r hr => h.apart r (hp.mem_iff.2 hr), (hp.pairwise_iff (fun h => rel_symm h)).1 h.rows⟩
theorem SR.swapR {r1 r2 : Ow} (h : SR w0 L (r1 :: r2 :: R) a) : SR w0 L (r2 :: r1 :: R) a := h.permR (List.Perm.swap _ _ _)
theorem SR.swap {x1 x2 : Nat × TypeId × Array Value} (h : SR w0 (x1 :: x2 :: L) R a) : SR w0 (x2 :: x1 :: L) R a := h.perm (List.Perm.swap _ _ _)
theorem SR.fresh (h : SR w0 L R a) (hg : a.heap.size ≤ g) : g ∉ L.map (·.1) ∧ ∀ r ∈ R, r.v.ownBlock ≠ some g := by
  refine ⟨fun hm => ?_, fun r hr he => ?_⟩
  · obtain ⟨x, hx, rfl⟩ := List.mem_map.1 hm
    have := (h.st.blk x hx).2.lt
    omega
  · have := (h.ownLt hr he).2
    omega
theorem SR.alloc (h : SR w0 L R a) (t : TypeId) (cs : Array Value) : SR w0 ((a.heap.size, t, cs) :: L) R (a.alloc (.cells cs t)) :=
  have hf := h.fresh (Nat.le_refl _)
  (h.old _).addBox h.st.below.size (Blk.new _ _ _) hf.1 hf.2
theorem SR.alloc' (h : SR w0 L R a) (n : Nat) (hn : a.heap.size = n) (t : TypeId) (cs : Array Value) : SR w0 ((n, t, cs) :: L) R (a.alloc (.cells cs t)) := hn ▸ h.alloc t cs
theorem SR.call_new (h : SR w0 L R a) (hB : Below a.heap.size a b) (hg : a.heap.size ≤ g) (hb : Blk b g t cs) : SR w0 ((g, t, cs) :: L) R b :=
  have hf := h.fresh hg
  (h.step hB).addBox (Nat.le_trans h.st.below.size hg) hb hf.1 hf.2
/-- A call hands back a slice in new memory. -/
theorem SR.call_row (h : SR w0 L R a) (hB : Below a.heap.size a b) (r : Ow) (ho : b.ownsRow a.heap.size r.e r.size r.v r.n r.xs) : SR w0 L (r :: R) b := by
  refine (h.step hB).addRow r ⟨ho.1, ho.2.imp id fun ⟨g, cap, cur, h1, h2, h3⟩ => ⟨g, cap, cur, h1, Nat.le_trans h.st.below.size h2, h3⟩⟩ ?_ ?_
  · intro x hx he
    have h1 := (ho.lt _ he).1
    have h2 := (h.st.blk x hx).2.lt
    omega
  · intro r' hr
    cases hk : r.v.ownBlock with
    | none => exact .inl rfl
    | some k =>
      right
      intro he
      have h1 := (ho.lt _ hk).1
      have h2 := (h.ownLt hr he.symm).2
      omega
/-- A slice that the walk itself makes. -/
theorem SR.newRow (h : SR w0 L R a) (e : TypeId) (size n : Nat) (cs : Array Value) (hm : n ≤ maxLen) (hs : cs.size = n * size) : SR w0 L (⟨.slice (some ⟨a.heap.size, 0, none⟩) n n, e, size, n, cs.toList⟩ :: R) (a.alloc (.cells cs e)) := by
  have hf := h.fresh (Nat.le_refl _)
  refine (h.old _).addRow _ (World.ownsRow_lit a cs n h.st.below.size hm hs) ?_ ?_
  · intro x hx he
    injection he with he
    have he' : a.heap.size = x.1 := he
    exact hf.1 (List.mem_map.2 ⟨x, hx, he'.symm⟩)
  · intro r hr
    exact .inr fun he => hf.2 r hr he.symm
/-- A slice that is nil. -/
theorem SR.nilRow (h : SR w0 L R a) (e : TypeId) (size : Nat) : SR w0 L (⟨.slice none 0 0, e, size, 0, []⟩ :: R) a :=
  h.addRow _ (World.ownsRow_nil _ _ _ _) (fun _ _ he => by cases he) (fun _ _ => .inl rfl)
/-- A listed block is written. -/
theorem SR.setAt (h : SR w0 L R a) (i : Nat) (hi : L[i]? = some (g, t, cs0)) (ho : Only g a b) (hb : Blk b g t cs) : SR w0 (L.set i (g, t, cs)) R b := by
  have hm := List.mem_of_getElem? hi
  refine ⟨h.st.setAt i hi ho hb, fun r hr => own_kept (h.own r hr) fun k hk _ => ho.block k fun e => h.apart r hr _ hm (by rw [hk, e]), fun r hr x hx => ?_, h.rows⟩
  rcases List.mem_or_eq_of_mem_set hx with hx | rfl
  · exact h.apart r hr x hx
  · show r.v.ownBlock ≠ some g
    exact h.apart r hr _ hm
theorem SR.setCellAt (h : SR w0 L R a) (i : Nat) (hi : L[i]? = some (g, t, cs0)) (k : Nat) (v : Value) : SR w0 (L.set i (g, t, cs0.setIfInBounds k v)) R (a.setCell ⟨g, k, none⟩ v) :=
  h.setAt i hi (Only.setCell _ _ _ _) ((h.st.get i hi).set_ k v)
theorem SR.cell (i : Nat) (hi : L[i]? = some (g, t, cs)) (k : Nat) {v : Value} (hk : cs[k]? = some v) : ∀ W, SR w0 L R W → W.cell? ⟨g, k, none⟩ = some v := fun W h => St.cell i hi k hk W h.st
theorem SR.froz (i : Nat) (hi : L[i]? = some (g, t, cs)) (k : Nat) : ∀ W, SR w0 L R W → W.frozen? ⟨g, k, none⟩ = false := fun W h => St.froz i hi k W h.st
theorem SR.loadC (i : Nat) {c : Nat → Int} {s : Int} (hi : L[i]? = some (g, 24, cfgCells c s)) : ∀ W, SR w0 L R W → (loadBig 24 ⟨g, 0, none⟩).run Try.prog W = .ok (.agg (cfgCells c s)) W := fun W h => St.loadC i hi W h.st
theorem SR.oldCell (h : SR w0 L R a) {p : Addr} (hp : p.block < w0.heap.size) : a.cell? p = w0.cell? p := h.st.below.cell hp
/-- A cell of an owned slice. -/
theorem SR.item (h : SR w0 L R a) (i : Nat) (hi : R[i]? = some r) {cap : Nat} (hv : r.v = .slice (some ⟨g, 0, none⟩) r.n cap) (k : Nat) {u : Value} (hk : r.xs[k]? = some u) : a.cell? ⟨g, k, none⟩ = some u := by
  have ho := h.own r (List.mem_of_getElem? hi)
  rw [hv] at ho
  have hl : k < r.xs.length := by
    rcases Nat.lt_or_ge k r.xs.length with hlt | hge
    · exact hlt
    · rw [List.getElem?_eq_none hge] at hk; cases hk
  rw [ho.cellAt k (by rw [← ho.1]; exact hl), hk]
/-- What an owned slice's value is. -/
theorem SR.form (h : SR w0 L R a) (i : Nat) (hi : R[i]? = some r) : (r.v = .slice none 0 0 ∧ r.n = 0) ∨ ∃ g cap, r.v = .slice (some ⟨g, 0, none⟩) r.n cap ∧ r.n ≤ cap ∧ cap ≤ maxLen := by
  rcases (h.own r (List.mem_of_getElem? hi)).2 with hn | ⟨g, cap, cur, hv, _, _, h1, h2, _⟩
  · exact .inl hn
  · exact .inr ⟨g, cap, hv, h1, h2⟩
/-- What an append leaves. -/
theorem SR.appended {w9 : World} {v9 : Value} {news : List Value} {m : Nat} (h : SR w0 L (r :: R) a) (ho : w9.ownsRow w0.heap.size r.e r.size v9 (r.n + m) (r.xs ++ news)) (hg : a.grownBy w9 r.v.ownBlock)
    (hat : v9.ownBlock = r.v.ownBlock ∨ v9.ownBlock = some a.heap.size) : SR w0 L (⟨v9, r.e, r.size, r.n + m, r.xs ++ news⟩ :: R) w9 := by
  have hr0 := List.pairwise_cons.1 h.rows
  have hf := Frame.ofGrown hg
  have h1 : SR w0 L R w9 := h.dropRow.frame hf (fun x hx hm => h.apart r List.mem_cons_self x hx (by simpa using hm))
    (fun r' hr k hk hm => by
      have hm' : r.v.ownBlock = some k := by simpa using hm
      rcases hr0.1 r' hr with h | h
      · rw [h] at hm'; cases hm'
      · exact h (hm'.trans hk.symm))
    (fun k hm => (h.ownLt List.mem_cons_self (by simpa using hm)).1)
  have hfr := h.fresh (Nat.le_refl _)
  refine h1.addRow _ ho ?_ ?_
  · intro x hx
    rcases hat with he | he
    · rw [he]; exact h.apart r List.mem_cons_self x hx
    · rw [he]
      intro e
      injection e with e
      exact hfr.1 (e ▸ List.mem_map.2 ⟨x, hx, rfl⟩)
  · intro r' hr
    rcases hat with he | he
    · show v9.ownBlock = none ∨ v9.ownBlock ≠ _
      rw [he]; exact hr0.1 r' hr
    · right
      show v9.ownBlock ≠ _
      rw [he]
      exact fun e => hfr.2 r' (List.mem_cons_of_mem _ hr) e.symm
/-- A slice's element is written. -/
theorem SR.stored (h : SR w0 L (r :: R) a) {cap : Nat} (hv : r.v = .slice (some ⟨g, 0, none⟩) r.n cap) (k : Nat) (u : Value) : SR w0 L (⟨r.v, r.e, r.size, r.n, r.xs.set k u⟩ :: R) (a.setCell ⟨g, k, none⟩ u) := by
  have ho := h.own r List.mem_cons_self
  have hb : r.v.ownBlock = some g := by rw [hv]; rfl
  have hr0 := List.pairwise_cons.1 h.rows
  have h1 : SR w0 L R (a.setCell ⟨g, k, none⟩ u) := h.dropRow.frame (Frame.ofOnly (Only.setCell a g k u)) (fun x hx hm => h.apart r List.mem_cons_self x hx (by rw [hb]; simp at hm; rw [hm]))
    (fun r' hr j hj hm => by
      simp at hm
      rcases hr0.1 r' hr with h | h
      · rw [hb] at h; cases h
      · exact h (by rw [hb, hj, hm]))
    (fun j hj => by simp at hj; rw [hj]; exact (h.ownLt List.mem_cons_self hb).1)
  refine h1.addRow _ ?_ (h.apart r List.mem_cons_self) hr0.1
  rw [hv] at ho
  have := (ho.stored k u).1
  rw [← hv] at this
  exact this
end

section
variable {ops : Array Oper} {rest : List Oper} {o : Oper} {a : Act} {w0 w : World} {Q : Exit → Act → World → Prop} {L : List (Nat × TypeId × Array Value)} {R : List Ow} {r : Ow}
/-- One element more behind the first slice listed. -/
theorem app_row (hS : SR w0 L (r :: R) w) (hgd : o.guard = none) (s x : Operand) (T : TypeId) (ho : o.op = .call { callee := .builtin .append, args := #[s, x], argTypes := #[T, T] }) (z : Value) (bytes : Nat) (hT : Try.prog.underlying T = some (.slice r.e))
    (hinfo : (Try.prog.info? r.e).map (fun i => (i.zero, i.size, i.bytes)) = some (some z, r.size, bytes)) (hz : z.cells.size = r.size) (hsz : 0 < r.size) (hs : a.eval s = r.v) (g : Nat) (cs : Array Value) (t : TypeId) (hx : a.eval x = .slice (some ⟨g, 0, none⟩) 1 1)
    (hb : Blk w g t cs) (hcs : cs.size = r.size) (h1 : cs.all (·.oneCell') = true) (hn : r.n ≤ 1000000) (hbytes : bytes ≤ 100000)
    (h : ∀ v' w', SR w0 L (⟨v', r.e, r.size, r.n + 1, r.xs ++ cs.toList⟩ :: R) w' → wpList Try.prog ops Q rest (a.put o.dst v') w') : wpList Try.prog ops Q (o :: rest) a w := by
  obtain ⟨i0, hi, hz0, hz1, hz2⟩ := info_parts hinfo
  refine wpList_append_own_at w hgd s x T ho w0.heap.size r.e i0 z r.size bytes hT hi hz0 hz1 hz2 hz hsz r.v r.n r.xs hs (hS.own r List.mem_cons_self) ⟨g, 0, none⟩ 1 1 cs.toList hx (by simpa using hcs) ?_ ?_ ?_ ?_ hS.st.below.size fun v' w' h1 h2 _ h4 => h v' w' (hS.appended h1 h2 h4)
  · intro j y hj
    have := hb.cell j
    rw [Go.WideShapes.add_plain, Nat.zero_add, this, ← hj, Array.getElem?_toList]
  · intro u hu
    have := (Array.all_eq_true_iff_forall_mem.1 h1) u (by simpa using hu)
    exact this
  · unfold maxLen; omega
  · have : (r.n + 1) * bytes ≤ 1000001 * 100000 := Nat.mul_le_mul (by omega) hbytes
    omega
/-- The same as one step of a region that draws its order. -/
theorem step_app_row {K : Act → World → Prop} {E : Prop} (hS : SR w0 L (r :: R) w) (hgd : o.guard = none) (s x : Operand) (T : TypeId) (ho : o.op = .call { callee := .builtin .append, args := #[s, x], argTypes := #[T, T] }) (z : Value) (bytes : Nat) (hT : Try.prog.underlying T = some (.slice r.e))
    (hinfo : (Try.prog.info? r.e).map (fun i => (i.zero, i.size, i.bytes)) = some (some z, r.size, bytes)) (hz : z.cells.size = r.size) (hsz : 0 < r.size) (hs : a.eval s = r.v) (g : Nat) (cs : Array Value) (t : TypeId) (hx : a.eval x = .slice (some ⟨g, 0, none⟩) 1 1)
    (hb : Blk w g t cs) (hcs : cs.size = r.size) (h1 : cs.all (·.oneCell') = true) (hn : r.n ≤ 1000000) (hbytes : bytes ≤ 100000)
    (h : ∀ v' w', SR w0 L (⟨v', r.e, r.size, r.n + 1, r.xs ++ cs.toList⟩ :: R) w' → K (a.put o.dst v') w') : if Region.wanted o (yielded ops a.tmps) = true then Oper.wp Try.prog o a w K Q else E := by
  have hw : Region.wanted o (yielded ops a.tmps) = true := by simp [Region.wanted, hgd]
  rw [if_pos hw]
  obtain ⟨i0, hi, hz0, hz1, hz2⟩ := info_parts hinfo
  obtain ⟨v', w', hr, h2, h3, _, h5⟩ := run_append_own_at (P := Try.prog) w w0.heap.size T o.type r.e i0 z r.size bytes hT hi hz0 hz1 hz2 hz hsz r.v r.n r.xs (hS.own r List.mem_cons_self) ⟨g, 0, none⟩ 1 1 cs.toList (by simpa using hcs) (by
    intro j y hj
    have := hb.cell j
    rw [Go.WideShapes.add_plain, Nat.zero_add, this, ← hj, Array.getElem?_toList]) (by
    intro u hu
    exact (Array.all_eq_true_iff_forall_mem.1 h1) u (by simpa using hu)) (by unfold maxLen; omega) (by
    have : (r.n + 1) * bytes ≤ 1000001 * 100000 := Nat.mul_le_mul (by omega) hbytes
    omega) hS.st.below.size
  unfold Oper.wp execOp
  simp only [ho, resolve, invoke, builtin, Sem.run_bind, Sem.run_pure, Result.andThen_ok, List.map_toArray, List.map_cons, List.map_nil, hs, hx, hr]
  exact h v' w' (hS.appended h2 h3 h5)
/-- A whole struct or array stored into the block that was just made. -/
theorem store_newR {P : Program} {ops : Array Oper} (hS : SR w0 L R w) (hgd : o.guard = none) (hd : o.dst = none) (ty : TypeId) (x y : Operand) (ho : o.op = .store ty x y) (t : TypeId) (old cells : Array Value) (hx : a.eval x = .pointer (some ⟨w.heap.size, 0, none⟩)) (hy : a.eval y = .agg cells)
    (hi : (P.info? ty).map (·.size) = some cells.size) (hold : old.size = cells.size) (h1 : cells.all (·.oneCell') = true)
    (h : ∀ w2, SR w0 ((w.heap.size, t, cells) :: L) R w2 → w.heap.size < w2.heap.size → wpList P ops Q rest a w2) : wpList P ops Q (o :: rest) a (w.alloc (.cells old t)) :=
  store_blk hgd ty x y ho w.heap.size cells hx hy t old hi hold h1 (Blk.new _ _ _) fun w2 ho hb => by rw [hd]; exact h w2 ((hS.alloc t old).setAt 0 rfl ho hb) hb.lt
/-- A whole struct or array stored into a listed block. -/
theorem store_atR {P : Program} {ops : Array Oper} (hS : SR w0 L R w) (hgd : o.guard = none) (hd : o.dst = none) (ty : TypeId) (x y : Operand) (ho : o.op = .store ty x y) (i : Nat) (g : Nat) (t : TypeId) (old cells : Array Value) (hL : L[i]? = some (g, t, old)) (hx : a.eval x = .pointer (some ⟨g, 0, none⟩)) (hy : a.eval y = .agg cells)
    (hi : (P.info? ty).map (·.size) = some cells.size) (hold : old.size = cells.size) (h1 : cells.all (·.oneCell') = true)
    (h : ∀ w2, SR w0 (L.set i (g, t, cells)) R w2 → wpList P ops Q rest a w2) : wpList P ops Q (o :: rest) a w :=
  store_blk hgd ty x y ho g cells hx hy t old hi hold h1 (hS.st.get i hL) fun w2 ho hb => by rw [hd]; exact h w2 (hS.setAt i hL ho hb)
/-- A configuration stored into the block that was just made. -/
theorem new_cfgR {ops : Array Oper} (hS : SR w0 L R w) (hgd : o.guard = none) (hd : o.dst = none) (x y : Operand) (ho : o.op = .store 24 x y) (c : Nat → Int) (s : Int) (hx : a.eval x = .pointer (some ⟨w.heap.size, 0, none⟩)) (hy : a.eval y = .agg (cfgCells c s))
    (old : Array Value) (hold : old.size = 18)
    (h : ∀ w2, SR w0 ((w.heap.size, 24, cfgCells c s) :: L) R w2 → w.heap.size < w2.heap.size → wpList Try.prog ops Q rest a w2) : wpList Try.prog ops Q (o :: rest) a (w.alloc (.cells old 24)) :=
  store_newR hS hgd hd 24 x y ho 24 old _ hx hy (by kernel_rfl) hold (by simp [Value.oneCell']) h
end
end Go.Proofs.Ytjfpmolnipiphaa
