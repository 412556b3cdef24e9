/- Rings in memory: what a ring's object and its cells hold; what a method leaves; a ring carried beside other memory. No condition. -/
import Derived.Test.YtjfpmolnipiphaaOwn
namespace Go.Proofs.Ytjfpmolnipiphaa
open Go.RowKit

/-- How a ring's things lie in memory: their type, the object's type, cells a thing, and which cells. -/
structure RK (α : Type) where
  T : TypeId
  TR : TypeId
  S : Nat
  ec : α → List Value
  hS : 0 < S
  hec : ∀ x, (ec x).length = S

section
variable {α : Type} {K : RK α}
/-- The ring at block gr: its slice v, where it begins, how many cells there are, its room, and what stands there in order. -/
structure RingAt (K : RK α) (w : World) (gr : Nat) (v : Value) (fr len room : Nat) (q : List α) : Prop where
  obj : Blk w gr K.TR #[v, .int .i64 (fr : Int), .int .i64 (q.length : Int), .int .i64 (room : Int)]
  room1 : 1 ≤ room
  room2 : room ≤ 65536
  nlen : q.length ≤ len
  lenroom : len ≤ room
  cells : (len = 0 ∧ v = .slice none 0 0 ∧ fr = 0) ∨ ∃ g cs, v = .slice (some ⟨g, 0, none⟩) len len ∧ g ≠ gr ∧ Blk w g K.T cs ∧ cs.size = len * K.S ∧ fr < len ∧
    ∀ i x, q[i]? = some x → ∀ j, j < K.S → cs[(fr + i) % len * K.S + j]? = (K.ec x)[j]?

/-- What a method leaves of the ring. -/
def RPost (K : RK α) (w : World) (gr : Nat) (v : Value) (room : Nat) (q : List α) (w' : World) : Prop :=
  ∃ v' fr' len', RingAt K w' gr v' fr' len' room q ∧ Frame w w' (gr :: v.ownBlock.toList) ∧ (v'.ownBlock = v.ownBlock ∨ ∀ k, v'.ownBlock = some k → w.heap.size ≤ k)

theorem RingAt.own {w : World} {gr fr len room : Nat} {v : Value} {q : List α} (h : RingAt K w gr v fr len room q) {k : Nat} (hk : v.ownBlock = some k) : k ≠ gr ∧ k < w.heap.size := by
  rcases h.cells with ⟨_, rfl, _⟩ | ⟨g, cs, rfl, hne, hb, _⟩
  · cases hk
  · have : g = k := by simpa [Value.ownBlock] using hk
    subst this
    exact ⟨hne, hb.lt⟩
/-- The ring stands as it was, where its blocks do. -/
theorem RingAt.frame {w w' : World} {gr fr len room : Nat} {v : Value} {q : List α} {bad : List Nat} (h : RingAt K w gr v fr len room q) (hf : Frame w w' bad) (h1 : gr ∉ bad) (h2 : ∀ k, v.ownBlock = some k → k ∉ bad) : RingAt K w' gr v fr len room q := by
  refine ⟨hf.blk h.obj h1, h.room1, h.room2, h.nlen, h.lenroom, ?_⟩
  rcases h.cells with hc | ⟨g, cs, rfl, hne, hb, rest⟩
  · exact .inl hc
  · exact .inr ⟨g, cs, rfl, hne, hf.blk hb (h2 g rfl), rest⟩
theorem RingAt.drewN {w : World} {gr fr len room : Nat} {v : Value} {q : List α} (h : RingAt K w gr v fr len room q) (n : Nat) : RingAt K (w.drewN n) gr v fr len room q :=
  ⟨h.obj.drewN n, h.room1, h.room2, h.nlen, h.lenroom, h.cells.imp id fun ⟨g, cs, a, b, c, d⟩ => ⟨g, cs, a, b, c.drewN n, d⟩⟩
theorem Frame.drewN (w : World) (n : Nat) (bad : List Nat) : Frame w (w.drewN n) bad := ⟨rfl, rfl, rfl, Nat.le_refl _, fun _ _ _ => rfl⟩
theorem Frame.setCell (w : World) (g i : Nat) (u : Value) {bad : List Nat} (h : g ∈ bad) : Frame w (w.setCell ⟨g, i, none⟩ u) bad := (Frame.ofOnly (Only.setCell w g i u)).mono fun _ hi => by simp at hi; rw [hi]; exact h
theorem Frame.below0 {a b : World} (h : Frame a b []) : Below a.heap.size a b := ⟨h.os, h.tape, h.output, h.size, fun k hk => h.block k hk (by simp)⟩
/-- Changes to blocks that are new don't count. -/
theorem Frame.then_new {a b c : World} {x y : List Nat} (h : Frame a b x) (k : Frame b c y) (hy : ∀ i ∈ y, i ∈ x ∨ a.heap.size ≤ i) : Frame a c x :=
  h.trans k (fun _ hi => hi) fun i hi hlt => (hy i hi).elim id fun hge => by omega

/-- The ring, carried beside the boxes and slices that a walk has made. -/
structure RG (K : RK α) (w0 : World) (L : List (Nat × TypeId × Array Value)) (R : List Ow) (gr room : Nat) (q : List α) (w : World) : Prop where
  sr : SR w0 L R w
  ring : ∃ v fr len, RingAt K w gr v fr len room q ∧ ∀ k, (k = gr ∨ v.ownBlock = some k) → w0.heap.size ≤ k ∧ k ∉ L.map (·.1) ∧ ∀ r ∈ R, r.v.ownBlock ≠ some k

section
variable {w0 a b : World} {L L' : List (Nat × TypeId × Array Value)} {R R' : List Ow} {gr room : Nat} {q q' : List α} {r : Ow} {g : Nat} {t : TypeId} {cs cs0 : Array Value}
theorem RingAt.lt {w : World} {fr len : Nat} {v : Value} (h : RingAt K w gr v fr len room q) {k : Nat} (hk : k = gr ∨ v.ownBlock = some k) : k < w.heap.size := hk.elim (fun e => e ▸ h.obj.lt) fun e => (h.own e).2
/-- Other memory is written, or new memory made. -/
theorem RG.lift {bad : List Nat} (h : RG K w0 L R gr room q a) (hS : SR w0 L' R' b) (hf : Frame a b bad) (hbad : ∀ k ∈ bad, k ∈ L.map (·.1) ∨ (∃ r ∈ R, r.v.ownBlock = some k) ∨ a.heap.size ≤ k)
    (hL : ∀ k ∈ L'.map (·.1), k ∈ L.map (·.1) ∨ a.heap.size ≤ k) (hR : ∀ r ∈ R', ∀ k, r.v.ownBlock = some k → (∃ r0 ∈ R, r0.v.ownBlock = some k) ∨ a.heap.size ≤ k) : RG K w0 L' R' gr room q b := by
  obtain ⟨v, fr, len, hr, hap⟩ := h.ring
  have key : ∀ k, (k = gr ∨ v.ownBlock = some k) → k ∉ bad := fun k hk hb => by
    have h1 := hap k hk
    have h2 := hr.lt hk
    rcases hbad k hb with hb | ⟨r, hr', hb⟩ | hb
    · exact h1.2.1 hb
    · exact h1.2.2 r hr' hb
    · omega
  refine ⟨hS, v, fr, len, hr.frame hf (key gr (.inl rfl)) (fun k hk => key k (.inr hk)), fun k hk => ⟨(hap k hk).1, fun hm => ?_, fun r hr' he => ?_⟩⟩
  · rcases hL k hm with h1 | h1
    · exact (hap k hk).2.1 h1
    · have := hr.lt hk; omega
  · rcases hR r hr' k he with ⟨r0, h1, h2⟩ | h1
    · exact (hap k hk).2.2 r0 h1 h2
    · have := hr.lt hk; omega
theorem RG.step (h : RG K w0 L R gr room q a) (hB : Below a.heap.size a b) : RG K w0 L R gr room q b :=
  h.lift (h.sr.step hB) (Frame.ofBelow hB []) (by simp) (fun _ hk => .inl hk) fun r hr k hk => .inl ⟨r, hr, hk⟩
theorem RG.drewN (h : RG K w0 L R gr room q a) (n : Nat) : RG K w0 L R gr room q (a.drewN n) :=
  h.lift (h.sr.drewN n) (Frame.drewN a n []) (by simp) (fun _ hk => .inl hk) fun r hr k hk => .inl ⟨r, hr, hk⟩
theorem RG.old (h : RG K w0 L R gr room q a) (o : Obj) : RG K w0 L R gr room q (a.alloc o) :=
  h.lift (h.sr.old o) (Frame.alloc a o []) (by simp) (fun _ hk => .inl hk) fun r hr k hk => .inl ⟨r, hr, hk⟩
theorem RG.alloc (h : RG K w0 L R gr room q a) (t : TypeId) (cs : Array Value) : RG K w0 ((a.heap.size, t, cs) :: L) R gr room q (a.alloc (.cells cs t)) :=
  h.lift (h.sr.alloc t cs) (Frame.alloc a _ []) (by simp) (fun k hk => by rw [List.map_cons, List.mem_cons] at hk; exact hk.elim (fun e => .inr (by rw [e]; exact Nat.le_refl _)) .inl) fun r hr k hk => .inl ⟨r, hr, hk⟩
theorem RG.sub (h : RG K w0 L R gr room q a) (hp : L'.Sublist L) : RG K w0 L' R gr room q a :=
  h.lift (h.sr.sub hp) (Frame.refl a []) (by simp) (fun k hk => .inl ((hp.map _).subset hk)) fun r hr k hk => .inl ⟨r, hr, hk⟩
theorem RG.subR (h : RG K w0 L R gr room q a) (hp : R'.Sublist R) : RG K w0 L R' gr room q a :=
  h.lift (h.sr.subR hp) (Frame.refl a []) (by simp) (fun _ hk => .inl hk) fun r hr k hk => .inl ⟨r, hp.subset hr, hk⟩
theorem RG.permR (h : RG K w0 L R gr room q a) (hp : R.Perm R') : RG K w0 L R' gr room q a :=
  h.lift (h.sr.permR hp) (Frame.refl a []) (by simp) (fun _ hk => .inl hk) fun r hr k hk => .inl ⟨r, hp.mem_iff.2 hr, hk⟩
theorem RG.newRow (h : RG K w0 L R gr room q a) (e : TypeId) (size n : Nat) (cs : Array Value) (hm : n ≤ maxLen) (hs : cs.size = n * size) : RG K w0 L (⟨.slice (some ⟨a.heap.size, 0, none⟩) n n, e, size, n, cs.toList⟩ :: R) gr room q (a.alloc (.cells cs e)) :=
  h.lift (h.sr.newRow e size n cs hm hs) (Frame.alloc a _ []) (by simp) (fun _ hk => .inl hk) fun r hr k hk => by
    rcases List.mem_cons.1 hr with rfl | hr
    · right
      have : a.heap.size = k := by simpa [Value.ownBlock] using hk
      omega
    · exact .inl ⟨r, hr, hk⟩
theorem RG.nilRow (h : RG K w0 L R gr room q a) (e : TypeId) (size : Nat) : RG K w0 L (⟨.slice none 0 0, e, size, 0, []⟩ :: R) gr room q a :=
  h.lift (h.sr.nilRow e size) (Frame.refl a []) (by simp) (fun _ hk => .inl hk) fun r hr k hk => by
    rcases List.mem_cons.1 hr with rfl | hr
    · cases hk
    · exact .inl ⟨r, hr, hk⟩
theorem RG.call_row (h : RG K w0 L R gr room q a) (hB : Below a.heap.size a b) (r : Ow) (ho : b.ownsRow a.heap.size r.e r.size r.v r.n r.xs) : RG K w0 L (r :: R) gr room q b :=
  h.lift (h.sr.call_row hB r ho) (Frame.ofBelow hB []) (by simp) (fun _ hk => .inl hk) fun r' hr k hk => by
    rcases List.mem_cons.1 hr with rfl | hr
    · exact .inr (ho.lt k hk).1
    · exact .inl ⟨r', hr, hk⟩
theorem RG.appended {w9 : World} {v9 : Value} {news : List Value} {m : Nat} (h : RG K w0 L (r :: R) gr room q a) (ho : w9.ownsRow w0.heap.size r.e r.size v9 (r.n + m) (r.xs ++ news)) (hg : a.grownBy w9 r.v.ownBlock)
    (hat : v9.ownBlock = r.v.ownBlock ∨ v9.ownBlock = some a.heap.size) : RG K w0 L (⟨v9, r.e, r.size, r.n + m, r.xs ++ news⟩ :: R) gr room q w9 :=
  h.lift (h.sr.appended ho hg hat) (Frame.ofGrown hg) (fun k hk => .inr (.inl ⟨r, List.mem_cons_self, by simpa using hk⟩)) (fun _ hk => .inl hk) fun r' hr k hk => by
    rcases List.mem_cons.1 hr with rfl | hr
    · have hk' : v9.ownBlock = some k := hk
      rcases hat with he | he
      · exact .inl ⟨r, List.mem_cons_self, by rw [← he]; exact hk'⟩
      · right
        rw [he] at hk'
        injection hk' with hk'
        omega
    · exact .inl ⟨r', List.mem_cons_of_mem _ hr, hk⟩
theorem RG.setAt (h : RG K w0 L R gr room q a) (i : Nat) (hi : L[i]? = some (g, t, cs0)) (ho : Only g a b) (hb : Blk b g t cs) : RG K w0 (L.set i (g, t, cs)) R gr room q b :=
  h.lift (h.sr.setAt i hi ho hb) (Frame.ofOnly ho) (fun k hk => .inl (by simp at hk; rw [hk]; exact List.mem_map.2 ⟨_, List.mem_of_getElem? hi, rfl⟩)) (fun k hk => by
    obtain ⟨x, hx, rfl⟩ := List.mem_map.1 hk
    rcases List.mem_or_eq_of_mem_set hx with hx | rfl
    · exact .inl (List.mem_map.2 ⟨x, hx, rfl⟩)
    · exact .inl (List.mem_map.2 ⟨_, List.mem_of_getElem? hi, rfl⟩)) fun r hr k hk => .inl ⟨r, hr, hk⟩
/-- A method of the ring was called. -/
theorem RG.upd {v : Value} {fr len : Nat} (hS : SR w0 L R a) (hr : RingAt K a gr v fr len room q) (hap : ∀ k, (k = gr ∨ v.ownBlock = some k) → w0.heap.size ≤ k ∧ k ∉ L.map (·.1) ∧ ∀ r ∈ R, r.v.ownBlock ≠ some k) (hp : RPost K a gr v room q' b) : RG K w0 L R gr room q' b := by
  obtain ⟨v', fr', len', h1, hf, hat⟩ := hp
  have hbad : ∀ k, k ∈ gr :: v.ownBlock.toList → k = gr ∨ v.ownBlock = some k := fun k hk => by
    rcases List.mem_cons.1 hk with e | e
    · exact .inl e
    · exact .inr (by simpa using e)
  refine ⟨hS.frame hf (fun x hx hm => (hap _ (hbad _ hm)).2.1 (List.mem_map.2 ⟨x, hx, rfl⟩)) (fun r hr' k hk hm => (hap _ (hbad _ hm)).2.2 r hr' hk) (fun k hk => (hap _ (hbad _ hk)).1), v', fr', len', h1, fun k hk => ?_⟩
  rcases hk with rfl | hk
  · exact hap _ (.inl rfl)
  · rcases hat with he | he
    · exact hap k (.inr (by rw [← he]; exact hk))
    · have hge := he k hk
      have hfr := hS.fresh hge
      exact ⟨Nat.le_trans hS.st.below.size hge, hfr.1, hfr.2⟩
/-- A ring that a call has made. -/
theorem RG.made {v : Value} {fr len : Nat} (hS : SR w0 L R a) (hB : Below a.heap.size a b) (hr : RingAt K b gr v fr len room q) (h1 : a.heap.size ≤ gr) (h2 : ∀ k, v.ownBlock = some k → a.heap.size ≤ k) : RG K w0 L R gr room q b :=
  ⟨hS.step hB, v, fr, len, hr, fun k hk => by
    have hge : a.heap.size ≤ k := hk.elim (fun e => e ▸ h1) fun e => h2 k e
    have hfr := hS.fresh hge
    exact ⟨Nat.le_trans hS.st.below.size hge, hfr.1, hfr.2⟩⟩
end
end
end Go.Proofs.Ytjfpmolnipiphaa
