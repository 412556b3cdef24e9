/- Plain facts about a ring's cells: what stands where behind a push, a pop and a growth. No program in them. -/
import Derived.Test.YtjfpmolnipiphaaRing0
import Derived.Laws.MakeOwn
import Derived.Laws.CopyRow
namespace Go.Proofs.Ytjfpmolnipiphaa
open Go.RowKit

theorem ring_ix {fr i len : Nat} (h1 : fr < len) (h2 : i < len) : (fr + i) % len = if fr + i < len then fr + i else fr + i - len := by
  split
  · exact Nat.mod_eq_of_lt (by omega)
  · rw [Nat.mod_eq_sub_mod (by omega), Nat.mod_eq_of_lt (by omega)]
theorem ring_ne {fr i k len : Nat} (h1 : fr < len) (h2 : i < len) (h3 : k < len) (h : i ≠ k) : (fr + i) % len ≠ (fr + k) % len := by
  rw [ring_ix h1 h2, ring_ix h1 h3]
  split <;> split <;> omega
theorem ring_lt {fr i len : Nat} (h1 : fr < len) : (fr + i) % len < len := Nat.mod_lt _ (by omega)

/-- The world without its memory: for blocks that are followed whoever made them. -/
def bareW (w : World) : World := { w with heap := #[] }
theorem bare_start {w : World} {g : Nat} {t : TypeId} {cs : Array Value} (h : Blk w g t cs) : St (bareW w) [(g, t, cs)] w :=
  ⟨⟨rfl, rfl, rfl, Nat.zero_le _, fun k hk => absurd hk (Nat.not_lt_zero k)⟩, by simp, fun x hx => by
    simp at hx
    subst hx
    exact ⟨Nat.zero_le _, h⟩⟩
theorem St.farCell {w0 a : World} {L : List (Nat × TypeId × Array Value)} {g : Nat} (h : St w0 L a) (hg : g ∉ L.map (·.1)) (h0 : w0.heap.size ≤ g) (i : Nat) (u : Value) : St w0 L (a.setCell ⟨g, i, none⟩ u) :=
  ((SR.ofSt h).frame (Frame.ofOnly (Only.setCell a g i u)) (fun x hx hm => hg (by simp at hm; rw [← hm]; exact List.mem_map.2 ⟨x, hx, rfl⟩)) (fun _ hr => by cases hr) (fun k hk => by simp at hk; rw [hk]; exact h0)).st

/-- Cells laid over a row from a place on. -/
def putC (cs : Array Value) (p : Nat) : List Value → Array Value
  | [] => cs
  | c :: l => putC (cs.setIfInBounds p c) (p + 1) l
theorem putC_size (cs : Array Value) (p : Nat) (l : List Value) : (putC cs p l).size = cs.size := by
  induction l generalizing cs p with
  | nil => rfl
  | cons c l ih => unfold putC; rw [ih]; simp
theorem putC_far (cs : Array Value) (p : Nat) (l : List Value) (i : Nat) (h : i < p ∨ p + l.length ≤ i) : (putC cs p l)[i]? = cs[i]? := by
  induction l generalizing cs p with
  | nil => rfl
  | cons c l ih =>
    simp only [List.length_cons] at h
    unfold putC
    rw [ih _ _ (by omega), Array.getElem?_setIfInBounds]
    rw [if_neg (by omega)]
theorem putC_in (cs : Array Value) (p : Nat) (l : List Value) (j : Nat) (hj : j < l.length) (hp : p + l.length ≤ cs.size) : (putC cs p l)[p + j]? = l[j]? := by
  induction l generalizing cs p j with
  | nil => simp at hj
  | cons c l ih =>
    simp only [List.length_cons] at hj hp
    unfold putC
    cases j with
    | zero =>
      rw [putC_far _ _ _ _ (by omega), Array.getElem?_setIfInBounds]
      simp
      omega
    | succ j =>
      rw [show p + (j + 1) = p + 1 + j by omega, ih _ _ _ (by omega) (by simp; omega)]
      simp

section
variable {α : Type} {K : RK α} {cs : Array Value} {fr len : Nat} {q : List α}
/-- What stands where. -/
def Holds (K : RK α) (cs : Array Value) (fr len : Nat) (q : List α) : Prop := ∀ i x, q[i]? = some x → ∀ j, j < K.S → cs[(fr + i) % len * K.S + j]? = (K.ec x)[j]?
theorem cell_lt {p j S len : Nat} (h : p < len) (hj : j < S) : p * S + j < len * S := by
  have : (p + 1) * S ≤ len * S := Nat.mul_le_mul_right S h
  rw [Nat.succ_mul] at this
  omega
theorem cell_apart {p p' j S : Nat} (h : p ≠ p') (hj : j < S) : p * S + j < p' * S ∨ p' * S + S ≤ p * S + j := by
  rcases Nat.lt_or_gt_of_ne h with h | h
  · left
    have : (p + 1) * S ≤ p' * S := Nat.mul_le_mul_right S h
    rw [Nat.succ_mul] at this
    omega
  · right
    have : (p' + 1) * S ≤ p * S := Nat.mul_le_mul_right S h
    rw [Nat.succ_mul] at this
    omega
theorem lt_of_get {l : List α} {i : Nat} {x : α} (h : l[i]? = some x) : i < l.length := by
  rcases Nat.lt_or_ge i l.length with hlt | hge
  · exact hlt
  · rw [List.getElem?_eq_none hge] at h; cases h
theorem Holds.push (h : Holds K cs fr len q) (hz : cs.size = len * K.S) (hfr : fr < len) (hn : q.length < len) (x : α) : Holds K (putC cs ((fr + q.length) % len * K.S) (K.ec x)) fr len (q ++ [x]) := by
  intro i y hy j hj
  have hil := lt_of_get hy
  rw [List.length_append, List.length_singleton] at hil
  have hp := ring_lt (fr := fr) (i := q.length) hfr
  by_cases e : i < q.length
  · rw [List.getElem?_append_left e] at hy
    rw [putC_far _ _ _ _ (by rw [K.hec]; exact cell_apart (ring_ne hfr (by omega) hn (by omega)) hj)]
    exact h i y hy j hj
  · obtain rfl : i = q.length := by omega
    rw [List.getElem?_append_right (Nat.le_refl _), Nat.sub_self] at hy
    injection hy with hy
    subst hy
    have := cell_lt hp (j := K.S - 1) (S := K.S) (by have := K.hS; omega)
    have hS := K.hS
    exact putC_in _ _ _ _ (by rw [K.hec]; exact hj) (by rw [K.hec, hz]; omega)
theorem Holds.pop {x : α} (h : Holds K cs fr len (x :: q)) (hfr : fr < len) (hn : q.length + 1 ≤ len) (z : List Value) (hz : z.length = K.S) : Holds K (putC cs (fr * K.S) z) ((fr + 1) % len) len q := by
  intro i y hy j hj
  have hil := lt_of_get hy
  have e : ((fr + 1) % len + i) % len = (fr + (i + 1)) % len := by rw [Nat.mod_add_mod]; congr 1; omega
  rw [e]
  have hne : (fr + (i + 1)) % len ≠ fr := by
    have := ring_ne (fr := fr) (i := i + 1) (k := 0) hfr (by omega) (by omega) (by omega)
    rw [show (fr + 0) % len = fr from Nat.mod_eq_of_lt (by omega)] at this
    exact this
  rw [putC_far _ _ _ _ (by rw [hz]; exact cell_apart hne hj)]
  exact h (i + 1) y (by simpa using hy) j hj
theorem flat_at (ec : α → List Value) {S : Nat} (hec : ∀ x, (ec x).length = S) : ∀ (q : List α) (i : Nat) (x : α), q[i]? = some x → ∀ j, j < S → (q.flatMap ec)[i * S + j]? = (ec x)[j]?
  | [], i, x, h, j, hj => by simp at h
  | y :: q, 0, x, h, j, hj => by
    simp at h
    subst h
    rw [Nat.zero_mul, Nat.zero_add, List.flatMap_cons, List.getElem?_append_left (by rw [hec]; exact hj)]
  | y :: q, i + 1, x, h, j, hj => by
    have h' : q[i]? = some x := by simpa using h
    rw [List.flatMap_cons, List.getElem?_append_right (by rw [hec, Nat.succ_mul]; omega), hec, show (i + 1) * S + j - S = i * S + j by rw [Nat.succ_mul]; omega]
    exact flat_at ec hec q i x h' j hj
theorem flat_length (ec : α → List Value) {S : Nat} (hec : ∀ x, (ec x).length = S) (q : List α) : (q.flatMap ec).length = q.length * S := by
  induction q with
  | nil => simp
  | cons y q ih => rw [List.flatMap_cons, List.length_append, ih, hec, List.length_cons, Nat.succ_mul]; omega
/-- A new row that begins with the things. -/
theorem Holds.grown (q : List α) (tail : List Value) (len : Nat) (hn : q.length ≤ len) : Holds K ((q.flatMap K.ec) ++ tail).toArray 0 len q := by
  intro i x hx j hj
  have hil := lt_of_get hx
  rw [Nat.zero_add, Nat.mod_eq_of_lt (by omega)]
  have hl := flat_length K.ec K.hec q
  have hlt := cell_lt hil hj
  rw [List.getElem?_toArray, List.getElem?_append_left (by omega)]
  exact flat_at K.ec K.hec q i x hx j hj
theorem putC_one (cs : Array Value) (p : Nat) (c : Value) : putC cs p [c] = cs.setIfInBounds p c := rfl
/-- Behind a pop: the things' cells are emptied, the ring begins one further. -/
theorem RPost.popped {w W1 : World} {gr g room ix : Nat} {x : α} {cs' : Array Value} {z : List Value} (h : RingAt K w gr (.slice (some ⟨g, 0, none⟩) len len) fr len room (x :: q)) (hne : g ≠ gr) (hf : Frame w W1 [g]) (hb : Blk W1 g K.T cs') (he : cs' = putC cs (fr * K.S) z)
    (hz : z.length = K.S) (hcz : cs.size = len * K.S) (hcs : Holds K cs fr len (x :: q)) (hfr : fr < len) (hix : (fr + 1) % len = ix) (n : Nat) :
    RPost K w gr (.slice (some ⟨g, 0, none⟩) len len) room q (((W1.drewN n).setCell ⟨gr, 1, none⟩ (.int .i64 (ix : Int))).setCell ⟨gr, 2, none⟩ (.int .i64 (q.length : Int))) := by
  subst he hix
  have hn := h.nlen
  rw [List.length_cons] at hn
  have ho := ((hf.blk h.obj (by simpa using hne.symm)).drewN n).set_ 1 (.int .i64 (((fr + 1) % len : Nat) : Int)) |>.set_ 2 (.int .i64 (q.length : Int))
  have hg := ((hb.drewN n).far (p := ⟨gr, 1, none⟩) hne (.int .i64 (((fr + 1) % len : Nat) : Int))).far (p := ⟨gr, 2, none⟩) hne (.int .i64 (q.length : Int))
  refine ⟨_, _, len, ⟨ho, h.room1, h.room2, by omega, h.lenroom, .inr ⟨g, _, rfl, hne, hg, by rw [putC_size]; exact hcz, ring_lt hfr, hcs.pop hfr hn z hz⟩⟩, ?_, .inl rfl⟩
  have hf1 : Frame w W1 (gr :: [g]) := hf.mono fun i hi => List.mem_cons_of_mem _ hi
  exact ((hf1.trans (Frame.drewN W1 n _) (fun _ h => h) (fun _ h _ => h)).trans (Frame.setCell _ gr 1 _ List.mem_cons_self) (fun _ h => h) (fun _ h _ => h)).trans (Frame.setCell _ gr 2 _ List.mem_cons_self) (fun _ h => h) (fun _ h _ => h)
/-- Behind a push where there is a cell left. -/
theorem RPost.pushed {w W1 : World} {gr g room : Nat} (x : α) {cs' : Array Value} (h : RingAt K w gr (.slice (some ⟨g, 0, none⟩) len len) fr len room q) (hne : g ≠ gr) (hf : Frame w W1 [g]) (hb : Blk W1 g K.T cs') (he : cs' = putC cs ((fr + q.length) % len * K.S) (K.ec x))
    (hcz : cs.size = len * K.S) (hcs : Holds K cs fr len q) (hfr : fr < len) (hn : q.length < len) (n : Nat) :
    RPost K w gr (.slice (some ⟨g, 0, none⟩) len len) room (q ++ [x]) ((W1.drewN n).setCell ⟨gr, 2, none⟩ (.int .i64 ((q.length : Int) + 1))) := by
  subst he
  have e : ((q ++ [x]).length : Int) = (q.length : Int) + 1 := by simp
  have ho := ((hf.blk h.obj (by simpa using hne.symm)).drewN n).set_ 2 (.int .i64 ((q.length : Int) + 1))
  have hg := (hb.drewN n).far (p := ⟨gr, 2, none⟩) hne (.int .i64 ((q.length : Int) + 1))
  refine ⟨_, _, len, ⟨by rw [e]; exact ho, h.room1, h.room2, by simp; omega, h.lenroom, .inr ⟨g, _, rfl, hne, hg, by rw [putC_size]; exact hcz, hfr, hcs.push hcz hfr hn x⟩⟩, ?_, .inl rfl⟩
  have hf1 : Frame w W1 (gr :: [g]) := hf.mono fun i hi => List.mem_cons_of_mem _ hi
  exact (hf1.trans (Frame.drewN W1 n _) (fun _ h => h) (fun _ h _ => h)).trans (Frame.setCell _ gr 2 _ List.mem_cons_self) (fun _ h => h) (fun _ h _ => h)
end

/-- A method ran behind a growth. -/
theorem RPost.after {α : Type} {K : RK α} {w w2 W : World} {gr room : Nat} {v v2 : Value} {q : List α} {n : Nat} (hf2 : Frame (w.drewN n) w2 [gr]) (hown : ∀ k, v2.ownBlock = some k → w.heap.size ≤ k) (hP : RPost K w2 gr v2 room q W) : RPost K w gr v room q W := by
  obtain ⟨v', fr', len', r, hf, hat⟩ := hP
  have h1 : Frame w w2 (gr :: v.ownBlock.toList) := (Frame.drewN w n _).trans (hf2.mono (by intro i hi; simp at hi; simp [hi])) (fun _ h => h) (fun _ h _ => h)
  refine ⟨v', fr', len', r, h1.then_new hf (fun i hi => ?_), .inr fun k hk => ?_⟩
  · rcases List.mem_cons.1 hi with e | e
    · exact .inl (by simp [e])
    · exact .inr (hown i (by simpa using e))
  · rcases hat with e | e
    · exact hown k (by rw [← e]; exact hk)
    · exact Nat.le_trans h1.size (e k hk)

/-- Behind a growth. -/
theorem RingAt.grown {α : Type} {K : RK α} {fr len : Nat} {q : List α} {w w1 W W' : World} {gr room len' : Nat} {v v1 : Value} {zs : Array Value} (h : RingAt K w gr v fr len room q) (hl : len < len') (hlr : len' ≤ room) (hq : q.length = len) (hB : Below w.heap.size w w1) (hBW : Below w1.heap.size w1 W)
    (ho : Only w1.heap.size W W') (hb : Blk W' w1.heap.size K.T ((q.flatMap K.ec) ++ zs.toList.drop (q.flatMap K.ec).length).toArray) (hz : zs.size = len' * K.S) (hg : Blk W' gr K.TR #[v1, .int .i64 (fr : Int), .int .i64 (q.length : Int), .int .i64 (room : Int)]) :
    RingAt K ((W'.setCell ⟨gr, 0, none⟩ (.slice (some ⟨w1.heap.size, 0, none⟩) len' len')).setCell ⟨gr, 1, none⟩ (.int .i64 0)) gr (.slice (some ⟨w1.heap.size, 0, none⟩) len' len') 0 len' room q ∧
      Frame w ((W'.setCell ⟨gr, 0, none⟩ (.slice (some ⟨w1.heap.size, 0, none⟩) len' len')).setCell ⟨gr, 1, none⟩ (.int .i64 0)) [gr] := by
  have hlt : gr < w.heap.size := h.obj.lt
  have hs := hB.size
  have hne : w1.heap.size ≠ gr := by omega
  have hlS : (q.flatMap K.ec).length ≤ len' * K.S := by rw [flat_length K.ec K.hec]; exact Nat.mul_le_mul_right _ (by omega)
  refine ⟨⟨(hg.set_ 0 (.slice (some ⟨w1.heap.size, 0, none⟩) len' len')).set_ 1 (.int .i64 0), h.room1, h.room2, by omega, hlr, .inr ⟨_, _, rfl, hne, (hb.far (p := ⟨gr, 0, none⟩) hne _).far (p := ⟨gr, 1, none⟩) hne _, ?_, by omega, Holds.grown q _ len' (by omega)⟩⟩, ?_⟩
  · simp only [List.size_toArray, List.length_append, List.length_drop, Array.length_toList, hz]
    omega
  · have f1 : Frame w w1 [gr] := Frame.ofBelow hB [gr]
    have f2 : Frame w W [gr] := f1.then_new (Frame.ofBelow hBW []) (fun _ h => by cases h)
    have f3 : Frame w W' [gr] := f2.then_new (Frame.ofOnly ho) (fun i hi => .inr (by simp at hi; omega))
    exact (f3.then_new (Frame.setCell W' gr 0 _ (bad := [gr]) List.mem_cons_self) (fun i hi => .inl hi)).then_new (Frame.setCell _ gr 1 _ (bad := [gr]) List.mem_cons_self) (fun i hi => .inl hi)

section
variable {P : Program}
/-- make([]T, n), T of S cells. -/
theorem run_make_any (t e : TypeId) (z : Value) (S bytes : Nat) (ht : P.underlying t = some (.slice e)) (hinfo : (P.info? e).map (fun i => (i.zero, i.size, i.bytes)) = some (some z, S, bytes)) (n : Nat) (hbytes : bytes * n ≤ 281474976710656) (h63 : n ≤ 9223372036854775807) (w : World) :
    (Instr.makeSlice t (.int .i64 (n : Int)) (.int .i64 (n : Int))).run P w = .ok (.slice (some ⟨w.heap.size, 0, none⟩) n n) (w.alloc (.cells (madeCells z.cells (n * S)) e)) := by
  obtain ⟨i, hi, hzz⟩ := Option.map_eq_some_iff.1 hinfo
  simp only [Prod.mk.injEq] at hzz
  obtain ⟨hz, hs, hb⟩ := hzz
  subst hs hb
  have hb' : (i.bytes : Int) * (n : Int) ≤ 281474976710656 := by
    have h : ((i.bytes * n : Nat) : Int) ≤ 281474976710656 := by omega
    rwa [Int.natCast_mul] at h
  have hr := run_make (P := P) w t e i z ht hi hz .i64 .i64 n n (by omega) (Int.le_refl _) hb' (by omega)
  simp only [Int.toNat_natCast] at hr
  exact hr
/-- copy(d, s) from a row's start to a row's start, things of S cells. -/
theorem run_copy_any (w : World) (dT sT ty elem : TypeId) (S g dLen dCap : Nat) (a : Addr) (sLen sCap : Nat) (cur : Array Value) (t : TypeId) (cs : List Value)
    (hu : P.underlying dT = some (.slice elem)) (hs : (P.info? elem).map (·.size) = some S)
    (hg : Blk w g t cur) (hn : cs.length = Nat.min sLen dLen * S)
    (hsrc : ∀ j v, cs[j]? = some v → w.cell? (a.add j) = some v) (hfit : cs.length ≤ cur.size) (h1 : ∀ v ∈ cs, v.oneCell' = true) :
    (Builtin.copy_ #[dT, sT] ty #[.slice (some ⟨g, 0, none⟩) dLen dCap, .slice (some a) sLen sCap]).run P w =
      .ok (goInt (Nat.min sLen dLen)) (w.setRow g (cs ++ cur.toList.drop cs.length).toArray) := by
  have hl := run_loadCells_list (P := P) w a cs hsrc
  have hst := run_storeCells_at P g 0 t cs 0 cur w hg (by simpa using hfit) h1
  simp only [Nat.add_zero, List.take_zero, List.nil_append, Nat.zero_add] at hst
  cases hq : P.info? elem with
  | none => simp [hq] at hs
  | some i =>
    have hi : i.size = S := by simpa [hq] using hs
    simp [Builtin.copy_, run_underlying hu, Builtin.lenOf, Builtin.firstCells, sizeOf, typeInfo, hq, hi, ← hn, hl, hst]
/-- copy(d, nil). -/
theorem run_copy_none (w : World) (dT sT ty elem : TypeId) (S g dLen dCap : Nat) (hu : P.underlying dT = some (.slice elem)) (hs : (P.info? elem).map (·.size) = some S) :
    (Builtin.copy_ #[dT, sT] ty #[.slice (some ⟨g, 0, none⟩) dLen dCap, .slice none 0 0]).run P w = .ok (goInt 0) w := by
  cases hq : P.info? elem with
  | none => simp [hq] at hs
  | some i => simp [Builtin.copy_, run_underlying hu, Builtin.lenOf, Builtin.firstCells, sizeOf, typeInfo, hq, storeCells]
/-- copy of a row that a call has handed out, whichever it is. -/
theorem run_copy_owned {w1 W : World} {base S g n L cp : Nat} {elem t : TypeId} {v2 : Value} {xs : List Value} {cur : Array Value} (dT sT ty : TypeId) (hu : P.underlying dT = some (.slice elem)) (hs : (P.info? elem).map (·.size) = some S)
    (hown : w1.ownsRow base elem S v2 n xs) (hB : Below w1.heap.size w1 W) (hg : Blk W g t cur) (hL : n ≤ L) (hcur : cur.size = L * S) (h1 : ∀ v ∈ xs, v.oneCell' = true) :
    ∃ m W', (Builtin.copy_ #[dT, sT] ty #[.slice (some ⟨g, 0, none⟩) L cp, v2]).run P W = .ok m W' ∧ Only g W W' ∧ Blk W' g t (xs ++ cur.toList.drop xs.length).toArray := by
  obtain ⟨hlen, ⟨rfl, rfl⟩ | ⟨k, cap, old, rfl, _, hk, hnc, _, hsz, htk⟩⟩ := hown
  · have hx : xs = [] := List.eq_nil_of_length_eq_zero (by rw [hlen, Nat.zero_mul])
    subst hx
    exact ⟨_, W, run_copy_none W dT sT ty elem S g L cp hu hs, ⟨rfl, rfl, rfl, rfl, fun _ _ => rfl⟩, by simpa using hg⟩
  · have hmin : Nat.min n L = n := Nat.min_eq_left hL
    have hkl : k < w1.heap.size := (Array.getElem?_eq_some_iff.1 hk).1
    have hkW : Blk W k elem old := (hB.block k hkl).trans hk
    have hnS : n * S ≤ L * S := Nat.mul_le_mul_right S hL
    refine ⟨_, _, run_copy_any W dT sT ty elem S g L cp ⟨k, 0, none⟩ n cap cur t xs hu hs hg (by rw [hmin]; exact hlen) (fun j v hj => ?_) (by rw [hlen, hcur]; exact hnS) h1, Only.setRow _ hg, Blk.setRow _ hg⟩
    have ha : (⟨k, 0, none⟩ : Addr).add j = ⟨k, j, none⟩ := by unfold Addr.add; split <;> simp_all
    rw [ha, hkW.cell]
    have hjl := lt_of_get hj
    rw [← htk, List.getElem?_take, if_pos (by omega)] at hj
    simpa using hj
end
end Go.Proofs.Ytjfpmolnipiphaa
