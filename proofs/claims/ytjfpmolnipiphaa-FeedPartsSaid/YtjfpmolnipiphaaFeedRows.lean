/- Notices and changes read and written whole. No condition. -/
import Derived.Test.YtjfpmolnipiphaaRingW
namespace Go.Proofs.Ytjfpmolnipiphaa
open Go.RowKit

@[go_sem ↓] theorem loadVar_ntc (a : Addr) : loadVar 42 a = loadBig 42 a := rfl
@[go_sem ↓] theorem storeVar_ntc (a : Addr) (v : Value) : storeVar 42 a v = storeBig 42 a v := rfl
@[go_sem ↓] theorem loadVar_chg (a : Addr) : loadVar 38 a = loadBig 38 a := rfl
@[go_sem ↓] theorem storeVar_chg (a : Addr) (v : Value) : storeVar 38 a v = storeBig 38 a v := rfl
/-- A struct read out of the middle of a block. -/
theorem big_mid {w : World} {b o : Nat} (ty : TypeId) (cs : Array Value) (d : TypeDesc) (hc : ∀ j v, cs.toList[j]? = some v → w.cell? ⟨b, o + j, none⟩ = some v) (hu : Try.prog.underlying ty = some d) (hd : d.isRow = true) (hi : (Try.prog.info? ty).map (·.size) = some cs.size) :
    (loadBig ty ⟨b, o, none⟩).run Try.prog w = .ok (.agg cs) w := run_loadVar_mid w b o ty cs.toList d hc hu hd (by rw [hi]; simp)
/-- A listed block read whole. -/
theorem St.big {w0 : World} {L : List (Nat × TypeId × Array Value)} (i : Nat) {g : Nat} {t : TypeId} {cs : Array Value} (ty : TypeId) (d : TypeDesc) (hi : L[i]? = some (g, t, cs)) (hu : Try.prog.underlying ty = some d) (hd : d.isRow = true) (hz : (Try.prog.info? ty).map (·.size) = some cs.size) :
    ∀ W, St w0 L W → (loadBig ty ⟨g, 0, none⟩).run Try.prog W = .ok (.agg cs) W := fun W h => by
  have hb := h.get i hi
  exact big_mid ty cs d (fun j v hv => by rw [Nat.zero_add, hb.cell j, ← Array.getElem?_toList]; exact hv) hu hd hz
/-- Blocks, and nothing else looked at. -/
theorem bareN {w a : World} {L : List (Nat × TypeId × Array Value)} (hos : a.os = w.os) (ht : a.tape = w.tape) (ho : a.output = w.output) (hn : (L.map (·.1)).Nodup) (h : ∀ x ∈ L, Blk a x.1 x.2.1 x.2.2) : St (bareW w) L a :=
  ⟨⟨hos, ht, ho, Nat.zero_le _, fun k hk => absurd hk (Nat.not_lt_zero k)⟩, hn, fun x hx => ⟨Nat.zero_le _, h x hx⟩⟩
theorem Frame.ofSt {w a : World} {L : List (Nat × TypeId × Array Value)} (h : St w L a) : Frame w a [] := Frame.ofBelow h.below []
/-- Behind a pop: the ring, at the same slice. -/
theorem popped2 {α : Type} {K : RK α} {w W1 : World} {gr g room ix len fr : Nat} {x : α} {q : List α} {cs cs' : Array Value} {z : List Value} (h : RingAt K w gr (.slice (some ⟨g, 0, none⟩) len len) fr len room (x :: q)) (hne : g ≠ gr) (hf : Frame w W1 [g]) (hb : Blk W1 g K.T cs') (he : cs' = putC cs (fr * K.S) z)
    (hz : z.length = K.S) (hcz : cs.size = len * K.S) (hcs : Holds K cs fr len (x :: q)) (hfr : fr < len) (hix : (fr + 1) % len = ix) (n : Nat) :
    RingAt K (((W1.drewN n).setCell ⟨gr, 1, none⟩ (.int .i64 (ix : Int))).setCell ⟨gr, 2, none⟩ (.int .i64 (q.length : Int))) gr (.slice (some ⟨g, 0, none⟩) len len) ix len room q ∧
      Frame w (((W1.drewN n).setCell ⟨gr, 1, none⟩ (.int .i64 (ix : Int))).setCell ⟨gr, 2, none⟩ (.int .i64 (q.length : Int))) [gr, g] := by
  subst he hix
  have hn := h.nlen
  rw [List.length_cons] at hn
  have ho := ((hf.blk h.obj (by simpa using hne.symm)).drewN n).set_ 1 (.int .i64 (((fr + 1) % len : Nat) : Int)) |>.set_ 2 (.int .i64 (q.length : Int))
  have hg := ((hb.drewN n).far (p := ⟨gr, 1, none⟩) hne (.int .i64 (((fr + 1) % len : Nat) : Int))).far (p := ⟨gr, 2, none⟩) hne (.int .i64 (q.length : Int))
  refine ⟨⟨ho, h.room1, h.room2, by omega, h.lenroom, .inr ⟨g, _, rfl, hne, hg, by rw [putC_size]; exact hcz, ring_lt hfr, hcs.pop hfr hn z hz⟩⟩, ?_⟩
  have hf1 : Frame w W1 [gr, g] := hf.mono fun i hi => List.mem_cons_of_mem _ hi
  exact ((hf1.trans (Frame.drewN W1 n _) (fun _ h => h) (fun _ h _ => h)).trans (Frame.setCell _ gr 1 _ List.mem_cons_self) (fun _ h => h) (fun _ h _ => h)).trans (Frame.setCell _ gr 2 _ List.mem_cons_self) (fun _ h => h) (fun _ h _ => h)
theorem putC_all (cs : Array Value) (l : List Value) (h : l.length = cs.size) : putC cs 0 l = l.toArray := by
  apply Array.ext_getElem?
  intro i
  rcases Nat.lt_or_ge i l.length with hi | hi
  · have := putC_in cs 0 l i hi (by omega)
    rw [Nat.zero_add] at this
    rw [this]
    simp
  · rw [putC_far cs 0 l i (by omega), Array.getElem?_eq_none (by omega), Array.getElem?_eq_none (by simpa using hi)]
end Go.Proofs.Ytjfpmolnipiphaa
