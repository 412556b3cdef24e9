/- Layer 22: feed.Hear: changes in a row. No condition. -/
import Derived.Test.YtjfpmolnipiphaaFeed4
import Derived.Deep.LoopGhost
namespace Go.Proofs.Ytjfpmolnipiphaa
open Go.RowKit
set_option linter.unusedVariables false
set_option linter.unusedSimpArgs false

theorem RG.permL {α : Type} {K : RK α} {w0 a : World} {L L' : List (Nat × TypeId × Array Value)} {R : List Ow} {gr room : Nat} {q : List α} (h : RG K w0 L R gr room q a) (hp : L.Perm L') : RG K w0 L' R gr room q a :=
  h.lift (h.sr.perm hp) (Frame.refl a []) (by simp) (fun k hk => .inl ((hp.map _).mem_iff.2 hk)) (fun r hr k hk => .inl ⟨r, hr, hk⟩)
section
variable {rest : List Oper} {o : Oper} {a : Act} {w0 w : World} {Q : Exit → Act → World → Prop} {L : List (Nat × TypeId × Array Value)} {R : List Ow} {α : Type} {K : RK α} {gr room : Nat} {q : List α}
/-- A whole struct stored into the block that was just made, beside a ring. -/
theorem store_newF {P : Program} {ops : Array Oper} (hS : RG K w0 L R gr room q w) (hgd : o.guard = none) (hd : o.dst = none) (ty : TypeId) (x y : Operand) (ho : o.op = .store ty x y) (t : TypeId) (old cells : Array Value) (hx : a.eval x = .pointer (some ⟨w.heap.size, 0, none⟩)) (hy : a.eval y = .agg cells)
    (hi : (P.info? ty).map (·.size) = some cells.size) (hold : old.size = cells.size) (h1 : cells.all (·.oneCell') = true)
    (h : ∀ w2, RG K w0 ((w.heap.size, t, cells) :: L) R gr room q w2 → w.heap.size < w2.heap.size → wpList P ops Q rest a w2) : wpList P ops Q (o :: rest) a (w.alloc (.cells old t)) :=
  store_blk hgd ty x y ho w.heap.size cells hx hy t old hi hold h1 (Blk.new _ _ _) fun w2 ho hb => by rw [hd]; exact h w2 ((hS.alloc t old).setAt 0 rfl ho hb) hb.lt
/-- A whole struct stored into a listed block, beside a ring. -/
theorem store_atF {P : Program} {ops : Array Oper} (hS : RG K w0 L R gr room q w) (hgd : o.guard = none) (hd : o.dst = none) (ty : TypeId) (x y : Operand) (ho : o.op = .store ty x y) (i g : Nat) (t : TypeId) (old cells : Array Value) (hL : L[i]? = some (g, t, old)) (hx : a.eval x = .pointer (some ⟨g, 0, none⟩)) (hy : a.eval y = .agg cells)
    (hi : (P.info? ty).map (·.size) = some cells.size) (hold : old.size = cells.size) (h1 : cells.all (·.oneCell') = true)
    (h : ∀ w2, RG K w0 (L.set i (g, t, cells)) R gr room q w2 → wpList P ops Q rest a w2) : wpList P ops Q (o :: rest) a w :=
  store_blk hgd ty x y ho g cells hx hy t old hi hold h1 (hS.sr.st.get i hL) fun w2 ho hb => by rw [hd]; exact h w2 (hS.setAt i hL ho hb)
end
/-- What changes in a feed: the greatest index, what was lost, and what waits. -/
structure FS where
  hd : Int
  l : Int
  q : List (Int × (Nat → Int))
/-- A change is heard. -/
def hearF (kd n : Int) (room : Nat) (s : FS) (x : Nat → Int) : FS :=
  if x 0 ≤ s.hd then s else if 0 < s.l then ⟨x 0, s.l, s.q⟩ else if passV kd n x = false then ⟨x 0, s.l, s.q⟩ else if s.q.length < room then ⟨x 0, s.l, s.q ++ [(x 0, x)]⟩ else ⟨x 0, x 0, s.q⟩
theorem hearF_l {kd n : Int} {room : Nat} {s : FS} {x : Nat → Int} (h : 0 ≤ s.l) (hx : 0 ≤ x 0) : 0 ≤ (hearF kd n room s x).l := by
  unfold hearF
  repeat' split
  all_goals simp_all
abbrev FGS (w0 : World) (L : List (Nat × TypeId × Array Value)) (R : List Ow) (gf gr room : Nat) (kd n : Int) (s : FS) (w : World) : Prop := FG w0 L R gf gr room true kd n s.hd s.l s.q w
section
variable {w0 w : World} {L : List (Nat × TypeId × Array Value)} {R : List Ow} {gf gr room : Nat} {kd n : Int} {s : FS}
theorem FGS.len (h : FGS w0 L R gf gr room kd n s w) : s.q.length ≤ room := by
  obtain ⟨v, fr, len, hr, _⟩ := h.ring
  exact Nat.le_trans hr.nlen hr.lenroom
theorem hear_any (h : FGS w0 L R gf gr room kd n s w) (hl : 0 ≤ s.l) (x : Nat → Int) : Calls Try.prog 23 #[.pointer (some ⟨gf, 0, none⟩), .agg (CC x)] w fun e w' => e = .returned (.tuple #[]) ∧ FGS w0 L R gf gr room kd n (hearF kd n room s x) w' := by
  have hlen := FGS.len h
  obtain ⟨hd, l, q⟩ := s
  unfold hearF
  simp only at hlen hl ⊢
  by_cases h1 : x 0 ≤ hd
  · rw [if_pos h1]
    exact hear_old h x h1
  rw [if_neg h1]
  by_cases h2 : 0 < l
  · rw [if_pos h2]
    exact hear_lost h x (Int.not_le.1 h1) h2
  rw [if_neg h2]
  obtain rfl : l = 0 := by omega
  cases hp : passV kd n x
  · rw [if_pos rfl]
    exact hear_no h x (Int.not_le.1 h1) hp
  rw [if_neg (by simp)]
  by_cases h3 : q.length < room
  · rw [if_pos h3]
    exact hear_push h x (Int.not_le.1 h1) hp h3
  · rw [if_neg h3]
    exact hear_full h x (Int.not_le.1 h1) hp (show q.length = room by omega)
set_option maxRecDepth 100000 in
set_option maxHeartbeats 2000000 in
theorem Hear_any (xs : List (Nat → Int)) {gs : Nat} {cs : Array Value} (h : FGS w0 ((gs, 38, cs) :: L) R gf gr room kd n s w) (hl : 0 ≤ s.l) (hx0 : ∀ x ∈ xs, 0 ≤ x 0) (hm : xs.length ≤ 100) (hm2 : s.q.length ≤ 65536)
    (hcs : ∀ i x, xs[i]? = some x → ∀ j v, (CC x).toList[j]? = some v → cs[i * 11 + j]? = some v) :
    Calls Try.prog 9 #[.pointer (some ⟨gf, 0, none⟩), .slice (some ⟨gs, 0, none⟩) xs.length xs.length] w fun e w' =>
      e = .returned (.int .i64 (((xs.foldl (hearF kd n room) s).q.length : Int) - (s.q.length : Int))) ∧ FGS w0 ((gs, 38, cs) :: L) R gf gr room kd n (xs.foldl (hearF kd n room) s) w' := by
  have c0 : w.cell? ⟨gf, 0, none⟩ = some (.pointer (some ⟨gr, 0, none⟩)) := (h.sr.st.get 0 rfl).cell 0
  have hrm : room ≤ 65536 := by
    obtain ⟨v, fr, len, hr, _⟩ := h.ring
    exact hr.room2
  have H := Lib.hid h
  have HL := Lib.hid hl
  have HX := Lib.hid hx0
  have HC := Lib.hid hcs
  have HRM := Lib.hid hrm
  have HM2 := Lib.hid hm2
  have hmz : (xs.length : Int) ≤ 100 := by omega
  clear h hl hx0 hcs hm hrm hm2
  go_enter Try.func9, Try.ntmps9
  go_wp2_with (first
    | (go_at_call 17; refine (isOn_any H.out).mono ?_; rintro e w1 ⟨rfl, rfl⟩)
    | (go_at_call 22; refine (KN.len_rg (n := s.q.length) H.out rfl).mono ?_; rintro e w2 ⟨rfl, rfl⟩))
  go_loopg [18] xs.length (fun m i wr => ∃ k : Nat, m + k = xs.length ∧ i = .int .i64 k ∧ FGS w0 ((gs, 38, cs) :: L) R gf gr room kd n ((xs.take k).foldl (hearF kd n room) s) wr ∧ 0 ≤ ((xs.take k).foldl (hearF kd n room) s).l)
  case atStart => exact ⟨0, by omega, rfl, H.out, HL.out⟩
  case round =>
    clear c0
    obtain ⟨k, hk, rfl, hR, hl⟩ := hrel
    have k0 : (0 : Int) ≤ (k : Int) := by omega
    by_cases hlt : k < xs.length
    · have hkz : (k : Int) < (xs.length : Int) := by omega
      obtain ⟨x, hx⟩ : ∃ x, xs[k]? = some x := ⟨_, List.getElem?_eq_getElem hlt⟩
      have hb := hR.sr.st.get 1 rfl
      have ld : (loadBig 38 ⟨gs, k * 11, none⟩).run Try.prog wr = .ok (.agg (CC x)) wr := big_mid 38 (CC x) _ (fun j v hj => (hb.cell _).trans (HC.out k x hx j v hj)) Try.underlying38 rfl (by kernel_rfl)
      have htk : (xs.take (k + 1)).foldl (hearF kd n room) s = hearF kd n room ((xs.take k).foldl (hearF kd n room) s) x := by
        have hy' : xs[k] = x := by rw [List.getElem?_eq_getElem hlt] at hx; injection hx
        rw [List.take_succ_eq_append_getElem hlt, List.foldl_append, hy']
        rfl
      have hxx := HX.out x (List.mem_of_getElem? hx)
      have hl2 := hearF_l (kd := kd) (n := n) (room := room) hl hxx
      obtain ⟨t, ht⟩ : ∃ t, (xs.take k).foldl (hearF kd n room) s = t := ⟨_, rfl⟩
      rw [ht] at hR hl htk hl2
      have HTK := Lib.hid htk
      have HK := Lib.hid hk
      have HLT := Lib.hid hlt
      have HL1 := Lib.hid hl
      have HL2 := Lib.hid hl2
      clear hk hx hlt hl htk ht hb hxx hl2
      go_wp2_with (first
        | (refine store_newF hR rfl rfl 38 _ _ rfl 38 _ (CC x) rfl rfl (by kernel_rfl) rfl (by simp [Value.oneCell']) ?_; intro w2 hR2 hlt2; generalize wr.heap.size = gt at hR2 hlt2 ⊢; clear hlt2 hR ld; have ld2 := St.big (w0 := w0) 0 38 _ rfl Try.underlying38 rfl (by kernel_rfl) w2 hR2.sr.st; have HR2 := Lib.hid (hR2.permL (List.Perm.swap _ _ _)); clear hR2)
        | (go_at_call 23; refine (hear_any HR2.out HL1.out x).mono ?_; rintro e w3 ⟨rfl, hR3⟩; clear ld2))
      go_roundg (gk - 1)
      case measure => have := HK.out; have := HLT.out; omega
      case rel => exact ⟨k + 1, by have := HK.out; have := HLT.out; omega, by go_num, by rw [HTK.out]; exact hR3.sub (List.Sublist.cons_cons _ (List.sublist_cons_self _ _)), by rw [HTK.out]; exact HL2.out⟩
    · obtain rfl : k = xs.length := by omega
      rw [List.take_length] at hR hl
      have c0 : wr.cell? ⟨gf, 0, none⟩ = some (.pointer (some ⟨gr, 0, none⟩)) := (hR.sr.st.get 0 rfl).cell 0
      obtain ⟨t, ht⟩ : ∃ t, xs.foldl (hearF kd n room) s = t := ⟨_, rfl⟩
      rw [ht] at hR
      have HT := Lib.hid ht
      have hlen := FGS.len hR
      have e1 : IntKind.i64.wrap ((t.q.length : Int) - (s.q.length : Int)) = (t.q.length : Int) - (s.q.length : Int) := IntWalk.i64_in _ (by have := HRM.out; have := HM2.out; omega)
      have HR := Lib.hid hR
      clear hlt hk hR hl hlen ht
      go_wp2_with (go_at_call 22; refine (KN.len_rg (n := t.q.length) HR.out rfl).mono ?_; rintro e w2 ⟨rfl, rfl⟩)
      go_ret
      rw [HT.out]
      exact ⟨rfl, HR.out⟩
end
end Go.Proofs.Ytjfpmolnipiphaa
