/- Layer 22, FeedParts: the plain law: what is told, read against the changes that pass. No condition. -/
import Derived.Test.YtjfpmolnipiphaaFeedA
namespace Go.Proofs.Ytjfpmolnipiphaa
set_option linter.unusedVariables false

/-- A notice: its index, and whether it is a gap. -/
def toE (e : Int × Bool) : Int × (Nat → Int) := (e.1, if e.2 then fun _ => 0 else chf e.1)
def stepT (x : List Int) (g : Int) (e : Int × Bool) : Option (List Int × Int) :=
  match x with
  | [] => none
  | a :: r' => if a = e.1 ∧ g < e.1 then (if e.2 then some (a :: r', e.1) else some (r', 0)) else none
/-- One notice read: what is left of the row, and the gap. -/
def stepR (r : List Int) (g : Int) (e : Int × Bool) : Option (List Int × Int) := stepT (if 0 < g then r.dropWhile (fun x => !(x == e.1)) else r) g e
theorem stepT_more {a : Int} {y r' : List Int} {g g' : Int} {e : Int × Bool} (j : Int) (hx : stepT (a :: y) g e = some (r', g')) : stepT (a :: (y ++ [j])) g e = some (r' ++ [j], g') := by
  unfold stepT at hx ⊢
  simp only at hx ⊢
  by_cases h1 : a = e.1 ∧ g < e.1
  · rw [if_pos h1] at hx ⊢
    by_cases h2 : e.2 = true
    · rw [if_pos h2] at hx ⊢
      injection hx with hx
      injection hx with ha hb
      rw [← ha, ← hb]
      rfl
    · rw [if_neg h2] at hx ⊢
      injection hx with hx
      injection hx with ha hb
      rw [← ha, ← hb]
  · rw [if_neg h1] at hx
    cases hx
def run : List Int → Int → List (Int × Bool) → Option (List Int × Int)
  | r, g, [] => some (r, g)
  | r, g, e :: T => match stepR r g e with
    | some x => run x.1 x.2 T
    | none => none
theorem run_app (T1 T2 : List (Int × Bool)) : ∀ (r : List Int) (g : Int), run r g (T1 ++ T2) = match run r g T1 with | some x => run x.1 x.2 T2 | none => none := by
  induction T1 with
  | nil => intro r g; rfl
  | cons e T1 ih =>
    intro r g
    rw [List.cons_append, run, run]
    cases stepR r g e with
    | none => rfl
    | some x => exact ih x.1 x.2
theorem dropWhile_more (p : Int → Bool) (l : List Int) (j : Int) {a : Int} {l' : List Int} (h : l.dropWhile p = a :: l') : (l ++ [j]).dropWhile p = a :: (l' ++ [j]) := by
  induction l with
  | nil => cases h
  | cons b l ih =>
    rw [List.cons_append]
    rw [List.dropWhile_cons] at h ⊢
    by_cases hb : p b = true
    · rw [if_pos hb] at h ⊢
      exact ih h
    · rw [if_neg hb] at h ⊢
      injection h with h1 h2
      rw [h1, h2]
theorem stepR_more {r r' : List Int} {g g' : Int} {e : Int × Bool} (j : Int) (h : stepR r g e = some (r', g')) : stepR (r ++ [j]) g e = some (r' ++ [j], g') := by
  unfold stepR at h ⊢
  by_cases hg : 0 < g
  · rw [if_pos hg] at h ⊢
    cases hd : r.dropWhile (fun x => !(x == e.1)) with
    | nil => rw [hd] at h; cases h
    | cons a y =>
      rw [dropWhile_more _ r j hd]
      rw [hd] at h
      exact stepT_more j h
  · rw [if_neg hg] at h ⊢
    cases r with
    | nil => cases h
    | cons a y => exact stepT_more j h
theorem run_more (j : Int) (T : List (Int × Bool)) : ∀ (r r' : List Int) (g g' : Int), run r g T = some (r', g') → run (r ++ [j]) g T = some (r' ++ [j], g') := by
  induction T with
  | nil => intro r r' g g' h; injection h with h; injection h with h1 h2; rw [run, h1, h2]
  | cons e T ih =>
    intro r r' g g' h
    rw [run] at h ⊢
    cases hs : stepR r g e with
    | none => rw [hs] at h; cases h
    | some x =>
      rw [hs] at h
      rw [stepR_more j hs]
      exact ih x.1 r' x.2 g' h
theorem dropWhile_all (l : List Int) (j : Int) (h : ∀ x ∈ l, x < j) : (l ++ [j]).dropWhile (fun x => !(x == j)) = [j] := by
  induction l with
  | nil => rw [List.nil_append, List.dropWhile_cons]; simp
  | cons b l ih =>
    rw [List.cons_append, List.dropWhile_cons]
    have hb := h b List.mem_cons_self
    have : (b == j) = false := by simp; omega
    rw [this]
    simp only [Bool.not_false, if_true]
    exact ih fun x hx => h x (List.mem_cons_of_mem _ hx)
/-- The last change, read behind all others. -/
theorem stepR_last {r : List Int} {g j : Int} (b : Bool) (hr : ∀ x ∈ r, x < j) (hg : g < j) (h0 : ¬ 0 < g → r = []) : stepR (r ++ [j]) g (j, b) = some (if b then ([j], j) else ([], 0)) := by
  unfold stepR
  by_cases h : 0 < g
  · rw [if_pos h]
    simp only
    rw [dropWhile_all r j hr]
    unfold stepT
    simp only [hg, and_self, if_true]
    cases b <;> rfl
  · rw [if_neg h, h0 h]
    unfold stepT
    simp only [List.nil_append, hg, and_self, if_true]
    cases b <;> rfl

theorem hearF_len {kd n : Int} {room : Nat} {s : FS} {x : Nat → Int} (h : s.q.length ≤ room) : (hearF kd n room s x).q.length ≤ room := by
  unfold hearF
  repeat' split
  all_goals first | exact h | (simp only [List.length_append, List.length_singleton]; omega)
/-- The changes' indexes that pass, up to m. -/
def wI (kd n : Int) : Nat → List Int
  | 0 => []
  | m + 1 => if passV kd n (chf ((m + 1 : Nat) : Int)) = true then wI kd n m ++ [((m + 1 : Nat) : Int)] else wI kd n m
theorem wI_le (kd n : Int) : ∀ m x, x ∈ wI kd n m → 1 ≤ x ∧ x ≤ (m : Int)
  | 0, x, h => by cases h
  | m + 1, x, h => by
    rw [wI] at h
    split at h
    · rcases List.mem_append.1 h with h | h
      · have := wI_le kd n m x h; omega
      · simp at h; omega
    · have := wI_le kd n m x h; omega
/-- All changes up to m, and those that pass. -/
theorem aQ0_succ (m : Nat) : aQ 0 (m + 1) = aQ 0 m ++ [chf ((m + 1 : Nat) : Int)] := aQ_new (by omega)
theorem aQ0_len : ∀ m, (aQ 0 m).length = m
  | 0 => rfl
  | m + 1 => by rw [aQ0_succ, List.length_append, aQ0_len m]; rfl
theorem aQ0_pass (kd n : Int) : ∀ m, (aQ 0 m).filter (passV kd n) = (wI kd n m).map chf
  | 0 => rfl
  | m + 1 => by
    rw [aQ0_succ, List.filter_append, aQ0_pass kd n m, wI]
    by_cases h : passV kd n (chf ((m + 1 : Nat) : Int)) = true
    · rw [if_pos h, List.map_append]
      simp only [List.filter_cons, h, List.filter_nil, if_true]
      rfl
    · rw [if_neg h]
      have h' : passV kd n (chf ((m + 1 : Nat) : Int)) = false := Bool.eq_false_iff.2 h
      simp only [List.filter_cons, h', List.filter_nil]
      simp

/-- What stands between the deeds. -/
structure Inv (kd n : Int) (room m : Nat) (t q : List (Int × Bool)) (l : Int) (full : Bool) : Prop where
  l0 : 0 ≤ l
  lq : 0 < l → q.length = room
  fu : q.length = room → full = true
  trace : ∃ r g, run (wI kd n m) 0 (t ++ q ++ if 0 < l then [(l, true)] else []) = some (r, g) ∧ 0 ≤ g ∧ g ≤ (m : Int) ∧ (∀ x ∈ r, x ≤ (m : Int)) ∧ (¬ 0 < g → r = []) ∧ (0 < l → 0 < g)
  gap : (∃ e ∈ t ++ q, e.2 = true) ∨ 0 < l → full = true
  pos : ∀ e ∈ t ++ q, 1 ≤ e.1
theorem Inv.start (kd n : Int) {room : Nat} (hr : 1 ≤ room) : Inv kd n room 0 [] [] 0 false :=
  ⟨Int.le_refl _, fun h => by omega, fun h => by simp at h; omega, ⟨[], 0, rfl, Int.le_refl _, by omega, by simp, fun _ => rfl, fun h => by omega⟩, fun h => by simp at h, by simp⟩
theorem Inv.full {kd n : Int} {room m : Nat} {t q : List (Int × Bool)} {l : Int} {full : Bool} (h : Inv kd n room m t q l full) : Inv kd n room m t q l true :=
  ⟨h.l0, h.lq, fun _ => rfl, h.trace, fun _ => rfl, h.pos⟩
theorem Inv.weaken {kd n : Int} {room m : Nat} {t q : List (Int × Bool)} {l : Int} {full b : Bool} (h : Inv kd n room m t q l full) (hb : q.length = room → b = true) (hf : full = true → b = true) : Inv kd n room m t q l b :=
  ⟨h.l0, h.lq, hb, h.trace, fun hx => hf (h.gap hx), h.pos⟩
/-- A change is heard. -/
theorem Inv.hear {kd n : Int} {room m : Nat} {t q : List (Int × Bool)} {l : Int} {full : Bool} (h : Inv kd n room m t q l full) (hq : q.length ≤ room) :
    ∃ q' l', hearF kd n room ⟨(m : Int), l, q.map toE⟩ (chf ((m + 1 : Nat) : Int)) = ⟨((m + 1 : Nat) : Int), l', q'.map toE⟩ ∧ (∀ b, (q'.length = room → b = true) → (full = true → b = true) → Inv kd n room (m + 1) t q' l' b) := by
  obtain ⟨l0, lq, fu, ⟨r, g, hrun, hg0, hgm, hrm, hgr, hlg⟩, gap, pos⟩ := h
  have hm : ¬ ((m + 1 : Nat) : Int) ≤ (m : Int) := by omega
  unfold hearF
  rw [chf_zero, if_neg hm]
  simp only
  by_cases hl : 0 < l
  · rw [if_pos hl]
    refine ⟨q, l, rfl, fun b hb hf => ⟨l0, lq, hb, ?_, fun hx => hf (gap hx), pos⟩⟩
    rw [wI]
    by_cases hp : passV kd n (chf ((m + 1 : Nat) : Int)) = true
    · rw [if_pos hp]
      refine ⟨r ++ [((m + 1 : Nat) : Int)], g, run_more _ _ _ _ _ _ hrun, hg0, by omega, ?_, fun hn => absurd (hlg hl) hn, hlg⟩
      intro x hx
      rcases List.mem_append.1 hx with hx | hx
      · have := hrm x hx; omega
      · simp at hx; omega
    · rw [if_neg hp]
      exact ⟨r, g, hrun, hg0, by omega, fun x hx => by have := hrm x hx; omega, hgr, hlg⟩
  rw [if_neg hl]
  obtain rfl : l = 0 := by omega
  rw [if_neg hl, List.append_nil] at hrun
  cases hp : passV kd n (chf ((m + 1 : Nat) : Int))
  · rw [if_pos rfl]
    refine ⟨q, 0, rfl, fun b hb hf => ⟨l0, lq, hb, ?_, fun hx => hf (gap hx), pos⟩⟩
    rw [wI, if_neg (by rw [hp]; simp), if_neg hl, List.append_nil]
    exact ⟨r, g, hrun, hg0, by omega, fun x hx => by have := hrm x hx; omega, hgr, hlg⟩
  rw [if_neg (by simp)]
  have hlast := fun b => stepR_last (r := r) (g := g) (j := ((m + 1 : Nat) : Int)) b (fun x hx => by have := hrm x hx; omega) (by omega) hgr
  have hmore := run_more ((m + 1 : Nat) : Int) _ _ _ _ _ hrun
  by_cases hlt : q.length < room
  · rw [if_pos (by rw [List.length_map]; exact hlt)]
    refine ⟨q ++ [(((m + 1 : Nat) : Int), false)], 0, by rw [List.map_append]; rfl, fun b hb hf => ⟨l0, fun h => by omega, hb, ?_, ?_, ?_⟩⟩
    · rw [wI, if_pos hp, if_neg hl, List.append_nil, ← List.append_assoc, run_app, hmore]
      simp only
      rw [run, hlast false]
      simp only [run]
      exact ⟨[], 0, rfl, Int.le_refl _, by omega, by simp, fun _ => rfl, fun h => by omega⟩
    · rintro (⟨e, he, hg⟩ | hx)
      · rw [← List.append_assoc] at he
        rcases List.mem_append.1 he with he | he
        · exact hf (gap (.inl ⟨e, he, hg⟩))
        · simp at he
          rw [he] at hg
          cases hg
      · omega
    · intro e he
      rw [← List.append_assoc] at he
      rcases List.mem_append.1 he with he | he
      · exact pos e he
      · simp at he
        rw [he]
        show (1 : Int) ≤ ((m + 1 : Nat) : Int)
        omega
  · rw [if_neg (by rw [List.length_map]; exact hlt)]
    have hqr : q.length = room := by omega
    refine ⟨q, ((m + 1 : Nat) : Int), rfl, fun b hb hf => ⟨by omega, fun _ => hqr, hb, ?_, fun _ => hf (fu hqr), pos⟩⟩
    rw [wI, if_pos hp, if_pos (show (0 : Int) < ((m + 1 : Nat) : Int) by omega), run_app, hmore]
    simp only
    rw [run, hlast true]
    simp only [run]
    exact ⟨[((m + 1 : Nat) : Int)], ((m + 1 : Nat) : Int), rfl, by omega, by omega, fun x hx => by simp at hx; omega, fun h => by omega, fun _ => by omega⟩
/-- The first notice is told. -/
theorem Inv.tell {kd n : Int} {room m : Nat} {t q : List (Int × Bool)} {e : Int × Bool} {full : Bool} (h : Inv kd n room m t (e :: q) 0 full) : ∀ b, (full = true → b = true) → (q.length = room → b = true) → Inv kd n room m (t ++ [e]) q 0 b := fun b hf hb =>
  ⟨h.l0, fun h => by omega, hb, by have := h.trace; rw [show t ++ [e] ++ q = t ++ e :: q by simp]; exact this, fun hx => hf (h.gap (by rw [show t ++ e :: q = t ++ [e] ++ q by simp]; exact hx)), fun x hx => h.pos x (by rw [show t ++ e :: q = t ++ [e] ++ q by simp]; exact hx)⟩
theorem Inv.tell_gap {kd n : Int} {room m : Nat} {t q : List (Int × Bool)} {e : Int × Bool} {l : Int} {full : Bool} (h : Inv kd n room m t (e :: q) l full) (hl : 0 < l) : full = true ∧ Inv kd n room m (t ++ [e]) (q ++ [(l, true)]) 0 true := by
  have hf := h.gap (.inr hl)
  obtain ⟨r, g, hrun, hg0, hgm, hrm, hgr, hlg⟩ := h.trace
  rw [if_pos hl] at hrun
  refine ⟨hf, ⟨Int.le_refl _, fun h => by omega, fun _ => rfl, ⟨r, g, ?_, hg0, hgm, hrm, hgr, fun h => by omega⟩, fun _ => rfl, ?_⟩⟩
  · rw [if_neg (by omega), List.append_nil, show t ++ [e] ++ (q ++ [(l, true)]) = t ++ e :: q ++ [(l, true)] by simp]
    exact hrun
  · intro x hx
    rw [show t ++ [e] ++ (q ++ [(l, true)]) = t ++ e :: q ++ [(l, true)] by simp] at hx
    rcases List.mem_append.1 hx with hx | hx
    · exact h.pos x hx
    · simp at hx
      rw [hx]
      show 1 ≤ l
      omega
theorem app_told {w0 w : World} {L : List (Nat × TypeId × Array Value)} {R : List Ow} {gr room : Nat} {q : List (Int × (Nat → Int))} {v : Value} {t : List (Int × Bool)} {e : Int × Bool}
    (hR : RG KN w0 L (⟨v, 42, 12, (t.map toE).length + 1, KN.flat (t.map toE) ++ (#[.int .i64 (toE e).1, .int .i64 ((toE e).2 0), .int .i64 ((toE e).2 1), .int .i64 ((toE e).2 2), .int .i64 ((toE e).2 3), .int .i64 ((toE e).2 4), .int .i64 ((toE e).2 5), .int .i64 ((toE e).2 6), .int .i64 ((toE e).2 7), .int .i64 ((toE e).2 8), .int .i64 ((toE e).2 9), .int .i64 ((toE e).2 10)] : Array Value).toList⟩ :: R) gr room q w) : RG KN w0 L (⟨v, 42, 12, ((t ++ [e]).map toE).length, KN.flat ((t ++ [e]).map toE)⟩ :: R) gr room q w := by
  rw [List.map_append, List.map_cons, List.map_nil, List.length_append, List.length_singleton, ← KN.snoc]
  exact hR
theorem gap_toE (q : List (Int × Bool)) (l : Int) : q.map toE ++ [(l, fun _ => 0)] = (q ++ [(l, true)]).map toE := by rw [List.map_append]; rfl
end Go.Proofs.Ytjfpmolnipiphaa
