/- The statement SiteNames, walked: for every configuration, place, name and number the Go law returns true, and nothing that was in memory is changed. No condition. -/
import Derived.Test.YtdnkdanpcbjnbaaSite9
import Derived.Test.YtdnkdanpcbjnbaaBox
import Derived.Deep.DrawnRows
namespace Go.Proofs.Ytdnkdanpcbjnbaa
open Go.RowKit
attribute [local go_sem ↓] Go.wp_at_zero Go.wp_at_succ

/-- Whether a name is among the first k ones. -/
def knownV (nm : ByteArray) (k : Nat) : Bool := (List.range k).any fun j => nm.toList == (nameAt j).toList

theorem known_succ_t {nm : ByteArray} {k : Nat} (h : knownV nm k = true) : knownV nm (k + 1) = true := by
  unfold knownV at h ⊢
  rw [List.range_succ, List.any_append, h]
  rfl
theorem known_succ_f {nm : ByteArray} {k : Nat} (h : knownV nm k = false) : knownV nm (k + 1) = (nm.toList == (nameAt k).toList) := by
  unfold knownV at h ⊢
  rw [List.range_succ, List.any_append, h]
  simp

theorem nameB_at (k : Nat) (hk : k < 17) : nameB k = (nameAt k).toList := by
  rw [ByteArray.toList_eq]
  have : k = 0 ∨ k = 1 ∨ k = 2 ∨ k = 3 ∨ k = 4 ∨ k = 5 ∨ k = 6 ∨ k = 7 ∨ k = 8 ∨ k = 9 ∨ k = 10 ∨ k = 11 ∨ k = 12 ∨ k = 13 ∨ k = 14 ∨ k = 15 ∨ k = 16 := by omega
  rcases this with rfl | rfl | rfl | rfl | rfl | rfl | rfl | rfl | rfl | rfl | rfl | rfl | rfl | rfl | rfl | rfl | rfl <;> rfl

theorem find_name (k : Nat) (hk : k < 17) : findIx (nameAt k) = k := by
  have : k = 0 ∨ k = 1 ∨ k = 2 ∨ k = 3 ∨ k = 4 ∨ k = 5 ∨ k = 6 ∨ k = 7 ∨ k = 8 ∨ k = 9 ∨ k = 10 ∨ k = 11 ∨ k = 12 ∨ k = 13 ∨ k = 14 ∨ k = 15 ∨ k = 16 := by omega
  rcases this with rfl | rfl | rfl | rfl | rfl | rfl | rfl | rfl | rfl | rfl | rfl | rfl | rfl | rfl | rfl | rfl | rfl <;> decide +kernel
theorem is_name (k : Nat) (hk : k < 17) : isName (nameAt k) = true := by
  unfold isName
  rw [find_name k hk]
  exact decide_eq_true hk
theorem get_name (c : Nat → Int) (k : Nat) (hk : k < 17) : getV c (nameAt k) = c k := by
  unfold getV
  rw [find_name k hk, if_pos hk]
/-- A configuration with number k turned. -/
def putV (c : Nat → Int) (k : Nat) (n : Int) : Nat → Int := fun j => if j = k then n else c j
theorem set_name (c : Nat → Int) (k : Nat) (hk : k < 17) (n : Int) : setV c (nameAt k) n = putV c k n := by
  unfold setV putV
  rw [find_name k hk]
  funext j
  simp [hk]

/-- A name that is none of these is not found. -/
theorem unknown {nm : ByteArray} (h : knownV nm 17 = false) : isName nm = false := by
  have hm : findIx nm = 17 := find_miss fun j hj => by
    unfold knownV at h
    have h2 := List.any_eq_false.1 h j (by simpa using hj)
    rw [nameB_at j hj]
    simp only [Bool.not_eq_true] at h2
    rw [beq_eq_false_iff_ne] at h2 ⊢
    exact fun e => h2 e.symm
  unfold isName
  rw [hm]
  rfl

theorem arr_at {c : Nat → Int} {k : Nat} (hk : k < 17) : (arrCells c)[k]? = some (.int .i64 (c k)) := by
  have : k = 0 ∨ k = 1 ∨ k = 2 ∨ k = 3 ∨ k = 4 ∨ k = 5 ∨ k = 6 ∨ k = 7 ∨ k = 8 ∨ k = 9 ∨ k = 10 ∨ k = 11 ∨ k = 12 ∨ k = 13 ∨ k = 14 ∨ k = 15 ∨ k = 16 := by omega
  rcases this with rfl | rfl | rfl | rfl | rfl | rfl | rfl | rfl | rfl | rfl | rfl | rfl | rfl | rfl | rfl | rfl | rfl <;> rfl
theorem arr_set (c : Nat → Int) (k : Nat) (hk : k < 17) (n : Int) : (arrCells c).setIfInBounds k (.int .i64 n) = arrCells (putV c k n) := by
  have : k = 0 ∨ k = 1 ∨ k = 2 ∨ k = 3 ∨ k = 4 ∨ k = 5 ∨ k = 6 ∨ k = 7 ∨ k = 8 ∨ k = 9 ∨ k = 10 ∨ k = 11 ∨ k = 12 ∨ k = 13 ∨ k = 14 ∨ k = 15 ∨ k = 16 := by omega
  rcases this with rfl | rfl | rfl | rfl | rfl | rfl | rfl | rfl | rfl | rfl | rfl | rfl | rfl | rfl | rfl | rfl | rfl <;> rfl

theorem eqItems_same {P : Program} {w : World} (d : Nat) (e : TypeId) (n : Nat) (xs : Array Value) : ∀ is : List Nat, (∀ i ∈ is, ∃ a, (part e xs (i * n)).run P w = .ok a w ∧ (Op.equalIn d e a a).run P w = .ok true w) → (Op.eqItems d e n xs xs is).run P w = .ok true w
  | [], _ => by simp [Op.eqItems]
  | i :: is, h => by
    obtain ⟨a, h1, h2⟩ := h i List.mem_cons_self
    have ih := eqItems_same d e n xs is fun j hj => h j (List.mem_cons_of_mem _ hj)
    simp only [Op.eqItems, Sem.run_bind, h1, h2, Result.andThen_ok]
    simpa using ih
theorem eq_arr (c : Nat → Int) (w : World) : (Op.equalIn 10000 40 (.agg (arrCells c)) (.agg (arrCells c))).run Try.prog w = .ok true w := by
  obtain ⟨i, hi⟩ := Option.isSome_iff_exists.1 (show (Try.prog.info? 3).isSome = true by kernel_rfl)
  rw [show (10000 : Nat) = 9999 + 1 from rfl, run_equalIn_array (P := Try.prog) w 9999 _ _ Try.underlying40 hi]
  have hc : Try.prog.cellsOf 3 = 1 := by kernel_rfl
  rw [hc]
  refine eqItems_same _ _ _ _ _ fun j hj => ⟨.int .i64 (c j), ?_, ?_⟩
  · have hj17 : j < 17 := by simpa using hj
    have : j = 0 ∨ j = 1 ∨ j = 2 ∨ j = 3 ∨ j = 4 ∨ j = 5 ∨ j = 6 ∨ j = 7 ∨ j = 8 ∨ j = 9 ∨ j = 10 ∨ j = 11 ∨ j = 12 ∨ j = 13 ∨ j = 14 ∨ j = 15 ∨ j = 16 := by omega
    rcases this with rfl | rfl | rfl | rfl | rfl | rfl | rfl | rfl | rfl | rfl | rfl | rfl | rfl | rfl | rfl | rfl | rfl <;> rfl
  · rw [run_equalIn_int w 9998 _ _ _ _ _ Try.underlying3, beq_self_eq_true]

/-! ### the contracts at a name that is known, or none -/
theorem get_at (c : Nat → Int) (s : Int) (k : Nat) (hk : k < 17) (w : World) :
    Calls Try.prog 18 #[.agg (cfgCells c s), .string (nameAt k)] w fun e w' => e = .returned (.tuple #[.int .i64 (c k), .bool true]) ∧ Below w.heap.size w w' :=
  (get_any c s (nameAt k) w).mono fun _ _ ⟨he, hb⟩ => ⟨by rw [he, get_name c k hk, is_name k hk], hb⟩
theorem set_at (c : Nat → Int) (s : Int) (k : Nat) (hk : k < 17) (n : Int) (w : World) :
    Calls Try.prog 19 #[.agg (cfgCells c s), .string (nameAt k), .int .i64 n] w fun e w' => e = .returned (.tuple #[.agg (cfgCells (putV c k n) s), .bool true]) ∧ Below w.heap.size w w' :=
  (set_any c s (nameAt k) n w).mono fun _ _ ⟨he, hb⟩ => ⟨by rw [he, set_name c k hk, is_name k hk], hb⟩
theorem get_un (c : Nat → Int) (s : Int) {nm : ByteArray} (h : isName nm = false) (w : World) :
    Calls Try.prog 18 #[.agg (cfgCells c s), .string nm] w fun e w' => e = .returned (.tuple #[.int .i64 0, .bool false]) ∧ Below w.heap.size w w' :=
  (get_any c s nm w).mono fun _ _ ⟨he, hb⟩ => ⟨by rw [he, h]; unfold getV; unfold isName at h; rw [if_neg (of_decide_eq_false h)], hb⟩
theorem set_un (c : Nat → Int) (s : Int) {nm : ByteArray} (h : isName nm = false) (n : Int) (w : World) :
    Calls Try.prog 19 #[.agg (cfgCells c s), .string nm, .int .i64 n] w fun e w' => e = .returned (.tuple #[.agg (cfgCells c s), .bool false]) ∧ Below w.heap.size w w' :=
  set_no c s nm n w (of_decide_eq_false h)

theorem mod17 (x : Int) : ∃ k : Nat, k < 17 ∧ (IntKind.u64.wrap x).tmod 17 = (k : Int) := by
  have h0 : 0 ≤ IntKind.u64.wrap x := by
    have : (0 : Int) ≤ x % 18446744073709551616 := Int.emod_nonneg _ (by decide)
    exact this
  obtain ⟨m, hm⟩ := Int.eq_ofNat_of_zero_le h0
  refine ⟨m % 17, Nat.mod_lt _ (by omega), ?_⟩
  rw [hm]
  rfl

set_option maxRecDepth 100000 in
set_option maxHeartbeats 2000000 in
theorem names_law (c : Nat → Int) (s at_ n : Int) (nm : ByteArray) (w : World) :
    Calls Try.prog 4 #[.agg (cfgCells c s), .int .i64 at_, .string nm, .int .i64 n] w fun e w' => e = .returned (.bool true) ∧ Below w.heap.size w w' := by
  have hS := (St.nil w).alloc 24 (cfgCells c s)
  go_enter Try.func4, Try.ntmps4
  go_wp2_with (first
    | (go_at_call 7; refine (awake7 _).mono ?_; rintro e w1 ⟨rfl, hB⟩; replace hS := hS.step hB; clear hB)
    | (go_at_call 16; refine (rnames_any _).mono ?_; rintro e w2 ⟨rfl, hB⟩; replace hS := hS.step hB; clear hB)
    | (refine store_new hS rfl rfl 31 _ _ rfl 31 _ nameCells rfl rfl (by kernel_rfl) rfl (by simp [Value.oneCell']) ?_; intro w3 hS3 hlt3; clear hS))
  refine (names_any _).mono ?_
  rintro e w4 ⟨v, rfl, ⟨g, cap, cur, rfl, hg1, hg2, hg3⟩, hB⟩
  have hN := hS3.call_new hB hg1 hg2
  clear hS3 hg1 hg2 hB hlt3
  generalize w2.heap.size = gn at hN ⊢
  go_wp2_with fail
  have HG := Lib.hid hg3
  clear hg3
  go_loopw [11, 12] (fun kn i wr => ∃ k : Nat, k ≤ 17 ∧ i = .int .i64 k ∧ kn = .bool (knownV nm k) ∧ St w [(g, 9, cur), (gn, 31, nameCells), (w.heap.size, 24, cfgCells c s)] wr) (fun _ i _ => 17 - (intOf i).toNat)
  case atStart => exact ⟨0, by omega, rfl, rfl, hN⟩
  case round =>
    clear hN
    obtain ⟨k, hk, rfl, rfl, hN⟩ := hrel
    by_cases hlt : k < 17
    · have q1 := St.cell 0 rfl k (HG.out k hlt) _ hN
      have q2 := St.cell 1 rfl k (nameCells_at k hlt) _ hN
      have k0 : (0 : Int) ≤ (k : Int) := by omega
      have k1 : (k : Int) < 17 := by omega
      cases hkn : knownV nm k
      · have HK := Lib.hid (known_succ_f hkn)
        clear hkn
        go_wp2_with fail
        go_quiet (fail)
        go_wp2
        exact ⟨⟨k + 1, by omega, by go_num, congrArg Value.bool HK.out.symm, hN.drewN _⟩, by simp [intOf]; omega⟩
      · have HK := Lib.hid (known_succ_t hkn)
        clear hkn
        go_wp2_with fail
        go_quiet (fail)
        go_wp2
        exact ⟨⟨k + 1, by omega, by go_num, congrArg Value.bool HK.out.symm, hN.drewN _⟩, by simp [intOf]; omega⟩
    · obtain rfl : k = 17 := by omega
      clear hlt
      obtain ⟨kn, hkn⟩ : ∃ kn, knownV nm 17 = kn := ⟨_, rfl⟩
      rw [hkn]
      have HK := Lib.hid hkn
      clear hkn
      go_upto_if 51 with (fail)
      go_cut [] (fun wx => St w [(g, 9, cur), (gn, 31, nameCells), (w.heap.size, 24, cfgCells c s)] wx)
      case first =>
        cases kn
        · have HU := Lib.hid (unknown HK.out)
          have HL := St.loadC (L := [(g, 9, cur), (gn, 31, nameCells), (w.heap.size, 24, cfgCells c s)]) (w0 := w) 2 rfl
          go_wp2_with (first
            | (go_at_call 18; refine (get_un _ _ HU.out _).mono ?_; rintro e w5 ⟨rfl, hB⟩; replace hN := hN.step hB; clear hB)
            | (go_at_call 19; refine (set_un _ _ HU.out _ _).mono ?_; rintro e w6 ⟨rfl, hB⟩; replace hN := hN.step hB; clear hB)
            | (refine new_cfg hN rfl rfl _ _ rfl _ _ rfl rfl _ rfl ?_; intro w7 hN7 _; clear HL; have HL := St.loadC (L := [(w6.heap.size, 24, cfgCells c s), (g, 9, cur), (gn, 31, nameCells), (w.heap.size, 24, cfgCells c s)]) (w0 := w) 3 rfl _ hN7; have HL2 := St.loadC (L := [(w6.heap.size, 24, cfgCells c s), (g, 9, cur), (gn, 31, nameCells), (w.heap.size, 24, cfgCells c s)]) (w0 := w) 0 rfl _ hN7))
          go_meet
          exact hN7.sub (List.sublist_cons_self _ _)
        · go_wp2_with fail
          go_meet
          exact hN
      case rest =>
      clear hN HK
      obtain ⟨k, hk17, hk⟩ := mod17 at_
      have k0 : (0 : Int) ≤ (k : Int) := by omega
      have k1 : (k : Int) < 17 := by omega
      have HK := Lib.hid hk17
      clear hk17
      have HL := St.loadC (L := [(g, 9, cur), (gn, 31, nameCells), (w.heap.size, 24, cfgCells c s)]) (w0 := w) 2 rfl
      have HC := St.cell (L := [(g, 9, cur), (gn, 31, nameCells), (w.heap.size, 24, cfgCells c s)]) (w0 := w) 1 rfl k (nameCells_at k HK.out)
      go_wp2_with fail
      have hS0 := hcut.drew
      go_region_held3 (St w [(g, 9, cur), (gn, 31, nameCells), (w.heap.size, 24, cfgCells c s)]) (assumption) ((go_at_call 18; refine (get_at _ _ _ HK.out _).mono ?_; rintro e w9 ⟨rfl, hB⟩; have hS9 := hS0.step hB))
      go_upto_region 21 with (fail)
      go_cut [20, 21] (fun a b wx => ∃ gd, a = .pointer (some ⟨gd, 0, none⟩) ∧ b = .bool true ∧ St w ((gd, 24, cfgCells (putV c k n) s) :: [(g, 9, cur), (gn, 31, nameCells), (w.heap.size, 24, cfgCells c s)]) wx)
      case first =>
        have hS1 := hS9.drew
        have hS2 : St w ((w9.heap.size, 24, cfgCells (fun _ => 0) 0) :: [(g, 9, cur), (gn, 31, nameCells), (w.heap.size, 24, cfgCells c s)]) (w9.drew.alloc (.cells (cfgCells (fun _ => 0) 0) 24)) := hS1.alloc 24 (cfgCells (fun _ => 0) 0)
        have HN := snew (putV c k n) s
        go_region_held3 (St w [(g, 9, cur), (gn, 31, nameCells), (w.heap.size, 24, cfgCells c s)]) ((first | assumption | exact St.old (by assumption) _ | exact St.putNew' (by assumption) _ _ _ | exact St.put' (by assumption) _)) ((go_at_call 19; refine (set_at _ _ _ HK.out _ _).mono ?_; rintro e w10 ⟨rfl, hB⟩; (first | (have hS10 := hS2.step hB; have hS11 := hS10.sub (List.sublist_cons_self _ _); have HT := @scfg (putV c k n) s _ _ _ (hS10.get 0 rfl) rfl) | (have hS11 := hS1.step hB))))
        all_goals
          go_wp2_with fail
          go_meet
          first | exact ⟨_, rfl, rfl, hS11.putNew _ _ _⟩ | exact ⟨_, rfl, rfl, hS10.put _⟩
      case rest =>
      obtain ⟨gd, rfl, rfl, hS5⟩ := hcut
      clear hS0 hS9 HL HC
      have HL4 := St.loadC (L := [(gd, 24, cfgCells (putV c k n) s), (g, 9, cur), (gn, 31, nameCells), (w.heap.size, 24, cfgCells c s)]) (w0 := w) 3 rfl _ hS5
      go_wp2_with (first
        | (go_at_call 20; refine (list_any _ _ _).mono ?_; rintro e w12 ⟨rfl, hB⟩; replace hS5 := hS5.step hB; clear hB HL4)
        | (refine store_new hS5 rfl rfl 40 _ _ rfl 40 _ (arrCells c) rfl rfl (by kernel_rfl) rfl (by simp [Value.oneCell']) ?_; intro w13 hS13 hlt13; generalize w12.heap.size = ga at hS13 hlt13 ⊢; clear hS5; have q1 := St.cell (L := [(ga, 40, arrCells c), (gd, 24, cfgCells (putV c k n) s), (g, 9, cur), (gn, 31, nameCells), (w.heap.size, 24, cfgCells c s)]) (w0 := w) 0 rfl k (arr_at HK.out) _ hS13; have q2 := St.cell (L := [(ga, 40, arrCells c), (gd, 24, cfgCells (putV c k n) s), (g, 9, cur), (gn, 31, nameCells), (w.heap.size, 24, cfgCells c s)]) (w0 := w) 1 rfl 17 rfl _ hS13; have q3 := St.cell (L := [(ga, 40, arrCells c), (gd, 24, cfgCells (putV c k n) s), (g, 9, cur), (gn, 31, nameCells), (w.heap.size, 24, cfgCells c s)]) (w0 := w) 4 rfl 17 rfl _ hS13; have q4 := St.froz (L := [(ga, 40, arrCells c), (gd, 24, cfgCells (putV c k n) s), (g, 9, cur), (gn, 31, nameCells), (w.heap.size, 24, cfgCells c s)]) (w0 := w) 0 rfl k _ hS13))
      have hS14 := hS13.setCellAt 0 rfl k (.int .i64 n)
      rw [arr_set c k HK.out n] at hS14
      simp only [List.set_cons_zero] at hS14
      clear q1 q2 q3 q4 hS13
      have HA := St.loadA (L := [(ga, 40, arrCells (putV c k n)), (gd, 24, cfgCells (putV c k n) s), (g, 9, cur), (gn, 31, nameCells), (w.heap.size, 24, cfgCells c s)]) (w0 := w) 0 rfl rfl
      have HD := St.loadC (L := [(ga, 40, arrCells (putV c k n)), (gd, 24, cfgCells (putV c k n) s), (g, 9, cur), (gn, 31, nameCells), (w.heap.size, 24, cfgCells c s)]) (w0 := w) 1 rfl
      have hS15 := hS14.drew
      have HE := eq_arr (putV c k n)
      refine wp_region_held_drew (S := St w [(ga, 40, arrCells (putV c k n)), (gd, 24, cfgCells (putV c k n) s), (g, 9, cur), (gn, 31, nameCells), (w.heap.size, 24, cfgCells c s)]) (by kernel_rfl) hS15 (fun hHeld => ?_)
      refine wpAnyH_take (i := 0) (oi := { dst := some 124, op := Op.load 24 (Operand.tmp 20), type := 24, pos := "law.go:65", after := #[], guard := none }) (v := ?_) rfl (by kernel_rfl) (by kernel_rfl) (by kernel_rfl) (fun _ _ _ h => h) (Or.inl ⟨by rfl, ?_⟩) (by assumption) ?_
      rotate_left
      · (intro W hSw; go_simp; first | done | with_reducible rfl)
      try simp only [Act.put, List.setIfInBounds_toArray, List.set_cons_zero, List.set_cons_succ]
      refine wpAnyH_take (i := 2) (oi := { dst := some 126, op := Op.load 40 (Operand.tmp 22), type := 40, pos := "law.go:65", after := #[], guard := none }) (v := ?_) rfl (by kernel_rfl) (by kernel_rfl) (by kernel_rfl) (fun _ _ _ h => h) (Or.inl ⟨by rfl, ?_⟩) (by assumption) ?_
      rotate_left
      · (intro W hSw; go_simp; first | done | with_reducible rfl)
      try simp only [Act.put, List.setIfInBounds_toArray, List.set_cons_zero, List.set_cons_succ]
      refine wpAnyH_ready (rs := [1]) (by kernel_rfl) (by simp) ?_
      refine AllReadyH.cons (o := { dst := some 125, op := Op.call { callee := Callee.value (Operand.func 20), args := #[Operand.tmp 124], argTypes := #[24] }, type := 40, pos := "law.go:65", after := #[{ on := 0, ground := Ground.data }], guard := none }) rfl (fun K hK => ?_) AllReadyH.nil
      go_simp
      refine (list_any _ _ _).mono ?_; rintro e w16 ⟨rfl, hB⟩; have hS16 := hS15.step hB
      refine hK.out _ _ (by assumption) (fun hHeld => ?_)
      clear hK K
      try simp only [Act.put, List.setIfInBounds_toArray, List.set_cons_zero, List.set_cons_succ]
      refine wpAnyH_take (i := 3) (oi := { dst := some 127, op := Op.binOp BinOp.eql 40 (Operand.tmp 125) (Operand.tmp 126) 40, type := 4, pos := "law.go:65", after := #[{ on := 1, ground := Ground.data }, { on := 2, ground := Ground.data }], guard := none }) (v := ?_) rfl (by kernel_rfl) (by kernel_rfl) (by kernel_rfl) (fun _ _ _ h => h) (Or.inl ⟨by rfl, ?_⟩) (by assumption) ?_
      rotate_left
      · (intro W hSw; go_simp; first | done | with_reducible rfl)
      try simp only [Act.put, List.setIfInBounds_toArray, List.set_cons_zero, List.set_cons_succ]
      refine wpAnyH_take (i := 4) (oi := { dst := some 8, op := Op.assign (Operand.tmp 127), type := 4, pos := "law.go:65", after := #[{ on := 3, ground := Ground.data }, { on := 1, ground := Ground.chain }, { on := 0, ground := Ground.phase }, { on := 1, ground := Ground.phase }, { on := 2, ground := Ground.phase }, { on := 3, ground := Ground.phase }], guard := none }) (v := ?_) rfl (by kernel_rfl) (by kernel_rfl) (by kernel_rfl) (fun _ _ _ h => h) (Or.inl ⟨by rfl, ?_⟩) (by assumption) ?_
      rotate_left
      · (intro W hSw; go_simp; first | done | with_reducible rfl)
      try simp only [Act.put, List.setIfInBounds_toArray, List.set_cons_zero, List.set_cons_succ]
      refine wpAnyH_done (by kernel_rfl) ?_ _
      go_wp2_with fail
      go_ret
      exact ⟨rfl, hS16.below⟩
end Go.Proofs.Ytdnkdanpcbjnbaa
