/- Layer 7: the rows of names: site.Names hands back a new row of the seventeen names in order, the document's Names the same as an array; nothing that was in memory is changed. No condition. -/
import Derived.Test.YtdnkdanpcbjnbaaSite8
namespace Go.Proofs.Ytdnkdanpcbjnbaa
open Go.RowKit

abbrev nameCells : Array Value := #[.string ⟨#[102, 108, 111, 111, 114, 115]⟩, .string ⟨#[99, 97, 114, 115]⟩, .string ⟨#[115, 101, 97, 116, 115]⟩, .string ⟨#[99, 97, 108, 108, 115]⟩, .string ⟨#[108, 105, 110, 101, 115]⟩, .string ⟨#[107, 101, 121, 115]⟩, .string ⟨#[119, 105, 110, 100, 111, 119]⟩, .string ⟨#[98, 117, 114, 115, 116]⟩, .string ⟨#[114, 97, 116, 101]⟩, .string ⟨#[105, 100, 108, 101]⟩, .string ⟨#[105, 110]⟩, .string ⟨#[111, 117, 116]⟩, .string ⟨#[102, 101, 101, 100]⟩, .string ⟨#[114, 101, 116, 114, 105, 101, 115]⟩, .string ⟨#[108, 105, 102, 101]⟩, .string ⟨#[100, 111, 111, 114]⟩, .string ⟨#[104, 111, 108, 100, 115]⟩]
def nameVals : List Value := nameCells.toList

theorem sname {g : Nat} {w : World} {old : Array Value} (hg : Blk w g 31 old) (ho : old.size = 17) : (storeBig 31 ⟨g, 0, none⟩ (.agg nameCells)).run Try.prog w = .ok () (w.setRow g nameCells) :=
  run_storeBig hg (by kernel_rfl) ho (by simp [Value.oneCell'])

abbrev noNames : Array Value := #[.string ⟨#[]⟩, .string ⟨#[]⟩, .string ⟨#[]⟩, .string ⟨#[]⟩, .string ⟨#[]⟩, .string ⟨#[]⟩, .string ⟨#[]⟩, .string ⟨#[]⟩, .string ⟨#[]⟩, .string ⟨#[]⟩, .string ⟨#[]⟩, .string ⟨#[]⟩, .string ⟨#[]⟩, .string ⟨#[]⟩, .string ⟨#[]⟩, .string ⟨#[]⟩, .string ⟨#[]⟩]

set_option maxRecDepth 100000 in
theorem rnames_any (w : World) :
    Calls Try.prog 16 #[] w fun e w' => e = .returned (.agg nameCells) ∧ Below w.heap.size w w' := by
  have hz : Blk (w.alloc (.cells noNames 31)) w.heap.size 31 noNames := Blk.new _ _ _
  have HS := sname hz rfl
  have HZ := Lib.hid hz
  clear hz
  go_enter Try.func16, Try.ntmps16
  go_wp2_with fail
  have hend := Blk.setRow nameCells HZ.out
  refine bodyPost_ret (results_cell_row Try.results16 _ _ w.heap.size 31 nameCells (0, 0) _ rfl hend Try.underlying31 rfl (by kernel_rfl)) rfl ?_
  exact ⟨rfl, ((Below.refl _ _).alloc (Nat.le_refl _) _).trans ((Only.setRow _ HZ.out).below (Nat.le_refl _))⟩

theorem Blk.new' {w : World} {g : Nat} {t : TypeId} {cs : Array Value} (h : w.heap.size = g) : Blk (w.alloc (.cells cs t)) g t cs := by subst h; exact Blk.new _ _ _

theorem infoStr : (Try.prog.info? 9).map (fun i => (i.zero, i.size, i.bytes)) = some (some (.string ⟨#[]⟩), 1, 16) := by kernel_rfl

section
variable {ops : Array Oper} {rest : List Oper} {o : Oper} {a : Act} {w : World} {Q : Exit → Act → World → Prop}
/-- One string more behind a row of the call's own. -/
theorem app_str (hgd : o.guard = none) (s x : Operand) (ho : o.op = .call { callee := .builtin .append, args := #[s, x], argTypes := #[33, 33] }) (B : Nat) (v : Value) (n : Nat) (xs : List Value) (hs : a.eval s = v)
    (hown : w.ownsRow B 9 1 v n xs) (g : Nat) (hx : a.eval x = .slice (some ⟨g, 0, none⟩) 1 1) (u : ByteArray) (hb : Blk w g 9 #[.string u]) (hn : n ≤ 1000) (hB : B ≤ w.heap.size)
    (h : ∀ v' w', w'.ownsRow B 9 1 v' (n + 1) (xs ++ [.string u]) → w.grownBy w' v.ownBlock → wpList Try.prog ops Q rest (a.put o.dst v') w') : wpList Try.prog ops Q (o :: rest) a w := by
  obtain ⟨i0, hi, hz0, hz1, hz2⟩ := info_parts infoStr
  refine wpList_append_own w hgd s x 33 ho B 9 i0 (.string ⟨#[]⟩) 1 16 Try.underlying33 hi hz0 hz1 hz2 rfl (by decide) v n xs hs hown ⟨g, 0, none⟩ 1 1 [.string u] hx rfl ?_ ?_ ?_ ?_ hB fun v' w' h1 h2 _ => h v' w' h1 h2
  · intro j y hj
    match j, hj with
    | 0, hj =>
      simp at hj
      subst hj
      exact hb.cell 0
  · simp [Value.oneCell']
  · unfold maxLen; omega
  · omega
end

def Rel9 (w : World) (k : Nat) (v : Value) (wr : World) : Prop :=
  wr.ownsRow (w.heap.size + 1) 9 1 v k (nameVals.take k) ∧ Blk wr w.heap.size 52 numCells ∧ Below w.heap.size w wr

/-- The names as bytes are the row's strings. -/
theorem nameVals_at (k : Nat) (hk : k < 17) : nameVals[k]? = some (.string (nameAt k)) := by
  have : k = 0 ∨ k = 1 ∨ k = 2 ∨ k = 3 ∨ k = 4 ∨ k = 5 ∨ k = 6 ∨ k = 7 ∨ k = 8 ∨ k = 9 ∨ k = 10 ∨ k = 11 ∨ k = 12 ∨ k = 13 ∨ k = 14 ∨ k = 15 ∨ k = 16 := by omega
  rcases this with rfl | rfl | rfl | rfl | rfl | rfl | rfl | rfl | rfl | rfl | rfl | rfl | rfl | rfl | rfl | rfl | rfl <;> rfl
theorem nameCells_at (k : Nat) (hk : k < 17) : nameCells[k]? = some (.string (nameAt k)) := by
  have := nameVals_at k hk
  simpa [nameVals] using this

/-- What site.Names hands back: a row of seventeen strings in new memory. -/
def IsNames (B : Nat) (v : Value) (w' : World) : Prop :=
  ∃ g cap cur, v = .slice (some ⟨g, 0, none⟩) 17 cap ∧ B ≤ g ∧ Blk w' g 9 cur ∧ ∀ k, k < 17 → cur[k]? = some (.string (nameAt k))

theorem own_ge {w : World} {base : Nat} {e : TypeId} {size : Nat} {v : Value} {n : Nat} {xs : List Value} (h : w.ownsRow base e size v n xs) : ∀ g, v.ownBlock = some g → base ≤ g := by
  intro g hg
  rcases h.2 with ⟨rfl, _⟩ | ⟨g', cap, cur, rfl, hge, _⟩
  · simp [Value.ownBlock] at hg
  · simp [Value.ownBlock] at hg
    omega

theorem rel9_step {w wr w9 : World} {v v9 u : Value} {o1 o2 : Obj} {k : Nat} (hown : wr.ownsRow (w.heap.size + 1) 9 1 v k (nameVals.take k)) (hn : Blk wr w.heap.size 52 numCells)
    (hB : Below w.heap.size w wr) (hgr : ((wr.alloc o1).alloc o2).grownBy w9 v.ownBlock) (h9 : w9.ownsRow (w.heap.size + 1) 9 1 v9 (k + 1) (nameVals.take k ++ [u])) (hk : nameVals.take (k + 1) = nameVals.take k ++ [u]) :
    Rel9 w (k + 1) v9 w9 := by
  have hge := own_ge hown
  have hb2 := (hn.alloc o1).alloc o2
  refine ⟨by rw [hk]; exact h9, (hgr.block w.heap.size hb2.lt (fun e => ?_)).trans hb2, ((hB.alloc hB.size o1).alloc (Nat.le_trans hB.size (by simp)) o2).grown hgr (Nat.le_trans hB.size (by simp; omega)) (fun g hg => ?_)⟩
  · have := hge _ e.symm
    omega
  · have := hge g hg
    omega

theorem names_end {w wr : World} {v : Value} (hown : wr.ownsRow (w.heap.size + 1) 9 1 v 17 (nameVals.take 17)) : IsNames w.heap.size v wr := by
  obtain ⟨g, cap, cur, hv, hge, hh⟩ : ∃ g cap cur, v = .slice (some ⟨g, 0, none⟩) 17 cap ∧ w.heap.size + 1 ≤ g ∧ wr.heap[g]? = some (.cells cur 9 (0, 0)) := by
    rcases hown.2 with ⟨_, h0⟩ | ⟨g, cap, cur, hv, hge, hh, _⟩
    · cases h0
    · exact ⟨g, cap, cur, hv, hge, hh⟩
  subst hv
  refine ⟨g, cap, cur, rfl, by omega, hh, fun k hk => ?_⟩
  have hc := hown.cellAt k (by omega)
  have hl : k < nameVals.length := hk
  have ht : nameVals.take 17 = nameVals := rfl
  have h2 : wr.cell? ⟨g, k, none⟩ = some (.string (nameAt k)) := by
    rw [← nameVals_at k hk]
    simpa [ht, Addr.add] using hc
  rw [Blk.cell hh k] at h2
  exact h2

set_option maxRecDepth 100000 in
set_option maxHeartbeats 8000000 in
theorem names_any (w : World) :
    Calls Try.prog 17 #[] w fun e w' => ∃ v, e = .returned v ∧ IsNames w.heap.size v w' ∧ Below w.heap.size w w' := by
  obtain ⟨i0, hi, hz0, hz1, hz2⟩ := info_parts infoStr
  go_enter Try.func17, Try.ntmps17
  go_wp2_with (go_at_call 22; refine (numbers_any _).mono ?_; rintro e w1 ⟨rfl, hn, hb1, hs1⟩)
  have hstart : Rel9 w 0 (.slice none 0 0) w1 := ⟨World.ownsRow_nil _ _ _ _, hn, hb1⟩
  clear hn hb1 hs1
  go_loopw [1, 6] (fun v i wr => ∃ k : Nat, k ≤ 17 ∧ i = .int .i64 k ∧ Rel9 w k v wr) (fun _ i _ => 17 - (intOf i).toNat)
  case atStart => exact ⟨0, by omega, rfl, hstart⟩
  case round =>
    clear hstart
    obtain ⟨k, hk, rfl, hown, hn, hB⟩ := hrel
    have hnl := hn.lt
    have hk5 : k = 0 ∨ k = 1 ∨ k = 2 ∨ k = 3 ∨ k = 4 ∨ k = 5 ∨ k = 6 ∨ k = 7 ∨ k = 8 ∨ k = 9 ∨ k = 10 ∨ k = 11 ∨ k = 12 ∨ k = 13 ∨ k = 14 ∨ k = 15 ∨ k = 16 ∨ k = 17 := by omega
    rcases hk5 with rfl | rfl | rfl | rfl | rfl | rfl | rfl | rfl | rfl | rfl | rfl | rfl | rfl | rfl | rfl | rfl | rfl | rfl
    · have n1 : wr.cell? ⟨w.heap.size, 1, none⟩ = some (.func (.func 24) #[] #[]) := hn.cell 1
      have n0 : wr.cell? ⟨w.heap.size, 0, none⟩ = some (.string ⟨#[102, 108, 111, 111, 114, 115]⟩) := hn.cell 0
      have n2 : wr.cell? ⟨w.heap.size, 2, none⟩ = some (.int .i64 2) := hn.cell 2
      have n3 : wr.cell? ⟨w.heap.size, 3, none⟩ = some (.int .i64 32) := hn.cell 3
      go_wp2_with (at_builtin; refine app_str rfl _ _ rfl (w.heap.size + 1) _ _ _ rfl ((hown.alloc _).alloc _) _ rfl ⟨#[102, 108, 111, 111, 114, 115]⟩ (Blk.new' (by simp)) (by omega) (by simp; omega) ?_; intro v9 w9 hown9 hgr9)
      exact ⟨⟨1, by omega, rfl, rel9_step hown hn hB hgr9 hown9 rfl⟩, by simp [intOf]⟩
    · have n1 : wr.cell? ⟨w.heap.size, 5, none⟩ = some (.func (.func 25) #[] #[]) := hn.cell 5
      have n0 : wr.cell? ⟨w.heap.size, 4, none⟩ = some (.string ⟨#[99, 97, 114, 115]⟩) := hn.cell 4
      have n2 : wr.cell? ⟨w.heap.size, 6, none⟩ = some (.int .i64 1) := hn.cell 6
      have n3 : wr.cell? ⟨w.heap.size, 7, none⟩ = some (.int .i64 4) := hn.cell 7
      go_wp2_with (at_builtin; refine app_str rfl _ _ rfl (w.heap.size + 1) _ _ _ rfl ((hown.alloc _).alloc _) _ rfl ⟨#[99, 97, 114, 115]⟩ (Blk.new' (by simp)) (by omega) (by simp; omega) ?_; intro v9 w9 hown9 hgr9)
      exact ⟨⟨2, by omega, rfl, rel9_step hown hn hB hgr9 hown9 rfl⟩, by simp [intOf]⟩
    · have n1 : wr.cell? ⟨w.heap.size, 9, none⟩ = some (.func (.func 26) #[] #[]) := hn.cell 9
      have n0 : wr.cell? ⟨w.heap.size, 8, none⟩ = some (.string ⟨#[115, 101, 97, 116, 115]⟩) := hn.cell 8
      have n2 : wr.cell? ⟨w.heap.size, 10, none⟩ = some (.int .i64 1) := hn.cell 10
      have n3 : wr.cell? ⟨w.heap.size, 11, none⟩ = some (.int .i64 8) := hn.cell 11
      go_wp2_with (at_builtin; refine app_str rfl _ _ rfl (w.heap.size + 1) _ _ _ rfl ((hown.alloc _).alloc _) _ rfl ⟨#[115, 101, 97, 116, 115]⟩ (Blk.new' (by simp)) (by omega) (by simp; omega) ?_; intro v9 w9 hown9 hgr9)
      exact ⟨⟨3, by omega, rfl, rel9_step hown hn hB hgr9 hown9 rfl⟩, by simp [intOf]⟩
    · have n1 : wr.cell? ⟨w.heap.size, 13, none⟩ = some (.func (.func 27) #[] #[]) := hn.cell 13
      have n0 : wr.cell? ⟨w.heap.size, 12, none⟩ = some (.string ⟨#[99, 97, 108, 108, 115]⟩) := hn.cell 12
      have n2 : wr.cell? ⟨w.heap.size, 14, none⟩ = some (.int .i64 1) := hn.cell 14
      have n3 : wr.cell? ⟨w.heap.size, 15, none⟩ = some (.int .i64 64) := hn.cell 15
      go_wp2_with (at_builtin; refine app_str rfl _ _ rfl (w.heap.size + 1) _ _ _ rfl ((hown.alloc _).alloc _) _ rfl ⟨#[99, 97, 108, 108, 115]⟩ (Blk.new' (by simp)) (by omega) (by simp; omega) ?_; intro v9 w9 hown9 hgr9)
      exact ⟨⟨4, by omega, rfl, rel9_step hown hn hB hgr9 hown9 rfl⟩, by simp [intOf]⟩
    · have n1 : wr.cell? ⟨w.heap.size, 17, none⟩ = some (.func (.func 28) #[] #[]) := hn.cell 17
      have n0 : wr.cell? ⟨w.heap.size, 16, none⟩ = some (.string ⟨#[108, 105, 110, 101, 115]⟩) := hn.cell 16
      have n2 : wr.cell? ⟨w.heap.size, 18, none⟩ = some (.int .i64 1) := hn.cell 18
      have n3 : wr.cell? ⟨w.heap.size, 19, none⟩ = some (.int .i64 8) := hn.cell 19
      go_wp2_with (at_builtin; refine app_str rfl _ _ rfl (w.heap.size + 1) _ _ _ rfl ((hown.alloc _).alloc _) _ rfl ⟨#[108, 105, 110, 101, 115]⟩ (Blk.new' (by simp)) (by omega) (by simp; omega) ?_; intro v9 w9 hown9 hgr9)
      exact ⟨⟨5, by omega, rfl, rel9_step hown hn hB hgr9 hown9 rfl⟩, by simp [intOf]⟩
    · have n1 : wr.cell? ⟨w.heap.size, 21, none⟩ = some (.func (.func 29) #[] #[]) := hn.cell 21
      have n0 : wr.cell? ⟨w.heap.size, 20, none⟩ = some (.string ⟨#[107, 101, 121, 115]⟩) := hn.cell 20
      have n2 : wr.cell? ⟨w.heap.size, 22, none⟩ = some (.int .i64 1) := hn.cell 22
      have n3 : wr.cell? ⟨w.heap.size, 23, none⟩ = some (.int .i64 64) := hn.cell 23
      go_wp2_with (at_builtin; refine app_str rfl _ _ rfl (w.heap.size + 1) _ _ _ rfl ((hown.alloc _).alloc _) _ rfl ⟨#[107, 101, 121, 115]⟩ (Blk.new' (by simp)) (by omega) (by simp; omega) ?_; intro v9 w9 hown9 hgr9)
      exact ⟨⟨6, by omega, rfl, rel9_step hown hn hB hgr9 hown9 rfl⟩, by simp [intOf]⟩
    · have n1 : wr.cell? ⟨w.heap.size, 25, none⟩ = some (.func (.func 30) #[] #[]) := hn.cell 25
      have n0 : wr.cell? ⟨w.heap.size, 24, none⟩ = some (.string ⟨#[119, 105, 110, 100, 111, 119]⟩) := hn.cell 24
      have n2 : wr.cell? ⟨w.heap.size, 26, none⟩ = some (.int .i64 1) := hn.cell 26
      have n3 : wr.cell? ⟨w.heap.size, 27, none⟩ = some (.int .i64 65536) := hn.cell 27
      go_wp2_with (at_builtin; refine app_str rfl _ _ rfl (w.heap.size + 1) _ _ _ rfl ((hown.alloc _).alloc _) _ rfl ⟨#[119, 105, 110, 100, 111, 119]⟩ (Blk.new' (by simp)) (by omega) (by simp; omega) ?_; intro v9 w9 hown9 hgr9)
      exact ⟨⟨7, by omega, rfl, rel9_step hown hn hB hgr9 hown9 rfl⟩, by simp [intOf]⟩
    · have n1 : wr.cell? ⟨w.heap.size, 29, none⟩ = some (.func (.func 31) #[] #[]) := hn.cell 29
      have n0 : wr.cell? ⟨w.heap.size, 28, none⟩ = some (.string ⟨#[98, 117, 114, 115, 116]⟩) := hn.cell 28
      have n2 : wr.cell? ⟨w.heap.size, 30, none⟩ = some (.int .i64 1) := hn.cell 30
      have n3 : wr.cell? ⟨w.heap.size, 31, none⟩ = some (.int .i64 1024) := hn.cell 31
      go_wp2_with (at_builtin; refine app_str rfl _ _ rfl (w.heap.size + 1) _ _ _ rfl ((hown.alloc _).alloc _) _ rfl ⟨#[98, 117, 114, 115, 116]⟩ (Blk.new' (by simp)) (by omega) (by simp; omega) ?_; intro v9 w9 hown9 hgr9)
      exact ⟨⟨8, by omega, rfl, rel9_step hown hn hB hgr9 hown9 rfl⟩, by simp [intOf]⟩
    · have n1 : wr.cell? ⟨w.heap.size, 33, none⟩ = some (.func (.func 32) #[] #[]) := hn.cell 33
      have n0 : wr.cell? ⟨w.heap.size, 32, none⟩ = some (.string ⟨#[114, 97, 116, 101]⟩) := hn.cell 32
      have n2 : wr.cell? ⟨w.heap.size, 34, none⟩ = some (.int .i64 1) := hn.cell 34
      have n3 : wr.cell? ⟨w.heap.size, 35, none⟩ = some (.int .i64 1024) := hn.cell 35
      go_wp2_with (at_builtin; refine app_str rfl _ _ rfl (w.heap.size + 1) _ _ _ rfl ((hown.alloc _).alloc _) _ rfl ⟨#[114, 97, 116, 101]⟩ (Blk.new' (by simp)) (by omega) (by simp; omega) ?_; intro v9 w9 hown9 hgr9)
      exact ⟨⟨9, by omega, rfl, rel9_step hown hn hB hgr9 hown9 rfl⟩, by simp [intOf]⟩
    · have n1 : wr.cell? ⟨w.heap.size, 37, none⟩ = some (.func (.func 33) #[] #[]) := hn.cell 37
      have n0 : wr.cell? ⟨w.heap.size, 36, none⟩ = some (.string ⟨#[105, 100, 108, 101]⟩) := hn.cell 36
      have n2 : wr.cell? ⟨w.heap.size, 38, none⟩ = some (.int .i64 1) := hn.cell 38
      have n3 : wr.cell? ⟨w.heap.size, 39, none⟩ = some (.int .i64 65536) := hn.cell 39
      go_wp2_with (at_builtin; refine app_str rfl _ _ rfl (w.heap.size + 1) _ _ _ rfl ((hown.alloc _).alloc _) _ rfl ⟨#[105, 100, 108, 101]⟩ (Blk.new' (by simp)) (by omega) (by simp; omega) ?_; intro v9 w9 hown9 hgr9)
      exact ⟨⟨10, by omega, rfl, rel9_step hown hn hB hgr9 hown9 rfl⟩, by simp [intOf]⟩
    · have n1 : wr.cell? ⟨w.heap.size, 41, none⟩ = some (.func (.func 34) #[] #[]) := hn.cell 41
      have n0 : wr.cell? ⟨w.heap.size, 40, none⟩ = some (.string ⟨#[105, 110]⟩) := hn.cell 40
      have n2 : wr.cell? ⟨w.heap.size, 42, none⟩ = some (.int .i64 1) := hn.cell 42
      have n3 : wr.cell? ⟨w.heap.size, 43, none⟩ = some (.int .i64 16) := hn.cell 43
      go_wp2_with (at_builtin; refine app_str rfl _ _ rfl (w.heap.size + 1) _ _ _ rfl ((hown.alloc _).alloc _) _ rfl ⟨#[105, 110]⟩ (Blk.new' (by simp)) (by omega) (by simp; omega) ?_; intro v9 w9 hown9 hgr9)
      exact ⟨⟨11, by omega, rfl, rel9_step hown hn hB hgr9 hown9 rfl⟩, by simp [intOf]⟩
    · have n1 : wr.cell? ⟨w.heap.size, 45, none⟩ = some (.func (.func 35) #[] #[]) := hn.cell 45
      have n0 : wr.cell? ⟨w.heap.size, 44, none⟩ = some (.string ⟨#[111, 117, 116]⟩) := hn.cell 44
      have n2 : wr.cell? ⟨w.heap.size, 46, none⟩ = some (.int .i64 1) := hn.cell 46
      have n3 : wr.cell? ⟨w.heap.size, 47, none⟩ = some (.int .i64 16) := hn.cell 47
      go_wp2_with (at_builtin; refine app_str rfl _ _ rfl (w.heap.size + 1) _ _ _ rfl ((hown.alloc _).alloc _) _ rfl ⟨#[111, 117, 116]⟩ (Blk.new' (by simp)) (by omega) (by simp; omega) ?_; intro v9 w9 hown9 hgr9)
      exact ⟨⟨12, by omega, rfl, rel9_step hown hn hB hgr9 hown9 rfl⟩, by simp [intOf]⟩
    · have n1 : wr.cell? ⟨w.heap.size, 49, none⟩ = some (.func (.func 36) #[] #[]) := hn.cell 49
      have n0 : wr.cell? ⟨w.heap.size, 48, none⟩ = some (.string ⟨#[102, 101, 101, 100]⟩) := hn.cell 48
      have n2 : wr.cell? ⟨w.heap.size, 50, none⟩ = some (.int .i64 1) := hn.cell 50
      have n3 : wr.cell? ⟨w.heap.size, 51, none⟩ = some (.int .i64 64) := hn.cell 51
      go_wp2_with (at_builtin; refine app_str rfl _ _ rfl (w.heap.size + 1) _ _ _ rfl ((hown.alloc _).alloc _) _ rfl ⟨#[102, 101, 101, 100]⟩ (Blk.new' (by simp)) (by omega) (by simp; omega) ?_; intro v9 w9 hown9 hgr9)
      exact ⟨⟨13, by omega, rfl, rel9_step hown hn hB hgr9 hown9 rfl⟩, by simp [intOf]⟩
    · have n1 : wr.cell? ⟨w.heap.size, 53, none⟩ = some (.func (.func 37) #[] #[]) := hn.cell 53
      have n0 : wr.cell? ⟨w.heap.size, 52, none⟩ = some (.string ⟨#[114, 101, 116, 114, 105, 101, 115]⟩) := hn.cell 52
      have n2 : wr.cell? ⟨w.heap.size, 54, none⟩ = some (.int .i64 0) := hn.cell 54
      have n3 : wr.cell? ⟨w.heap.size, 55, none⟩ = some (.int .i64 8) := hn.cell 55
      go_wp2_with (at_builtin; refine app_str rfl _ _ rfl (w.heap.size + 1) _ _ _ rfl ((hown.alloc _).alloc _) _ rfl ⟨#[114, 101, 116, 114, 105, 101, 115]⟩ (Blk.new' (by simp)) (by omega) (by simp; omega) ?_; intro v9 w9 hown9 hgr9)
      exact ⟨⟨14, by omega, rfl, rel9_step hown hn hB hgr9 hown9 rfl⟩, by simp [intOf]⟩
    · have n1 : wr.cell? ⟨w.heap.size, 57, none⟩ = some (.func (.func 38) #[] #[]) := hn.cell 57
      have n0 : wr.cell? ⟨w.heap.size, 56, none⟩ = some (.string ⟨#[108, 105, 102, 101]⟩) := hn.cell 56
      have n2 : wr.cell? ⟨w.heap.size, 58, none⟩ = some (.int .i64 0) := hn.cell 58
      have n3 : wr.cell? ⟨w.heap.size, 59, none⟩ = some (.int .i64 1048576) := hn.cell 59
      go_wp2_with (at_builtin; refine app_str rfl _ _ rfl (w.heap.size + 1) _ _ _ rfl ((hown.alloc _).alloc _) _ rfl ⟨#[108, 105, 102, 101]⟩ (Blk.new' (by simp)) (by omega) (by simp; omega) ?_; intro v9 w9 hown9 hgr9)
      exact ⟨⟨15, by omega, rfl, rel9_step hown hn hB hgr9 hown9 rfl⟩, by simp [intOf]⟩
    · have n1 : wr.cell? ⟨w.heap.size, 61, none⟩ = some (.func (.func 39) #[] #[]) := hn.cell 61
      have n0 : wr.cell? ⟨w.heap.size, 60, none⟩ = some (.string ⟨#[100, 111, 111, 114]⟩) := hn.cell 60
      have n2 : wr.cell? ⟨w.heap.size, 62, none⟩ = some (.int .i64 1) := hn.cell 62
      have n3 : wr.cell? ⟨w.heap.size, 63, none⟩ = some (.int .i64 4) := hn.cell 63
      go_wp2_with (at_builtin; refine app_str rfl _ _ rfl (w.heap.size + 1) _ _ _ rfl ((hown.alloc _).alloc _) _ rfl ⟨#[100, 111, 111, 114]⟩ (Blk.new' (by simp)) (by omega) (by simp; omega) ?_; intro v9 w9 hown9 hgr9)
      exact ⟨⟨16, by omega, rfl, rel9_step hown hn hB hgr9 hown9 rfl⟩, by simp [intOf]⟩
    · have n1 : wr.cell? ⟨w.heap.size, 65, none⟩ = some (.func (.func 40) #[] #[]) := hn.cell 65
      have n0 : wr.cell? ⟨w.heap.size, 64, none⟩ = some (.string ⟨#[104, 111, 108, 100, 115]⟩) := hn.cell 64
      have n2 : wr.cell? ⟨w.heap.size, 66, none⟩ = some (.int .i64 0) := hn.cell 66
      have n3 : wr.cell? ⟨w.heap.size, 67, none⟩ = some (.int .i64 4) := hn.cell 67
      go_wp2_with (at_builtin; refine app_str rfl _ _ rfl (w.heap.size + 1) _ _ _ rfl ((hown.alloc _).alloc _) _ rfl ⟨#[104, 111, 108, 100, 115]⟩ (Blk.new' (by simp)) (by omega) (by simp; omega) ?_; intro v9 w9 hown9 hgr9)
      exact ⟨⟨17, by omega, rfl, rel9_step hown hn hB hgr9 hown9 rfl⟩, by simp [intOf]⟩
    · go_wp2
      go_ret
      exact ⟨_, rfl, names_end hown, hB⟩
end Go.Proofs.Ytdnkdanpcbjnbaa
