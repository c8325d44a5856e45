/- strings.Builder at this program, told by what becomes of each block: copyCheck, WriteByte, String. -/
import Derived.Test.YtflnpgfddedahaaB2
import Derived.Lib.UnsafeStr
import Derived.Lib.ConvBytes
import Derived.Maps.AppendAt
namespace Go.Proofs.Ytflnpgfddedahaa.U
open Go.RowKit Go Go.Great Go.Proofs.YtflnpgfddedahaaW.PrintWords
set_option linter.unusedVariables false
set_option linter.unusedSimpArgs false

/-- Bytes as cells. -/
def bc (l : List UInt8) : List Value := l.map fun x => .int .u8 x.toNat
theorem bc_length (l : List UInt8) : (bc l).length = l.length := by simp [bc]
theorem bc_append (l r : List UInt8) : bc (l ++ r) = bc l ++ bc r := by simp [bc]
/-- Block b is a builder that holds the bytes l; its row lies from B on. -/
structure Bu (B b : Nat) (l : List UInt8) (w : World) : Prop where
  out : ∃ p v, (p = .pointer none ∨ p = .pointer (some ⟨b, 0, none⟩)) ∧ w.heap[b]? = some (.cells #[p, v] 66 (0, 0)) ∧ w.ownsRow B 5 1 v l.length (bc l) ∧ (l = [] → v = .slice none 0 0)
theorem grown_set (w : World) (b o : Nat) (u : Value) : w.grownBy (w.setCell ⟨b, o, none⟩ u) (some b) := ⟨rfl, rfl, rfl, by simp [World.setCell], fun k _ hk => Below.heap_setCell _ _ _ _ (fun e => hk (by simp [e]))⟩

set_option maxHeartbeats 1000000 in
theorem check_calls (b : Nat) (p v : Value) (w : World) (hp : p = .pointer none ∨ p = .pointer (some ⟨b, 0, none⟩)) (hb : w.heap[b]? = some (.cells #[p, v] 66 (0, 0))) :
    Calls Try.prog 48 #[.pointer (some ⟨b, 0, none⟩)] w fun e w' => e = .returned (.tuple #[]) ∧ Aside0 (w'.heap[b]? = some (.cells #[.pointer (some ⟨b, 0, none⟩), v] 66 (0, 0))) ∧ Aside0 (w.grownBy w' (some b)) := by
  obtain ⟨j, hj, hj2⟩ := info66
  have hsh : w.shape? b = some (66, 2) := by simp [World.shape?, hb]
  have HB := Aside0.mk hb
  rcases hp with rfl | rfl
  · have c0 : w.cell? ⟨b, 0, none⟩ = some (.pointer none) := (blk_cell hb 0).trans rfl
    have f0 := blk_frozen hb 0
    have hc1 := Lib.run_to_unsafe (P := Try.prog) w (src := 64) (dst := 87) (t := 66) ⟨b, 0, none⟩ Try.underlying64 Try.underlying87 hj (by omega) hsh (by show 0 < 2; omega)
    have hc2 := Lib.run_from_unsafe (P := Try.prog) w (src := 87) (dst := 64) (u := 66) ⟨b, 0, none⟩ Try.underlying87 Try.underlying64 hj hsh (by kernel_rfl)
    have hne := noEscape
    clear hb
    go_enter Try.func48, Try.ntmps48
    go_wp2
    refine bodyPost_end0 rfl rfl ⟨rfl, ⟨(blk_set HB.out 0 _).trans rfl⟩, ⟨grown_set _ _ _ _⟩⟩
  · have c0 : w.cell? ⟨b, 0, none⟩ = some (.pointer (some ⟨b, 0, none⟩)) := (blk_cell hb 0).trans rfl
    have hq := Lib.run_neq_ptr_same (P := Try.prog) w (tp := 64) (te := 66) ⟨b, 0, none⟩ Try.underlying64 hj
    clear hb
    go_enter Try.func48, Try.ntmps48
    go_wp2
    exact bodyPost_end0 rfl rfl ⟨rfl, HB, ⟨World.grownBy.refl _ _⟩⟩

set_option maxHeartbeats 1000000 in
theorem write_calls (B b : Nat) (l : List UInt8) (c : UInt8) (w : World) (h : Bu B b l w) (hlen : l.length + 1 ≤ 140737488355328) (hbB : b < B) (hBw : B ≤ w.heap.size) :
    Calls Try.prog 38 #[.pointer (some ⟨b, 0, none⟩), .int .u8 c.toNat] w fun e w' => e = .returned .nilIface ∧ Aside0 (Bu B b (l ++ [c]) w') ∧ Aside0 (∀ k, k < B → k ≠ b → w'.heap[k]? = w.heap[k]?) ∧ Aside0 (Below b w w') := by
  obtain ⟨p, v, hp, hblk, hown, hnil⟩ := h.out
  obtain ⟨i0, hi, hz0, hz1, hz2⟩ := info5
  have HO := Aside0.mk hown
  clear hown h hnil
  have CELL : ∀ (W : World) (p v : Value), W.heap[b]? = some (.cells #[p, v] 66 (0, 0)) → W.cell? ⟨b, 1, none⟩ = some v := fun W p v h => by simp [World.cell?, h]
  have hvb : v.ownBlock ≠ some b := fun e => by have := (HO.out.lt b e).1; omega
  go_enter Try.func38, Try.ntmps38
  go_wp2_with (first | (go_at_call 48; go_loud (refine (check_calls b p v _ hp hblk).mono ?_); rintro e w1 ⟨rfl, HK, HG⟩; have c1 := CELL w1 _ v HK.out; have hsz : B ≤ w1.heap.size := Nat.le_trans hBw HG.out.size; have HO := Aside0.mk (HO.out.kept HG.out (.inr hvb)); clear hblk) | (at_builtin; refine wpList_append_own _ rfl (.tmp 11) (.tmp 13) 29 rfl B 5 i0 (.int .u8 0) 1 1 Try.underlying29 hi hz0 hz1 hz2 rfl (by decide) _ _ _ rfl (HO.out.alloc _) ⟨w1.heap.size, 0, none⟩ 1 1 [.int .u8 c.toNat] rfl rfl (cell_one_new _ _ _) (by intro u hu; simp at hu; subst hu; rfl) (by unfold maxLen; omega) (by omega) (by simp; omega) ?_; intro v1 w2 hown1 hgrow1 hnil1; obtain ⟨g2, cap2, rfl⟩ := Go.Joins.ownsRow_form hown1 (Nat.succ_pos _); have hk2 := blk_grown (blk_alloc HK.out (.cells #[.int .u8 c.toNat] 5)) hgrow1 (fun e => hvb e.symm); have c2 := CELL w2 _ _ hk2; have f2 := blk_frozen hk2 1; have HK2 := Aside0.mk hk2; have HO2 := Aside0.mk hown1; have HG2 := Aside0.mk hgrow1; clear hk2 hown1 hgrow1 hnil1))
  go_ret
  have hl : (l ++ [c]).length = l.length + 1 := by simp
  have hv2 : ∀ k, v.ownBlock = some k → B ≤ k := fun k hk => (HO.out.lt k hk).1
  have hB1 : Below b w w1 := (Below.refl b w).grown HG.out (by omega) (fun k hk => by injection hk with hk; omega)
  have hB2 : Below b w w2 := (hB1.alloc (by omega) _).grown HG2.out (by simp; omega) (fun k hk => by have := hv2 k hk; omega)
  refine ⟨rfl, ⟨⟨_, _, .inr rfl, (blk_set HK2.out 1 _).trans rfl, ?_, fun h => by simp at h⟩⟩, ⟨fun k hk hkb => ?_⟩, ⟨hB2.setCell (p := ⟨b, 1, none⟩) (Nat.le_refl _) _⟩⟩
  · rw [hl, bc_append]
    refine HO2.out.kept (grown_set w2 b 1 _) (.inr fun e => ?_)
    have := (HO2.out.lt b e).1
    omega
  · have h1 : (w2.setCell ⟨b, 1, none⟩ (.slice (some ⟨g2, 0, none⟩) (l.length + 1) cap2)).heap[k]? = w2.heap[k]? := Below.heap_setCell _ _ _ _ hkb
    have h2 := HG2.out.block k (by simp; omega) (fun e => by have := hv2 k e.symm; omega)
    have h3 : (w1.alloc (.cells #[.int .u8 c.toNat] 5)).heap[k]? = w1.heap[k]? := Lib.alloc_old w1 _ k (by omega)
    have h4 := HG.out.block k (by omega) (fun e => hkb (by injection e))
    rw [h1, h2, h3, h4]

theorem cellsByte : Try.prog.cellsOf 5 = 1 := by kernel_rfl
set_option maxHeartbeats 2000000 in
set_option maxRecDepth 100000 in
theorem string_calls (B b : Nat) (l : List UInt8) (w : World) (h : Bu B b l w) (hbB : b < B) (hl63 : l.length ≤ 140737488355328) :
    Calls Try.prog 39 #[.pointer (some ⟨b, 0, none⟩)] w fun e w' => e = .returned (.string ⟨l.toArray⟩) ∧ Below b w w' := by
  obtain ⟨p, v, hp, hblk, hown, hnil⟩ := h.out
  by_cases h0 : l = []
  · obtain rfl := hnil h0
    subst h0
    have c1 : w.drew.cell? ⟨b, 1, none⟩ = some (.slice none 0 0) := (blk_cell (show w.drew.heap[b]? = _ from hblk) 1).trans rfl
    have hSD : ∀ ts ty, (Builtin.unsafeSliceData_ ts ty #[.slice none 0 0]).run Try.prog w.drew = .ok (.pointer none) w.drew := fun _ _ => rfl
    have hUS : ∀ pt it ty, (Builtin.unsafeString_ #[pt, it] ty #[.pointer none, .int .i64 0]).run Try.prog w.drew = .ok (.string .empty) w.drew := fun pt it ty => Lib.run_unsafeString_none w.drew pt it ty none
    clear hnil hown hblk hp
    go_enter Try.func39, Try.ntmps39
    go_wp2
    go_region
    all_goals
      go_wp2
      go_ret
      exact ⟨rfl, (Below.refl _ _).drew⟩
  · have hl0 : l.length ≠ 0 := by simpa using h0
    obtain ⟨g, cap, cur, rfl, hbg, hg, hnc, hcm, hcs, htake⟩ : ∃ g cap cur, v = .slice (some ⟨g, 0, none⟩) l.length cap ∧ B ≤ g ∧ w.heap[g]? = some (.cells cur 5 (0, 0)) ∧ l.length ≤ cap ∧ cap ≤ maxLen ∧ cur.size = cap * 1 ∧ cur.toList.take (l.length * 1) = bc l := by
      rcases hown.2 with ⟨_, hz⟩ | ⟨g, cap, cur, hv, r⟩
      · exact absurd hz hl0
      · exact ⟨g, cap, cur, hv, r⟩
    have c1 : w.drew.cell? ⟨b, 1, none⟩ = some (.slice (some ⟨g, 0, none⟩) l.length cap) := (blk_cell (show w.drew.heap[b]? = _ from hblk) 1).trans rfl
    have hSD : ∀ ts ty, (Builtin.unsafeSliceData_ ts ty #[.slice (some ⟨g, 0, none⟩) l.length cap]).run Try.prog w.drew = .ok (.pointer (some ⟨g, 0, none⟩)) w.drew := fun ts ty => Lib.run_unsafeSliceData_row _ _ _ _ _ _ (by omega)
    have hUS : (Builtin.unsafeString_ #[82, 3] 9 #[.pointer (some ⟨g, 0, none⟩), .int .i64 l.length]).run Try.prog w.drew = .ok (.string ⟨l.toArray⟩) (w.drew.freeze ⟨g, 0, none⟩ l.length) := by
      refine Lib.run_unsafeString_row w.drew 82 3 9 5 Try.underlying82 cellsByte g cur.size (by have hg' : w.drew.heap[g]? = some (.cells cur 5 (0, 0)) := hg; simp [World.shape?, hg']) l h0 (by omega) (by omega) ?_
      intro j x hx
      exact hown.cells (g := g) rfl j (.int .u8 x.toNat) (by simp [bc, hx])
    have HBG := Aside0.mk hbg
    clear hnil hown hblk hp hg hnc hcm hcs htake hl0 h0 h
    go_enter Try.func39, Try.ntmps39
    go_wp2
    go_region
    all_goals
      go_wp2
      go_ret
      exact ⟨rfl, Lib.below_freeze (Below.refl _ _).drew (p := ⟨g, 0, none⟩) (by show b ≤ g; have := HBG.out; omega) _⟩
end Go.Proofs.Ytflnpgfddedahaa.U
