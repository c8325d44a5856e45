/- The statement TxWatches, walked: whatever keys come, the call tells true. -/
import Derived.Test.YtbjhpmifjiibaaaT11
import Derived.Deep.RegionHeld3
namespace Go.Proofs.Ytbjhpmifjiibaaa.T
open Go.RowKit Go.Maps Go.Proofs.YtbjhpmifjiibaaaW.PrintWords
set_option linter.unusedVariables false
set_option linter.unusedSimpArgs false

/-- Two rows of the call's own, and one that is seen, each apart from the others. -/
structure Two (W : World) (g : Nat) (v7 v8 : Value) (A : Option Addr) (S X Y : List SeenD) : Prop where
  was : Kd.N kSeen 36 W (g + 1) (fun b => g < b) v7 X
  now : Kd.N kSeen 36 W (g + 1) (fun b => g < b) v8 Y
  seen : Kd.F kSeen W (fun b => g < b ∧ b < W.heap.size ∧ some b ≠ v7.ownBlock ∧ some b ≠ v8.ownBlock) A S.length S
  ne : ∀ b, v7.ownBlock = some b → v8.ownBlock ≠ some b
theorem Two.below {W W' : World} {g : Nat} {v7 v8 : Value} {A : Option Addr} {S X Y : List SeenD} (h : Two W g v7 v8 A S X Y) (hb : Below W.heap.size W W') : Two W' g v7 v8 A S X Y :=
  ⟨Kd.N_below h.was hb, Kd.N_below h.now hb, Kd.F_mono (Kd.F_below h.seen hb) (fun b hk => ⟨hk.1, Nat.lt_of_lt_of_le hk.2.1 hb.size, hk.2.2⟩), h.ne⟩
theorem Two.set {W : World} {g : Nat} {v7 v8 : Value} {A : Option Addr} {S X Y : List SeenD} (h : Two W g v7 v8 A S X Y) (o : Nat) (u : Value) : Two (W.setCell ⟨g, o, none⟩ u) g v7 v8 A S X Y :=
  ⟨Kd.N_far h.was (p := ⟨g, o, none⟩) (fun k hk => by show k ≠ g; omega) u, Kd.N_far h.now (p := ⟨g, o, none⟩) (fun k hk => by show k ≠ g; omega) u, Kd.F_mono (Kd.F_far (p := ⟨g, o, none⟩) h.seen (fun k hk => by show k ≠ g; omega) u) (fun b hk => ⟨hk.1, by simpa using hk.2.1, hk.2.2⟩), h.ne⟩
theorem Two.other {W : World} {g : Nat} {v7 v8 : Value} {A A' : Option Addr} {S S' X Y : List SeenD} (h : Two W g v7 v8 A S X Y) {W' : World} (hb : Below W.heap.size W W')
    (hF : Kd.F kSeen W' (fun b => (g < b ∧ b < W.heap.size ∧ some b ≠ v7.ownBlock ∧ some b ≠ v8.ownBlock) ∨ W.heap.size ≤ b) A' S'.length S') (hg : g < W.heap.size) : Two W' g v7 v8 A' S' X Y :=
  ⟨Kd.N_below h.was hb, Kd.N_below h.now hb, Kd.F_mono (Kd.F_bound hF) (fun b hk => by
    rcases hk with ⟨h1 | h1, h2⟩
    · exact ⟨h1.1, h2, h1.2.2⟩
    · exact ⟨by omega, h2, fun e => by have := Kd.N_lt h.was b e.symm; omega, fun e => by have := Kd.N_lt h.now b e.symm; omega⟩), h.ne⟩
/-- A row of records whose own block alone it lies in. -/
theorem N_own {W w1 : World} {g : Nat} {v : Value} {ok : Nat → Prop} {X : List SeenD} (h : Kd.N kSeen 36 W (g + 1) ok v X) {row : Option Nat} (hg : W.grownBy w1 row) (hne : ∀ b, v.ownBlock = some b → row ≠ some b) : Kd.N kSeen 36 w1 (g + 1) (fun b => g < b) v X :=
  N_flat flat_seen (Kd.N_grown (N_flat flat_seen h (ok' := fun k => v.ownBlock = some k) (fun k hk => hk)) hg (fun k hk e => hne k hk e.symm)) (fun k hk => by have := Kd.N_base h k hk; omega)
theorem Two.put7 {W w1 : World} {g : Nat} {v7 v8 v : Value} {A : Option Addr} {S X Y X' : List SeenD} (h : Two W g v7 v8 A S X Y) (hN : Kd.N kSeen 36 w1 (g + 1) (fun b => g < b) v X') (hg : W.grownBy w1 v7.ownBlock) (hat : v.ownBlock = v7.ownBlock ∨ ∃ b, v.ownBlock = some b ∧ W.heap.size ≤ b) : Two w1 g v v8 A S X' Y :=
  ⟨hN, N_own h.now hg (fun b hb e => h.ne b e hb), Kd.F_mono (Kd.F_grown (Kd.F_bound h.seen) hg (fun k hk => hk.1.2.2.1)) (fun b hk => ⟨hk.1.1, Nat.lt_of_lt_of_le hk.2 hg.size, fun e => by
      rcases hat with h1 | ⟨b', h1, h2⟩
      · rw [h1] at e; exact hk.1.2.2.1 e
      · rw [h1] at e; injection e with e; have := hk.2; omega, hk.1.2.2.2⟩), fun b e e2 => by
      rcases hat with h1 | ⟨b', h1, h2⟩
      · rw [h1] at e; exact h.ne b e e2
      · rw [h1] at e; injection e with e; have := Kd.N_lt h.now b e2; omega⟩
theorem Two.put8 {W w1 : World} {g : Nat} {v7 v8 v : Value} {A : Option Addr} {S X Y Y' : List SeenD} (h : Two W g v7 v8 A S X Y) (hN : Kd.N kSeen 36 w1 (g + 1) (fun b => g < b) v Y') (hg : W.grownBy w1 v8.ownBlock) (hat : v.ownBlock = v8.ownBlock ∨ ∃ b, v.ownBlock = some b ∧ W.heap.size ≤ b) : Two w1 g v7 v A S X Y' :=
  ⟨N_own h.was hg (fun b hb e => h.ne b hb e), hN, Kd.F_mono (Kd.F_grown (Kd.F_bound h.seen) hg (fun k hk => hk.1.2.2.2)) (fun b hk => ⟨hk.1.1, Nat.lt_of_lt_of_le hk.2 hg.size, hk.1.2.2.1, fun e => by
      rcases hat with h1 | ⟨b', h1, h2⟩
      · rw [h1] at e; exact hk.1.2.2.2 e
      · rw [h1] at e; injection e with e; have := hk.2; omega⟩), fun b e e2 => by
      rcases hat with h1 | ⟨b', h1, h2⟩
      · rw [h1] at e2; exact h.ne b e e2
      · rw [h1] at e2; injection e2 with e2; have := Kd.N_lt h.was b e; omega⟩

/-- The lowest bit of a byte, as a number. -/
theorem low_bit (x : Int) : 0 ≤ wrap64 (bits BinOp.and IntKind.u8 x 1) ∧ wrap64 (bits BinOp.and IntKind.u8 x 1) ≤ 1 := by
  have h : bits BinOp.and IntKind.u8 x 1 = IntKind.u8.wrap (((BitVec.ofInt 8 x).toNat % 2 : Nat) : Int) := by
    show IntKind.u8.wrap ((BitVec.ofInt 8 x &&& BitVec.ofInt 8 1).toNat : Int) = _
    rw [BitVec.toNat_and, show (BitVec.ofInt 8 1).toNat = 1 from rfl, Nat.and_one_is_mod]
  rw [h, IntKind.wrap_u8]
  unfold wrap64
  omega
theorem small_wf {n : Int} (h0 : 0 ≤ n) (h1 : n ≤ 200) : (Lit.int .i64 n).wf = true := by
  simp [Lit.wf, IntKind.min, IntKind.max, IntKind.signed, IntKind.bits]
  omega
theorem two_start (w : World) (o : Obj) : Two (((w.alloc o).alloc (.cells #[] 36)).alloc (.cells #[] 36)) w.heap.size (.slice (some ⟨w.heap.size + 1, 0, none⟩) 0 0) (.slice (some ⟨w.heap.size + 1 + 1, 0, none⟩) 0 0) none [] [] [] := by
  have W7 := blk_alloc (blk_new (w.alloc o) (.cells #[] 36)) (.cells #[] 36)
  have W8 := blk_new ((w.alloc o).alloc (.cells #[] 36)) (.cells #[] 36)
  simp at W7 W8
  refine ⟨N_empty kSeen (by simpa using W7) (Nat.le_refl _) (Nat.lt_succ_self _), N_empty kSeen (by simpa using W8) (Nat.le_succ _) (by omega), Kd.F_nil _ _ _, fun b hb e => ?_⟩
  simp [Value.ownBlock] at hb e
  omega

set_option maxHeartbeats 2000000 in
set_option maxRecDepth 100000 in
theorem watches_calls (A : Option Addr) (n c : Nat) (okl : Nat → Prop) (ls : List ByteArray) (b : Int) (w : World) (h : Kd.F Kd.string w okl A n ls) (hz : ∀ s ∈ ls, s.size ≤ maxLen) (hb : (Lit.int .u8 b).wf = true) :
    Calls Try.prog 4 #[.slice A n c, .int .u8 b] w fun e w' => e = .returned (.bool true) ∧ Below w.heap.size w w' := by
  have HL := Aside0.mk h
  have HN := Aside0.mk (Kd.F_len h)
  have hmax := Kd.F_max h
  have HZ := Aside0.mk hz
  clear h hz
  go_enter Try.func4, Try.ntmps4
  go_wp2_with (go_at_call 7; refine (shown_calls _).mono ?_; rintro e w1 ⟨rfl, hb1⟩; have HB1 := Aside0.mk hb1; clear hb1)
  have hwg : w.heap.size ≤ w1.heap.size := HB1.out.size
  have HB4 := Aside0.mk (below_alloc (below_alloc (below_alloc HB1.out (.cells #[.bool false, .bool false, .slice none 0 0, .slice none 0 0] 26)) (.cells #[] 36)) (.cells #[] 36))
  have X4 := Aside0.mk (blk_alloc (blk_alloc (blk_new w1 (.cells #[.bool false, .bool false, .slice none 0 0, .slice none 0 0] 26)) (.cells #[] 36)) (.cells #[] 36))
  have TW := Aside0.mk (two_start w1 (.cells #[.bool false, .bool false, .slice none 0 0, .slice none 0 0] 26))
  clear HB1
  generalize w1.heap.size = g at *
  generalize ((w1.alloc (.cells #[.bool false, .bool false, .slice none 0 0, .slice none 0 0] 26)).alloc (.cells #[] 36)).alloc (.cells #[] 36) = w4 at *
  go_loopw [7, 8, 9, 10] (fun v7 v8 v9 v10 wr => ∃ (k : Nat) (R : List Rec) (As : Option Addr) (cs : Nat), k ≤ n ∧ k ≤ 8 ∧ R.length ≤ k ∧ R.length ≤ cs ∧ v10 = .int .i64 k ∧ v9 = .bool (R.any (fun r => r.d == 1)) ∧ (∃ A7 c7, v7 = .slice A7 R.length c7) ∧ (∃ A8 c8, v8 = .slice A8 R.length c8) ∧ g < wr.heap.size ∧ Aside0 (Below w.heap.size w wr) ∧ Aside0 (wr.heap[g]? = some (.cells #[.bool false, .bool false, .slice none 0 0, .slice As R.length cs] 26 (0, 0))) ∧ Aside0 (Two wr g v7 v8 As (R.map Rec.was) (R.map Rec.was) (R.map Rec.now)) ∧ Aside0 (Wat ls k R)) (fun _ _ _ v10 _ => n - (intOf v10).toNat)
  case atStart => exact ⟨0, [], none, 0, Nat.zero_le _, Nat.zero_le _, Nat.le_refl _, Nat.le_refl _, rfl, rfl, ⟨_, _, rfl⟩, ⟨_, _, rfl⟩, blk_lt X4.out, HB4, X4, TW, ⟨Wat.nil ls⟩⟩
  case round =>
    obtain ⟨k, R, As, cs, hkn, hk8, hRk, hRc, rfl, rfl, ⟨A7, c7, rfl⟩, ⟨A8, c8, rfl⟩, hgr, HB, HX, HT, HW⟩ := hrel
    obtain ⟨any, hany⟩ : ∃ any, any = R.any (fun r => r.d == 1) := ⟨_, rfl⟩
    rw [← hany]
    have HANY := Aside0.mk hany
    clear hany
    by_cases hlt : k < n ∧ k < 8
    · obtain ⟨hlt, hlt8⟩ := hlt
      have i0 : (k : Int) < (n : Int) := by omega
      have i1 : (k : Int) < 8 := by omega
      have i2 : (0 : Int) ≤ (k : Int) := by omega
      obtain ⟨wo, rfl⟩ : ∃ wo : World, wo = wr := ⟨_, rfl⟩
      have hl : k < ls.length := by rw [HN.out]; exact hlt
      go_wp2_with fail
      go_loopw [11, 12] (fun v11 v12 wi => ∃ (j : Nat) (f : Bool), j ≤ k ∧ v12 = .int .i64 j ∧ v11 = .bool f ∧ Aside0 (f = !((ls.take j).any (fun s => s.toList == ls[k].toList))) ∧ Aside0 (∃ q, wi = wo.drewN q)) (fun _ v12 _ => k - (intOf v12).toNat)
      case atStart => exact ⟨0, true, Nat.zero_le _, rfl, rfl, ⟨rfl⟩, ⟨0, rfl⟩⟩
      case round =>
        obtain ⟨j, f, hjk, rfl, rfl, HF, HQ⟩ := hrel
        obtain ⟨q, rfl⟩ := HQ.out
        by_cases hjlt : j < k
        · obtain ⟨ad, hl1, rfl, c0⟩ := text_at (Kd.F_below HL.out HB.out) k hlt
          obtain ⟨bd, hl2, e2, c1⟩ := text_at (Kd.F_below HL.out HB.out) j (by omega)
          injection e2 with e2
          subst e2
          have j0 : (j : Int) < (k : Int) := by omega
          have j1 : (j : Int) < (n : Int) := by omega
          have j2 : (0 : Int) ≤ (j : Int) := by omega
          cases f
          · go_wp2_with fail
            go_quiet (fail)
            go_wp2
            go_roundw
            case rel => exact ⟨j + 1, false, by omega, by go_num, rfl, ⟨by rw [take_snoc ls j hl2, List.any_append, Bool.not_or, ← HF.out]; rfl⟩, ⟨_, rfl⟩⟩
            case measure => simp [intOf]; omega
          · cases hp : (ls[j].toList == ls[k].toList)
            · have hp2 : (ls[j].toList != ls[k].toList) = true := by rw [bne, hp]; rfl
              go_wp2_with fail
              go_quiet (fail)
              go_wp2
              go_roundw
              case rel => exact ⟨j + 1, true, by omega, by go_num, rfl, ⟨by rw [take_snoc ls j hl2, List.any_append, Bool.not_or, ← HF.out]; simp [hp]⟩, ⟨_, rfl⟩⟩
              case measure => simp [intOf]; omega
            · have hp2 : (ls[j].toList != ls[k].toList) = false := by rw [bne, hp]; rfl
              go_wp2_with fail
              go_quiet (fail)
              go_wp2
              go_roundw
              case rel => exact ⟨j + 1, false, by omega, by go_num, rfl, ⟨by rw [take_snoc ls j hl2, List.any_append, Bool.not_or, ← HF.out]; simp [hp]⟩, ⟨_, rfl⟩⟩
              case measure => simp [intOf]; omega
        · have hjk' : j = k := by omega
          subst hjk'
          obtain ⟨ad, hl1, rfl, c0⟩ := text_at (Kd.F_below HL.out HB.out) j hlt
          have hdr : Below wo.heap.size wo (wo.drewN q) := pw_below_drewN (Below.refl _ _) q
          have HBr := Aside0.mk (step2 HB.out hdr)
          have HXr := Aside0.mk (blk_below HX.out hdr)
          have HTr := Aside0.mk (HT.out.below hdr)
          replace c0 := pw_cell_below hdr c0
          have hgr2 : g < (wo.drewN q).heap.size := blk_lt HXr.out
          clear hdr HB HX HT HQ hgr HB4 X4 TW
          generalize wo.drewN q = wd at *
          obtain ⟨S', hS'⟩ : ∃ S', S' = watchS (R.map Rec.was) ls[j] (10 + j) := ⟨_, rfl⟩
          have HS := Aside0.mk hS'
          have hf : f = !(there (R.map Rec.was) ls[j]) := by rw [HW.out.told]; exact HF.out
          clear HF
          have HF := Aside0.mk hf
          clear hS' hf
          obtain ⟨key, hkey⟩ : ∃ key, key = ls[j] := ⟨_, rfl⟩
          rw [← hkey] at c0 HS HF
          have HKEY := Aside0.mk hkey
          clear hkey
          go_upto_region 14 with fail
          go_cut [13, 14] (fun v13 v14 W => ∃ (bk : Nat) (A' : Option Addr) (c' : Nat), v13 = .pointer (some ⟨bk, 0, none⟩) ∧ v14 = .bool true ∧ g < bk ∧ S'.length ≤ c' ∧ Aside0 (W.heap[bk]? = some (.cells #[.bool false, .bool false, .slice none 0 0, .slice A' S'.length c'] 26 (0, 0))) ∧ Aside0 (Below wd.heap.size wd W) ∧ Aside0 (Kd.F kSeen W (fun x => (g < x ∧ x < wd.heap.size ∧ some x ≠ (Value.slice A7 R.length c7).ownBlock ∧ some x ≠ (Value.slice A8 R.length c8).ownBlock) ∨ wd.heap.size ≤ x) A' S'.length S'))
          case first =>
            have KS : ∀ W, Below wd.heap.size wd W → W.cell? ⟨g, 0, none⟩ = some (.bool false) ∧ W.cell? ⟨g, 1, none⟩ = some (.bool false) ∧ W.cell? ⟨g, 2, none⟩ = some (.slice none 0 0) ∧ W.cell? ⟨g, 3, none⟩ = some (.slice As R.length cs) ∧ W.cell? (ad.add j) = some (.string key) := fun W hb => by
              obtain ⟨p0, p1, p2, p3, pf⟩ := cells4 (blk_below HXr.out hb)
              exact ⟨p0, p1, p2, p3, pw_cell_below hb c0⟩
            have FW : ∀ W, Below wd.heap.size wd W → Kd.F kSeen W (fun b => g < b ∧ b < wd.heap.size ∧ some b ≠ (Value.slice A7 R.length c7).ownBlock ∧ some b ≠ (Value.slice A8 R.length c8).ownBlock) As R.length (R.map Rec.was) := fun W hb => by
              have h := Kd.F_below HTr.out.seen hb
              rw [List.length_map] at h
              exact h
            have hn24 : (R.length + 1) * 24 ≤ 140737488355328 := by omega
            have HBW : Below wd.heap.size wd wd.drew := (Below.refl _ _).drew
            have HWR := Aside0.mk (show Value.int .i64 (IntKind.i64.wrap (10 + (j : Int))) = .int .i64 (10 + (j : Int)) by rw [Go.IntWalk.i64_in _ (by omega)])
            have NEWB : (wd.alloc (.cells #[.bool false, .bool false, .slice none 0 0, .slice none 0 0] 26)).drew.heap[wd.heap.size]? = some (.cells #[.bool false, .bool false, .slice none 0 0, .slice none 0 0] 26 (0, 0)) := blk_new wd _
            have e := HS.out
            subst e
            clear HBr HTr HW HANY HF HL HN HZ HKEY HS
            go_region_held3 (fun W => W.cell? ⟨g, 0, none⟩ = some (.bool false) ∧ W.cell? ⟨g, 1, none⟩ = some (.bool false) ∧ W.cell? ⟨g, 2, none⟩ = some (.slice none 0 0) ∧ W.cell? ⟨g, 3, none⟩ = some (.slice As R.length cs) ∧ W.cell? (ad.add j) = some (.string key))
              (with_reducible first | exact KS _ (Below.refl _ _) | exact KS _ HBW | exact KS _ (below_alloc HBW _) | exact KS _ (below_alloc (Below.refl _ _) _).drew | exact KS _ (four_B HBW (Nat.le_refl _) _ _ _ _))
              (first | (go_at_call 12; rw [HWR.out]; go_loud (refine (watch_off false none 0 0 As R.length cs _ (R.map Rec.was) key (10 + j) _ (FW _ ?hb) hn24 hRc).mono ?_); (case hb => with_reducible first | exact HBW | exact below_alloc HBW _ | exact (below_alloc (Below.refl _ _) _).drew); rintro e w2 ⟨A2, c2, rfl, HF2, hc2, hb2⟩; (with_reducible first | (have HBW := step2 HBW hb2) | ((obtain ⟨z0, z1, z2, z3, zf⟩ := cells4 (blk_below NEWB hb2)); have HBW := step2 (below_alloc (Below.refl _ _) _).drew hb2))))
            · go_wp2_with fail
              go_meet
              exact ⟨w2.heap.size, A2, c2, rfl, rfl, Nat.lt_of_lt_of_le hgr2 HBW.size, hc2, ⟨blk_new w2 _⟩, ⟨below_alloc HBW _⟩, ⟨Kd.F_alloc HF2.out _⟩⟩
            · go_wp2_with fail
              go_meet
              have h1 : Kd.F kSeen w2 (fun x => (g < x ∧ x < wd.heap.size ∧ some x ≠ (Value.slice A7 R.length c7).ownBlock ∧ some x ≠ (Value.slice A8 R.length c8).ownBlock) ∨ wd.heap.size < x) A2 _ _ := Kd.F_mono HF2.out (fun x hx => hx.imp (fun h => h) (fun h => by simp at h; omega))
              exact ⟨wd.heap.size, A2, c2, rfl, rfl, hgr2, hc2, ⟨four_set (blk_below NEWB hb2) _ _ _ _⟩, ⟨four_B HBW (Nat.le_refl _) _ _ _ _⟩, ⟨Kd.F_mono (four_F h1 (g := wd.heap.size) (fun x hx => by omega) _ _ _ _) (fun x hx => hx.imp (fun h => h) (fun h => Nat.le_of_lt h))⟩⟩
          case rest =>
            obtain ⟨bk, A', c', rfl, rfl, hgb, hcc, HK, HBk, HFk⟩ := hcut
            have T2 := Aside0.mk (HTr.out.other HBk.out HFk.out hgr2)
            have HB2 := Aside0.mk (step2 HBr.out HBk.out)
            have X2 := Aside0.mk (blk_below HXr.out HBk.out)
            replace c0 := pw_cell_below HBk.out c0
            obtain ⟨p0, p1, p2, p3, pf⟩ := cells4 X2.out
            obtain ⟨q0, q1, q2, q3, qf⟩ := cells4 HK.out
            clear HBr HXr HTr HK HBk HFk
            have hwg2 := hwg
            have hkey : key = ls[j] := HKEY.out
            have hsz : key.size ≤ maxLen := HZ.out key (by rw [hkey]; exact List.getElem_mem hl)
            cases f
            · have ht : there (R.map Rec.was) key = true := by simpa using HF.out
              have e : S' = R.map Rec.was := by rw [HS.out, watchS, ht]; rfl
              have hlen : S'.length = R.length := by rw [e, List.length_map]
              rw [hlen] at q3 hcc
              have E := Aside0.mk e
              have HTT := Aside0.mk ht
              have X3 := Aside0.mk (four_set X2.out (.bool false) (.bool false) (.slice none 0 0) (.slice A' R.length c'))
              have B3 := Aside0.mk (four_B HB2.out hwg (.bool false) (.bool false) (.slice none 0 0) (.slice A' R.length c'))
              have T3 := Aside0.mk ((((T2.out.set 0 (.bool false)).set 1 (.bool false)).set 2 (.slice none 0 0)).set 3 (.slice A' R.length c'))
              clear e ht hlen
              go_wp2_with fail
              go_roundw
              case rel => exact ⟨j + 1, R, A', c', by omega, by omega, by omega, hcc, by go_num, by rw [HANY.out], ⟨_, _, rfl⟩, ⟨_, _, rfl⟩, blk_lt X3.out, B3, X3, ⟨by have h := T3.out; rw [E.out] at h; exact h⟩, ⟨HW.out.again hl (by rw [← hkey]; exact HTT.out)⟩⟩
              case measure => simp [intOf]; omega
            · have ht : there (R.map Rec.was) key = false := by simpa using HF.out
              have e : S' = R.map Rec.was ++ [⟨key, 10 + j⟩] := by rw [HS.out, watchS, ht]; rfl
              have hlen : S'.length = R.length + 1 := by rw [e, List.length_append, List.length_map]; rfl
              rw [hlen] at q3 hcc
              have E := Aside0.mk e
              have HTT := Aside0.mk ht
              have X3 := Aside0.mk (four_set X2.out (.bool false) (.bool false) (.slice none 0 0) (.slice A' (R.length + 1) c'))
              have B3 := Aside0.mk (four_B HB2.out hwg (.bool false) (.bool false) (.slice none 0 0) (.slice A' (R.length + 1) c'))
              have T3 := Aside0.mk ((((T2.out.set 0 (.bool false)).set 1 (.bool false)).set 2 (.slice none 0 0)).set 3 (.slice A' (R.length + 1) c'))
              clear e ht hlen
              go_upto_region 20 with fail
              generalize (((wc.setCell ⟨g, 0, none⟩ (.bool false)).setCell ⟨g, 1, none⟩ (.bool false)).setCell ⟨g, 2, none⟩ (.slice none 0 0)).setCell ⟨g, 3, none⟩ (.slice A' (R.length + 1) c') = ws at *
              obtain ⟨d0, d1⟩ := low_bit (b / 2 ^ j)
              generalize wrap64 (bits BinOp.and IntKind.u8 (b / 2 ^ j) 1) = d at *
              have hd : d = 0 ∨ d = 1 := by omega
              have W4 := HW.out.more hl hlt8 (by rw [← hkey]; exact hsz) d hd (by rw [← hkey]; exact HTT.out)
              rw [← hkey] at W4
              have HW4 := Aside0.mk W4
              have hn24 : (R.length + 1) * 24 ≤ 140737488355328 := by omega
              clear p0 p1 p2 p3 pf q0 q1 q2 q3 qf W4
              have CW : ∀ W, Below w.heap.size w W → W.cell? (ad.add j) = some (.string key) := fun W hb => by
                obtain ⟨ad2, hl2, e2, cw⟩ := text_at HL.out j hlt
                injection e2 with e2
                subst e2
                rw [← HKEY.out] at cw
                exact pw_cell_below hb cw
              have cs3 := CW _ B3.out
              clear hkey
              go_cut [9] (fun v9 W => v9 = .bool (any || (d == 1)) ∧ W = ws)
              case first =>
                cases any
                · go_wp2_with fail
                  go_meet
                  exact ⟨by simp, rfl⟩
                · go_wp2_with fail
                  go_meet
                  exact ⟨by simp, rfl⟩
              case rest =>
                obtain ⟨rfl, rfl⟩ := hcut
                go_wp2_with (first | ((with_reducible refine gate_builtin (b := .append) (xs := #[.tmp 88, .tmp 96]) rfl ?_); at_builtin; go_must (refine Kd.N_append kSeen (w0 := wc) (g + 1) rfl (.tmp 88) (.tmp 96) 24 36 (.agg #[(.string ⟨#[]⟩), (.int .i64 0)]) 24 rfl Try.underlying24 info36 rfl (by decide) (by decide) (.slice A7 R.length c7) (R.map Rec.was) ⟨key, 10 + j⟩ [.string key, .int .i64 (10 + j)] (fun x => g < x) (fun _ => False) ?hs ?hx ?x1 (fun _ h => h.elim) ?x3 T3.out.was (Below.refl _ _) ?x6 ?x7 ?_); (case hs => rfl); (case hx => rfl); (case x1 => exact fun _ _ => ⟨[.string key], [.int .i64 (10 + j)], rfl, rfl, rfl⟩); (case x3 => exact fun x hx => Nat.lt_of_lt_of_le (blk_lt X3.out) hx); (case x6 => exact blk_lt X3.out); (case x7 => rw [List.length_map]; exact hn24); intro v5 w5 hN5 hb5 hg5 hat5; obtain ⟨A5, c5, rfl⟩ := Kd.N_slice hN5; have hl5 : (R.map Rec.was ++ [(⟨key, 10 + j⟩ : SeenD)]).length = R.length + 1 := (by simp); rw [hl5] at hN5 hat5 ⊢; have T5 := Aside0.mk (T3.out.put7 hN5 hg5 hat5); have B5 := Aside0.mk (B3.out.grown hg5 (Nat.le_trans hwg (Nat.le_of_lt (blk_lt X3.out))) (fun k hk => Nat.le_trans hwg (Nat.le_trans (Nat.le_succ g) (Kd.N_base T3.out.was k hk)))); have X5 := Aside0.mk (blk_grown X3.out hg5 (fun e => Nat.lt_irrefl _ (Kd.N_base T3.out.was g e.symm))); have cs5 := CW _ B5.out; clear hN5 hb5 hg5 hat5 hl5) | ((with_reducible refine gate_builtin (b := .append) (xs := #[.tmp 98, .tmp 108]) rfl ?_); at_builtin; go_must (refine Kd.N_append kSeen (w0 := w5) (g + 1) rfl (.tmp 98) (.tmp 108) 24 36 (.agg #[(.string ⟨#[]⟩), (.int .i64 0)]) 24 rfl Try.underlying24 info36 rfl (by decide) (by decide) (.slice A8 R.length c8) (R.map Rec.now) ⟨key, 10 + j + d⟩ [.string key, .int .i64 (10 + j + d)] (fun x => g < x) (fun _ => False) ?hs ?hx ?x1 (fun _ h => h.elim) ?x3 T5.out.now (Below.refl _ _) ?x6 ?x7 ?_); (case hs => rfl); (case hx => rfl); (case x1 => exact fun _ _ => ⟨[.string key], [.int .i64 (10 + j + d)], rfl, rfl, rfl⟩); (case x3 => exact fun x hx => Nat.lt_of_lt_of_le (blk_lt X5.out) hx); (case x6 => exact blk_lt X5.out); (case x7 => rw [List.length_map]; exact hn24); intro v6 w6 hN6 hb6 hg6 hat6; obtain ⟨A6, c6, rfl⟩ := Kd.N_slice hN6; have hl6 : (R.map Rec.now ++ [(⟨key, 10 + j + d⟩ : SeenD)]).length = R.length + 1 := (by simp); rw [hl6] at hN6 hat6 ⊢; have T6 := Aside0.mk (T5.out.put8 hN6 hg6 hat6); have B6 := Aside0.mk (B5.out.grown hg6 (Nat.le_trans hwg (Nat.le_of_lt (blk_lt X5.out))) (fun k hk => Nat.le_trans hwg (Nat.le_trans (Nat.le_succ g) (Kd.N_base T5.out.now k hk)))); have X6 := Aside0.mk (blk_grown X5.out hg6 (fun e => Nat.lt_irrefl _ (Kd.N_base T5.out.now g e.symm))); clear hN6 hb6 hg6 hat6 hl6))
                have hR5 : (R ++ [(⟨key, 10 + j, d⟩ : Rec)]).length = R.length + 1 := by simp
                have hany : (R ++ [(⟨key, 10 + j, d⟩ : Rec)]).any (fun r => r.d == 1) = (R.any (fun r => r.d == 1) || (d == 1)) := by simp
                have hanyA := Aside0.mk hany
                have hR5A := Aside0.mk hR5
                clear hany hR5
                go_roundw
                case rel => exact ⟨j + 1, R ++ [⟨key, 10 + j, d⟩], A', c', by omega, by omega, by rw [hR5A.out]; omega, by rw [hR5A.out]; exact hcc, by go_num, by rw [hanyA.out, ← HANY.out], ⟨_, _, by rw [hR5A.out]⟩, ⟨_, _, by rw [hR5A.out]⟩, blk_lt X6.out, B6, ⟨by rw [hR5A.out]; exact X6.out⟩, ⟨by have h := T6.out; rw [E.out] at h; rw [List.map_append, List.map_append]; exact h⟩, HW4⟩
                case measure => simp [intOf]; omega
    · obtain ⟨x0, x1, x2, x3, xf⟩ := cells4 HX.out
      have FT := HT.out.seen
      rw [List.length_map] at FT
      have FS := Aside0.mk (Kd.F_bound FT)
      have F7 := Aside0.mk (Kd.F_bound (Kd.N_F HT.out.was))
      have F8 := Aside0.mk (Kd.F_bound (Kd.N_F HT.out.now))
      have ZS : Aside0 (∀ x ∈ R.map Rec.was, x.key.size ≤ maxLen) := ⟨fun x hx => by
        obtain ⟨r, hr, rfl⟩ := List.mem_map.1 hx
        exact (HW.out.each r hr).1⟩
      have Z7 : Aside0 (∀ x ∈ R.map Rec.was, x.key.size ≤ maxLen ∧ (Lit.int .i64 x.n).wf = true) := ⟨fun x hx => by
        obtain ⟨r, hr, rfl⟩ := List.mem_map.1 hx
        obtain ⟨h1, h2, h3, h4⟩ := HW.out.each r hr
        exact ⟨h1, small_wf h2 (by show r.n ≤ 200; omega)⟩⟩
      have Z8 : Aside0 (∀ x ∈ R.map Rec.now, x.key.size ≤ maxLen ∧ (Lit.int .i64 x.n).wf = true) := ⟨fun x hx => by
        obtain ⟨r, hr, rfl⟩ := List.mem_map.1 hx
        obtain ⟨h1, h2, h3, h4⟩ := HW.out.each r hr
        exact ⟨h1, small_wf (by show (0 : Int) ≤ r.n + r.d; omega) (by show r.n + r.d ≤ 200; omega)⟩⟩
      have E7 := Aside0.mk HW.out.fresh_was
      have E8 := HW.out.fresh_now
      rw [← HANY.out] at E8
      have HE8 := Aside0.mk E8
      clear E8 FT
      obtain ⟨wo, rfl⟩ : ∃ wo : World, wo = wr := ⟨_, rfl⟩
      have HC0 := Aside0.mk (Below.refl wo.heap.size wo)
      go_upto_region 23 with fail
      all_goals
        go_wp2_with (first | (go_at_call 8; go_must (refine (begin_calls false false none 0 0 As R.length cs _).mono ?_); rintro e w5 ⟨rfl, hb5⟩; have X5 := Aside0.mk (blk_below HX.out hb5); have HB5 := Aside0.mk (step2 HB.out hb5); have HC5 := Aside0.mk hb5; clear hb5) | (go_at_call 12; go_must (refine (watch_on false none 0 0 As R.length cs ⟨#[107]⟩ 1 _).mono ?_); rintro e w6 ⟨rfl, hb6⟩; have Y6 := blk_alloc (blk_below (blk_new w5 (.cells #[.bool true, .bool false, .slice none 0 0, .slice As R.length cs] 26)) hb6) (.cells #[.bool true, .bool false, .slice none 0 0, .slice As R.length cs] 26); have X6 := blk_alloc (blk_below (blk_alloc X5.out (.cells #[.bool true, .bool false, .slice none 0 0, .slice As R.length cs] 26)) hb6) (.cells #[.bool true, .bool false, .slice none 0 0, .slice As R.length cs] 26); have HB6 := Aside0.mk (below_alloc (step2 (below_alloc HB5.out (.cells #[.bool true, .bool false, .slice none 0 0, .slice As R.length cs] 26)) hb6) (.cells #[.bool true, .bool false, .slice none 0 0, .slice As R.length cs] 26)); have HC6 := Aside0.mk (below_alloc (step2 (below_alloc HC5.out (.cells #[.bool true, .bool false, .slice none 0 0, .slice As R.length cs] 26)) hb6) (.cells #[.bool true, .bool false, .slice none 0 0, .slice As R.length cs] 26)); clear hb6; obtain ⟨y0, y1, y2, y3, yf⟩ := cells4 X6; obtain ⟨z0, z1, z2, z3, zf⟩ := cells4 Y6; have HX6 := Aside0.mk X6; have HY6 := Aside0.mk Y6; clear X6 Y6))
        refine (fresh_calls false false none 0 0 As R.length cs A7 R.length c7 _ _ (R.map Rec.was) (R.map Rec.was) _ (Kd.F_below FS.out HC6.out) (Kd.F_below F7.out HC6.out) ZS.out Z7.out).mono ?_
        rintro e w7 ⟨rfl, hb7⟩
        rw [E7.out]
        have X7 := Aside0.mk (blk_below HX6.out hb7)
        have Y7 := Aside0.mk (blk_below HY6.out hb7)
        have HB7 := Aside0.mk (step2 HB6.out hb7)
        have HC7 := Aside0.mk (step2 HC6.out hb7)
        clear hb7 y0 y1 y2 y3 yf z0 z1 z2 z3 zf
        obtain ⟨z0, z1, z2, z3, zf⟩ := cells4 Y7.out
        go_wp2_with fail
        refine (fresh_calls true false none 0 0 As R.length cs A8 R.length c8 _ _ (R.map Rec.was) (R.map Rec.now) _ (Kd.F_below FS.out HC7.out) (Kd.F_below F8.out HC7.out) ZS.out Z8.out).mono ?_
        rintro e w8 ⟨rfl, hb8⟩
        rw [HE8.out]
        have X8 := Aside0.mk (blk_below X7.out hb8)
        have HB8 := Aside0.mk (step2 HB7.out hb8)
        clear hb8 z0 z1 z2 z3 zf
        obtain ⟨y0, y1, y2, y3, yf⟩ := cells4 X8.out
        clear HANY
        cases any
        all_goals
          go_wp2_with (first | (go_at_call 14; go_must (refine (forget_calls false false none 0 0 As R.length cs _).mono ?_); rintro e w9 ⟨rfl, hb9⟩; have HB9 := Aside0.mk (step2 HB8.out hb9); clear hb9) | (go_at_call 13; go_must (refine (fresh_calls false false none 0 0 none 0 0 none 0 0 (fun _ => False) (fun _ => False) [] [] _ (Kd.F_nil _ _ _) (Kd.F_nil _ _ _) (by simp) (by simp)).mono ?_); rintro e w10 ⟨rfl, hb10⟩; have HB10 := Aside0.mk (step2 HB9.out hb10); clear hb10))
          go_ret
          exact ⟨rfl, HB10.out⟩
end Go.Proofs.Ytbjhpmifjiibaaa.T
