/- UsesMany, walked. -/
import Derived.Test.YtflnpgfddedahaaV5
import Derived.Test.YtflnpgfddedahaaWLast
import Derived.Test.YtflnpgfddedahaaWMore
namespace Go.Proofs.Ytflnpgfddedahaa.U
open Go.RowKit Go.Great Go.Proofs.YtflnpgfddedahaaW.PrintWords Go.Proofs.YtflnpgfddedahaaW.PrintLast Go.Proofs.YtflnpgfddedahaaW.PrintMore
attribute [local go_sem] max2_int min2_int max_two min_two max_three min_three
set_option linter.unusedVariables false
set_option linter.unusedSimpArgs false
set_option maxHeartbeats 8000000 in
set_option maxRecDepth 100000 in
theorem manyu_calls (A : Option Addr) (N C : Nat) (xs : List ByteArray) (ok : Nat → Prop) (W : World) (hF : Kd.F Kd.string W ok A N xs) (hlc : N ≤ C) :
    Calls Try.prog 11 #[.slice A N C] W fun e W' => e = .returned (.bool true) ∧ Below W.heap.size W W' := by
  have hxl := Kd.F_len hF
  obtain ⟨m, hm⟩ : ∃ m : Nat, (if (10 : Int) < (N : Int) then (10 : Int) else (N : Int)) = (m : Int) := ⟨min N 10, by split <;> omega⟩
  have hm1 : m ≤ 10 := by split at hm <;> omega
  have hm2 : m ≤ N := by split at hm <;> omega
  have hm3 : m ≤ C := by omega
  have hm0 : (0 : Int) ≤ (m : Int) := by omega
  have hm4 : (m : Int) ≤ (C : Int) := by omega
  have hm5 : (m : Int) ≤ (N : Int) := by omega
  obtain ⟨ys, hys⟩ : ∃ ys, ys = xs.take m := ⟨_, rfl⟩
  have HYL : Aside0 (ys.length = m) := ⟨by rw [hys, List.length_take]; omega⟩
  have HY : Aside0 (Kd.F Kd.string W ok A m ys) := ⟨by
    subst hxl
    have h := Kd.F_take hF (m := m) hm2
    rw [← hys] at h
    rw [HYL.out] at h
    exact h⟩
  clear hF hys hxl
  by_cases hz : m = 0
  · have i0 : ((m : Int) == 0) = true := by simp; omega
    have OM : Aside0 (∀ (A : Option Addr) (cp : Nat) (ok : Nat → Prop) (W : World) (hF : Kd.F Kd.string W ok A 1 [⟨#[109, 103, 101, 116]⟩]) (hcp : 1 ≤ cp), Calls Try.prog 22 #[.slice A 1 cp] W fun e W' => ∃ Ak ck Ac cc, e = .returned (.tuple #[.agg #[.int .i64 0, .slice Ak 0 ck, .bool false, .bool false, .slice Ac 0 cc], .int .i64 1]) ∧ Aside0 (Kd.F kUse W' (fun b => W.heap.size ≤ b) Ak 0 []) ∧ Aside0 (Below W.heap.size W W')) := ⟨fun A cp ok W h1 h2 => of_known of_mget1 rfl A cp ok W h1 h2 (by decide) (by decide)⟩
    clear hz
    go_enter Try.func11, Try.ntmps11
    go_wp2_with (first
      | (go_at_call 19; go_must (refine (shown8_calls _).mono ?_); rintro e w1 ⟨rfl, hb1⟩; have HB := Aside0.mk hb1; clear hb1)
      | ((with_reducible refine gate_dst (N := 29) rfl ?_); go_must (refine Kd.N_lit Kd.string (w0 := W) W.heap.size 9 rfl (N' := 29) rfl (xs := [(⟨#[109, 103, 101, 116]⟩ : ByteArray)]) (inner := [.string ⟨#[109, 103, 101, 116]⟩]) (ok := fun _ => True) (okp := fun _ => False) ?hr ?hp (fun _ hk => hk.elim) trivial HB.out HB.out.size (by decide) ?_); (case hr => go_simp; try rfl); (case hp => exact texts_reps (fun c => fun W' _ => rfl) [_]); intro v1 w2 hN hb hg1 hv; obtain ⟨Aa, ca, rfl⟩ := Kd.N_slice hN; have HN := Aside0.mk hN; have HB := Aside0.mk hb; clear hN hb hg1 hv)
      | (go_at_call 22; go_must (refine (OM.out Aa ca _ _ (Kd.N_F HN.out) (Kd.N_reads' HN.out).2.1).mono ?_); rintro e w3 ⟨Ak, ck, Ac, cc, rfl, -, hb3⟩; have HB := Aside0.mk (step2 HB.out hb3.out); clear hb3))
    go_ret
    exact ⟨rfl, below_alloc HB.out _⟩
  · have i0 : ((m : Int) == 0) = false := by simp; omega
    have hz1 : 1 ≤ m := by omega
    go_enter Try.func11, Try.ntmps11
    go_wp2_with (first
      | (go_at_call 19; go_must (refine (shown8_calls _).mono ?_); rintro e w1 ⟨rfl, hb1⟩; have HB := Aside0.mk hb1; clear hb1)
      | ((with_reducible refine gate_dst (N := 38) rfl ?_); go_must (refine Kd.N_lit Kd.string (w0 := W) W.heap.size 9 rfl (N' := 38) rfl (xs := NAMES4) (inner := NAMES4.map .string) (ok := fun _ => True) (okp := fun _ => False) ?hr2 ?hp2 (fun _ hk => hk.elim) trivial HB.out HB.out.size (by decide) ?_); go_must ((case hr2 => go_simp; try exact ⟨rfl, rfl⟩)); go_must ((case hp2 => exact texts_reps (fun c => fun W' _ => rfl) NAMES4)); go_must (intro v1 w2 hN hb hg1 hv; obtain ⟨An, cn, rfl⟩ := Kd.N_slice hN; have HF4 : Aside0 (Kd.F Kd.string w2 (fun _ => True) An 4 NAMES4) := ⟨Kd.N_F hN⟩; obtain ⟨n4, hn4⟩ : ∃ n4, n4 = NAMES4.length := ⟨_, rfl⟩; rw [← hn4] ; have hn4' : n4 = 4 := hn4; have h4i : (n4 : Int) = 4 := (by omega); have HB := Aside0.mk hb; clear hN hb hg1 hv hn4)))
    have HB2 := HB
    go_loopw [8] (fun v8 wr => ∃ k : Nat, k ≤ 4 ∧ v8 = .int .i64 k ∧ Aside0 (Below W.heap.size W wr) ∧ Aside0 (Below w2.heap.size w2 wr)) (fun v8 _ => 4 - (intOf v8).toNat)
    case atStart => exact ⟨0, by decide, rfl, HB, ⟨Below.refl _ _⟩⟩
    case round =>
      obtain ⟨k, hk4, rfl, HBr, HB4⟩ := hrel
      by_cases hk : k < 4
      · obtain ⟨ad, hl, rfl, c0⟩ := text_at (Kd.F_below HF4.out HB4.out) k hk
        rw [word_get] at c0
        have hns : (word NAMES4 k).size ≤ 140737488351232 := by
          rcases (show k = 0 ∨ k = 1 ∨ k = 2 ∨ k = 3 by omega) with rfl | rfl | rfl | rfl <;> decide
        have hq := of_many k hk ys (by have := HYL.out; omega)
        have OM : Aside0 (∀ (A : Option Addr) (cp : Nat) (ok : Nat → Prop) (W : World), Kd.F Kd.string W ok A (m + 1) (word NAMES4 k :: ys) → m + 1 ≤ cp → Calls Try.prog 22 #[.slice A (m + 1) cp] W fun e W' => ∃ Ak ck Ac cc, e = .returned (.tuple #[.agg #[.int .i64 (IDS4.getD k 0 : Nat), .slice Ak m ck, .bool false, .bool false, .slice Ac 0 cc], .int .i64 0]) ∧ Aside0 (Kd.F kUse W' (fun b => W.heap.size ≤ b) Ak m (ys.map fun s => ⟨s, true, k == 2⟩)) ∧ Aside0 (Below W.heap.size W W')) := ⟨fun A cp ok W h1 h2 => of_known hq (by rw [List.length_map]; exact HYL.out) A cp ok W h1 h2 (by omega) hns⟩
        have hkr := keysOf_r (k == 2) ys
        obtain ⟨nw, hnw, hkw⟩ : ∃ nw : Nat, nw = (keysOf (·.w) (ys.map fun s => (⟨s, true, k == 2⟩ : UseD))).length ∧ (!(decide (0 < nw) == ((k : Int) == 2))) = false := by
          by_cases h2 : k = 2
          · subst h2
            refine ⟨m, ?_, ?_⟩
            · rw [show ((2 : Nat) == 2) = true from rfl, keysOf_w]; exact HYL.out.symm
            · simp; omega
          · refine ⟨0, ?_, ?_⟩
            · rw [show (k == 2) = false by simpa using h2, keysOf_w0]; rfl
            · have : ((k : Int) == 2) = false := by simp; omega
              rw [this]; rfl
        generalize (ys.map fun s => (⟨s, true, k == 2⟩ : UseD)) = ks at OM hkr hnw
        have RD : Aside0 (∀ (c : Int) (Ak : Option Addr) (ck : Nat) (Ac : Option Addr) (cc : Nat) (ok : Nat → Prop) (W0 : World), Kd.F kUse W0 ok Ak m ks → Calls Try.prog 31 #[.agg #[.int .i64 c, .slice Ak m ck, .bool false, .bool false, .slice Ac 0 cc]] W0 fun e W' => ∃ A k, e = .returned (.slice A m k) ∧ Aside0 (Kd.F Kd.string W' (fun b => W0.heap.size ≤ b) A m ys) ∧ Aside0 (Below W0.heap.size W0 W')) := ⟨fun c Ak ck Ac cc ok W0 h => (reads_calls c Ak m ck false false Ac 0 cc ks ok W0 h (by omega)).mono fun e W' ⟨A, k, h1, h2, _, h4⟩ => by
          rw [hkr, HYL.out] at h1 h2
          exact ⟨A, k, h1, ⟨h2⟩, ⟨h4⟩⟩⟩
        have WR : Aside0 (∀ (c : Int) (Ak : Option Addr) (ck : Nat) (Ac : Option Addr) (cc : Nat) (ok : Nat → Prop) (W0 : World), Kd.F kUse W0 ok Ak m ks → Calls Try.prog 29 #[.agg #[.int .i64 c, .slice Ak m ck, .bool false, .bool false, .slice Ac 0 cc]] W0 fun e W' => ∃ A k, e = .returned (.slice A nw k) ∧ Aside0 (Below W0.heap.size W0 W')) := ⟨fun c Ak ck Ac cc ok W0 h => (writes_calls c Ak m ck false false Ac 0 cc ks ok W0 h (by omega)).mono fun e W' ⟨A, k, h1, h2, _, h4⟩ => by
          rw [← hnw] at h1
          exact ⟨A, k, h1, ⟨h4⟩⟩⟩
        obtain ⟨id, hid⟩ : ∃ id : Int, id = ((IDS4.getD k 0 : Nat) : Int) := ⟨_, rfl⟩
        rw [← hid] at OM
        obtain ⟨nm, hnm⟩ : ∃ nm, nm = word NAMES4 k := ⟨_, rfl⟩
        rw [← hnm] at OM c0
        have HKW := Aside0.mk hkw
        clear hid hnm hq hns hkr hnw
        have i4 : (k : Int) < 4 := by omega
        have i5 : (k : Int) < (n4 : Int) := by omega
        have i6 : (0 : Int) ≤ (k : Int) := by omega
        go_wp2_with (first
          | ((with_reducible refine gate_dst (N := 48) rfl ?_); go_must (refine Kd.N_lit Kd.string (w0 := wr) wr.heap.size 9 rfl (N' := 48) rfl (xs := [nm]) (inner := [.string nm]) (ok := fun _ => True) (okp := fun _ => False) ?hr3 ?hp3 (fun _ hk => hk.elim) trivial (Below.refl _ _) (Nat.le_refl _) (by simp) ?_); go_must ((case hr3 => go_simp; try rfl)); go_must ((case hp3 => exact texts_reps (fun c => fun W' _ => rfl) [nm])); go_must (intro v3 w3 hN hb hg1 hv; obtain ⟨Ab, cb, rfl⟩ := Kd.N_slice hN; have HNb := Aside0.mk hN; have HRr := Aside0.mk hb; obtain ⟨n1, hn1⟩ : ∃ n1, n1 = [nm].length := ⟨_, rfl⟩; rw [← hn1] at HNb ⊢; clear hN hb hg1 hv hn1))
          | ((with_reducible refine gate_builtin (b := .append) (xs := #[.tmp 48, .tmp 49]) rfl ?_); at_builtin; go_must (refine Kd.N_append_rows Kd.string (w0 := wr) wr.heap.size rfl (.tmp 48) (.tmp 49) 35 9 (.string ⟨#[]⟩) 16 rfl Try.underlying35 info9 rfl (by decide) (by decide) (.slice Ab n1 cb) [nm] ys A m C (fun _ => True) (fun b => ok b ∧ b < W.heap.size) ?hs4 ?hx4 HNb.out (Kd.F_below (Kd.F_bound HY.out) (step2 HBr.out HRr.out)) ?x4 (fun _ _ => trivial) HRr.out HRr.out.size ?l4 ?_); go_must ((case hs4 => rfl)); go_must ((case hx4 => rfl)); go_must ((case x4 => exact fun b hb => ⟨trivial, fun e => by have h1 := Kd.N_base HNb.out b e.symm; have h2 := HBr.out.size; omega⟩)); go_must ((case l4 => simp only [List.length_cons, List.length_nil]; omega)); go_must (intro v4 w4 hN hb hg1 hv; obtain ⟨Ar, cr, rfl⟩ := Kd.N_slice hN; have HLr : Aside0 (([nm] ++ ys).length = m + 1) := ⟨by rw [List.length_append, HYL.out]; exact Nat.add_comm _ _⟩; rw [HLr.out] at hN ⊢; have HNr := Aside0.mk hN; have HRr := Aside0.mk hb; clear hN hb hg1 hv))
          | (go_at_call 22; go_must (refine (OM.out Ar cr _ _ (Kd.N_F HNr.out) (Kd.N_reads' HNr.out).2.1).mono ?_); rintro e w5 ⟨Ak, ck, Ac, cc, rfl, HK5, hb5⟩; have HRr := Aside0.mk (step2 HRr.out hb5.out); have X5 := Aside0.mk (blk_new w5 (needB id (.slice Ak m ck) false false (.slice Ac 0 cc))); have HK6 := Aside0.mk (Kd.F_alloc HK5.out (needB id (.slice Ak m ck) false false (.slice Ac 0 cc))); clear hb5 HK5)
          | (go_at_call 31; go_must (refine (RD.out _ _ _ _ _ _ _ HK6.out).mono ?_); rintro e w7 ⟨A7, k7, rfl, HF7, hb7⟩; have HRr := Aside0.mk (step2 (below_alloc HRr.out _) hb7.out); have X7 := Aside0.mk (blk_below X5.out hb7.out); have HK7 := Aside0.mk (Kd.F_below HK6.out hb7.out); clear hb7)
          | (go_at_call 24; go_must (refine (texts_same rfl _ _ _ _ _ _ _ _ _ HF7.out (Kd.F_below HY.out (step2 HBr.out HRr.out))).mono ?_); rintro e w8 ⟨rfl, hb8⟩; have HRr := Aside0.mk (step2 HRr.out hb8.out); have X8 := Aside0.mk (blk_below X7.out hb8.out); have HK8 := Aside0.mk (Kd.F_below HK7.out hb8.out); obtain ⟨x0, x1, x2, x3, x4, xf⟩ := cells5' X8.out; clear hb8)
          | (go_at_call 29; go_must (refine (WR.out _ _ _ _ _ _ _ HK8.out).mono ?_); rintro e w9 ⟨A9, k9, rfl, hb9⟩; have HRr := Aside0.mk (step2 HRr.out hb9.out); have hkw := HKW.out; clear hb9))
        go_roundw
        case rel => exact ⟨k + 1, by omega, by go_num, ⟨step2 HBr.out HRr.out⟩, ⟨step2 HB4.out HRr.out⟩⟩
        case measure => simp [intOf]; omega
      · have i7 : ¬ (k : Int) < 4 := by omega
        go_wp2_with (first
          | ((with_reducible refine gate_dst (N := 73) rfl ?_); go_must (refine Kd.N_lit Kd.string (w0 := W) W.heap.size 9 rfl (N' := 73) rfl (xs := [MSET]) (inner := [.string MSET]) (ok := fun _ => True) (okp := fun _ => False) ?hr5 ?hp5 (fun _ hk => hk.elim) trivial HBr.out HBr.out.size (by decide) ?_); go_must ((case hr5 => go_simp; try rfl)); go_must ((case hp5 => exact texts_reps (fun c => fun W' _ => rfl) [MSET])); go_must (intro v3 w3 hN hb hg1 hv; obtain ⟨Ap, cp, rfl⟩ := Kd.N_slice hN; have HNp := Aside0.mk hN; have HBp := Aside0.mk hb; obtain ⟨np, hnp⟩ : ∃ np, np = [MSET].length := ⟨_, rfl⟩; have HNL := Aside0.mk hnp; rw [← hnp] at HNp ⊢; clear hN hb hg1 hv hnp))
          | fail)
        clear HBr HB4
        go_loopw [12, 13] (fun v12 v13 wq => ∃ (j : Nat) (A2 : Option Addr) (m2 c2 : Nat), j ≤ m ∧ v13 = .int .i64 j ∧ v12 = .slice A2 m2 c2 ∧ Aside0 (m2 = 1 + 2 * j) ∧ Aside0 (Kd.N Kd.string 9 wq W.heap.size (fun _ => True) (.slice A2 m2 c2) (pairsOf (ys.take j))) ∧ Aside0 (Below W.heap.size W wq)) (fun _ v13 _ => m - (intOf v13).toNat)
        case atStart => exact ⟨0, Ap, np, cp, Nat.zero_le _, rfl, rfl, ⟨HNL.out⟩, HNp, HBp⟩
        case round =>
          obtain ⟨j, A2, m2, c2, hjm, rfl, rfl, HM2, HN2, HBq⟩ := hrel
          by_cases hj : j < m
          · obtain ⟨yd, hyl, rfl, c0⟩ := text_at (Kd.F_below HY.out HBq.out) j hj
            have HPT := Aside0.mk (pairs_take ys j hyl)
            obtain ⟨y, hy⟩ : ∃ y, y = ys[j] := ⟨_, rfl⟩
            rw [← hy] at c0 HPT
            clear hy
            have j0 : (j : Int) < (m : Int) := by omega
            have j1 : (0 : Int) ≤ (j : Int) := by omega
            go_wp2_with (first
              | ((with_reducible refine gate_dst (N := 85) rfl ?_); go_must (refine Kd.N_lit Kd.string (w0 := wr) wr.heap.size 9 rfl (N' := 85) rfl (xs := [y, VEE]) (inner := [.string y, .string VEE]) (ok := fun b => wr.heap.size ≤ b) (okp := fun _ => False) ?hr6 ?hp6 (fun _ hk => hk.elim) (Nat.le_refl _) (Below.refl _ _) (Nat.le_refl _) (by simp) ?_); go_must ((case hr6 => go_simp; try rfl)); go_must ((case hp6 => exact texts_reps (fun c => fun W' _ => rfl) [y, VEE])); go_must (intro v3 w3 hN hb hg1 hv; obtain ⟨Ay, cy, rfl⟩ := Kd.N_slice hN; have HNy := Aside0.mk hN; have HBy := Aside0.mk hb; obtain ⟨ny, hny⟩ : ∃ ny, ny = [y, VEE].length := ⟨_, rfl⟩; have HNY := Aside0.mk hny; rw [← hny] at HNy ⊢; clear hN hb hg1 hv hny))
              | ((with_reducible refine gate_builtin (b := .append) (xs := #[.tmp 80, .tmp 85]) rfl ?_); at_builtin; go_must (refine Kd.N_append_rows Kd.string (w0 := W) W.heap.size rfl (.tmp 80) (.tmp 85) 35 9 (.string ⟨#[]⟩) 16 rfl Try.underlying35 info9 rfl (by decide) (by decide) (.slice A2 m2 c2) (pairsOf (ys.take j)) [y, VEE] Ay ny cy (fun _ => True) (fun b => wr.heap.size ≤ b) ?hs7 ?hx7 (Kd.N_below HN2.out HBy.out) (Kd.N_F HNy.out) ?x7 (fun _ _ => trivial) (step2 HBq.out HBy.out) (step2 HBq.out HBy.out).size ?l7 ?_); go_must ((case hs7 => rfl)); go_must ((case hx7 => rfl)); go_must ((case x7 => exact fun b hb => ⟨trivial, fun e => by have h1 := Kd.N_lt HN2.out b e.symm; omega⟩)); go_must ((case l7 => have h1 := HNY.out; have h2 : (pairsOf (ys.take j)).length ≤ 1 + 2 * j := (by rw [pairs_len, List.length_take]; omega); simp only [List.length_cons, List.length_nil] at h1; omega)); go_must (intro v4 w4 hN hb hg1 hv; obtain ⟨A3, c3, rfl⟩ := Kd.N_slice hN; have HL3 : Aside0 ((pairsOf (ys.take j) ++ [y, VEE]).length = 1 + 2 * (j + 1)) := ⟨by rw [← HPT.out, pairs_len, List.length_take]; have := HYL.out; omega⟩; obtain ⟨m3, hm3'⟩ : ∃ m3, m3 = (pairsOf (ys.take j) ++ [y, VEE]).length := ⟨_, rfl⟩; have HM3 := Aside0.mk (hm3'.trans HL3.out); rw [← hm3'] at hN ⊢; have HN3 := Aside0.mk hN; have HB3 := Aside0.mk hb; clear hN hb hg1 hv hm3')))
            go_roundw
            case rel => exact ⟨j + 1, A3, m3, c3, by omega, by go_num, rfl, HM3, ⟨by rw [HPT.out]; exact HN3.out⟩, HB3⟩
            case measure => simp [intOf]; omega
          · have hjm' : j = m := by omega
            subst hjm'
            have hty : ys.take j = ys := List.take_of_length_le (by have := HYL.out; omega)
            rw [hty] at HN2
            have hm2 := HM2.out
            obtain ⟨q, hq⟩ : ∃ q, m2 = q + 1 := ⟨2 * j, by omega⟩
            subst hq
            have hqj : q = 2 * j := by omega
            have hqn : q = 2 * ys.length := by rw [HYL.out]; exact hqj
            have hp := of_pairs ys (by rw [HYL.out]; exact hz1)
            have ho := of_odd ys (by rw [HYL.out]; exact hz1)
            rw [← hqn] at ho
            have hw0 : word (pairsOf ys) 0 = MSET := rfl
            have hw1 : word ((pairsOf ys).take q) 0 = MSET := by obtain ⟨q', hq'⟩ : ∃ q', q = q' + 1 := ⟨q - 1, by omega⟩; rw [hq']; rfl
            have HFP := Aside0.mk (Kd.N_F HN2.out)
            have HFO : Aside0 (Kd.F Kd.string wr (fun _ => True) A2 q ((pairsOf ys).take q)) := ⟨by
              have h := HFP.out
              have hpl : (pairsOf ys).length = q + 1 := by rw [pairs_len, HYL.out]; omega
              rw [← hpl] at h
              have h2 := Kd.F_take h (m := q) (by omega)
              rwa [List.length_take, hpl, Nat.min_eq_left (by omega)] at h2⟩
            have hc2 := (Kd.N_reads' HN2.out).2.1
            have OP : Aside0 (∀ (W : World), Kd.F Kd.string W (fun _ => True) A2 (q + 1) (pairsOf ys) → Calls Try.prog 22 #[.slice A2 (q + 1) c2] W fun e W' => ∃ Ak ck Ac cc, e = .returned (.tuple #[.agg #[.int .i64 8, .slice Ak j ck, .bool false, .bool false, .slice Ac 0 cc], .int .i64 0]) ∧ Aside0 (Kd.F kUse W' (fun b => W.heap.size ≤ b) Ak j (ys.map fun s => ⟨s, false, true⟩)) ∧ Aside0 (Below W.heap.size W W')) := ⟨fun W h1 => of_known hp (by rw [List.length_map]; exact HYL.out) A2 c2 _ W h1 hc2 (by omega) (by rw [hw0]; decide)⟩
            have OO : Aside0 (∀ (W : World), Kd.F Kd.string W (fun _ => True) A2 q ((pairsOf ys).take q) → Calls Try.prog 22 #[.slice A2 q c2] W fun e W' => ∃ Ak ck Ac cc, e = .returned (.tuple #[.agg #[.int .i64 0, .slice Ak 0 ck, .bool false, .bool false, .slice Ac 0 cc], .int .i64 1]) ∧ Aside0 (Kd.F kUse W' (fun b => W.heap.size ≤ b) Ak 0 []) ∧ Aside0 (Below W.heap.size W W')) := ⟨fun W h1 => of_known ho rfl A2 c2 _ W h1 (by omega) (by omega) (by rw [hw1]; decide)⟩
            have hkr := keysOf_r0 true ys
            have hkw := keysOf_w false ys
            generalize (ys.map fun s => (⟨s, false, true⟩ : UseD)) = ks at OP hkr hkw
            have RD : Aside0 (∀ (c : Int) (Ak : Option Addr) (ck : Nat) (Ac : Option Addr) (cc : Nat) (ok : Nat → Prop) (W0 : World), Kd.F kUse W0 ok Ak j ks → Calls Try.prog 31 #[.agg #[.int .i64 c, .slice Ak j ck, .bool false, .bool false, .slice Ac 0 cc]] W0 fun e W' => ∃ A k, e = .returned (.slice A 0 k) ∧ Aside0 (Below W0.heap.size W0 W')) := ⟨fun c Ak ck Ac cc ok W0 h => (reads_calls c Ak j ck false false Ac 0 cc ks ok W0 h (by omega)).mono fun e W' ⟨A, k, h1, h2, _, h4⟩ => by
              rw [hkr] at h1
              exact ⟨A, k, h1, ⟨h4⟩⟩⟩
            have WR : Aside0 (∀ (c : Int) (Ak : Option Addr) (ck : Nat) (Ac : Option Addr) (cc : Nat) (ok : Nat → Prop) (W0 : World), Kd.F kUse W0 ok Ak j ks → Calls Try.prog 29 #[.agg #[.int .i64 c, .slice Ak j ck, .bool false, .bool false, .slice Ac 0 cc]] W0 fun e W' => ∃ A k, e = .returned (.slice A j k) ∧ Aside0 (Kd.F Kd.string W' (fun b => W0.heap.size ≤ b) A j ys) ∧ Aside0 (Below W0.heap.size W0 W')) := ⟨fun c Ak ck Ac cc ok W0 h => (writes_calls c Ak j ck false false Ac 0 cc ks ok W0 h (by omega)).mono fun e W' ⟨A, k, h1, h2, _, h4⟩ => by
              rw [hkw, HYL.out] at h1 h2
              exact ⟨A, k, h1, ⟨h2⟩, ⟨h4⟩⟩⟩
            have hc2' : (q : Int) ≤ (c2 : Int) := by omega
            have hc2'' : q ≤ c2 := by omega
            have j0 : ¬ (j : Int) < (j : Int) := by omega
            have KT := Aside0.mk trivial
            have HR : Aside0 (Below wr.heap.size wr wr) := ⟨Below.refl _ _⟩
            have hwq : wrap64 (q : Int) = (q : Int) := IntWalk.wrap64_in _ (by omega)
            clear hp ho hw0 hw1 hkr hkw hc2 hm2 hqj hqn hty
            go_wp2_with (first
              | (go_at_call 22; clear KT; go_must (refine (OP.out _ HFP.out).mono ?_); rintro e w5 ⟨Ak, ck, Ac, cc, rfl, HK5, hb5⟩; have HR := Aside0.mk (below_alloc hb5.out (needB 8 (.slice Ak j ck) false false (.slice Ac 0 cc))); have X5 := Aside0.mk (blk_new w5 (needB 8 (.slice Ak j ck) false false (.slice Ac 0 cc))); have HK6 := Aside0.mk (Kd.F_alloc HK5.out (needB 8 (.slice Ak j ck) false false (.slice Ac 0 cc))); clear hb5 HK5)
              | (go_at_call 22; go_must (refine (OO.out _ (Kd.F_below HFO.out HR.out)).mono ?_); rintro e w6 ⟨Ak2, ck2, Ac2, cc2, rfl, -, hb6⟩; have HR := Aside0.mk (below_alloc (step2 HR.out hb6.out) (needB 0 (.slice Ak2 0 ck2) false false (.slice Ac2 0 cc2))); have X6 := Aside0.mk (blk_alloc (blk_below X5.out hb6.out) (needB 0 (.slice Ak2 0 ck2) false false (.slice Ac2 0 cc2))); have HK6 := Aside0.mk (Kd.F_alloc (Kd.F_below HK6.out hb6.out) (needB 0 (.slice Ak2 0 ck2) false false (.slice Ac2 0 cc2))); obtain ⟨x0, x1, x2, x3, x4, xf⟩ := cells5' X6.out; clear hb6 X5)
              | (go_at_call 29; go_must (refine (WR.out _ _ _ _ _ _ _ HK6.out).mono ?_); rintro e w7 ⟨A7, k7, rfl, HF7, hb7⟩; have HR := Aside0.mk (step2 HR.out hb7.out); have X7 := Aside0.mk (blk_below X6.out hb7.out); have HK7 := Aside0.mk (Kd.F_below HK6.out hb7.out); clear hb7 x0 x1 x2 x3 x4 xf)
              | (go_at_call 24; go_must (refine (texts_same rfl _ _ _ _ _ _ _ _ _ HF7.out (Kd.F_below HY.out (step2 HBq.out HR.out))).mono ?_); rintro e w8 ⟨rfl, hb8⟩; have HR := Aside0.mk (step2 HR.out hb8.out); have X8 := Aside0.mk (blk_below X7.out hb8.out); have HK8 := Aside0.mk (Kd.F_below HK7.out hb8.out); obtain ⟨x0, x1, x2, x3, x4, xf⟩ := cells5' X8.out; clear hb8)
              | (go_at_call 31; go_must (refine (RD.out _ _ _ _ _ _ _ HK8.out).mono ?_); rintro e w9 ⟨A9, k9, rfl, hb9⟩; have HR := Aside0.mk (step2 HR.out hb9.out); clear hb9))
            go_ret
            exact ⟨rfl, step2 HBq.out HR.out⟩
end Go.Proofs.Ytflnpgfddedahaa.U
