/- Whether two needs are the same: the reference's Same, of needs that differ in their keys alone. -/
import Derived.Test.YtflnpgfddedahaaV5
namespace Go.Proofs.Ytflnpgfddedahaa.U
open Go.RowKit Go.Great Go.Proofs.YtflnpgfddedahaaW.PrintWords
set_option linter.unusedVariables false
set_option linter.unusedSimpArgs false
/-- Something is told, and true if p. -/
def ToldIf (p : Prop) (e : Ending) : Prop := ∃ b, e = .returned (.bool b) ∧ (p → b = true)
theorem ToldIf.yes {p : Prop} : ToldIf p (.returned (.bool true)) := ⟨true, rfl, fun _ => rfl⟩
theorem ToldIf.no {p : Prop} (h : ¬ p) : ToldIf p (.returned (.bool false)) := ⟨false, rfl, fun e => absurd e h⟩
set_option maxHeartbeats 4000000 in
set_option maxRecDepth 100000 in
theorem same8_calls (c : Int) (aR aW : Bool) (Ak Bk : Option Addr) (n ck dk : Nat) (Ac Bc : Option Addr) (m cc dc : Nat) (oka okb okc okd : Nat → Prop) (ks ls : List UseD) (cs : List ByteArray) (w : World)
    (hk : Kd.F kUse w oka Ak n ks) (hl : Kd.F kUse w okb Bk n ls) (hc : Kd.F Kd.string w okc Ac m cs) (hd : Kd.F Kd.string w okd Bc m cs) :
    Calls Try.prog 23 #[.agg #[.int .i64 c, .slice Ak n ck, .bool aR, .bool aW, .slice Ac m cc], .agg #[.int .i64 c, .slice Bk n dk, .bool aR, .bool aW, .slice Bc m dc]] w fun e w' => ToldIf (ks = ls) e ∧ Below w.heap.size w w' := by
  have HK := Aside0.mk hk
  have HL := Aside0.mk hl
  have HC := Aside0.mk hc
  have HD := Aside0.mk hd
  have hmk := Kd.F_max hk
  have e0 : (c != c) = false := by simp
  have e1 : (aR != aR) = false := by simp
  have e2 : (aW != aW) = false := by simp
  have e3 : ((n : Int) != (n : Int)) = false := by simp
  clear hk hl hc hd
  have X0 := Aside0.mk (blk_alloc (blk_new w (needB c (.slice Ak n ck) aR aW (.slice Ac m cc))) (needB c (.slice Bk n dk) aR aW (.slice Bc m dc)))
  have X1 := Aside0.mk (second_blk w (needB c (.slice Ak n ck) aR aW (.slice Ac m cc)) #[.int .i64 c, .slice Bk n dk, .bool aR, .bool aW, .slice Bc m dc] 46)
  have HB := Aside0.mk (below_alloc (below_alloc (Below.refl w.heap.size w) (needB c (.slice Ak n ck) aR aW (.slice Ac m cc))) (needB c (.slice Bk n dk) aR aW (.slice Bc m dc)))
  go_enter Try.func23, Try.ntmps23
  go_wp2_with (go_at_call 24; go_must (refine (texts_same rfl _ _ _ _ _ _ _ _ _ (Kd.F_below HC.out HB.out) (Kd.F_below HD.out HB.out)).mono ?_); rintro e w2 ⟨rfl, hb2⟩; have X0 := Aside0.mk (blk_below X0.out hb2.out); have X1 := Aside0.mk (blk_below X1.out hb2.out); have HB := Aside0.mk (step2 HB.out hb2.out); obtain ⟨x0, x1, x2, x3, x4, xf⟩ := cells5' X0.out; obtain ⟨y0, y1, y2, y3, y4, yf⟩ := cells5' X1.out; clear hb2)
  clear x0 x1 x2 x3 x4 xf y0 y1 y2 y3 y4 yf
  go_loopw [6] (fun i wr => ∃ k : Nat, k ≤ n ∧ i = .int .i64 k ∧ Aside0 (∃ q, wr = w2.drewN q)) (fun i _ => n - (intOf i).toNat)
  case atStart => exact ⟨0, Nat.zero_le _, rfl, ⟨0, rfl⟩⟩
  case round =>
    obtain ⟨k, hkn, rfl, HV⟩ := hrel
    have HX0 : Aside0 (wr.heap[w.heap.size]? = some (needB c (.slice Ak n ck) aR aW (.slice Ac m cc))) := ⟨by obtain ⟨q, hq⟩ := HV.out; rw [hq]; exact X0.out⟩
    have HX1 : Aside0 (wr.heap[w.heap.size + 1]? = some (needB c (.slice Bk n dk) aR aW (.slice Bc m dc))) := ⟨by obtain ⟨q, hq⟩ := HV.out; rw [hq]; exact X1.out⟩
    have HBr : Aside0 (Below w.heap.size w wr) := ⟨by obtain ⟨q, hq⟩ := HV.out; rw [hq]; exact pw_below_drewN HB.out q⟩
    obtain ⟨x0, x1, x2, x3, x4, xf⟩ := cells5' HX0.out
    obtain ⟨y0, y1, y2, y3, y4, yf⟩ := cells5' HX1.out
    by_cases hlt : k < n
    · obtain ⟨ad, ha, rfl, c0, c1, c2⟩ := use_cell (Kd.F_below HK.out HBr.out) k hlt
      obtain ⟨bd, hb, rfl, d0, d1, d2⟩ := use_cell (Kd.F_below HL.out HBr.out) k hlt
      have i0 : (k : Int) < (n : Int) := by omega
      have i1 : (0 : Int) ≤ (k : Int) := by omega
      have HE := Aside0.mk (show sameUse ks[k] ls[k] = false → ¬ ks = ls from fun h e => by subst e; rw [sameUse_self] at h; exact Bool.noConfusion h)
      obtain ⟨u, hu⟩ : ∃ u, u = ks[k] := ⟨_, rfl⟩
      obtain ⟨v, hv⟩ : ∃ v, v = ls[k] := ⟨_, rfl⟩
      rw [← hu, ← hv] at HE
      rw [← hu] at c0 c1 c2
      rw [← hv] at d0 d1 d2
      clear hu hv
      have hEq := use_neq u v
      cases hs : sameUse u v
      · rw [hs] at hEq
        have hne := HE.out hs
        go_wp2_with fail
        go_quiet (fail)
        go_wp2_with fail
        go_ret
        exact ⟨.no hne, pw_below_drewN HBr.out _⟩
      · rw [hs] at hEq
        go_wp2_with fail
        go_quiet (fail)
        go_wp2_with fail
        go_roundw
        case rel => exact ⟨k + 1, by omega, by go_num, ⟨by obtain ⟨q, hq⟩ := HV.out; rw [hq, World.drewN_drewN]; exact ⟨_, rfl⟩⟩⟩
        case measure => simp [intOf]; omega
    · have i0 : ¬ (k : Int) < (n : Int) := by omega
      go_wp2_with fail
      go_ret
      exact ⟨.yes, HBr.out⟩
end Go.Proofs.Ytflnpgfddedahaa.U
