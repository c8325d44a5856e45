/- uses.needs: which names have which kinds. -/
import Derived.Test.YtflnpgfddedahaaU2
namespace Go.Proofs.Ytflnpgfddedahaa.U
open Go.RowKit Go.Great Go.Maps Go.Proofs.YtflnpgfddedahaaW.PrintWords
set_option linter.unusedVariables false
set_option linter.unusedSimpArgs false

def GETS : List ByteArray := [⟨#[103, 101, 116]⟩, ⟨#[115, 116, 114, 108, 101, 110]⟩, ⟨#[108, 108, 101, 110]⟩, ⟨#[108, 114, 97, 110, 103, 101]⟩, ⟨#[104, 103, 101, 116]⟩, ⟨#[104, 108, 101, 110]⟩, ⟨#[104, 103, 101, 116, 97, 108, 108]⟩, ⟨#[115, 105, 115, 109, 101, 109, 98, 101, 114]⟩, ⟨#[115, 109, 101, 109, 98, 101, 114, 115]⟩, ⟨#[115, 99, 97, 114, 100]⟩, ⟨#[122, 115, 99, 111, 114, 101]⟩, ⟨#[122, 114, 97, 110, 103, 101]⟩, ⟨#[122, 99, 97, 114, 100]⟩, ⟨#[116, 121, 112, 101]⟩, ⟨#[116, 116, 108]⟩]
def WRITES : List ByteArray := [⟨#[97, 112, 112, 101, 110, 100]⟩, ⟨#[105, 110, 99, 114, 98, 121]⟩, ⟨#[105, 110, 99, 114]⟩, ⟨#[103, 101, 116, 100, 101, 108]⟩, ⟨#[108, 112, 117, 115, 104]⟩, ⟨#[114, 112, 117, 115, 104]⟩, ⟨#[108, 112, 111, 112]⟩, ⟨#[114, 112, 111, 112]⟩, ⟨#[104, 115, 101, 116]⟩, ⟨#[104, 100, 101, 108]⟩, ⟨#[104, 105, 110, 99, 114, 98, 121]⟩, ⟨#[115, 97, 100, 100]⟩, ⟨#[115, 114, 101, 109]⟩, ⟨#[122, 97, 100, 100]⟩, ⟨#[122, 114, 101, 109]⟩, ⟨#[122, 105, 110, 99, 114, 98, 121]⟩, ⟨#[101, 120, 112, 105, 114, 101]⟩, ⟨#[112, 101, 114, 115, 105, 115, 116]⟩]
def KFIRST : List (List UInt8 × NK) := [([112, 117, 98, 108, 105, 115, 104], .fn 59), ([115, 117, 98, 115, 99, 114, 105, 98, 101], .fn 57), ([102, 108, 117, 115, 104, 97, 108, 108], .fn 56), ([100, 98, 115, 105, 122, 101], .fn 55), ([107, 101, 121, 115], .fn 54), ([115, 109, 111, 118, 101], .fn 53), ([114, 101, 110, 97, 109, 101], .fn 52), ([109, 115, 101, 116], .each 2 false true), ([100, 101, 108], .each 1 true true), ([119, 97, 116, 99, 104], .each 1 true false), ([101, 120, 105, 115, 116, 115], .each 1 true false), ([109, 103, 101, 116], .each 1 true false), ([115, 101, 116], .fn 49)]
/-- Names of one kind laid over a table. -/
def addAll (l : List ByteArray) (k : NK) (K : List (List UInt8 × NK)) : List (List UInt8 × NK) := l.foldl (fun K n => (n.data.toList, k) :: K) K
theorem addAll_snoc (l : List ByteArray) (j : Nat) (h : j < l.length) (k : NK) (K : List (List UInt8 × NK)) : addAll (l.take (j + 1)) k K = (l[j].data.toList, k) :: addAll (l.take j) k K := by
  unfold addAll
  rw [List.take_succ_eq_append_getElem h, List.foldl_append]
  rfl
theorem gets_small : ∀ s ∈ GETS, s.size ≤ 20 := by decide
theorem writes_small : ∀ s ∈ WRITES, s.size ≤ 20 := by decide
def KALL : List (List UInt8 × NK) := addAll WRITES (.one true true) (addAll GETS (.one true false) KFIRST)

theorem gate_ins {ops : Array Oper} {rest : List Oper} {o : Oper} {a : Act} {Q : Exit → Act → World → Prop} {W : World} {m x v : Operand} (hop : o.op = Op.insert 76 m x v) (h : wpList Try.prog ops Q (o :: rest) a W) : wpList Try.prog ops Q (o :: rest) a W := h
theorem store_ins {lo : Nat} {ops : Array Oper} {rest : List Oper} {o : Oper} {a : Act} {Q : Exit → Act → World → Prop} (W : World) (hg : o.guard = none) (m x v : Operand) (hop : o.op = Op.insert 76 m x v) (B n : Nat) (K : List (List UInt8 × NK))
    (hm : a.eval m = .map (some B)) (hN : NeedsAre lo W B K n) (hn : n < maxLen) (s : ByteArray) (hx : a.eval x = .string s) (hs : s.size ≤ maxLen) (k : NK) (val : Value) (hv : a.eval v = val) (hk : IsNeed lo k val W)
    (hK : ∀ W', NeedsAre lo W' B ((s.data.toList, k) :: K) (n + 1) → W.grownBy W' (some B) → Below B W W' → wpList Try.prog ops Q rest (a.put o.dst undef) W') : wpList Try.prog ops Q (o :: rest) a W :=
  store_need W hg m x v (Or.inl hop) B n K hm hN hn s hx hs k val hv hk hK
theorem store_upd {lo : Nat} {ops : Array Oper} {rest : List Oper} {o : Oper} {a : Act} {Q : Exit → Act → World → Prop} (W : World) (hg : o.guard = none) (m x v : Operand) (hop : o.op = Op.mapUpdate 76 m x v) (B n : Nat) (K : List (List UInt8 × NK))
    (hm : a.eval m = .map (some B)) (hN : NeedsAre lo W B K n) (hn : n < maxLen) (s : ByteArray) (hx : a.eval x = .string s) (hs : s.size ≤ maxLen) (k : NK) (val : Value) (hv : a.eval v = val) (hk : IsNeed lo k val W)
    (hK : ∀ W', NeedsAre lo W' B ((s.data.toList, k) :: K) (n + 1) → W.grownBy W' (some B) → Below B W W' → wpList Try.prog ops Q rest (a.put o.dst undef) W') : wpList Try.prog ops Q (o :: rest) a W :=
  store_need W hg m x v (Or.inr hop) B n K hm hN hn s hx hs k val hv hk hK
theorem gate_upd {ops : Array Oper} {rest : List Oper} {o : Oper} {a : Act} {Q : Exit → Act → World → Prop} {W : World} {m x v : Operand} (hop : o.op = Op.mapUpdate 76 m x v) (h : wpList Try.prog ops Q (o :: rest) a W) : wpList Try.prog ops Q (o :: rest) a W := h
set_option maxHeartbeats 4000000 in
set_option maxRecDepth 100000 in
theorem needs_calls (w : World) : Calls Try.prog 41 #[] w fun e W' => ∃ B, e = .returned (.map (some B)) ∧ Aside0 (NeedsAre w.heap.size W' B KALL 46) ∧ w.heap.size ≤ B ∧ Below w.heap.size w W' := by
  have hmm := @run_makeMap Try.prog
  have HM := Aside0.mk (NeedsAre.made w.heap.size w)
  have HB := Aside0.mk (below_alloc (Below.refl w.heap.size w) (.map #[] 0))
  go_enter Try.func41, Try.ntmps41
  go_upto_region 2 with (first
    | (go_at_call 51; go_must (refine (each_calls' _ _ _ _).mono ?_); rintro e W1 ⟨v, rfl, HV, hb1⟩; have HV := Aside0.mk (HV.out.lower HB.out.size); have HM := Aside0.mk (HM.out.below hb1); have HB := Aside0.mk (step2 HB.out hb1); clear hb1)
    | ((with_reducible refine gate_ins rfl ?_); go_must (refine store_ins _ rfl _ _ _ rfl _ _ _ rfl HM.out (by decide) _ rfl (by decide) _ _ rfl (by first | exact HV.out | exact (show IsNeed _ (.fn 49) (.agg #[.func (.func 49) #[] #[]]) _ from rfl) | exact (show IsNeed _ (.fn 52) (.agg #[.func (.func 52) #[] #[]]) _ from rfl) | exact (show IsNeed _ (.fn 53) (.agg #[.func (.func 53) #[] #[]]) _ from rfl) | exact (show IsNeed _ (.fn 54) (.agg #[.func (.func 54) #[] #[]]) _ from rfl) | exact (show IsNeed _ (.fn 55) (.agg #[.func (.func 55) #[] #[]]) _ from rfl) | exact (show IsNeed _ (.fn 56) (.agg #[.func (.func 56) #[] #[]]) _ from rfl) | exact (show IsNeed _ (.fn 57) (.agg #[.func (.func 57) #[] #[]]) _ from rfl) | exact (show IsNeed _ (.fn 59) (.agg #[.func (.func 59) #[] #[]]) _ from rfl)) ?_); intro W2 hM2 _ hb2; have HM := Aside0.mk hM2; have HB := Aside0.mk (HB.out.trans hb2); clear hM2 hb2))
  have HM3 : Aside0 (NeedsAre w.heap.size W2 w.heap.size KFIRST 13) := ⟨HM.out⟩
  have hbs : w.heap.size < W2.heap.size := HM3.out.lt
  go_wp2_with ((with_reducible refine gate_dst (N := 21) rfl ?_); go_must (refine Kd.N_lit Kd.string (w0 := W2) W2.heap.size 9 rfl (N' := 21) rfl (xs := GETS) (inner := GETS.map .string) (ok := fun k => W2.heap.size ≤ k) (okp := fun _ => False) ?hr ?hp (fun _ h => h.elim) (Nat.le_refl _) (Below.refl _ _) (Nat.le_refl _) ?hl ?_); (case hr => exact exec_lit 35 9 15 _ _ rfl rfl _ 1 (.string ⟨#[]⟩) Try.underlying35 (by kernel_rfl) (by kernel_rfl) (by decide) (by decide) (by kernel_rfl)); (case hp => exact texts_reps (fun c => fun W' _ => rfl) GETS); (case hl => decide); intro v1 W3 hN hb _ _; obtain ⟨A, cp, rfl⟩ := Kd.N_slice hN; have HF := Aside0.mk (Kd.N_F hN); have HB := Aside0.mk (step2 HB.out hb); have HM4 := Aside0.mk (HM3.out.below hb); clear hN hb)
  go_loopw [23] (fun i wr => ∃ j : Nat, j ≤ 15 ∧ i = .int .i64 j ∧ Aside0 (Kd.F Kd.string wr (fun k => W2.heap.size ≤ k) A 15 GETS) ∧ Aside0 (NeedsAre w.heap.size wr w.heap.size (addAll (GETS.take j) (.one true false) KFIRST) (13 + j)) ∧ Aside0 (Below w.heap.size w wr)) (fun i _ => 15 - (intOf i).toNat)
  case atStart => exact ⟨0, by omega, rfl, HF, HM4, HB⟩
  case round =>
    obtain ⟨j, hj, rfl, HFr, HMr, HBr⟩ := hrel
    by_cases hlt : j < 15
    · obtain ⟨ad, hl, rfl, c0⟩ := text_at HFr.out j hlt
      have HK := Aside0.mk (addAll_snoc GETS j hl (.one true false) KFIRST)
      have hsz : GETS[j].size ≤ maxLen := Nat.le_trans (gets_small _ (List.getElem_mem hl)) (by decide)
      have HSZ := Aside0.mk hsz
      clear hsz
      generalize GETS[j] = nm at c0 HK HSZ
      have HJ := Aside0.mk (show 13 + j < maxLen from by unfold maxLen; omega)
      go_wp2_with (first
        | (go_at_call 60; go_must (refine (first_calls _ _ _).mono ?_); rintro e W5 ⟨v, rfl, HV, hb5⟩; have HV := Aside0.mk (HV.out.lower HBr.out.size); have HM5 := Aside0.mk (HMr.out.below hb5); have HF5 := Aside0.mk (Kd.F_below HFr.out hb5); have HB5 := Aside0.mk (step2 HBr.out hb5); clear hb5)
        | ((with_reducible refine gate_upd rfl ?_); go_must (refine store_upd _ rfl _ _ _ rfl _ _ _ rfl HM5.out HJ.out _ rfl HSZ.out _ _ rfl HV.out ?_); intro W6 hM6 hg6 hb6; have HM6 := Aside0.mk hM6; have HF6 := Aside0.mk (Kd.F_grown HF5.out hg6 (fun k hk e => by injection e with e; omega)); have HB6 := Aside0.mk (HB5.out.trans hb6); clear hM6 hg6 hb6))
      go_roundw
      case rel => exact ⟨j + 1, by omega, by go_num, HF6, ⟨by rw [HK.out]; exact HM6.out⟩, HB6⟩
      case measure => simp [intOf]; omega
    · have hj15 : j = 15 := by omega
      have HM7 : Aside0 (NeedsAre w.heap.size wr w.heap.size (addAll GETS (.one true false) KFIRST) 28) := ⟨by have h := HMr.out; rw [hj15] at h; exact h⟩
      have hbs2 : w.heap.size < wr.heap.size := HM7.out.lt
      go_wp2_with ((with_reducible refine gate_dst (N := 31) rfl ?_); go_must (refine Kd.N_lit Kd.string (w0 := wr) wr.heap.size 9 rfl (N' := 31) rfl (xs := WRITES) (inner := WRITES.map .string) (ok := fun k => wr.heap.size ≤ k) (okp := fun _ => False) ?hr ?hp (fun _ h => h.elim) (Nat.le_refl _) (Below.refl _ _) (Nat.le_refl _) ?hl ?_); (case hr => exact exec_lit 35 9 18 _ _ rfl rfl _ 1 (.string ⟨#[]⟩) Try.underlying35 (by kernel_rfl) (by kernel_rfl) (by decide) (by decide) (by kernel_rfl)); (case hp => exact texts_reps (fun c => fun W' _ => rfl) WRITES); (case hl => decide); intro v1 W8 hN hb _ _; obtain ⟨A8, cp8, rfl⟩ := Kd.N_slice hN; have HF8 := Aside0.mk (Kd.N_F hN); have HB8 := Aside0.mk (step2 HBr.out hb); have HM8 := Aside0.mk (HM7.out.below hb); clear hN hb)
      generalize wr.heap.size = g8 at *
      go_loopw [33] (fun i wi => ∃ q : Nat, q ≤ 18 ∧ i = .int .i64 q ∧ Aside0 (Kd.F Kd.string wi (fun k => g8 ≤ k) A8 18 WRITES) ∧ Aside0 (NeedsAre w.heap.size wi w.heap.size (addAll (WRITES.take q) (.one true true) (addAll GETS (.one true false) KFIRST)) (28 + q)) ∧ Aside0 (Below w.heap.size w wi)) (fun i _ => 18 - (intOf i).toNat)
      case atStart => exact ⟨0, by omega, rfl, HF8, HM8, HB8⟩
      case round =>
        obtain ⟨q, hq, rfl, HFs, HMs, HBs⟩ := hrel
        by_cases hlq : q < 18
        · obtain ⟨ad, hl, rfl, c0⟩ := text_at HFs.out q hlq
          have HK := Aside0.mk (addAll_snoc WRITES q hl (.one true true) (addAll GETS (.one true false) KFIRST))
          have HSZ := Aside0.mk (show WRITES[q].size ≤ maxLen from Nat.le_trans (writes_small _ (List.getElem_mem hl)) (by decide))
          generalize WRITES[q] = nm at c0 HK HSZ
          have HJ := Aside0.mk (show 28 + q < maxLen from by unfold maxLen; omega)
          go_wp2_with (first
            | (go_at_call 60; go_must (refine (first_calls _ _ _).mono ?_); rintro e W5 ⟨v, rfl, HV, hb5⟩; have HV := Aside0.mk (HV.out.lower HBs.out.size); have HM5 := Aside0.mk (HMs.out.below hb5); have HF5 := Aside0.mk (Kd.F_below HFs.out hb5); have HB5 := Aside0.mk (step2 HBs.out hb5); clear hb5)
            | ((with_reducible refine gate_upd rfl ?_); go_must (refine store_upd _ rfl _ _ _ rfl _ _ _ rfl HM5.out HJ.out _ rfl HSZ.out _ _ rfl HV.out ?_); intro W6 hM6 hg6 hb6; have HM6 := Aside0.mk hM6; have HF6 := Aside0.mk (Kd.F_grown HF5.out hg6 (fun k hk e => by injection e with e; omega)); have HB6 := Aside0.mk (HB5.out.trans hb6); clear hM6 hg6 hb6))
          go_roundw
          case rel => exact ⟨q + 1, by omega, by go_num, HF6, ⟨by rw [HK.out]; exact HM6.out⟩, HB6⟩
          case measure => simp [intOf]; omega
        · have hq18 : q = 18 := by omega
          have HM9 : Aside0 (NeedsAre w.heap.size wr w.heap.size KALL 46) := ⟨by have h := HMs.out; rw [hq18] at h; exact h⟩
          go_wp2_with fail
          go_ret
          exact ⟨_, rfl, HM9, Nat.le_refl _, HBs.out⟩
end Go.Proofs.Ytflnpgfddedahaa.U
