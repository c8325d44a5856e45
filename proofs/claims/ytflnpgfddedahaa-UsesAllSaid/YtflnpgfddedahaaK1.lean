/- table.Cats and slices.Index of texts: what they come to. -/
import Derived.Test.YtflnpgfddedahaaC4
namespace Go.Proofs.Ytflnpgfddedahaa.U
open Go.RowKit Go.Proofs.YtflnpgfddedahaaW.PrintWords
set_option linter.unusedVariables false
set_option linter.unusedSimpArgs false

/-- The categories' names. -/
def CATS : List ByteArray := [⟨#[114, 101, 97, 100]⟩, ⟨#[119, 114, 105, 116, 101]⟩, ⟨#[107, 101, 121, 115, 112, 97, 99, 101]⟩, ⟨#[115, 116, 114, 105, 110, 103]⟩, ⟨#[108, 105, 115, 116]⟩, ⟨#[104, 97, 115, 104]⟩, ⟨#[115, 101, 116]⟩, ⟨#[115, 111, 114, 116, 101, 100, 115, 101, 116]⟩, ⟨#[112, 117, 98, 115, 117, 98]⟩, ⟨#[99, 111, 110, 110, 101, 99, 116, 105, 111, 110]⟩, ⟨#[116, 114, 97, 110, 115, 97, 99, 116, 105, 111, 110]⟩, ⟨#[97, 100, 109, 105, 110]⟩]
theorem texts_reps {R : ByteArray → List Value → Prop} (hR : ∀ c, R c [.string c]) : ∀ l : List ByteArray, Reps R 1 l (l.map .string)
  | [] => Reps.none _ _
  | c :: l => Reps.front (hR c) rfl (texts_reps hR l) rfl

set_option maxHeartbeats 1000000 in
theorem cats_calls (w : World) : Calls Try.prog 17 #[] w fun e w' => ∃ A c, e = .returned (.slice A 12 c) ∧ Aside0 (Kd.F Kd.string w' (fun k => w.heap.size ≤ k) A 12 CATS) ∧ 12 ≤ c ∧ Below w.heap.size w w' := by
  go_enter Try.func17, Try.ntmps17
  go_wp2_with ((with_reducible refine gate_dst (N := 1) rfl ?_); refine Kd.N_lit Kd.string (w0 := w) w.heap.size 9 rfl (N' := 1) rfl (xs := CATS) (inner := CATS.map .string) (ok := fun k => w.heap.size ≤ k) (okp := fun _ => False) ?hr ?hp (fun _ h => h.elim) (Nat.le_refl _) (Below.refl _ _) (Nat.le_refl _) ?hl ?_; (case hr => exact exec_lit 35 9 12 _ _ rfl rfl _ 1 (.string ⟨#[]⟩) Try.underlying35 (by kernel_rfl) (by kernel_rfl) (by decide) (by decide) (by kernel_rfl)); (case hp => exact texts_reps (fun c => fun W' _ => rfl) CATS); (case hl => decide); intro v1 w1 hN hb _ _; have HN := Aside0.mk hN; have HB := Aside0.mk hb; clear hN hb)
  go_ret
  obtain ⟨A, c, rfl⟩ := Kd.N_slice HN.out
  exact ⟨A, c, rfl, ⟨Kd.N_F HN.out⟩, (Kd.N_reads' HN.out).2.1, HB.out⟩

theorem text_at {w : World} {ok : Nat → Prop} {A : Option Addr} {n : Nat} {xs : List ByteArray} (h : Kd.F Kd.string w ok A n xs) (k : Nat) (hk : k < n) :
    ∃ (ad : Addr) (hl : k < xs.length), A = some ad ∧ w.cell? (ad.add k) = some (.string xs[k]) := by
  have hn := Kd.F_len h
  obtain ⟨ad, e, hc⟩ := Kd.at_string (Kd.F_now h) (k : Int) (by omega) (by omega)
  have hl : k < xs.length := by omega
  refine ⟨ad, hl, e, ?_⟩
  rw [Int.toNat_natCast, rdOf, Int.toNat_natCast, List.getD_eq_getElem?_getD, List.getElem?_eq_getElem hl, Option.getD_some] at hc
  exact hc

set_option maxHeartbeats 1000000 in
theorem textIndex_calls (A : Option Addr) (n c : Nat) (ok : Nat → Prop) (xs : List ByteArray) (key : ByteArray) (w : World) (h : Kd.F Kd.string w ok A n xs) :
    Calls Try.prog 40 #[.slice A n c, .string key] w fun e w' => e = .returned (.int .i64 (idx (fun x : ByteArray => key.toList == x.toList) xs)) ∧ w' = w := by
  have hmax := Kd.F_max h
  have HF := Aside0.mk h
  have HN := Aside0.mk (Kd.F_len h)
  clear h
  go_enter Try.func40, Try.ntmps40
  go_wp2_with fail
  go_loop [8] (fun i => ∃ k : Nat, k ≤ n ∧ i = .int .i64 k ∧ Aside0 (∀ j (hj : j < xs.length), j < k → (key.toList == xs[j].toList) = false)) (fun i => n - (intOf i).toNat)
  case atStart => exact ⟨0, Nat.zero_le _, rfl, ⟨fun j _ hj => absurd hj (Nat.not_lt_zero _)⟩⟩
  case round =>
    obtain ⟨k, hkn, rfl, HA⟩ := hrel
    by_cases hlt : k < n
    · obtain ⟨ad, hl, rfl, c0⟩ := text_at HF.out k hlt
      cases hp : (key.toList == xs[k].toList)
      · have HP := Aside0.mk hp
        go_wp2_with fail
        go_round
        case rel => exact ⟨k + 1, by omega, by go_num, ⟨fun j hj hlt' => by
          rcases Nat.lt_succ_iff_lt_or_eq.1 hlt' with h1 | h1
          · exact HA.out j hj h1
          · subst h1; exact HP.out⟩⟩
        case measure => simp [intOf]; omega
      · have HP := Aside0.mk hp
        go_wp2_with fail
        go_ret
        exact ⟨ret_i64 (idx_hit _ xs k hl HP.out (fun j hj => HA.out j (by omega) hj)).symm, rfl⟩
    · go_wp2_with fail
      go_ret
      exact ⟨ret_i64 (idx_miss _ xs (fun j hj => HA.out j hj (by have := HN.out; omega))).symm, rfl⟩
end Go.Proofs.Ytflnpgfddedahaa.U
