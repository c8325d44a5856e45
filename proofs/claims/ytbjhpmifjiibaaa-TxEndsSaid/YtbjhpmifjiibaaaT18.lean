/- The reference's number, Fresh, and Same of two that are alike: walked by hand, by lists. -/
import Derived.Test.YtbjhpmifjiibaaaT11
import Derived.Deep.QuietTactic
import Derived.BigQuiet
import Derived.Test.YtbjhpmifjiibaaaWEqStruct
namespace Go.Proofs.Ytbjhpmifjiibaaa.T
open Go.RowKit Go.Maps Go.Proofs.YtbjhpmifjiibaaaW.PrintWords Go.Proofs.YtbjhpmifjiibaaaW.PrintMore
set_option linter.unusedVariables false
set_option linter.unusedSimpArgs false

theorem number_hit {l : List SeenD} {key : ByteArray} (k : Nat) (hk : k < l.length) (h : (l[k].key.toList == key.toList) = true) (hn : ∀ j (hj : j < k), (l[j].key.toList == key.toList) = false) : number l key = l[k].n := by
  unfold number
  rw [(List.find?_eq_some_iff_getElem (xs := l) (b := l[k])).2 ⟨h, k, hk, rfl, fun j hj => by simp [hn j hj]⟩]
theorem number_miss {l : List SeenD} {key : ByteArray} (hn : ∀ j (hj : j < l.length), (l[j].key.toList == key.toList) = false) : number l key = 0 := by
  unfold number
  rw [List.find?_eq_none.2 (fun x hx => by obtain ⟨j, hj, rfl⟩ := List.mem_iff_getElem.1 hx; simp [hn j hj])]

set_option maxHeartbeats 1000000 in
theorem number_calls (A : Option Addr) (n c : Nat) (ok : Nat → Prop) (xs : List SeenD) (key : ByteArray) (w : World) (h : Kd.F kSeen w ok A n xs) :
    Calls Try.prog 29 #[.slice A n c, .string key] w fun e w' => e = .returned (.int .i64 (number xs key)) ∧ w' = w := by
  have hmax := Kd.F_max h
  have HF := Aside0.mk h
  have HN := Aside0.mk (Kd.F_len h)
  clear h
  go_enter Try.func29, Try.ntmps29
  go_wp2_with fail
  go_loop [5] (fun i => ∃ k : Nat, k ≤ n ∧ i = .int .i64 k ∧ Aside0 (∀ j (hj : j < xs.length), j < k → (xs[j].key.toList == key.toList) = false)) (fun i => n - (intOf i).toNat)
  case atStart => exact ⟨0, Nat.zero_le _, rfl, ⟨fun j _ hj => absurd hj (Nat.not_lt_zero _)⟩⟩
  case round =>
    obtain ⟨k, hkn, rfl, HA⟩ := hrel
    by_cases hlt : k < n
    · obtain ⟨ad, hl, rfl, c0, c1⟩ := seen_at HF.out k hlt
      cases hp : (xs[k].key.toList == key.toList)
      · have HP := Aside0.mk hp
        go_wp2_with fail
        go_round
        case rel => exact ⟨k + 1, by omega, by go_num, ⟨fun j hj hlt' => by
          rcases Nat.lt_succ_iff_lt_or_eq.1 hlt' with h1 | h1
          · exact HA.out j hj h1
          · subst h1; exact HP.out⟩⟩
        case measure => simp [intOf]; omega
      · have HP := Aside0.mk hp
        go_wp2_with fail
        go_ret
        exact ⟨ret_i64 (number_hit k hl HP.out (fun j hj => HA.out j (by omega) hj)).symm, rfl⟩
    · go_wp2_with fail
      go_ret
      exact ⟨ret_i64 (number_miss (fun j hj => HA.out j hj (by have := HN.out; omega))).symm, rfl⟩

theorem any_hit {α : Type} (p : α → Bool) (xs : List α) (k : Nat) (hk : k < xs.length) (h : p xs[k] = true) : xs.any p = true :=
  List.any_eq_true.2 ⟨xs[k], List.getElem_mem hk, h⟩
theorem any_miss {α : Type} (p : α → Bool) (xs : List α) (hn : ∀ j (hj : j < xs.length), p xs[j] = false) : xs.any p = false :=
  List.any_eq_false.2 (fun x hx => by obtain ⟨j, hj, rfl⟩ := List.mem_iff_getElem.1 hx; simp [hn j hj])

set_option maxHeartbeats 1000000 in
theorem refFresh_calls (on bad : Bool) (Aq : Option Addr) (nq cq : Nat) (As : Option Addr) (ns cs : Nat) (An : Option Addr) (nn cn : Nat) (okq oks okn : Nat → Prop) (qs : List (List ByteArray)) (ss now : List SeenD) (w : World)
    (hq : Kd.F kRows w okq Aq nq qs) (hs : Kd.F kSeen w oks As ns ss) (hn : Kd.F kSeen w okn An nn now) (cq1 : nq ≤ cq) (cs1 : ns ≤ cs) (cn1 : nn ≤ cn) (hx : now.length ≤ 1000) (hl : ss.length ≤ 1000) :
    Calls Try.prog 22 #[tx on bad Aq nq cq As ns cs, .slice An nn cn] w fun e w' => e = .returned (.bool !(ss.any fun x => number now x.key != x.n)) ∧ Below w.heap.size w w' := by
  have HS := Aside0.mk hs
  have HN := Aside0.mk hn
  have HL := Aside0.mk (Kd.F_len hs)
  have hmax := Kd.F_max hs
  clear hq hs hn hx hl
  go_enter Try.func22, Try.ntmps22
  go_wp2_with fail
  go_loopw [5] (fun i wr => ∃ k : Nat, k ≤ ns ∧ i = .int .i64 k ∧ Aside0 (∃ q, wr = (w.alloc (.cells #[.bool on, .bool bad, .slice Aq nq cq, .slice As ns cs] 26)).drewN q) ∧ Aside0 (∀ j (hj : j < ss.length), j < k → (number now ss[j].key != ss[j].n) = false)) (fun i _ => ns - (intOf i).toNat)
  case atStart => exact ⟨0, Nat.zero_le _, rfl, ⟨0, rfl⟩, ⟨fun j _ hj => absurd hj (Nat.not_lt_zero _)⟩⟩
  case round =>
    obtain ⟨k, hkn, rfl, HW, HA⟩ := hrel
    have HX : Aside0 (wr.heap[w.heap.size]? = some (.cells #[.bool on, .bool bad, .slice Aq nq cq, .slice As ns cs] 26 (0, 0))) := ⟨by obtain ⟨q, hq⟩ := HW.out; rw [hq]; exact blk_new w _⟩
    have HB : Aside0 (Below w.heap.size w wr) := ⟨by obtain ⟨q, hq⟩ := HW.out; rw [hq]; exact pw_below_drewN (below_alloc (Below.refl _ _) _) q⟩
    obtain ⟨x0, x1, x2, x3, xf⟩ := cells4 HX.out
    by_cases hlt : k < ns
    · obtain ⟨ad, hl, rfl, c0, c1⟩ := seen_at (Kd.F_below HS.out HB.out) k hlt
      have i0 : (k : Int) < (ns : Int) := by omega
      have i1 : (0 : Int) ≤ (k : Int) := by omega
      have HT : Aside0 (∀ q, Calls Try.prog 29 #[.slice An nn cn, .string ss[k].key] (wr.drewN q) fun e w' => e = .returned (.int .i64 (number now ss[k].key)) ∧ ∃ m, w' = (wr.drewN q).drewN m) :=
        ⟨fun q => (number_calls An nn cn okn now ss[k].key (wr.drewN q) (Kd.F_drewN (Kd.F_below HN.out HB.out) q)).mono fun e w' ⟨h1, h2⟩ => ⟨h1, 0, h2⟩⟩
      cases hp : (number now ss[k].key != ss[k].n)
      · have HP := Aside0.mk hp
        go_wp2_with fail
        go_quiet ((go_at_call 29; exact Calls.quiet_of (HT.out _)))
        go_wp2_with fail
        go_roundw
        case rel => exact ⟨k + 1, by omega, by go_num, ⟨by obtain ⟨q, hq⟩ := HW.out; rw [hq, World.drewN_drewN]; exact ⟨_, rfl⟩⟩, ⟨fun j hj hlt' => by
          rcases Nat.lt_succ_iff_lt_or_eq.1 hlt' with h1 | h1
          · exact HA.out j hj h1
          · subst h1; exact HP.out⟩⟩
        case measure => simp [intOf]; omega
      · have HP := Aside0.mk hp
        go_wp2_with fail
        go_quiet ((go_at_call 29; exact Calls.quiet_of (HT.out _)))
        go_wp2_with fail
        go_ret
        exact ⟨ret_bool (by rw [any_hit (fun x : SeenD => number now x.key != x.n) ss k hl HP.out]; rfl), pw_below_drewN HB.out _⟩
    · go_wp2_with fail
      go_ret
      exact ⟨ret_bool (by rw [any_miss (fun x : SeenD => number now x.key != x.n) ss (fun j hj => HA.out j hj (by have := HL.out; omega))]; rfl), HB.out⟩

theorem seen_equal (key : ByteArray) (n : Int) (W : World) : (binOp .neq 36 (.agg #[.string key, .int .i64 n]) (.agg #[.string key, .int .i64 n])).run Try.prog W = .ok (.bool false) W := by
  rw [run_neq_struct]
  have h : (Op.equalIn 10000 36 (.agg #[.string key, .int .i64 n]) (.agg #[.string key, .int .i64 n])).run Try.prog W = .ok true W := by
    refine eqA_of (fs := #[_, _]) Try.underlying36 (by kernel_rfl) ?_
    simp [go_sem, Op.eqFields]
  rw [h]
  rfl
theorem second_at (w : World) (o : Obj) (cells : Array Value) : ((w.alloc o).alloc (.cells cells 26)).heap[w.heap.size + 1]? = some (.cells cells 26 (0, 0)) := by
  have h := blk_new (w.alloc o) (.cells cells 26)
  simpa using h

set_option maxHeartbeats 2000000 in
set_option maxRecDepth 100000 in
theorem same_calls (on bad : Bool) (Aq Bq : Option Addr) (nq cq dq : Nat) (As Bs : Option Addr) (ns cs ds : Nat) (okq oks okq2 oks2 : Nat → Prop) (qs : List (List ByteArray)) (ss : List SeenD) (w : World)
    (hq : Kd.F kRows w okq Aq nq qs) (hs : Kd.F kSeen w oks As ns ss) (hq2 : Kd.F kRows w okq2 Bq nq qs) (hs2 : Kd.F kSeen w oks2 Bs ns ss) (cq1 : nq ≤ cq) (cs1 : ns ≤ cs) (cq2 : nq ≤ dq) (cs2 : ns ≤ ds)
    (hx : ss.length ≤ 1000) (hl : qs.length ≤ 1000) (hr : ∀ r ∈ qs, r.length ≤ 1000) :
    Calls Try.prog 17 #[tx on bad Aq nq cq As ns cs, tx on bad Bq nq dq Bs ns ds] w fun e w' => e = .returned (.bool true) ∧ Below w.heap.size w w' := by
  have HQ := Aside0.mk hq
  have HS := Aside0.mk hs
  have HQ2 := Aside0.mk hq2
  have HS2 := Aside0.mk hs2
  have hmq := Kd.F_max hq
  have hms := Kd.F_max hs
  have e1 : (on != on) = false := by simp
  have e2 : (bad != bad) = false := by simp
  have e3 : ((nq : Int) != (nq : Int)) = false := by simp
  have e4 : ((ns : Int) != (ns : Int)) = false := by simp
  clear hq hs hq2 hs2 hx hl hr
  have X0 := Aside0.mk (blk_alloc (blk_new w (.cells #[.bool on, .bool bad, .slice Aq nq cq, .slice As ns cs] 26)) (.cells #[.bool on, .bool bad, .slice Bq nq dq, .slice Bs ns ds] 26))
  have X1 := Aside0.mk (second_at w (.cells #[.bool on, .bool bad, .slice Aq nq cq, .slice As ns cs] 26) #[.bool on, .bool bad, .slice Bq nq dq, .slice Bs ns ds])
  have HB := Aside0.mk (below_alloc (below_alloc (Below.refl w.heap.size w) (.cells #[.bool on, .bool bad, .slice Aq nq cq, .slice As ns cs] 26)) (.cells #[.bool on, .bool bad, .slice Bq nq dq, .slice Bs ns ds] 26))
  go_enter Try.func17, Try.ntmps17
  go_wp2_with fail
  generalize (w.alloc (.cells #[.bool on, .bool bad, .slice Aq nq cq, .slice As ns cs] 26)).alloc (.cells #[.bool on, .bool bad, .slice Bq nq dq, .slice Bs ns ds] 26) = wo at *
  go_loopw [5, 6] (fun i _ wr => ∃ k : Nat, k ≤ nq ∧ i = .int .i64 k ∧ Aside0 (∃ q, wr = wo.drewN q)) (fun i _ _ => nq - (intOf i).toNat)
  case atStart => exact ⟨0, Nat.zero_le _, rfl, ⟨0, rfl⟩⟩
  case round =>
    obtain ⟨k, hkn, rfl, HW⟩ := hrel
    have HX0 : Aside0 (wr.heap[w.heap.size]? = some (.cells #[.bool on, .bool bad, .slice Aq nq cq, .slice As ns cs] 26 (0, 0))) := ⟨by obtain ⟨q, hq⟩ := HW.out; rw [hq]; exact X0.out⟩
    have HX1 : Aside0 (wr.heap[w.heap.size + 1]? = some (.cells #[.bool on, .bool bad, .slice Bq nq dq, .slice Bs ns ds] 26 (0, 0))) := ⟨by obtain ⟨q, hq⟩ := HW.out; rw [hq]; exact X1.out⟩
    have HBr : Aside0 (Below w.heap.size w wr) := ⟨by obtain ⟨q, hq⟩ := HW.out; rw [hq]; exact pw_below_drewN HB.out q⟩
    obtain ⟨x0, x1, x2, x3, xf⟩ := cells4 HX0.out
    obtain ⟨y0, y1, y2, y3, yf⟩ := cells4 HX1.out
    by_cases hlt : k < nq
    · obtain ⟨ad, hl, Ar, cr, rfl, hc0, hcr, hF⟩ := rows_at (Kd.F_below HQ.out HBr.out) k hlt
      obtain ⟨bd, hl2, Br, dr, rfl, hd0, hdr, hG⟩ := rows_at (Kd.F_below HQ2.out HBr.out) k hlt
      have i0 : (k : Int) < (nq : Int) := by omega
      have i1 : (0 : Int) ≤ (k : Int) := by omega
      generalize qs[k] = row at hc0 hcr hF hd0 hdr hG
      have HT : Aside0 (∀ q, Calls Try.prog 10 #[.slice Ar row.length cr, .slice Br row.length dr] (wr.drewN q) fun e w' => e = .returned (.bool true) ∧ ∃ m, w' = (wr.drewN q).drewN m) := ⟨fun q => by
        have h := texts_calls Ar Br row.length cr row.length dr _ _ _ _ (wr.drewN q) (Kd.F_drewN hF q) (Kd.F_drewN hG q)
        rw [same_self] at h
        exact h⟩
      clear hF hG
      go_wp2_with fail
      go_quiet ((go_at_call 10; exact Calls.quiet_of (HT.out _)))
      go_wp2_with fail
      go_roundw
      case rel => exact ⟨k + 1, by omega, by go_num, ⟨by obtain ⟨q, hq⟩ := HW.out; rw [hq, World.drewN_drewN]; exact ⟨_, rfl⟩⟩⟩
      case measure => simp [intOf]; omega
    · go_wp2_with fail
      clear e1 e2 e3 e4 hlt x0 x1 x2 x3 xf y0 y1 y2 y3 yf HX0 HX1 HBr hkn
      generalize hz : (Value.int IntKind.i64 (k : Int)) = vk
      have HW2 := Aside0.mk HW.out
      clear hz HW
      go_loopw [7] (fun i wi => ∃ j : Nat, j ≤ ns ∧ i = .int .i64 j ∧ Aside0 (∃ q, wi = wo.drewN q)) (fun i _ => ns - (intOf i).toNat)
      case atStart => exact ⟨0, Nat.zero_le _, rfl, HW2⟩
      case round =>
        obtain ⟨j, hjn, rfl, HV⟩ := hrel
        have HX0 : Aside0 (wr.heap[w.heap.size]? = some (.cells #[.bool on, .bool bad, .slice Aq nq cq, .slice As ns cs] 26 (0, 0))) := ⟨by obtain ⟨q, hq⟩ := HV.out; rw [hq]; exact X0.out⟩
        have HX1 : Aside0 (wr.heap[w.heap.size + 1]? = some (.cells #[.bool on, .bool bad, .slice Bq nq dq, .slice Bs ns ds] 26 (0, 0))) := ⟨by obtain ⟨q, hq⟩ := HV.out; rw [hq]; exact X1.out⟩
        have HBr : Aside0 (Below w.heap.size w wr) := ⟨by obtain ⟨q, hq⟩ := HV.out; rw [hq]; exact pw_below_drewN HB.out q⟩
        obtain ⟨x0, x1, x2, x3, xf⟩ := cells4 HX0.out
        obtain ⟨y0, y1, y2, y3, yf⟩ := cells4 HX1.out
        by_cases hlt : j < ns
        · obtain ⟨ad, hl, rfl, c0, c1⟩ := seen_at (Kd.F_below HS.out HBr.out) j hlt
          obtain ⟨bd, hl2, rfl, d0, d1⟩ := seen_at (Kd.F_below HS2.out HBr.out) j hlt
          have i0 : (j : Int) < (ns : Int) := by omega
          have i1 : (0 : Int) ≤ (j : Int) := by omega
          generalize ss[j] = one at c0 c1 d0 d1
          have hEq := seen_equal one.key one.n
          go_wp2_with fail
          go_quiet (fail)
          go_wp2_with fail
          go_roundw
          case rel => exact ⟨j + 1, by omega, by go_num, ⟨by obtain ⟨q, hq⟩ := HV.out; rw [hq, World.drewN_drewN]; exact ⟨_, rfl⟩⟩⟩
          case measure => simp [intOf]; omega
        · go_wp2_with fail
          go_ret
          exact ⟨rfl, HBr.out⟩
end Go.Proofs.Ytbjhpmifjiibaaa.T
