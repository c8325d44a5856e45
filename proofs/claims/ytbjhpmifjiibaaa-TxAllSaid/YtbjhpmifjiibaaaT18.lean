/- The reference's Same of two that are alike, and its Fresh: what they come to, as lists. -/
import Derived.Test.YtbjhpmifjiibaaaSameP
import Derived.Test.YtbjhpmifjiibaaaFreshP
import Derived.Test.YtbjhpmifjiibaaaT11
namespace Go.Proofs.Ytbjhpmifjiibaaa.T
open Go.RowKit Go.Maps Go.Proofs.YtbjhpmifjiibaaaW.PrintWords Go.Proofs.YtbjhpmifjiibaaaW.PrintMore
set_option linter.unusedVariables false
set_option linter.unusedSimpArgs false

theorem wrap_succ {i : Nat} (h : i ≤ 1000000) : wrap64 ((i : Int) + 1) = ((i + 1 : Nat) : Int) := by unfold wrap64; omega
theorem texts_l0 (xs : List ByteArray) (hx : xs.length ≤ 1000) : ∀ (m i k : Nat), i + m = xs.length → m + 1 ≤ k → PTxAll.tipstaffref01_Texts.l0 k xs xs (i : Int) = some true
  | 0, i, 0, _, hk => by omega
  | 0, i, k + 1, hi, hk => by
    unfold PTxAll.tipstaffref01_Texts.l0
    rw [if_neg (by omega)]
  | m + 1, i, 0, _, hk => by omega
  | m + 1, i, k + 1, hi, hk => by
    unfold PTxAll.tipstaffref01_Texts.l0
    rw [if_pos (by omega), if_pos (by omega), if_pos (by omega), if_pos rfl, wrap_succ (by omega)]
    exact texts_l0 xs hx m (i + 1) k (by omega) (by omega)
theorem texts_f (xs : List ByteArray) (hx : xs.length ≤ 1000) (k : Nat) (hk : xs.length + 1 ≤ k) : PTxAll.tipstaffref01_Texts.f k xs xs = some true := by
  unfold PTxAll.tipstaffref01_Texts.f
  rw [if_pos rfl]
  exact texts_l0 xs hx xs.length 0 k (by omega) hk
theorem same_l1 (a b : Bool) (qs : List (List ByteArray)) (ss : List PTxAll.S36) (hx : ss.length ≤ 1000) : ∀ (m i k : Nat), i + m = ss.length → m + 1 ≤ k → PTxAll.tipstaffref21_Same.l1 k (i : Int) a b qs ss a b qs ss = some true
  | 0, i, 0, _, hk => by omega
  | 0, i, k + 1, hi, hk => by
    unfold PTxAll.tipstaffref21_Same.l1
    rw [if_neg (by omega)]
  | m + 1, i, 0, _, hk => by omega
  | m + 1, i, k + 1, hi, hk => by
    unfold PTxAll.tipstaffref21_Same.l1
    rw [if_pos (by omega), if_pos (by omega), if_pos (by omega), if_neg (by simp), wrap_succ (by omega)]
    exact same_l1 a b qs ss hx m (i + 1) k (by omega) (by omega)
theorem same_l0 (a b : Bool) (qs : List (List ByteArray)) (ss : List PTxAll.S36) (hx : ss.length ≤ 1000) (hq : qs.length ≤ 1000) (hr : ∀ r ∈ qs, r.length ≤ 1000) : ∀ (m i k : Nat), i + m = qs.length → m + 2003 ≤ k → PTxAll.tipstaffref21_Same.l0 k (i : Int) a b qs ss a b qs ss = some true
  | 0, i, 0, _, hk => by omega
  | 0, i, k + 1, hi, hk => by
    unfold PTxAll.tipstaffref21_Same.l0
    rw [if_neg (by omega)]
    exact same_l1 a b qs ss hx ss.length 0 k (by omega) (by omega)
  | m + 1, i, 0, _, hk => by omega
  | m + 1, i, k + 1, hi, hk => by
    have hlen : (PTxAll.rd_L1 qs (i : Int)).length ≤ 1000 := by
      unfold PTxAll.rd_L1
      rw [Int.toNat_natCast, List.getD_eq_getElem?_getD, List.getElem?_eq_getElem (by omega)]
      exact hr _ (List.getElem_mem _)
    unfold PTxAll.tipstaffref21_Same.l0
    rw [if_pos (by omega), if_pos (by omega), if_pos (by omega), texts_f _ hlen k (by omega), Option.bind_some, if_pos rfl, wrap_succ (by omega)]
    exact same_l0 a b qs ss hx hq hr m (i + 1) k (by omega) (by omega)
theorem same_j0 (a b : Bool) (qs : List (List ByteArray)) (ss : List PTxAll.S36) (hx : ss.length ≤ 1000) (hq : qs.length ≤ 1000) (hr : ∀ r ∈ qs, r.length ≤ 1000) (k : Nat) (hk : 3003 ≤ k) : PTxAll.tipstaffref21_Same.j0 (k + 1) ((ss.length : Int) != (ss.length : Int)) a b qs ss a b qs ss = some true := by
  show (if ((ss.length : Int) != (ss.length : Int)) = true then some false else PTxAll.tipstaffref21_Same.l0 k 0 a b qs ss a b qs ss) = some true
  rw [if_neg (by simp)]
  exact same_l0 a b qs ss hx hq hr qs.length 0 k (by omega) (by omega)
theorem same_f (a b : Bool) (qs : List (List ByteArray)) (ss : List PTxAll.S36) (hx : ss.length ≤ 1000) (hq : qs.length ≤ 1000) (hr : ∀ r ∈ qs, r.length ≤ 1000) : PTxAll.tipstaffref21_Same.f 3005 a b qs ss a b qs ss = some true := by
  unfold PTxAll.tipstaffref21_Same.f
  rw [if_neg (by simp), if_neg (by simp), if_pos rfl]
  exact same_j0 a b qs ss hx hq hr 3004 (by omega)
def conv2 (s : SeenD) : PTxAll.S36 := ⟨s.key, s.n⟩
theorem C_conv2 {W : World} {A : Option Addr} {n : Nat} {xs : List SeenD} (h : kSeen.C W A n xs) : PTxAll.k36.C W A n (xs.map conv2) :=
  ⟨by rw [List.length_map]; exact h.1, h.2.1, fun hn => by
    obtain ⟨a, e, hc⟩ := h.2.2 hn
    refine ⟨a, e, fun j p hj => ?_⟩
    rw [List.getElem?_map] at hj
    obtain ⟨x, hx, rfl⟩ := Option.map_eq_some_iff.1 hj
    exact hc j x hx⟩
theorem rd_conv2 {ss : List SeenD} {i : Nat} (h : i < ss.length) : PTxAll.rd_T36 (ss.map conv2) (i : Int) = conv2 ss[i] := by
  unfold PTxAll.rd_T36
  rw [Int.toNat_natCast, List.getD_eq_getElem?_getD, List.getElem?_eq_getElem (by rw [List.length_map]; exact h)]
  simp
theorem number_cons (s : SeenD) (l : List SeenD) (key : ByteArray) : number (s :: l) key = if s.key.toList = key.toList then s.n else number l key := by
  unfold number
  rw [List.find?_cons]
  cases e : (s.key.toList == key.toList)
  · rw [if_neg (by simpa using e)]
  · rw [if_pos (by simpa using e)]
theorem number_l0 (l : List SeenD) (key : ByteArray) (hx : l.length ≤ 1000) : ∀ (m i k : Nat), i + m = l.length → m + 1 ≤ k → PTxAll.tipstaffref21_number.l0 k (l.map conv2) key (i : Int) = some (number (l.drop i) key)
  | 0, i, 0, _, hk => by omega
  | 0, i, k + 1, hi, hk => by
    unfold PTxAll.tipstaffref21_number.l0
    rw [if_neg (by rw [List.length_map]; omega), List.drop_eq_nil_of_le (by omega)]
    rfl
  | m + 1, i, 0, _, hk => by omega
  | m + 1, i, k + 1, hi, hk => by
    unfold PTxAll.tipstaffref21_number.l0
    rw [if_pos (by rw [List.length_map]; omega), if_pos (by omega), rd_conv2 (by omega), wrap_succ (by omega), number_l0 l key hx m (i + 1) k (by omega) (by omega), List.drop_eq_getElem_cons (show i < l.length by omega), number_cons]
    show (if (l[i].key.toList = key.toList) then some l[i].n else _) = _
    split <;> rfl
theorem number_f (l : List SeenD) (key : ByteArray) (hx : l.length ≤ 1000) (k : Nat) (hk : l.length + 1 ≤ k) : PTxAll.tipstaffref21_number.f k (l.map conv2) key = some (number l key) := by
  unfold PTxAll.tipstaffref21_number.f
  exact number_l0 l key hx l.length 0 k (by omega) hk
theorem fresh_l0 (a b : Bool) (qs : List (List ByteArray)) (ss now : List SeenD) (hx : now.length ≤ 1000) (hs : ss.length ≤ 1000) : ∀ (m i k : Nat), i + m = ss.length → m + 1003 ≤ k → PTxAll.tipstaffref21_Fresh.l0 k (now.map conv2) (i : Int) a b qs (ss.map conv2) = some (!((ss.drop i).any fun x => number now x.key != x.n))
  | 0, i, 0, _, hk => by omega
  | 0, i, k + 1, hi, hk => by
    unfold PTxAll.tipstaffref21_Fresh.l0
    rw [if_neg (by rw [List.length_map]; omega), List.drop_eq_nil_of_le (by omega)]
    rfl
  | m + 1, i, 0, _, hk => by omega
  | m + 1, i, k + 1, hi, hk => by
    unfold PTxAll.tipstaffref21_Fresh.l0
    rw [if_pos (by rw [List.length_map]; omega), if_pos (by omega), rd_conv2 (by omega)]
    show ((PTxAll.tipstaffref21_number.f k (now.map conv2) ss[i].key).bind fun t => if t = ss[i].n then _ else some false) = _
    rw [number_f now _ hx k (by omega), Option.bind_some, wrap_succ (by omega), fresh_l0 a b qs ss now hx hs m (i + 1) k (by omega) (by omega), List.drop_eq_getElem_cons (show i < ss.length by omega), List.any_cons]
    by_cases e : number now ss[i].key = ss[i].n
    · rw [if_pos e]
      simp [e]
    · rw [if_neg e]
      simp [e]
theorem fresh_f (a b : Bool) (qs : List (List ByteArray)) (ss now : List SeenD) (hx : now.length ≤ 1000) (hs : ss.length ≤ 1000) : PTxAll.tipstaffref21_Fresh.f 3000 a b qs (ss.map conv2) (now.map conv2) = some (!(ss.any fun x => number now x.key != x.n)) := by
  unfold PTxAll.tipstaffref21_Fresh.f
  exact fresh_l0 a b qs ss now hx hs ss.length 0 3000 (by omega) (by omega)
theorem same_calls (on bad : Bool) (Aq Bq : Option Addr) (nq cq dq : Nat) (As Bs : Option Addr) (ns cs ds : Nat) (okq oks okq2 oks2 : Nat → Prop) (qs : List (List ByteArray)) (ss : List SeenD) (w : World)
    (hq : Kd.F kRows w okq Aq nq qs) (hs : Kd.F kSeen w oks As ns ss) (hq2 : Kd.F kRows w okq2 Bq nq qs) (hs2 : Kd.F kSeen w oks2 Bs ns ss) (cq1 : nq ≤ cq) (cs1 : ns ≤ cs) (cq2 : nq ≤ dq) (cs2 : ns ≤ ds)
    (hx : ss.length ≤ 1000) (hl : qs.length ≤ 1000) (hr : ∀ r ∈ qs, r.length ≤ 1000) :
    Calls Try.prog 17 #[tx on bad Aq nq cq As ns cs, tx on bad Bq nq dq Bs ns ds] w fun e w' => e = .returned (.bool true) ∧ Below w.heap.size w w' := by
  obtain rfl := Kd.F_len hq
  obtain rfl := Kd.F_len hs
  have hlm : (ss.map conv2).length = ss.length := List.length_map _
  have h := PTxAll.tipstaffref21_Same.calls 3005 on bad Aq cq qs As cs (ss.map conv2) on bad Bq dq qs Bs ds (ss.map conv2) true w (Kd.F_now hq) cq1 (by rw [hlm]; exact C_conv2 (Kd.F_now hs)) (by rw [hlm]; exact cs1) (Kd.F_now hq2) cq2 (by rw [hlm]; exact C_conv2 (Kd.F_now hs2)) (by rw [hlm]; exact cs2) (same_f _ _ _ _ (by rw [hlm]; exact hx) hl hr)
  rw [hlm] at h
  exact h
theorem refFresh_calls (on bad : Bool) (Aq : Option Addr) (nq cq : Nat) (As : Option Addr) (ns cs : Nat) (An : Option Addr) (nn cn : Nat) (okq oks okn : Nat → Prop) (qs : List (List ByteArray)) (ss now : List SeenD) (w : World)
    (hq : Kd.F kRows w okq Aq nq qs) (hs : Kd.F kSeen w oks As ns ss) (hn : Kd.F kSeen w okn An nn now) (cq1 : nq ≤ cq) (cs1 : ns ≤ cs) (cn1 : nn ≤ cn) (hx : now.length ≤ 1000) (hl : ss.length ≤ 1000) :
    Calls Try.prog 22 #[tx on bad Aq nq cq As ns cs, .slice An nn cn] w fun e w' => e = .returned (.bool !(ss.any fun x => number now x.key != x.n)) ∧ Below w.heap.size w w' := by
  obtain rfl := Kd.F_len hq
  obtain rfl := Kd.F_len hs
  obtain rfl := Kd.F_len hn
  have hlm : (ss.map conv2).length = ss.length := List.length_map _
  have hln : (now.map conv2).length = now.length := List.length_map _
  have h := PTxAll.tipstaffref21_Fresh.calls 3000 on bad Aq cq qs As cs (ss.map conv2) An cn (now.map conv2) _ w (Kd.F_now hq) cq1 (by rw [hlm]; exact C_conv2 (Kd.F_now hs)) (by rw [hlm]; exact cs1) (by rw [hln]; exact C_conv2 (Kd.F_now hn)) (by rw [hln]; exact cn1) (fresh_f _ _ _ _ _ hx hl)
  rw [hlm, hln] at h
  exact h
end Go.Proofs.Ytbjhpmifjiibaaa.T
