/- UsesAll, walked. -/
import Derived.Test.YtflnpgfddedahaaS9
import Derived.Test.YtflnpgfddedahaaV7
import Derived.Test.YtflnpgfddedahaaV5
namespace Go.Proofs.Ytflnpgfddedahaa.U
open Go.RowKit Go.Great Go.Proofs.YtflnpgfddedahaaW.PrintWords Go.Proofs.YtflnpgfddedahaaW.PrintLast Go.Proofs.YtflnpgfddedahaaW.PrintMore
set_option linter.unusedVariables false
set_option linter.unusedSimpArgs false
def all6T : Bool × List (List Nat × List Nat) := (true, [([], []), ([0], [0]), ([], []), ([2, 1], [2]), ([1, 3, 3], [1, 3]), ([4, 4, 0, 1, 2, 3, 4], [4])])
def all6B : List Nat := [0, 1, 0, 7, 15, 31]
theorem all6_tab : rtab .any (opsOf Try.f10 6) = all6T := by kernel_rfl
theorem all6_bits : waitsOk all6T.2 all6B = true := by kernel_rfl
def all7T : Bool × List (List Nat × List Nat) := (true, [([], []), ([0], [0]), ([], []), ([2, 1], [2]), ([1, 3, 3], [1, 3]), ([4, 4, 0, 1, 2, 3, 4], [4])])
def all7B : List Nat := [0, 1, 0, 7, 15, 31]
theorem all7_tab : rtab .any (opsOf Try.f10 7) = all7T := by kernel_rfl
theorem all7_bits : waitsOk all7T.2 all7B = true := by kernel_rfl

theorem needs_len (k : Nat) (xs : List ByteArray) : (needOf k xs).keys.length ≤ xs.length + 2 := by
  unfold needOf
  generalize kindAt k = o
  cases o with
  | none => simp
  | some t =>
    cases t with
    | one r w => simp
    | each s r w =>
      by_cases h : s = 2
      · subst h
        simp only [if_true, each_len']
        omega
      · simp only [if_neg h, each_len']
        omega
    | fn f =>
      by_cases h1 : f = 49
      · subst h1; simp
      by_cases h2 : f = 52
      · subst h2; simp
      by_cases h3 : f = 53
      · subst h3; simp
      by_cases h4 : f = 54
      · subst h4; simp
      by_cases h5 : f = 55
      · subst h5; simp
      by_cases h6 : f = 56
      · subst h6; simp
      by_cases h7 : f = 57
      · subst h7; simp
      by_cases h8 : f = 59
      · subst h8; simp
      simp [h1, h2, h3, h4, h5, h6, h7, h8]
theorem ofS_len (xs : List ByteArray) : (ofS xs).1.keys.length ≤ xs.length + 2 := by
  unfold ofS
  split
  · simp [zeroNeed]
  · split
    · simp [zeroNeed]
    · split
      · exact needs_len _ _
      · simp [zeroNeed]
theorem said_named {xs : List ByteArray} {c : Int} {ks : List UseD} {aR aW : Bool} {cs : List ByteArray} {err : Int} {p q : Nat} (he : ofS xs = (⟨c, ks, aR, aW, cs⟩, err)) (hk : ks.length = p) (hc : cs.length = q) {W W' : World} {e : Ending} (h : OfSaid xs W e W') :
    ∃ Ak ck Ac cc, e = .returned (.tuple #[.agg #[.int .i64 c, .slice Ak p ck, .bool aR, .bool aW, .slice Ac q cc], .int .i64 err]) ∧ Aside0 (Kd.F kUse W' (fun b => W.heap.size ≤ b) Ak p ks) ∧ Aside0 (Kd.F Kd.string W' (fun b => W.heap.size ≤ b) Ac q cs) ∧ Aside0 (Below W.heap.size W W') := by
  unfold OfSaid at h
  rw [he] at h
  obtain ⟨Ak, ck, Ac, cc, h1, h2, h3, h4, _, h6⟩ := h
  subst hk
  subst hc
  exact ⟨Ak, ck, Ac, cc, h1, ⟨h2⟩, ⟨h4⟩, ⟨h6⟩⟩
set_option maxHeartbeats 8000000 in
set_option maxRecDepth 100000 in
theorem all8_calls (A : Option Addr) (N C : Nat) (xs : List ByteArray) (ok : Nat → Prop) (W : World) (hF : Kd.F Kd.string W ok A N xs) (hlc : N ≤ C) (hsz : ∀ s ∈ xs, s.size ≤ 140737488351232) :
    Calls Try.prog 10 #[.slice A N C] W fun e W' => e = .returned (.bool true) ∧ Below W.heap.size W W' := by
  have hxl := Kd.F_len hF
  obtain ⟨m, hm⟩ : ∃ m, m = min N 40 := ⟨_, rfl⟩
  obtain ⟨ys, hys⟩ : ∃ ys, ys = xs.take 40 := ⟨_, rfl⟩
  have hyl : ys.length = m := by rw [hys, List.length_take, hm]; omega
  have HY : Aside0 (Kd.F Kd.string W ok A m ys) := ⟨by rw [hys, hm]; exact few_F hF⟩
  have hw0 : (word ys 0).size ≤ 140737488351232 := by
    cases hq : ys with
    | nil => show (⟨#[]⟩ : ByteArray).size ≤ _; decide
    | cons y zs => exact hsz y (by have h1 : y ∈ ys := (by rw [hq]; simp); rw [hys] at h1; exact List.mem_of_mem_take h1)
  have FW : Aside0 (∀ w : World, Below W.heap.size W w → Calls Try.prog 20 #[.slice A N C] w fun e w' => e = .returned (.slice A m C) ∧ w' = w) := ⟨fun w hb => (few_calls A N C xs ok w (Kd.F_below hF hb) hlc).mono fun e w' ⟨p, h1, h2, h3⟩ => ⟨by rw [h1, h2, hm], h3⟩⟩
  have hmc : m ≤ C := by omega
  have hm6 : m ≤ 1000000 := by omega
  obtain ⟨c, ks, aR, aW, cs, err, he⟩ : ∃ (c : Int) (ks : List UseD) (aR aW : Bool) (cs : List ByteArray) (err : Int), ofS ys = (⟨c, ks, aR, aW, cs⟩, err) := ⟨_, _, _, _, _, _, rfl⟩
  obtain ⟨p, hp⟩ : ∃ p, ks.length = p := ⟨_, rfl⟩
  obtain ⟨q, hq⟩ : ∃ q, cs.length = q := ⟨_, rfl⟩
  have HP6 : Aside0 (p ≤ 1000000) := ⟨by have h := ofS_len ys; rw [he] at h; simp only at h; omega⟩
  have OA : Aside0 (∀ w : World, Below W.heap.size W w → Calls Try.prog 22 #[.slice A m C] w fun e W' => ∃ Ak ck Ac cc, e = .returned (.tuple #[.agg #[.int .i64 c, .slice Ak p ck, .bool aR, .bool aW, .slice Ac q cc], .int .i64 err]) ∧ Aside0 (Kd.F kUse W' (fun b => w.heap.size ≤ b) Ak p ks) ∧ Aside0 (Kd.F Kd.string W' (fun b => w.heap.size ≤ b) Ac q cs) ∧ Aside0 (Below w.heap.size w W')) := ⟨fun w hb => (of_said A m C ys ok w (Kd.F_below HY.out hb) hmc hm6 hw0).mono fun e W' h => said_named he hp hq h⟩
  have OB : Aside0 (∀ w : World, Below W.heap.size W w → Calls Try.prog 30 #[.slice A m C] w fun e W' => ∃ Ak ck Ac cc, e = .returned (.tuple #[.agg #[.int .i64 c, .slice Ak p ck, .bool aR, .bool aW, .slice Ac q cc], .int .i64 err]) ∧ Aside0 (Kd.F kUse W' (fun b => w.heap.size ≤ b) Ak p ks) ∧ Aside0 (Kd.F Kd.string W' (fun b => w.heap.size ≤ b) Ac q cs) ∧ Aside0 (Below w.heap.size w W')) := ⟨fun w hb => (refOf_calls A m C ys ok w (Kd.F_below HY.out hb) hmc hm6 hw0).mono fun e W' h => said_named he hp hq h⟩
  clear hF hys hxl hsz hm hyl hw0 hmc hm6 he hp hq hlc
  go_enter Try.func10, Try.ntmps10
  go_upto_region 6 with (first
    | (go_at_call 19; go_must (refine (shown8_calls _).mono ?_); rintro e w1 ⟨rfl, hb1⟩; have HB := Aside0.mk hb1; clear hb1)
    | (go_at_call 20; go_must (refine (FW.out _ HB.out).mono ?_); rintro e w2 ⟨rfl, rfl⟩)
    | (go_at_call 22; go_must (refine (OA.out _ HB.out).mono ?_); rintro e w3 ⟨Ak, ck, Ac, cc, rfl, HK1, HC1, hb3⟩; replace HB := Aside0.mk (below_alloc (step2 HB.out hb3.out) (needB c (.slice Ak p ck) aR aW (.slice Ac q cc))); have X1 := Aside0.mk (blk_new w3 (needB c (.slice Ak p ck) aR aW (.slice Ac q cc))); replace HK1 := Aside0.mk (Kd.F_alloc HK1.out (needB c (.slice Ak p ck) aR aW (.slice Ac q cc))); replace HC1 := Aside0.mk (Kd.F_alloc HC1.out (needB c (.slice Ak p ck) aR aW (.slice Ac q cc))); clear hb3)
    | (go_at_call 30; go_must (refine (OB.out _ HB.out).mono ?_); rintro e w4 ⟨Ak2, ck2, Ac2, cc2, rfl, HK2, HC2, hb4⟩; replace HB := Aside0.mk (below_alloc (step2 HB.out hb4.out) (needB c (.slice Ak2 p ck2) aR aW (.slice Ac2 q cc2))); have X2 := Aside0.mk (blk_new w4 (needB c (.slice Ak2 p ck2) aR aW (.slice Ac2 q cc2))); replace X1 := Aside0.mk (blk_alloc (blk_below X1.out hb4.out) (needB c (.slice Ak2 p ck2) aR aW (.slice Ac2 q cc2))); replace HK1 := Aside0.mk (Kd.F_alloc (Kd.F_below HK1.out hb4.out) (needB c (.slice Ak2 p ck2) aR aW (.slice Ac2 q cc2))); replace HC1 := Aside0.mk (Kd.F_alloc (Kd.F_below HC1.out hb4.out) (needB c (.slice Ak2 p ck2) aR aW (.slice Ac2 q cc2))); replace HK2 := Aside0.mk (Kd.F_alloc HK2.out (needB c (.slice Ak2 p ck2) aR aW (.slice Ac2 q cc2))); replace HC2 := Aside0.mk (Kd.F_alloc HC2.out (needB c (.slice Ak2 p ck2) aR aW (.slice Ac2 q cc2))); clear hb4; obtain ⟨x0, x1, x2, x3, x4, xf⟩ := cells5' X1.out; obtain ⟨y0, y1, y2, y3, y4, yf⟩ := cells5' X2.out)
    | (go_at_call 23; go_must (refine (same8_calls c aR aW _ _ p _ _ _ _ q _ _ _ _ _ _ ks ks cs _ HK1.out HK2.out HC1.out HC2.out).mono ?_); rintro e w5 ⟨hT, hb5⟩; obtain ⟨bb, rfl, hbb⟩ := hT; obtain rfl := hbb rfl; replace HB := Aside0.mk (step2 HB.out hb5); replace X1 := Aside0.mk (blk_below X1.out hb5); replace X2 := Aside0.mk (blk_below X2.out hb5); replace HK1 := Aside0.mk (Kd.F_below HK1.out hb5); replace HK2 := Aside0.mk (Kd.F_below HK2.out hb5); clear hb5 hbb x0 x1 x2 x3 x4 xf y0 y1 y2 y3 y4 yf))
  generalize w3.heap.size = gA at *
  generalize w4.heap.size = gB at *
  obtain ⟨wS, hwS⟩ : ∃ wS, wS = w5 := ⟨_, rfl⟩
  subst hwS
  have HBW := Below.refl wS.heap.size wS
  have KS : Aside0 (∀ w' : World, Below wS.heap.size wS w' → w'.cell? ⟨gA, 0, none⟩ = some (.int .i64 c) ∧ w'.cell? ⟨gA, 1, none⟩ = some (.slice Ak p ck) ∧ w'.cell? ⟨gA, 2, none⟩ = some (.bool aR) ∧ w'.cell? ⟨gA, 3, none⟩ = some (.bool aW) ∧ w'.cell? ⟨gA, 4, none⟩ = some (.slice Ac q cc) ∧ w'.cell? ⟨gB, 0, none⟩ = some (.int .i64 c) ∧ w'.cell? ⟨gB, 1, none⟩ = some (.slice Ak2 p ck2) ∧ w'.cell? ⟨gB, 2, none⟩ = some (.bool aR) ∧ w'.cell? ⟨gB, 3, none⟩ = some (.bool aW) ∧ w'.cell? ⟨gB, 4, none⟩ = some (.slice Ac2 q cc2)) := ⟨fun w' hb => by
    obtain ⟨x0, x1, x2, x3, x4, xf⟩ := cells5' (blk_below X1.out hb)
    obtain ⟨y0, y1, y2, y3, y4, yf⟩ := cells5' (blk_below X2.out hb)
    exact ⟨x0, x1, x2, x3, x4, y0, y1, y2, y3, y4⟩⟩
  clear X1 X2 HC1 HC2
  replace HBW := HBW.drew
  refine start_ (n := 6) (S := fun w' => w'.cell? ⟨gA, 0, none⟩ = some (.int .i64 c) ∧ w'.cell? ⟨gA, 1, none⟩ = some (.slice Ak p ck) ∧ w'.cell? ⟨gA, 2, none⟩ = some (.bool aR) ∧ w'.cell? ⟨gA, 3, none⟩ = some (.bool aW) ∧ w'.cell? ⟨gA, 4, none⟩ = some (.slice Ac q cc) ∧ w'.cell? ⟨gB, 0, none⟩ = some (.int .i64 c) ∧ w'.cell? ⟨gB, 1, none⟩ = some (.slice Ak2 p ck2) ∧ w'.cell? ⟨gB, 2, none⟩ = some (.bool aR) ∧ w'.cell? ⟨gB, 3, none⟩ = some (.bool aW) ∧ w'.cell? ⟨gB, 4, none⟩ = some (.slice Ac2 q cc2)) (ds := []) #[false, false, false, false, false, false] (by kernel_rfl) rfl rfl (KS.out _ HBW) (fun hHeld => with_tabW all6_tab all6_bits (fun HT_ HW_ => ?_))
  generalize wS.drew = we at HBW hHeld ⊢
  refine take_ (i := 0) (N := some 27) (v := ?_) (a' := ?_) #[true, false, false, false, false, false] rfl rfl (take_ofW HT_.out HW_.out (by kernel_rfl)) (fun _ _ _ h => h) (Or.inl ⟨by rfl, ?_⟩) hHeld ?_ ?_
  rotate_left
  · rintro w' ⟨s0, s1, s2, s3, s4, s5, s6, s7, s8, s9⟩
    go_simp
    with_reducible rfl
  rotate_left
  · simp only [Act.put, List.setIfInBounds_toArray, List.set_cons_zero, List.set_cons_succ, i64_w, i32_w]
    rfl
  refine take_ (i := 2) (N := some 29) (v := ?_) (a' := ?_) #[true, false, true, false, false, false] rfl rfl (take_ofW HT_.out HW_.out (by kernel_rfl)) (fun _ _ _ h => h) (Or.inl ⟨by rfl, ?_⟩) hHeld ?_ ?_
  rotate_left
  · rintro w' ⟨s0, s1, s2, s3, s4, s5, s6, s7, s8, s9⟩
    go_simp
    with_reducible rfl
  rotate_left
  · simp only [Act.put, List.setIfInBounds_toArray, List.set_cons_zero, List.set_cons_succ, i64_w, i32_w]
    rfl
  refine one_ (i := 1) (N := some 28) #[true, true, true, false, false, false] rfl rfl (one_of HT_.out (by kernel_rfl)) (by decide) (fun K hK => ?_)
  refine goes_ Try.func31 (by kernel_rfl) rfl #[.agg #[.int .i64 c, .slice Ak p ck, .bool aR, .bool aW, .slice Ac q cc]] (by rfl) rfl rfl (by first | rfl | (simp [Act.eval]; done) | kernel_rfl) ?_
  refine (reads_calls _ _ _ _ _ _ _ _ _ _ _ _ (Kd.F_below HK1.out HBW) HP6.out).mono ?_
  rintro e w7 ⟨A7, k7, rfl, hF7, _, hb7⟩
  have HF7 := Aside0.mk hF7
  have HBW := step2 HBW hb7
  clear hb7 hF7
  refine ⟨_, rfl, ?_⟩
  refine hK.out _ _ (KS.out _ HBW) (fun hHeld => ?_)
  clear hK K
  refine norm_ (a' := ?_) ?_ ?_
  rotate_left
  · show Act.put _ (some 28) _ = _
    simp only [Act.put, List.setIfInBounds_toArray, List.set_cons_zero, List.set_cons_succ, i64_w, i32_w]
    rfl
  refine one_ (i := 3) (N := some 30) #[true, true, true, true, false, false] rfl rfl (one_of HT_.out (by kernel_rfl)) (by decide) (fun K hK => ?_)
  refine goes_ Try.func32 (by kernel_rfl) rfl #[.agg #[.int .i64 c, .slice Ak2 p ck2, .bool aR, .bool aW, .slice Ac2 q cc2]] (by rfl) rfl rfl (by first | rfl | (simp [Act.eval]; done) | kernel_rfl) ?_
  refine (refReads_calls _ _ _ _ _ _ _ _ _ _ _ _ (Kd.F_below HK2.out HBW) HP6.out).mono ?_
  rintro e w8 h8
  unfold RowSaid at h8
  obtain ⟨A8, k8, rfl, _, HF8, HB8⟩ := h8
  have HF7 := Aside0.mk (Kd.F_below HF7.out HB8.out)
  have HBW := step2 HBW HB8.out
  clear HB8
  refine ⟨_, rfl, ?_⟩
  refine hK.out _ _ (KS.out _ HBW) (fun hHeld => ?_)
  clear hK K
  refine norm_ (a' := ?_) ?_ ?_
  rotate_left
  · show Act.put _ (some 30) _ = _
    simp only [Act.put, List.setIfInBounds_toArray, List.set_cons_zero, List.set_cons_succ, i64_w, i32_w]
    rfl
  refine one_ (i := 4) (N := some 31) #[true, true, true, true, true, false] rfl rfl (one_of HT_.out (by kernel_rfl)) (by decide) (fun K hK => ?_)
  refine goes_ Try.func24 (by kernel_rfl) rfl #[.slice A7 (keysOf (·.r) ks).length k7, .slice A8 (keysOf (·.r) ks).length k8] (by rfl) rfl rfl (by first | rfl | (simp [Act.eval]; done) | kernel_rfl) ?_
  refine (texts_same rfl _ _ _ _ _ _ _ _ _ HF7.out HF8.out).mono ?_
  rintro e w9 ⟨rfl, hb9⟩
  have HBW := step2 HBW hb9.out
  clear hb9
  refine ⟨_, rfl, ?_⟩
  refine hK.out _ _ (KS.out _ HBW) (fun hHeld => ?_)
  clear hK K
  refine norm_ (a' := ?_) ?_ ?_
  rotate_left
  · show Act.put _ (some 31) _ = _
    simp only [Act.put, List.setIfInBounds_toArray, List.set_cons_zero, List.set_cons_succ, i64_w, i32_w]
    rfl
  refine pure_ (i := 5) (N := some 9) (v := ?_) (a' := ?_) #[true, true, true, true, true, true] rfl rfl (any_of HT_.out (by kernel_rfl)) (fun _ _ _ h => h) (Or.inl ⟨by rfl, ?_⟩) ?_ ?_
  rotate_left
  · intro w'
    go_simp
    with_reducible rfl
  rotate_left
  · simp only [Act.put, List.setIfInBounds_toArray, List.set_cons_zero, List.set_cons_succ, i64_w, i32_w]
    rfl
  refine done_ (done_of HT_.out (by kernel_rfl)) ?_
  clear hHeld HT_ HW_ HF7 HF8
  go_upto_region 7 with fail
  generalize w9 = wT at *
  replace HBW := HBW.drew
  refine start_ (n := 6) (S := fun w' => w'.cell? ⟨gA, 0, none⟩ = some (.int .i64 c) ∧ w'.cell? ⟨gA, 1, none⟩ = some (.slice Ak p ck) ∧ w'.cell? ⟨gA, 2, none⟩ = some (.bool aR) ∧ w'.cell? ⟨gA, 3, none⟩ = some (.bool aW) ∧ w'.cell? ⟨gA, 4, none⟩ = some (.slice Ac q cc) ∧ w'.cell? ⟨gB, 0, none⟩ = some (.int .i64 c) ∧ w'.cell? ⟨gB, 1, none⟩ = some (.slice Ak2 p ck2) ∧ w'.cell? ⟨gB, 2, none⟩ = some (.bool aR) ∧ w'.cell? ⟨gB, 3, none⟩ = some (.bool aW) ∧ w'.cell? ⟨gB, 4, none⟩ = some (.slice Ac2 q cc2)) (ds := []) #[false, false, false, false, false, false] (by kernel_rfl) rfl rfl (KS.out _ HBW) (fun hHeld => with_tabW all7_tab all7_bits (fun HT_ HW_ => ?_))
  generalize wT.drew = we at HBW hHeld ⊢
  refine take_ (i := 0) (N := some 32) (v := ?_) (a' := ?_) #[true, false, false, false, false, false] rfl rfl (take_ofW HT_.out HW_.out (by kernel_rfl)) (fun _ _ _ h => h) (Or.inl ⟨by rfl, ?_⟩) hHeld ?_ ?_
  rotate_left
  · rintro w' ⟨s0, s1, s2, s3, s4, s5, s6, s7, s8, s9⟩
    go_simp
    with_reducible rfl
  rotate_left
  · simp only [Act.put, List.setIfInBounds_toArray, List.set_cons_zero, List.set_cons_succ, i64_w, i32_w]
    rfl
  refine take_ (i := 2) (N := some 34) (v := ?_) (a' := ?_) #[true, false, true, false, false, false] rfl rfl (take_ofW HT_.out HW_.out (by kernel_rfl)) (fun _ _ _ h => h) (Or.inl ⟨by rfl, ?_⟩) hHeld ?_ ?_
  rotate_left
  · rintro w' ⟨s0, s1, s2, s3, s4, s5, s6, s7, s8, s9⟩
    go_simp
    with_reducible rfl
  rotate_left
  · simp only [Act.put, List.setIfInBounds_toArray, List.set_cons_zero, List.set_cons_succ, i64_w, i32_w]
    rfl
  refine one_ (i := 1) (N := some 33) #[true, true, true, false, false, false] rfl rfl (one_of HT_.out (by kernel_rfl)) (by decide) (fun K hK => ?_)
  refine goes_ Try.func29 (by kernel_rfl) rfl #[.agg #[.int .i64 c, .slice Ak p ck, .bool aR, .bool aW, .slice Ac q cc]] (by rfl) rfl rfl (by first | rfl | (simp [Act.eval]; done) | kernel_rfl) ?_
  refine (writes_calls _ _ _ _ _ _ _ _ _ _ _ _ (Kd.F_below HK1.out HBW) HP6.out).mono ?_
  rintro e w7 ⟨A7, k7, rfl, hF7, _, hb7⟩
  have HF7 := Aside0.mk hF7
  have HBW := step2 HBW hb7
  clear hb7 hF7
  refine ⟨_, rfl, ?_⟩
  refine hK.out _ _ (KS.out _ HBW) (fun hHeld => ?_)
  clear hK K
  refine norm_ (a' := ?_) ?_ ?_
  rotate_left
  · show Act.put _ (some 33) _ = _
    simp only [Act.put, List.setIfInBounds_toArray, List.set_cons_zero, List.set_cons_succ, i64_w, i32_w]
    rfl
  refine one_ (i := 3) (N := some 35) #[true, true, true, true, false, false] rfl rfl (one_of HT_.out (by kernel_rfl)) (by decide) (fun K hK => ?_)
  refine goes_ Try.func33 (by kernel_rfl) rfl #[.agg #[.int .i64 c, .slice Ak2 p ck2, .bool aR, .bool aW, .slice Ac2 q cc2]] (by rfl) rfl rfl (by first | rfl | (simp [Act.eval]; done) | kernel_rfl) ?_
  refine (refWrites_calls _ _ _ _ _ _ _ _ _ _ _ _ (Kd.F_below HK2.out HBW) HP6.out).mono ?_
  rintro e w8 h8
  unfold RowSaid at h8
  obtain ⟨A8, k8, rfl, _, HF8, HB8⟩ := h8
  have HF7 := Aside0.mk (Kd.F_below HF7.out HB8.out)
  have HBW := step2 HBW HB8.out
  clear HB8
  refine ⟨_, rfl, ?_⟩
  refine hK.out _ _ (KS.out _ HBW) (fun hHeld => ?_)
  clear hK K
  refine norm_ (a' := ?_) ?_ ?_
  rotate_left
  · show Act.put _ (some 35) _ = _
    simp only [Act.put, List.setIfInBounds_toArray, List.set_cons_zero, List.set_cons_succ, i64_w, i32_w]
    rfl
  refine one_ (i := 4) (N := some 36) #[true, true, true, true, true, false] rfl rfl (one_of HT_.out (by kernel_rfl)) (by decide) (fun K hK => ?_)
  refine goes_ Try.func24 (by kernel_rfl) rfl #[.slice A7 (keysOf (·.w) ks).length k7, .slice A8 (keysOf (·.w) ks).length k8] (by rfl) rfl rfl (by first | rfl | (simp [Act.eval]; done) | kernel_rfl) ?_
  refine (texts_same rfl _ _ _ _ _ _ _ _ _ HF7.out HF8.out).mono ?_
  rintro e w9 ⟨rfl, hb9⟩
  have HBW := step2 HBW hb9.out
  clear hb9
  refine ⟨_, rfl, ?_⟩
  refine hK.out _ _ (KS.out _ HBW) (fun hHeld => ?_)
  clear hK K
  refine norm_ (a' := ?_) ?_ ?_
  rotate_left
  · show Act.put _ (some 36) _ = _
    simp only [Act.put, List.setIfInBounds_toArray, List.set_cons_zero, List.set_cons_succ, i64_w, i32_w]
    rfl
  refine pure_ (i := 5) (N := some 10) (v := ?_) (a' := ?_) #[true, true, true, true, true, true] rfl rfl (any_of HT_.out (by kernel_rfl)) (fun _ _ _ h => h) (Or.inl ⟨by rfl, ?_⟩) ?_ ?_
  rotate_left
  · intro w'
    go_simp
    with_reducible rfl
  rotate_left
  · simp only [Act.put, List.setIfInBounds_toArray, List.set_cons_zero, List.set_cons_succ, i64_w, i32_w]
    rfl
  refine done_ (done_of HT_.out (by kernel_rfl)) ?_
  clear hHeld HT_ HW_ HF7 HF8
  go_wp2_with fail
  go_ret
  exact ⟨rfl, step2 HB.out HBW⟩
end Go.Proofs.Ytflnpgfddedahaa.U
