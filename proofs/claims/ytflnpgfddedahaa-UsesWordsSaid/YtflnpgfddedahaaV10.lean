/- UsesLetters, walked. -/
import Derived.Test.YtflnpgfddedahaaV9
namespace Go.Proofs.Ytflnpgfddedahaa.U
open Go.RowKit Go.Great Go.Proofs.YtflnpgfddedahaaW.PrintWords
set_option linter.unusedVariables false
set_option linter.unusedSimpArgs false
/-- Of, whatever it answers, with the same need behind a name. -/
theorem of_named {xs : List ByteArray} {c : Int} {ks : List UseD} {aR aW : Bool} {cs : List ByteArray} {err : Int} {n p q : Nat} (he : ofS xs = (⟨c, ks, aR, aW, cs⟩, err)) (hk : ks.length = p) (hc : cs.length = q) (A : Option Addr) (cp : Nat) (ok : Nat → Prop) (W : World) (hF : Kd.F Kd.string W ok A n xs) (hcp : n ≤ cp) (hn6 : n ≤ 1000000) (hs : (word xs 0).size ≤ 140737488351232) :
    Calls Try.prog 22 #[.slice A n cp] W fun e W' => ∃ Ak ck Ac cc, e = .returned (.tuple #[.agg #[.int .i64 c, .slice Ak p ck, .bool aR, .bool aW, .slice Ac q cc], .int .i64 err]) ∧ Aside0 (Kd.F kUse W' (fun b => W.heap.size ≤ b) Ak p ks) ∧ Aside0 (Kd.F Kd.string W' (fun b => W.heap.size ≤ b) Ac q cs) ∧ Aside0 (Below W.heap.size W W') :=
  (of_said A n cp xs ok W hF hcp hn6 hs).mono fun e W' h => by
    unfold OfSaid at h
    rw [he] at h
    obtain ⟨Ak, ck, Ac, cc, h1, h2, h3, h4, _, h6⟩ := h
    subst hk
    subst hc
    exact ⟨Ak, ck, Ac, cc, h1, ⟨h2⟩, ⟨h4⟩, ⟨h6⟩⟩
theorem set_last (l : List ByteArray) (u v : ByteArray) (m : Nat) (h : l.length = m) : (l ++ [u]).set m v = l ++ [v] := by
  subst h
  rw [List.set_append_right _ _ (Nat.le_refl _), Nat.sub_self]
  rfl
theorem cell_last {w : World} {ok : Nat → Prop} {g : Nat} {n : Nat} {xs : List ByteArray} {u : ByteArray} (h : Kd.F Kd.string w ok (some ⟨g, 0, none⟩) (n + 1) (xs ++ [u])) (hl : xs.length = n) : w.cell? ⟨g, n, none⟩ = some (.string u) := by
  obtain ⟨ad, h1, h2, h3⟩ := text_at h n (Nat.lt_succ_self n)
  injection h2 with h2
  subst h2
  subst hl
  rw [List.getElem_concat_length rfl] at h3
  rw [show (⟨g, 0, none⟩ : Addr).add xs.length = ⟨g, xs.length, none⟩ from by unfold Addr.add; simp; intro h0; rw [h0]; rfl] at h3
  exact h3
set_option maxHeartbeats 8000000 in
set_option maxRecDepth 100000 in
theorem letters8_calls (A : Option Addr) (N C : Nat) (xs : List ByteArray) (last : ByteArray) (ok : Nat → Prop) (W : World) (hF : Kd.F Kd.string W ok A N xs) (hlc : N ≤ C) (hsz : ∀ s ∈ xs, s.size ≤ 140737488351232) (hlast : last.size ≤ 140737488351232) :
    Calls Try.prog 7 #[.slice A N C, .string last] W fun e W' => e = .returned (.bool true) ∧ Below W.heap.size W W' := by
  have hxl := Kd.F_len hF
  obtain ⟨m, hm⟩ : ∃ m, m = min N 40 := ⟨_, rfl⟩
  obtain ⟨ys, hys⟩ : ∃ ys, ys = xs.take 40 := ⟨_, rfl⟩
  have HYL : Aside0 (ys.length = m) := ⟨by rw [hys, List.length_take, hm]; omega⟩
  have HY : Aside0 (Kd.F Kd.string W ok A m ys) := ⟨by rw [hys, hm]; exact few_F hF⟩
  have HZ : Aside0 (∀ s ∈ ys, s.size ≤ 140737488351232) := ⟨fun s h => hsz s (by rw [hys] at h; exact List.mem_of_mem_take h)⟩
  have FW : Aside0 (∀ w : World, Below W.heap.size W w → Calls Try.prog 20 #[.slice A N C] w fun e w' => e = .returned (.slice A m C) ∧ w' = w) := ⟨fun w hb => (few_calls A N C xs ok w (Kd.F_below hF hb) hlc).mono fun e w' ⟨p, h1, h2, h3⟩ => ⟨by rw [h1, h2, hm], h3⟩⟩
  have hm40 : m ≤ 40 := by omega
  have hmc : m ≤ C := by omega
  clear hF hys hxl hsz hm
  by_cases hz : m = 0
  · have i0 : ((m : Int) == 0) = true := by simp; omega
    clear hz
    go_enter Try.func7, Try.ntmps7
    go_wp2_with (first
      | (go_at_call 19; go_must (refine (shown8_calls _).mono ?_); rintro e w1 ⟨rfl, hb1⟩; have HB := Aside0.mk hb1; clear hb1)
      | (go_at_call 20; go_must (refine (FW.out _ HB.out).mono ?_); rintro e w2 ⟨rfl, rfl⟩))
    go_ret
    exact ⟨rfl, HB.out⟩
  · have i0 : ((m : Int) == 0) = false := by simp; omega
    obtain ⟨x, zs, hyx⟩ : ∃ x zs, ys = x :: zs := by
      cases ys with
      | nil => exact absurd HYL.out.symm hz
      | cons x zs => exact ⟨x, zs, rfl⟩
    subst hyx
    have hx : x.size ≤ 140737488351232 := HZ.out x (by simp)
    have hlx : (lowS x).size ≤ 140737488351232 := by rw [lowS_size]; exact hx
    obtain ⟨c, ks, aR, aW, cs, err, he⟩ : ∃ (c : Int) (ks : List UseD) (aR aW : Bool) (cs : List ByteArray) (err : Int), ofS (x :: zs) = (⟨c, ks, aR, aW, cs⟩, err) := ⟨_, _, _, _, _, _, rfl⟩
    have hel := (of_low x zs).trans he
    obtain ⟨p, hp⟩ : ∃ p, ks.length = p := ⟨_, rfl⟩
    obtain ⟨q, hq⟩ : ∃ q, cs.length = q := ⟨_, rfl⟩
    have OA : Aside0 (∀ (W : World), Kd.F Kd.string W ok A m (x :: zs) → Calls Try.prog 22 #[.slice A m C] W fun e W' => ∃ Ak ck Ac cc, e = .returned (.tuple #[.agg #[.int .i64 c, .slice Ak p ck, .bool aR, .bool aW, .slice Ac q cc], .int .i64 err]) ∧ Aside0 (Kd.F kUse W' (fun b => W.heap.size ≤ b) Ak p ks) ∧ Aside0 (Kd.F Kd.string W' (fun b => W.heap.size ≤ b) Ac q cs) ∧ Aside0 (Below W.heap.size W W')) := ⟨fun W h1 => of_named he hp hq A C ok W h1 hmc (by omega) hx⟩
    have OL : Aside0 (∀ (B : Option Addr) (cp : Nat) (ok : Nat → Prop) (W : World), Kd.F Kd.string W ok B m (lowS x :: zs) → m ≤ cp → Calls Try.prog 22 #[.slice B m cp] W fun e W' => ∃ Ak ck Ac cc, e = .returned (.tuple #[.agg #[.int .i64 c, .slice Ak p ck, .bool aR, .bool aW, .slice Ac q cc], .int .i64 err]) ∧ Aside0 (Kd.F kUse W' (fun b => W.heap.size ≤ b) Ak p ks) ∧ Aside0 (Kd.F Kd.string W' (fun b => W.heap.size ≤ b) Ac q cs) ∧ Aside0 (Below W.heap.size W W')) := ⟨fun B cp ok W h1 h2 => of_named hel hp hq B cp ok W h1 h2 (by omega) hlx⟩
    have hm1 : 1 ≤ m := by omega
    obtain ⟨ad, hA⟩ := some_at HY.out hm1
    subst hA
    have HLW : Aside0 (∀ w : World, Calls Try.prog 21 #[.string x] w fun e w' => e = .returned (.string (lowS x)) ∧ Below w.heap.size w w') := ⟨fun w => refLower_calls x w hx⟩
    obtain ⟨nx, hnx⟩ : ∃ nx, nx = lowS x := ⟨_, rfl⟩
    rw [← hnx] at HLW OL
    have KA := Aside0.mk trivial
    have KB := Aside0.mk trivial
    have KC := Aside0.mk trivial
    have KD := Aside0.mk trivial
    have KE := Aside0.mk trivial
    have KX := Aside0.mk trivial
    have j0 : (0 : Int) < (m : Int) := by omega
    have HNX := Aside0.mk hnx
    clear hel hlx hnx
    obtain ⟨cI, ks2, ls2, err2, HS2⟩ : ∃ (c : Int) (ks ls : List UseD) (err : Int), Aside0 (isSix nx.toList = true → ofS (x :: (zs ++ [last])) = (⟨c, ks, false, false, []⟩, err) ∧ ofS (x :: (zs ++ [last ++ (⟨#[120]⟩ : ByteArray)])) = (⟨c, ls, false, false, []⟩, err) ∧ ks.length = ls.length ∧ (1 ≤ zs.length → ks = ls)) := by
      by_cases h6 : isSix (lowS x).toList = true
      · obtain ⟨c, ks, ls, err, h⟩ := of_last x h6 zs last (last ++ (⟨#[120]⟩ : ByteArray))
        exact ⟨c, ks, ls, err, ⟨fun _ => h⟩⟩
      · exact ⟨0, [], [], 0, ⟨fun h => absurd (by rw [← HNX.out]; exact h) h6⟩⟩
    obtain ⟨p2, hp2⟩ : ∃ p, ks2.length = p := ⟨_, rfl⟩
    have hcp2 : m + 1 ≤ 1000000 := by omega
    have OU : Aside0 (isSix nx.toList = true → ∀ (B : Option Addr) (cp : Nat) (ok : Nat → Prop) (W : World), Kd.F Kd.string W ok B (m + 1) (x :: (zs ++ [last])) → m + 1 ≤ cp → Calls Try.prog 22 #[.slice B (m + 1) cp] W fun e W' => ∃ Ak ck Ac cc, e = .returned (.tuple #[.agg #[.int .i64 cI, .slice Ak p2 ck, .bool false, .bool false, .slice Ac 0 cc], .int .i64 err2]) ∧ Aside0 (Kd.F kUse W' (fun b => W.heap.size ≤ b) Ak p2 ks2) ∧ Aside0 (Kd.F Kd.string W' (fun b => W.heap.size ≤ b) Ac 0 []) ∧ Aside0 (Below W.heap.size W W')) := ⟨fun h6 B cp ok W h1 h2 => of_named (HS2.out h6).1 hp2 rfl B cp ok W h1 h2 hcp2 hx⟩
    have OV : Aside0 (isSix nx.toList = true → ∀ (B : Option Addr) (cp : Nat) (ok : Nat → Prop) (W : World), Kd.F Kd.string W ok B (m + 1) (x :: (zs ++ [last ++ (⟨#[120]⟩ : ByteArray)])) → m + 1 ≤ cp → Calls Try.prog 22 #[.slice B (m + 1) cp] W fun e W' => ∃ Ak ck Ac cc, e = .returned (.tuple #[.agg #[.int .i64 cI, .slice Ak p2 ck, .bool false, .bool false, .slice Ac 0 cc], .int .i64 err2]) ∧ Aside0 (Kd.F kUse W' (fun b => W.heap.size ≤ b) Ak p2 ls2) ∧ Aside0 (Kd.F Kd.string W' (fun b => W.heap.size ≤ b) Ac 0 []) ∧ Aside0 (Below W.heap.size W W')) := ⟨fun h6 B cp ok W h1 h2 => of_named (HS2.out h6).2.1 ((HS2.out h6).2.2.1.symm.trans hp2) rfl B cp ok W h1 h2 hcp2 hx⟩
    have HZL : Aside0 (isSix nx.toList = true → ¬ ks2 = ls2 → ((m : Int) == 1) = true) := ⟨fun h6 hne => by
      have h1 := HYL.out
      rw [List.length_cons] at h1
      by_cases h2 : 1 ≤ zs.length
      · exact absurd ((HS2.out h6).2.2.2 h2) hne
      · simp
        omega⟩
    have HSZ : Aside0 (¬ 9223372036854775807 < last.size + 1) := ⟨by omega⟩
    have wm : wrap64 (m : Int) = (m : Int) := IntWalk.wrap64_in _ (by omega)
    have wl : (m : Int) < ((m + 1 : Nat) : Int) := by omega
    clear hp2 hcp2 hlast
    go_enter Try.func7, Try.ntmps7
    go_wp2_with (first
      | (go_at_call 19; go_must (refine (shown8_calls _).mono ?_); rintro e w1 ⟨rfl, hb1⟩; have HB := Aside0.mk hb1; clear hb1)
      | (go_at_call 20; go_must (refine (FW.out _ HB.out).mono ?_); rintro e w2 ⟨rfl, rfl⟩)
      | ((with_reducible refine gate_dst (N := 27) rfl ?_); go_must (refine Kd.N_lit Kd.string (w0 := W) W.heap.size 9 rfl (N' := 27) rfl (xs := ([] : List ByteArray)) (inner := []) (ok := fun _ => True) (okp := fun _ => False) ?hr ?hp (fun _ hk => hk.elim) trivial HB.out HB.out.size (by decide) ?_); go_must ((case hr => go_simp; try rfl)); go_must ((case hp => exact Reps.none _ _)); go_must (intro v1 w3 hN hb hg1 hv; obtain ⟨Ao, co, rfl⟩ := Kd.N_slice hN; have HNo := Aside0.mk hN; have HB := Aside0.mk hb; clear hN hb hg1 hv))
      | ((with_reducible refine gate_builtin (b := .append) (xs := #[.tmp 27, .tmp 28]) rfl ?_); at_builtin; go_must (refine Kd.N_append_rows Kd.string (w0 := W) W.heap.size rfl (.tmp 27) (.tmp 28) 35 9 (.string ⟨#[]⟩) 16 rfl Try.underlying35 info9 rfl (by decide) (by decide) (.slice Ao 0 co) [] (x :: zs) (some ad) m C (fun _ => True) (fun b => ok b ∧ b < W.heap.size) ?hs4 ?hx4 HNo.out (Kd.F_below (Kd.F_bound HY.out) HB.out) ?x4 (fun _ _ => trivial) HB.out HB.out.size ?l4 ?_); go_must ((case hs4 => rfl)); go_must ((case hx4 => rfl)); go_must ((case x4 => exact fun b hb => ⟨trivial, fun e => by have h1 := Kd.N_base HNo.out b e.symm; omega⟩)); go_must ((case l4 => simp only [List.length_nil]; omega)); go_must (intro v4 w4 hN hb hg1 hv; rw [List.nil_append] at hN; obtain ⟨Ar, cr, rfl⟩ := Kd.N_slice hN; rw [HYL.out] at hN ⊢; have HFo := Aside0.mk (Kd.F_bound (Kd.N_F hN)); have HB := Aside0.mk hb; have HR := Aside0.mk (Below.refl w4.heap.size w4); clear hN hb hg1 hv))
      | ((with_reducible refine gate_dst (N := 30) rfl ?_); go_must (refine Kd.N_lit Kd.string (w0 := w4) w4.heap.size 9 rfl (N' := 30) rfl (xs := ([] : List ByteArray)) (inner := []) (ok := fun _ => True) (okp := fun _ => False) ?hr5 ?hp5 (fun _ hk => hk.elim) trivial HR.out (Nat.le_refl _) (by decide) ?_); go_must ((case hr5 => go_simp; try rfl)); go_must ((case hp5 => exact Reps.none _ _)); go_must (intro v5 w5 hN hb hg1 hv; obtain ⟨Al, cl, rfl⟩ := Kd.N_slice hN; have HNl := Aside0.mk hN; have HR := Aside0.mk hb; clear hN hb hg1 hv))
      | ((with_reducible refine gate_builtin (b := .append) (xs := #[.tmp 30, .tmp 31]) rfl ?_); at_builtin; go_must (refine Kd.N_append_rows Kd.string (w0 := w4) w4.heap.size rfl (.tmp 30) (.tmp 31) 35 9 (.string ⟨#[]⟩) 16 rfl Try.underlying35 info9 rfl (by decide) (by decide) (.slice Al 0 cl) [] (x :: zs) (some ad) m C (fun _ => True) (fun b => ok b ∧ b < W.heap.size) ?hs6 ?hx6 HNl.out (Kd.F_below (Kd.F_bound HY.out) (step2 HB.out HR.out)) ?x6 (fun _ _ => trivial) HR.out HR.out.size ?l6 ?_); go_must ((case hs6 => rfl)); go_must ((case hx6 => rfl)); go_must ((case x6 => exact fun b hb => ⟨trivial, fun e => by have h1 := Kd.N_base HNl.out b e.symm; have h2 := HB.out.size; omega⟩)); go_must ((case l6 => simp only [List.length_nil]; omega)); go_must (intro v6 w6 hN hb hg1 hv; rw [List.nil_append] at hN; obtain ⟨gl, cl2, rfl, hgl, hgs, -⟩ := Kd.N_form hN (by simp); rw [HYL.out] at hN ⊢; have HNl := Aside0.mk hN; have HR := Aside0.mk hb; obtain ⟨a0, l0, e0, c0⟩ := text_at (Kd.F_below HY.out (step2 HB.out hb)) 0 hm1; injection e0 with e0; subst e0; rw [show ad.add 0 = ad from (by unfold Addr.add; simp)] at c0; simp only [List.getElem_cons_zero] at c0; clear hN hb hg1 hv))
      | (go_at_call 21; go_must (refine (HLW.out _).mono ?_); rintro e w7 ⟨rfl, hb7⟩; have HR := Aside0.mk (step2 HR.out hb7); have HNl := Aside0.mk (Kd.N_below HNl.out hb7); obtain ⟨b0, l1, e1, c1⟩ := text_at (Kd.N_F HNl.out) 0 hm1; injection e1 with e1; subst e1; have c1' : w7.cell? ⟨gl, 0, none⟩ = some (.string x) := c1; clear hb7 c0 c1)
      | ((with_reducible refine gate_store (t := 9) (p := 38) (v := .tmp 37) rfl ?_); go_must (refine Kd.N_store Kd.string (w0 := w4) w4.heap.size rfl rfl 9 (.tmp 38) (.tmp 37) rfl 9 (g := gl) (n := m) (cap := cl2) (o' := 0) 0 0 (x :: zs) nx (.string nx) [.string nx] [.string x] (fun _ => True) (fun _ => False) ?st1 rfl ?st2 rfl (by kernel_rfl) ?st3 HNl.out (Int.le_refl _) j0 rfl ?st4 (Nat.le_refl 1) ?st5 (fun _ h => h.elim) HR.out ?_); go_must ((case st1 => rfl)); go_must ((case st2 => rfl)); go_must ((case st3 => intro z hz2; simp only [List.mem_singleton] at hz2; subst hz2; rfl)); go_must ((case st4 => intro jj uu hju; cases jj with | zero => (simp only [List.getElem?_cons_zero, Option.some.injEq] at hju; subst hju; exact c1') | succ jj => simp at hju)); go_must ((case st5 => exact fun W' _ => rfl)); go_must (intro w8 hN hb hg8; have HFl : Aside0 (Kd.F Kd.string w8 (fun _ => True) (some ⟨gl, 0, none⟩) m (nx :: zs)) := ⟨Kd.N_F hN⟩; have hcl := (Kd.N_reads' hN).2.1; have HR := Aside0.mk hb; clear hN hb hg8))
      | (go_at_call 22; clear KA; go_must (refine (OA.out _ (Kd.F_below HY.out (step2 HB.out HR.out))).mono ?_); rintro e w9 ⟨Ak, ck, Ac, cc, rfl, HK1, HC1, hb9⟩; have HR := Aside0.mk (below_alloc (step2 HR.out hb9.out) (needB c (.slice Ak p ck) aR aW (.slice Ac q cc))); have X1 := Aside0.mk (blk_new w9 (needB c (.slice Ak p ck) aR aW (.slice Ac q cc))); have HK1 := Aside0.mk (Kd.F_alloc HK1.out (needB c (.slice Ak p ck) aR aW (.slice Ac q cc))); have HC1 := Aside0.mk (Kd.F_alloc HC1.out (needB c (.slice Ak p ck) aR aW (.slice Ac q cc))); have HFl := Aside0.mk (Kd.F_alloc (Kd.F_below HFl.out hb9.out) (needB c (.slice Ak p ck) aR aW (.slice Ac q cc))); clear hb9)
      | (go_at_call 22; clear KB; go_must (refine (OL.out _ _ _ _ HFl.out hcl).mono ?_); rintro e w10 ⟨Ak2, ck2, Ac2, cc2, rfl, HK2, HC2, hb10⟩; have HR := Aside0.mk (below_alloc (step2 HR.out hb10.out) (needB c (.slice Ak2 p ck2) aR aW (.slice Ac2 q cc2))); have X2 := Aside0.mk (blk_new w10 (needB c (.slice Ak2 p ck2) aR aW (.slice Ac2 q cc2))); have X1 := Aside0.mk (blk_alloc (blk_below X1.out hb10.out) (needB c (.slice Ak2 p ck2) aR aW (.slice Ac2 q cc2))); have HK1 := Aside0.mk (Kd.F_alloc (Kd.F_below HK1.out hb10.out) (needB c (.slice Ak2 p ck2) aR aW (.slice Ac2 q cc2))); have HC1 := Aside0.mk (Kd.F_alloc (Kd.F_below HC1.out hb10.out) (needB c (.slice Ak2 p ck2) aR aW (.slice Ac2 q cc2))); have HK2 := Aside0.mk (Kd.F_alloc HK2.out (needB c (.slice Ak2 p ck2) aR aW (.slice Ac2 q cc2))); have HC2 := Aside0.mk (Kd.F_alloc HC2.out (needB c (.slice Ak2 p ck2) aR aW (.slice Ac2 q cc2))); have HFl := Aside0.mk (Kd.F_alloc (Kd.F_below HFl.out hb10.out) (needB c (.slice Ak2 p ck2) aR aW (.slice Ac2 q cc2))); obtain ⟨x0, x1, x2, x3, x4, xf⟩ := cells5' X1.out; obtain ⟨y0, y1, y2, y3, y4, yf⟩ := cells5' X2.out; clear hb10)
      | (go_at_call 23; clear KX; go_must (refine (same8_calls c aR aW _ _ p _ _ _ _ q _ _ _ _ _ _ ks ks cs _ HK1.out HK2.out HC1.out HC2.out).mono ?_); rintro e w11 ⟨hT, hb11⟩; obtain ⟨bb, rfl, hbb⟩ := hT; obtain rfl := hbb rfl; have HR := Aside0.mk (step2 HR.out hb11); have HFl := Aside0.mk (Kd.F_below HFl.out hb11); clear hb11 hbb x0 x1 x2 x3 x4 xf y0 y1 y2 y3 y4 yf)
      | (go_at_call 24; go_must (refine (texts_same rfl _ _ _ _ _ _ _ _ _ (Kd.F_below HFo.out HR.out) (Kd.F_below HY.out (step2 HB.out HR.out))).mono ?_); rintro e w12 ⟨rfl, hb12⟩; have HR := Aside0.mk (step2 HR.out hb12.out); have HFl := Aside0.mk (Kd.F_below HFl.out hb12.out); have c2 : w12.cell? ⟨gl, 0, none⟩ = some (.string nx) := (by obtain ⟨b0, l1, e1, c1⟩ := text_at HFl.out 0 hm1; injection e1 with e1; subst e1; exact c1); clear hb12)
      | ((with_reducible refine gate_dst (N := 104) rfl ?_); go_must (refine Kd.N_lit Kd.string (w0 := w12) w12.heap.size 9 rfl (N' := 104) rfl (xs := ([] : List ByteArray)) (inner := []) (ok := fun _ => True) (okp := fun _ => False) (by go_simp; try rfl) (Reps.none _ _) (fun _ hk => hk.elim) trivial (Below.refl _ _) (Nat.le_refl _) (by decide) ?_); go_must (intro v13 w13 hN hb hg1 hv; obtain ⟨Ax, cx, rfl⟩ := Kd.N_slice hN; have HNx := Aside0.mk hN; have HRx := Aside0.mk hb; clear hN hb hg1 hv))
      | ((with_reducible refine gate_builtin (b := .append) (xs := #[.tmp 104, .tmp 105]) rfl ?_); at_builtin; go_must (refine Kd.N_append_rows Kd.string (w0 := w12) w12.heap.size rfl (.tmp 104) (.tmp 105) 35 9 (.string ⟨#[]⟩) 16 rfl Try.underlying35 info9 rfl (by decide) (by decide) (.slice Ax 0 cx) [] (x :: zs) (some ad) m C (fun _ => True) (fun b => ok b ∧ b < W.heap.size) (by rfl) (by rfl) HNx.out (Kd.F_below (Kd.F_bound HY.out) (step2 HB.out (step2 HR.out HRx.out))) (fun b hb => ⟨trivial, fun e => by have h1 := Kd.N_base HNx.out b e.symm; have h2 := (step2 HB.out HR.out).size; omega⟩) (fun _ _ => trivial) HRx.out HRx.out.size (by simp only [List.length_nil]; omega) ?_); go_must (intro v14 w14 hN hb hg1 hv; rw [List.nil_append] at hN; obtain ⟨Ay, cy, rfl⟩ := Kd.N_slice hN; rw [HYL.out] at hN ⊢; have HNx := Aside0.mk hN; have HRx := Aside0.mk hb; clear hN hb hg1 hv))
      | ((with_reducible refine gate_dst (N := 108) rfl ?_); go_must (refine Kd.N_lit Kd.string (w0 := w14) w14.heap.size 9 rfl (N' := 108) rfl (xs := [last]) (inner := [.string last]) (ok := fun b => w14.heap.size ≤ b) (okp := fun _ => False) (by go_simp; try rfl) (texts_reps (fun c => fun W' _ => rfl) [last]) (fun _ hk => hk.elim) (Nat.le_refl _) (Below.refl _ _) (Nat.le_refl _) (by simp) ?_); go_must (intro v15 w15 hN hb hg1 hv; obtain ⟨Az, cz, rfl⟩ := Kd.N_slice hN; have HNz := Aside0.mk hN; have HRz := Aside0.mk hb; obtain ⟨nz, hnz⟩ : ∃ nz, nz = [last].length := ⟨_, rfl⟩; have HNZ : Aside0 (nz = 1) := ⟨hnz⟩; rw [← hnz] at HNz ⊢; clear hN hb hg1 hv hnz))
      | ((with_reducible refine gate_builtin (b := .append) (xs := #[.tmp 106, .tmp 108]) rfl ?_); at_builtin; go_must (refine Kd.N_append_rows Kd.string (w0 := w12) w12.heap.size rfl (.tmp 106) (.tmp 108) 35 9 (.string ⟨#[]⟩) 16 rfl Try.underlying35 info9 rfl (by decide) (by decide) (.slice Ay m cy) (x :: zs) [last] Az nz cz (fun _ => True) (fun b => w14.heap.size ≤ b) (by rfl) (by rfl) (Kd.N_below HNx.out HRz.out) (Kd.N_F HNz.out) (fun b hb => ⟨trivial, fun e => by have h1 := Kd.N_lt HNx.out b e.symm; omega⟩) (fun _ _ => trivial) (step2 HRx.out HRz.out) (step2 HRx.out HRz.out).size (by have h1 := HYL.out; have h2 := HNZ.out; simp only [List.length_cons, List.length_nil] at h1 ⊢; omega) ?_); go_must (intro v16 w16 hN hb hg1 hv; obtain ⟨gz, cz2, rfl, hgz, hgzs, -⟩ := Kd.N_form hN (by simp); have HLz : Aside0 (((x :: zs) ++ [last]).length = m + 1) := ⟨by rw [List.length_append, HYL.out]; rfl⟩; rw [HLz.out] at hN ⊢; have HNx := Aside0.mk hN; have HRx := Aside0.mk hb; have hcz := (Kd.N_reads' hN).2.1; clear hN hb hg1 hv))
      | (go_at_call 22; clear KC; go_must (have H6 : isSix nx.toList = true := (by first | (unfold isSix; rw [‹nx.toList = _›]; decide) | (unfold isSix; simp only [Bool.or_eq_true]; assumption))); go_must (refine (OU.out H6 _ _ _ _ (Kd.N_F HNx.out) hcz).mono ?_); rintro e w17 ⟨Ak3, ck3, Ac3, cc3, rfl, HK3, HC3, hb17⟩; have HRx := Aside0.mk (below_alloc (step2 HRx.out hb17.out) (needB cI (.slice Ak3 p2 ck3) false false (.slice Ac3 0 cc3))); have X3 := Aside0.mk (blk_new w17 (needB cI (.slice Ak3 p2 ck3) false false (.slice Ac3 0 cc3))); have HK3 := Aside0.mk (Kd.F_alloc HK3.out (needB cI (.slice Ak3 p2 ck3) false false (.slice Ac3 0 cc3))); have HC3 := Aside0.mk (Kd.F_alloc HC3.out (needB cI (.slice Ak3 p2 ck3) false false (.slice Ac3 0 cc3))); have HNx := Aside0.mk (Kd.N_below (Kd.N_below HNx.out hb17.out) (below_alloc (Below.refl _ _) (needB cI (.slice Ak3 p2 ck3) false false (.slice Ac3 0 cc3)))); have HLT := Aside0.mk (show w16.heap.size ≤ w17.heap.size from hb17.out.size); have cL := cell_last (Kd.N_F HNx.out) HYL.out; clear hb17)
      | ((with_reducible refine gate_store (t := 9) (p := 121) (v := .tmp 120) rfl ?_); go_must (refine Kd.N_store Kd.string (w0 := w12) w12.heap.size rfl rfl 9 (.tmp 121) (.tmp 120) rfl 9 (g := gz) (n := m + 1) (cap := cz2) (o' := m) (m : Int) 0 ((x :: zs) ++ [last]) (last ++ (⟨#[120]⟩ : ByteArray)) (.string (last ++ (⟨#[120]⟩ : ByteArray))) [.string (last ++ (⟨#[120]⟩ : ByteArray))] [.string last] (fun _ => True) (fun _ => False) (by rfl) (by rw [Int.toNat_natCast]; show m = m * 1 + 0; omega) (by rfl) rfl (by kernel_rfl) (by intro z hz2; simp only [List.mem_singleton] at hz2; subst hz2; rfl) HNx.out (by omega) wl rfl (by intro jj uu hju; cases jj with | zero => (simp only [List.getElem?_cons_zero, Option.some.injEq] at hju; subst hju; rw [Int.toNat_natCast, show m * Kd.string.sz + 0 = m from Nat.mul_one m]; exact cL) | succ jj => simp at hju) (Nat.le_refl 1) (fun W' _ => rfl) (fun _ h => h.elim) HRx.out ?_); go_must (intro w18 hN hb hg18; rw [Int.toNat_natCast, set_last _ _ _ _ HYL.out] at hN; have HNx := Aside0.mk hN; have HRx := Aside0.mk hb; have X3 := Aside0.mk ((hg18.block _ (blk_lt X3.out) (by have h1 := HLT.out; intro e; injection e with e; omega)).trans X3.out); have HK3 := Aside0.mk (Kd.F_grown HK3.out hg18 (fun k hk e => by have h1 := HLT.out; injection e with e; omega)); have HC3 := Aside0.mk (Kd.F_grown HC3.out hg18 (fun k hk e => by have h1 := HLT.out; injection e with e; omega)); clear hN hb hg18 cL))
      | (go_at_call 22; clear KD; go_must (have H6 : isSix nx.toList = true := (by first | (unfold isSix; rw [‹nx.toList = _›]; decide) | (unfold isSix; simp only [Bool.or_eq_true]; assumption))); go_must (refine (OV.out H6 _ _ _ _ (Kd.N_F HNx.out) hcz).mono ?_); rintro e w19 ⟨Ak4, ck4, Ac4, cc4, rfl, HK4, HC4, hb19⟩; have HRx := Aside0.mk (below_alloc (step2 HRx.out hb19.out) (needB cI (.slice Ak4 p2 ck4) false false (.slice Ac4 0 cc4))); have X4 := Aside0.mk (blk_new w19 (needB cI (.slice Ak4 p2 ck4) false false (.slice Ac4 0 cc4))); have X3 := Aside0.mk (blk_alloc (blk_below X3.out hb19.out) (needB cI (.slice Ak4 p2 ck4) false false (.slice Ac4 0 cc4))); have HK3 := Aside0.mk (Kd.F_alloc (Kd.F_below HK3.out hb19.out) (needB cI (.slice Ak4 p2 ck4) false false (.slice Ac4 0 cc4))); have HC3 := Aside0.mk (Kd.F_alloc (Kd.F_below HC3.out hb19.out) (needB cI (.slice Ak4 p2 ck4) false false (.slice Ac4 0 cc4))); have HK4 := Aside0.mk (Kd.F_alloc HK4.out (needB cI (.slice Ak4 p2 ck4) false false (.slice Ac4 0 cc4))); have HC4 := Aside0.mk (Kd.F_alloc HC4.out (needB cI (.slice Ak4 p2 ck4) false false (.slice Ac4 0 cc4))); obtain ⟨x0, x1, x2, x3, x4, xf⟩ := cells5' X3.out; obtain ⟨y0, y1, y2, y3, y4, yf⟩ := cells5' X4.out; clear hb19)
      | (go_at_call 23; clear KE; go_must (have H6 : isSix nx.toList = true := (by first | (unfold isSix; rw [‹nx.toList = _›]; decide) | (unfold isSix; simp only [Bool.or_eq_true]; assumption))); go_must (refine (same8_calls cI false false _ _ p2 _ _ _ _ 0 _ _ _ _ _ _ ks2 ls2 [] _ HK3.out HK4.out HC3.out HC4.out).mono ?_); rintro e w20 ⟨hT, hb20⟩; obtain ⟨bb, rfl, hbb⟩ := hT; have HBB : bb = false → ((m : Int) == 1) = true := (fun hf => HZL.out H6 (fun he => by rw [hbb he] at hf; cases hf)); have HRx := Aside0.mk (step2 HRx.out hb20); clear hb20 hbb x0 x1 x2 x3 x4 xf y0 y1 y2 y3 y4 yf)
      | fail)
    all_goals first | exact absurd ‹9223372036854775807 < last.size + 1› HSZ.out | go_ret
    all_goals first | exact ⟨rfl, step2 HB.out (step2 HR.out HRx.out)⟩ | exact ⟨rfl, step2 HB.out HR.out⟩ | exact ⟨by simp [HBB ‹_›], step2 HB.out (step2 HR.out HRx.out)⟩ | skip
end Go.Proofs.Ytflnpgfddedahaa.U
