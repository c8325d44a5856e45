/- The head of the uses' statements: it tells true. Equality of uses; boxed needs. -/
import Derived.Test.YtflnpgfddedahaaV1
import Derived.Test.YtflnpgfddedahaaWEqStruct
namespace Go.Proofs.Ytflnpgfddedahaa.U
open Go.RowKit Go.Great Go.Proofs.YtflnpgfddedahaaW.PrintWords
set_option linter.unusedVariables false
set_option linter.unusedSimpArgs false
/-- Are two uses the same? -/
def sameUse (u v : UseD) : Bool := u.key.toList == v.key.toList && u.r == v.r && u.w == v.w
theorem sameUse_self (u : UseD) : sameUse u u = true := by simp [sameUse]
theorem use_equal (u v : UseD) (W : World) : (Op.equalIn 10000 56 (.agg #[.string u.key, .bool u.r, .bool u.w]) (.agg #[.string v.key, .bool v.r, .bool v.w])).run Try.prog W = .ok (sameUse u v) W := by
  refine eqA_of (fs := #[_, _, _]) Try.underlying56 (by kernel_rfl) ?_
  unfold sameUse
  cases h1 : (u.key.toList == v.key.toList) <;> cases h2 : (u.r == v.r) <;> cases h3 : (u.w == v.w) <;> simp [go_sem, Op.eqFields, h1, h2, h3]
theorem use_neq (u v : UseD) (W : World) : (binOp .neq 56 (.agg #[.string u.key, .bool u.r, .bool u.w]) (.agg #[.string v.key, .bool v.r, .bool v.w])).run Try.prog W = .ok (.bool (!sameUse u v)) W := by
  rw [run_neq_struct, use_equal]
  rfl
theorem use_eql (u v : UseD) (W : World) : (binOp .eql 56 (.agg #[.string u.key, .bool u.r, .bool u.w]) (.agg #[.string v.key, .bool v.r, .bool v.w])).run Try.prog W = .ok (.bool (sameUse u v)) W := by
  rw [run_eql_struct, use_equal]
  rfl
/-- The world behind a step, as a name of which only what is said is known. -/
theorem wp_gen {P : Program} {ops : Array Oper} {Q : Exit → Act → World → Prop} {rest : List Oper} {a : Act} {W : World} (Φ : World → Prop) (hΦ : Φ W) (h : ∀ w', Φ w' → wpList P ops Q rest a w') : wpList P ops Q rest a W := h W hΦ
/-- A need, kept in a box. -/
theorem boxed (w : World) (c : Int) (v : Value) (aR aW : Bool) (ch : Value) :
    ((((((w.alloc (needB 0 (.slice none 0 0) false false (.slice none 0 0))).setCell ⟨w.heap.size, 0, none⟩ (.int .i64 c)).setCell ⟨w.heap.size, 1, none⟩ v).setCell ⟨w.heap.size, 2, none⟩ (.bool aR)).setCell ⟨w.heap.size, 3, none⟩ (.bool aW)).setCell ⟨w.heap.size, 4, none⟩ ch).heap[w.heap.size]? = some (needB c v aR aW ch)
    ∧ Below w.heap.size w ((((((w.alloc (needB 0 (.slice none 0 0) false false (.slice none 0 0))).setCell ⟨w.heap.size, 0, none⟩ (.int .i64 c)).setCell ⟨w.heap.size, 1, none⟩ v).setCell ⟨w.heap.size, 2, none⟩ (.bool aR)).setCell ⟨w.heap.size, 3, none⟩ (.bool aW)).setCell ⟨w.heap.size, 4, none⟩ ch) :=
  ⟨(blk_set (blk_set (blk_set (blk_set (blk_set (blk_new w (needB 0 (.slice none 0 0) false false (.slice none 0 0))) 0 _) 1 _) 2 _) 3 _) 4 _).trans rfl, five_B (below_alloc (Below.refl _ _) _) (Nat.le_refl _) _ _ _ _ _⟩
/-- The keys of the examples. -/
def SET1 : List ByteArray := [⟨#[115, 101, 116]⟩, ⟨#[97]⟩, ⟨#[49]⟩]
def REN : List ByteArray := [⟨#[114, 101, 110, 97, 109, 101]⟩, ⟨#[97]⟩, ⟨#[98]⟩]
theorem of_set1 : ofS SET1 = (⟨1, [⟨(⟨#[97]⟩ : ByteArray), false, true⟩], false, false, []⟩, 0) := by kernel_rfl
theorem of_ren : ofS REN = (⟨39, [⟨(⟨#[97]⟩ : ByteArray), true, true⟩, ⟨(⟨#[98]⟩ : ByteArray), false, true⟩], false, false, []⟩, 0) := by kernel_rfl
/-- A use in its row. -/
theorem use_cell {w : World} {ok : Nat → Prop} {A : Option Addr} {n : Nat} {xs : List UseD} (h : Kd.F kUse w ok A n xs) (k : Nat) (hk : k < n) :
    ∃ (ad : Addr) (hl : k < xs.length), A = some ad ∧ w.cell? (ad.add (k * 3)) = some (.string xs[k].key) ∧ w.cell? ⟨(ad.add (k * 3)).block, (ad.add (k * 3)).off + 1, none⟩ = some (.bool xs[k].r) ∧ w.cell? ⟨(ad.add (k * 3)).block, (ad.add (k * 3)).off + 2, none⟩ = some (.bool xs[k].w) := by
  have hn := Kd.F_len h
  obtain ⟨ad, c, e, _, hK, hc0⟩ := Kd.C_get (Kd.F_now h) (⟨⟨#[]⟩, false, false⟩ : UseD) (k : Int) (by omega) (by omega)
  have hl : k < xs.length := by omega
  have hc : ∀ j u, c[j]? = some u → w.cell? (ad.add (k * 3 + j)) = some u := hc0
  rw [Int.toNat_natCast, List.getD_eq_getElem?_getD, List.getElem?_eq_getElem hl, Option.getD_some] at hK
  obtain ⟨_, _, rfl, rfl, _, _, rfl, rfl, rfl⟩ := hK
  exact ⟨ad, hl, e, hc 0 _ rfl, by rw [← add_field _ _ 1 (by omega)]; exact hc 1 _ rfl, by rw [← add_field _ _ 2 (by omega)]; exact hc 2 _ rfl⟩

theorem use_cell0 {w : World} {ok : Nat → Prop} {ad : Addr} {n : Nat} {xs : List UseD} (h : Kd.F kUse w ok (some ad) n xs) (hk : 0 < n) (hl : 0 < xs.length) :
    w.cell? ad = some (.string xs[0].key) ∧ w.cell? ⟨ad.block, ad.off + 1, none⟩ = some (.bool xs[0].r) ∧ w.cell? ⟨ad.block, ad.off + 2, none⟩ = some (.bool xs[0].w) := by
  obtain ⟨a, h1, e, h2, h3, h4⟩ := use_cell h 0 hk
  injection e with e
  subst e
  have e0 : ad.add (0 * 3) = ad := by unfold Addr.add; simp
  rw [e0] at h2 h3 h4
  exact ⟨h2, h3, h4⟩
theorem use_cell1 {w : World} {ok : Nat → Prop} {ad : Addr} {n : Nat} {xs : List UseD} (h : Kd.F kUse w ok (some ad) n xs) (hk : 1 < n) (hl : 1 < xs.length) :
    w.cell? ⟨ad.block, ad.off + 3, none⟩ = some (.string xs[1].key) ∧ w.cell? ⟨ad.block, ad.off + 3 + 1, none⟩ = some (.bool xs[1].r) ∧ w.cell? ⟨ad.block, ad.off + 3 + 2, none⟩ = some (.bool xs[1].w) := by
  obtain ⟨a, h1, e, h2, h3, h4⟩ := use_cell h 1 hk
  injection e with e
  subst e
  have e0 : ad.add (1 * 3) = ⟨ad.block, ad.off + 3, none⟩ := by
    simp [Addr.add]
  rw [e0] at h2 h3 h4
  exact ⟨h2, h3, h4⟩
/-- Of on a row of one's own: what it tells, with the world behind it. -/
def OfSaid (xs : List ByteArray) (W : World) (e : Ending) (W' : World) : Prop := ∃ Ak ck Ac cc, e = .returned (.tuple #[.agg #[.int .i64 (ofS xs).1.cmd, .slice Ak (ofS xs).1.keys.length ck, .bool (ofS xs).1.aR, .bool (ofS xs).1.aW, .slice Ac (ofS xs).1.chans.length cc], .int .i64 (ofS xs).2]) ∧ Kd.F kUse W' (fun k => W.heap.size ≤ k) Ak (ofS xs).1.keys.length (ofS xs).1.keys ∧ (ofS xs).1.keys.length ≤ ck ∧ Kd.F Kd.string W' (fun k => W.heap.size ≤ k) Ac (ofS xs).1.chans.length (ofS xs).1.chans ∧ (ofS xs).1.chans.length ≤ cc ∧ Below W.heap.size W W'
theorem of_said (A : Option Addr) (n cp : Nat) (xs : List ByteArray) (ok : Nat → Prop) (W : World) (hF : Kd.F Kd.string W ok A n xs) (hcp : n ≤ cp) (hn6 : n ≤ 1000000) (hs : (word xs 0).size ≤ 140737488351232) :
    Calls Try.prog 22 #[.slice A n cp] W (OfSaid xs W) :=
  (of_calls A n cp xs ok W hF hcp hn6 hs).mono fun e W' ⟨v, he, hv, hb⟩ => by
    obtain ⟨Ak, ck, Ac, cc, rfl, h1, h2, h3, h4⟩ := hv.out
    exact ⟨Ak, ck, Ac, cc, he, h1, h2, h3, h4, hb⟩

theorem set1_calls (A : Option Addr) (cp : Nat) (ok : Nat → Prop) (W : World) (hF : Kd.F Kd.string W ok A 3 SET1) (hcp : 3 ≤ cp) :
    Calls Try.prog 22 #[.slice A 3 cp] W fun e W' => ∃ Ak ck Ac cc, e = .returned (.tuple #[.agg #[.int .i64 1, .slice Ak 1 ck, .bool false, .bool false, .slice Ac 0 cc], .int .i64 0]) ∧ Kd.F kUse W' (fun k => W.heap.size ≤ k) Ak 1 [⟨(⟨#[97]⟩ : ByteArray), false, true⟩] ∧ 1 ≤ ck ∧ Below W.heap.size W W' :=
  (of_said A 3 cp SET1 ok W hF hcp (by decide) (by decide)).mono fun e W' h => by
    unfold OfSaid at h
    rw [of_set1] at h
    obtain ⟨Ak, ck, Ac, cc, h1, h2, h3, _, _, h6⟩ := h
    exact ⟨Ak, ck, Ac, cc, h1, h2, h3, h6⟩
theorem ren_calls (A : Option Addr) (cp : Nat) (ok : Nat → Prop) (W : World) (hF : Kd.F Kd.string W ok A 3 REN) (hcp : 3 ≤ cp) :
    Calls Try.prog 22 #[.slice A 3 cp] W fun e W' => ∃ Ak ck Ac cc, e = .returned (.tuple #[.agg #[.int .i64 39, .slice Ak 2 ck, .bool false, .bool false, .slice Ac 0 cc], .int .i64 0]) ∧ Kd.F kUse W' (fun k => W.heap.size ≤ k) Ak 2 [⟨(⟨#[97]⟩ : ByteArray), true, true⟩, ⟨(⟨#[98]⟩ : ByteArray), false, true⟩] ∧ 2 ≤ ck ∧ Below W.heap.size W W' :=
  (of_said A 3 cp REN ok W hF hcp (by decide) (by decide)).mono fun e W' h => by
    unfold OfSaid at h
    rw [of_ren] at h
    obtain ⟨Ak, ck, Ac, cc, h1, h2, h3, _, _, h6⟩ := h
    exact ⟨Ak, ck, Ac, cc, h1, h2, h3, h6⟩

set_option maxHeartbeats 4000000 in
set_option maxRecDepth 100000 in
theorem shown8_calls (w : World) : Calls Try.prog 19 #[] w fun e w' => e = .returned (.bool true) ∧ Below w.heap.size w w' := by
  have K1 := Aside0.mk trivial
  have K2 := Aside0.mk trivial
  have hU1 := fun W => use_eql ⟨(⟨#[97]⟩ : ByteArray), false, true⟩ ⟨(⟨#[97]⟩ : ByteArray), false, true⟩ W
  have hU2 := fun W => use_eql ⟨(⟨#[98]⟩ : ByteArray), false, true⟩ ⟨(⟨#[98]⟩ : ByteArray), false, true⟩ W
  rw [sameUse_self] at hU1 hU2
  go_enter Try.func19, Try.ntmps19
  go_wp2_with (first
    | ((with_reducible refine gate_dst (N := 6) rfl ?_); go_must (refine Kd.N_lit Kd.string (w0 := w) w.heap.size 9 rfl (N' := 6) rfl (xs := SET1) (inner := SET1.map .string) (ok := fun k => w.heap.size ≤ k) (okp := fun _ => False) ?hr ?hp (fun _ hk => hk.elim) (Nat.le_refl _) (Below.refl _ _) (Nat.le_refl _) (by decide) ?_; (case hr => go_simp; exact ⟨rfl, rfl⟩); (case hp => exact texts_reps (fun c => fun W' _ => rfl) SET1)); intro v1 w1 hN hb hg1 hv; obtain ⟨Aa, ca, rfl⟩ := Kd.N_slice hN; have HN := Aside0.mk hN; have HB := Aside0.mk hb; clear hN hb hg1 hv)
    | ((with_reducible refine gate_dst (N := 11) rfl ?_); go_must (refine Kd.N_lit Kd.string (w0 := w) w.heap.size 9 rfl (N' := 11) rfl (xs := REN) (inner := REN.map .string) (ok := fun k => w.heap.size ≤ k) (okp := fun _ => False) ?hr ?hp (fun _ hk => hk.elim) (below_alloc HB.out _).size (below_alloc HB.out _) (below_alloc HB.out _).size (by decide) ?_; (case hr => go_simp; exact ⟨rfl, rfl⟩); (case hp => exact texts_reps (fun c => fun W' _ => rfl) REN)); intro v3 w4 hN hb hg1 hv; obtain ⟨Ab, cb, rfl⟩ := Kd.N_slice hN; have HN := Aside0.mk hN; have HB := Aside0.mk hb; have X1 := Aside0.mk ((hg1.block _ (blk_lt X1.out) (by simp)).trans X1.out); have HF1 := Aside0.mk (Kd.F_grown HF1.out hg1 (by simp)); clear hN hb hg1 hv)
    | (go_at_call 22; clear K1; go_must (refine (set1_calls Aa ca _ _ (Kd.N_F HN.out) (Kd.N_reads' HN.out).2.1).mono ?_); rintro e w2 ⟨Ak1, ck1, Ac1, cc1, rfl, hk1, -, hb2⟩; have HF1 := Aside0.mk (Kd.F_alloc hk1 (needB 1 (.slice Ak1 1 ck1) false false (.slice Ac1 0 cc1))); have X1 := Aside0.mk (blk_new w2 (needB 1 (.slice Ak1 1 ck1) false false (.slice Ac1 0 cc1))); have HB := Aside0.mk (step2 HB.out hb2); clear hk1 hb2)
    | (go_at_call 22; clear K2; go_must (refine (ren_calls Ab cb _ _ (Kd.N_F HN.out) (Kd.N_reads' HN.out).2.1).mono ?_); rintro e w5 ⟨Ak2, ck2, Ac2, cc2, rfl, hk2, -, hb5⟩; have HB := Aside0.mk (step2 HB.out hb5); obtain ⟨a1, l1, rfl, -⟩ := use_cell HF1.out 0 (by decide); obtain ⟨u0, u1, u2⟩ := use_cell0 (Kd.F_alloc (Kd.F_below HF1.out hb5) (needB 39 (.slice Ak2 2 ck2) false false (.slice Ac2 0 cc2))) (by decide) (by decide); obtain ⟨a2, l2, rfl, -⟩ := use_cell hk2 0 (by decide); obtain ⟨v0, v1, v2⟩ := use_cell1 (Kd.F_alloc hk2 (needB 39 (.slice (some a2) 2 ck2) false false (.slice Ac2 0 cc2))) (by decide) (by decide); obtain ⟨x0, x1, x2, x3, x4, xf⟩ := cells5' (blk_alloc (blk_below X1.out hb5) (needB 39 (.slice (some a2) 2 ck2) false false (.slice Ac2 0 cc2))); simp only [List.getElem_cons_zero, List.getElem_cons_succ] at u0 u1 u2 v0 v1 v2; clear hk2 hb5))
  go_ret
  exact ⟨rfl, below_alloc HB.out _⟩
end Go.Proofs.Ytflnpgfddedahaa.U
