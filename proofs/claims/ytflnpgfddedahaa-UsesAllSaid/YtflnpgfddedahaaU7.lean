/- uses.Of: what a request needs. -/
import Derived.Test.YtflnpgfddedahaaU6
import Derived.Test.YtflnpgfddedahaaC5
namespace Go.Proofs.Ytflnpgfddedahaa.U
open Go.RowKit Go.Great Go.Maps Go.Proofs.YtflnpgfddedahaaW.PrintWords
set_option linter.unusedVariables false
set_option linter.unusedSimpArgs false

/-- A need, read. -/
structure NeedV (W : World) (lo : Nat) (v : Value) (c : Int) (keys : List UseD) (aR aW : Bool) (chans : List ByteArray) : Prop where
  out : ∃ Ak ck Ac cc, v = .agg #[.int .i64 c, .slice Ak keys.length ck, .bool aR, .bool aW, .slice Ac chans.length cc] ∧ Kd.F kUse W (fun k => lo ≤ k) Ak keys.length keys ∧ keys.length ≤ ck ∧ Kd.F Kd.string W (fun k => lo ≤ k) Ac chans.length chans ∧ chans.length ≤ cc
/-- The kind of a command. -/
def kindAt (k : Nat) : Option NK := KALL.lookup (cmdOf k).name.data.toList
theorem low_idem : ∀ n : Nat, n < 256 → low (low (UInt8.ofNat n)) = low (UInt8.ofNat n) := by decide +kernel
theorem lower_idem (l : List UInt8) : lower (lower l) = lower l := by
  unfold lower
  rw [List.map_map]
  refine List.map_congr_left (fun c _ => ?_)
  have h := low_idem c.toNat c.toNat_lt
  rwa [UInt8.ofNat_toNat] at h
theorem findI_low (s : ByteArray) : findI (lowS s) = findI s := by
  unfold findI
  have e : lowS (lowS s) = lowS s := by
    unfold lowS
    show (⟨(lower (lower s.data.toList).toArray.toList).toArray⟩ : ByteArray) = _
    rw [List.toList_toArray, lower_idem]
  rw [e]
theorem lowS_size (s : ByteArray) : (lowS s).size = s.size := by
  unfold lowS
  show (lower s.data.toList).toArray.size = _
  simp [lower]

theorem five_F {α : Type} {d : Kd α} {W : World} {ok : Nat → Prop} {A : Option Addr} {n : Nat} {xs : List α} (h : Kd.F d W ok A n xs) {g : Nat} (hg : ∀ k, ok k → k ≠ g) (a' b' c' d' e' : Value) :
    Kd.F d (((((W.setCell ⟨g, 0, none⟩ a').setCell ⟨g, 1, none⟩ b').setCell ⟨g, 2, none⟩ c').setCell ⟨g, 3, none⟩ d').setCell ⟨g, 4, none⟩ e') ok A n xs :=
  Kd.F_far (p := ⟨g, 4, none⟩) (Kd.F_far (p := ⟨g, 3, none⟩) (Kd.F_far (p := ⟨g, 2, none⟩) (Kd.F_far (p := ⟨g, 1, none⟩) (Kd.F_far (p := ⟨g, 0, none⟩) h hg a') hg b') hg c') hg d') hg e'
theorem five_B {B : Nat} {w W : World} (h : Below B w W) {g : Nat} (hg : B ≤ g) (a' b' c' d' e' : Value) :
    Below B w (((((W.setCell ⟨g, 0, none⟩ a').setCell ⟨g, 1, none⟩ b').setCell ⟨g, 2, none⟩ c').setCell ⟨g, 3, none⟩ d').setCell ⟨g, 4, none⟩ e') :=
  ((((h.setCell (p := ⟨g, 0, none⟩) hg a').setCell (p := ⟨g, 1, none⟩) hg b').setCell (p := ⟨g, 2, none⟩) hg c').setCell (p := ⟨g, 3, none⟩) hg d').setCell (p := ⟨g, 4, none⟩) hg e'
theorem zero74 (w : World) : (zeroValue 74).run Try.prog w = .ok (.agg #[.nilFunc]) w := by kernel_rfl
theorem held_inj {v u : Value} {ps : List MemPlace} (h : heldR v = some (.held u, ps)) : v = u := by
  unfold heldR at h
  injection h with h
  injection h with h _
  injection h with h
theorem name_of (t : ByteArray) (k : Nat) (hk : k < 56) (h : findI t = k) : (lowS t).data.toList = (cmdOf k).name.data.toList := by
  have h1 := find_is t k hk h
  rw [ByteArray.toList_eq, ByteArray.toList_eq] at h1
  exact (by simpa using h1 : (cmdOf k).name.data.toList = (lowS t).data.toList).symm

set_option maxHeartbeats 4000000 in
set_option maxRecDepth 100000 in
theorem of_one (r w : Bool) (k : Nat) (hk : k < 56) (hkd : kindAt k = some (.one r w)) (A : Option Addr) (n cp : Nat) (xs : List ByteArray) (ok : Nat → Prop) (W : World) (hF : Kd.F Kd.string W ok A n xs) (hs : (word xs 0).size ≤ 140737488351232) (hf : findI (word xs 0) = k) (hfit : fitsB (cmdOf k) n = true) (hn : 2 ≤ n)
    (hms : ((lowS (word xs 0)).toList == [109, 115, 101, 116]) = false) :
    Calls Try.prog 22 #[.slice A n cp] W fun e W' => ∃ v, e = .returned (.tuple #[v, .int .i64 0]) ∧ NeedV W' W.heap.size v k ([⟨word xs 1, r, w⟩]) false false ([]) ∧ Below W.heap.size W W' := by
  obtain ⟨ad, rfl⟩ := some_at hF (by omega)
  obtain ⟨ad0, hl0, e0, c0⟩ := text_at hF 0 (by omega)
  injection e0 with e0
  subst e0
  rw [word_get, show ad.add 0 = ad from by unfold Addr.add; simp] at c0
  have hadl := World.block_lt_of_cell? W _ c0
  have c0' : ∀ o : Obj, (W.alloc o).cell? ad = some (.string (word xs 0)) := fun o => pw_cell_below (below_alloc (Below.refl _ _) o) c0
  have HF := Aside0.mk (Kd.F_bound hF)
  have hxl := Kd.F_len hF
  obtain ⟨ks, hks⟩ : ∃ ks : List UseD, ks = ([⟨word xs 1, r, w⟩]) := ⟨_, rfl⟩
  obtain ⟨cs, hcs⟩ : ∃ cs : List ByteArray, cs = ([]) := ⟨_, rfl⟩
  rw [← hks, ← hcs]
  have AP : Aside0 (∀ (g : Nat) (W1 : World) (b d : Addr) (hb : W1.cell? b = some (.bool r)) (hd : W1.cell? d = some (.bool w)), W1.heap[g]? = some (needB k (.slice none 0 0) false false (.slice none 0 0)) → Kd.F Kd.string W1 (fun q => q < g) (some ad) n xs → Calls Try.prog 64 #[.pointer (some ⟨g, 0, none⟩), .slice (some ad) n cp, .pointer (some b), .pointer (some d)] W1 fun e W' => e = .returned (.tuple #[]) ∧ Aside0 (NeedAt W' g W1.heap.size k ks false false cs) ∧ Aside0 (Below g W1 W')) := ⟨fun g W1 b d hb hd h1 h2 => by
    rw [hks, hcs]
    exact one_calls g k (some ad) n cp xs W1 r w b d hb hd h1 h2 hn⟩
  clear hks hcs hxl
  obtain ⟨nm, hnm⟩ : ∃ nm, nm = lowS (word xs 0) := ⟨_, rfl⟩
  have hlow : Aside0 (∀ w : World, Calls Try.prog 15 #[.string (word xs 0)] w fun e w' => e = .returned (.string nm) ∧ Below w.heap.size w w') := ⟨fun w => by
    have h := lower_calls (word xs 0) w hs
    rw [hnm]
    exact h⟩
  have FB : Aside0 (∀ w : World, Calls Try.prog 14 #[.string nm] w fun e w' => e = .returned (.tuple #[.int .i64 k, .bool true]) ∧ Below w.heap.size w w') := ⟨fun w => by
    rw [hnm]
    have h := find_calls (lowS (word xs 0)) w (by rw [lowS_size]; exact hs)
    rw [findI_low, hf, decide_eq_true (by omega)] at h
    exact h⟩
  have FT : Aside0 (∀ w : World, Calls Try.prog 16 #[.int .i64 k, .int .i64 n] w fun e w' => e = .returned (.bool true) ∧ Below w.heap.size w w') := ⟨fun w => by
    have h := fits_in k n w hk
    rw [hfit] at h
    exact h⟩
  have i0 : (n : Int) ≠ 0 := by omega
  have i1 : ((n : Int) == 0) = false := by simp; omega
  have i2 : (0 : Int) < (n : Int) := by omega
  have HKN := Aside0.mk (show KALL.lookup nm.data.toList = some (.one r w) from by rw [hnm, name_of _ k hk hf]; exact hkd)
  have hnz : nm.size ≤ maxLen := by rw [hnm, lowS_size]; exact Nat.le_trans hs (by decide)
  have hst := fun (w : World) (a : Addr) (f : Fn) (x y : Array Value) => run_store Try.prog w a (.func f x y) .plain rfl
  rw [← hnm] at hms
  clear hF hs hf hfit hnm
  go_enter Try.func22, Try.ntmps22
  go_wp2_with (first
    | (go_at_call 15; go_must (refine (hlow.out _).mono ?_); rintro e w1 ⟨rfl, hb1⟩; have HB := Aside0.mk (step2 (below_alloc (Below.refl _ _) _) hb1); have X2 := Aside0.mk (blk_below (blk_new W (needB 0 (.slice none 0 0) false false (.slice none 0 0))) hb1); clear hb1)
    | (go_at_call 14; go_must (refine (FB.out _).mono ?_); rintro e w2 ⟨rfl, hb2⟩; have HB := Aside0.mk (step2 HB.out hb2); have X2 := Aside0.mk (blk_below X2.out hb2); clear hb2)
    | (go_at_call 16; go_must (refine (FT.out _).mono ?_); rintro e w3 ⟨rfl, hb3⟩; have hltg : W.heap.size < w3.heap.size := Nat.lt_of_lt_of_le (blk_lt X2.out) hb3.size; have HB := Aside0.mk (step2 HB.out hb3); have X2 := Aside0.mk (blk_below X2.out hb3); clear hb3)
    | (go_at_call 41; go_must (refine (needs_calls _).mono ?_); rintro e w4 ⟨Bm, rfl, HM, hBm, hb4⟩; have XG := Aside0.mk (blk_below (blk_new w3 (needB k (.slice none 0 0) false false (.slice none 0 0))) hb4); have HB := Aside0.mk (step2 (below_alloc HB.out _) hb4); have X2 := Aside0.mk (blk_below (blk_alloc X2.out (needB k (.slice none 0 0) false false (.slice none 0 0))) hb4); obtain ⟨D, ho, hD⟩ := HM.out.out; have HO := Aside0.mk ho; have hDn := hD nm.data.toList; rw [HKN.out] at hDn; obtain ⟨hhas, v, hat, b, d, ⟨l1, l2⟩, rfl, hb, hd⟩ := hDn; have HAT := Aside0.mk hat; have HHAS := Aside0.mk hhas; have HCB := Aside0.mk hb; have HCD := Aside0.mk hd; clear hb hd; clear hb4 ho hD hat hhas)
    | (at_lookup; go_must (refine wpList_lookup_own_ok _ rfl _ _ 76 rfl 9 74 (string_keyed Try.underlying9) Try.underlying76 heldR (zero74 _) (.held (.agg #[.nilFunc])) [] rfl Bm 46 D rfl HO.out _ _ rfl (WideMaps.keyOf_string_mk Try.underlying9 hnz) ?_); intro v' ps hv; rw [HAT.out] at hv; obtain rfl := held_inj hv; rw [HHAS.out]; clear hv)
    | (go_at_call 64; go_must (refine (AP.out w3.heap.size _ b d (pw_cell_below (below_alloc (Below.refl _ _) _) HCB.out) (pw_cell_below (below_alloc (Below.refl _ _) _) HCD.out) (blk_alloc XG.out _) ?hF).mono ?_); (case hF => exact Kd.F_mono (Kd.F_below HF.out (below_alloc HB.out _)) (fun q hq => Nat.lt_trans hq.2 hltg)); rintro e w5 ⟨rfl, HNA, HB5⟩; obtain ⟨va, ua, hga, hna, hnc⟩ := HNA.out.out; obtain ⟨A1, k1, rfl⟩ := Kd.N_slice hna; obtain ⟨A2, k2, rfl⟩ := Kd.N_slice hnc; have X5 := Aside0.mk ((HB5.out.block W.heap.size hltg).trans (blk_alloc X2.out _)); obtain ⟨y0, y1, y2, y3, y4, yf⟩ := cells5' hga; obtain ⟨x0, x1, x2, x3, x4, xf⟩ := cells5' X5.out; have HNA1 := Aside0.mk hna; have HNC1 := Aside0.mk hnc; clear hga hna hnc HNA))
  have hw4 := blk_lt X2.out
  refine bodyPost_ret (v := .tuple #[.agg #[.int .i64 k, .slice A1 ks.length k1, .bool false, .bool false, .slice A2 cs.length k2], .int .i64 0]) (by simp [results, Try.results22, go_sem, x0, x1, x2, x3, x4, y0, y1, y2, y3, y4]) rfl ⟨_, rfl, ⟨A1, k1, A2, k2, rfl, ?_, ?_, ?_, ?_⟩, ?_⟩
  · exact Kd.F_mono (five_F (Kd.N_F HNA1.out) (g := W.heap.size) (fun q hq => by simp at hq; omega) _ _ _ _ _) (fun q hq => by simp at hq; omega)
  · exact (Kd.N_reads' HNA1.out).2.1
  · exact Kd.F_mono (five_F (Kd.N_F HNC1.out) (g := W.heap.size) (fun q hq => by simp at hq; omega) _ _ _ _ _) (fun q hq => by simp at hq; omega)
  · exact (Kd.N_reads' HNC1.out).2.1
  · exact five_B ((below_alloc HB.out _).trans (HB5.out.mono (Nat.le_of_lt hltg))) (Nat.le_refl _) _ _ _ _ _

set_option maxHeartbeats 4000000 in
set_option maxRecDepth 100000 in
theorem of_each (r w : Bool) (k : Nat) (hk : k < 56) (hkd : kindAt k = some (.each 1 r w)) (A : Option Addr) (n cp : Nat) (xs : List ByteArray) (ok : Nat → Prop) (W : World) (hF : Kd.F Kd.string W ok A n xs) (hs : (word xs 0).size ≤ 140737488351232) (hf : findI (word xs 0) = k) (hfit : fitsB (cmdOf k) n = true) (hn : 1 ≤ n) (hn6 : n ≤ 1000000)
    (hms : ((lowS (word xs 0)).toList == [109, 115, 101, 116]) = false) :
    Calls Try.prog 22 #[.slice A n cp] W fun e W' => ∃ v, e = .returned (.tuple #[v, .int .i64 0]) ∧ NeedV W' W.heap.size v k (eachUpto 1 r w xs ((n + 1 - 2) / 1)) false false ([]) ∧ Below W.heap.size W W' := by
  obtain ⟨ad, rfl⟩ := some_at hF (by omega)
  obtain ⟨ad0, hl0, e0, c0⟩ := text_at hF 0 (by omega)
  injection e0 with e0
  subst e0
  rw [word_get, show ad.add 0 = ad from by unfold Addr.add; simp] at c0
  have hadl := World.block_lt_of_cell? W _ c0
  have c0' : ∀ o : Obj, (W.alloc o).cell? ad = some (.string (word xs 0)) := fun o => pw_cell_below (below_alloc (Below.refl _ _) o) c0
  have HF := Aside0.mk (Kd.F_bound hF)
  have hxl := Kd.F_len hF
  obtain ⟨ks, hks⟩ : ∃ ks : List UseD, ks = (eachUpto 1 r w xs ((n + 1 - 2) / 1)) := ⟨_, rfl⟩
  obtain ⟨cs, hcs⟩ : ∃ cs : List ByteArray, cs = ([]) := ⟨_, rfl⟩
  rw [← hks, ← hcs]
  have AP : Aside0 (∀ (g : Nat) (W1 : World) (a b d : Addr) (ha : W1.cell? a = some (.int .i64 ((1 : Nat) : Int))) (hb : W1.cell? b = some (.bool r)) (hd : W1.cell? d = some (.bool w)) (ga : a.block ≠ g) (gb : b.block ≠ g) (gd : d.block ≠ g), W1.heap[g]? = some (needB k (.slice none 0 0) false false (.slice none 0 0)) → Kd.F Kd.string W1 (fun q => q < g) (some ad) n xs → Calls Try.prog 63 #[.pointer (some ⟨g, 0, none⟩), .slice (some ad) n cp, .pointer (some a), .pointer (some b), .pointer (some d)] W1 fun e W' => e = .returned (.tuple #[]) ∧ Aside0 (NeedAt W' g W1.heap.size k ks false false cs) ∧ Aside0 (Below g W1 W')) := ⟨fun g W1 a b d ha hb hd ga gb gd h1 h2 => by
    rw [hks, hcs]
    exact each_walk g k (some ad) n cp xs W1 1 (by omega) r w a b d ha hb hd ga gb gd h1 h2 hn hn6⟩
  clear hks hcs hxl
  obtain ⟨nm, hnm⟩ : ∃ nm, nm = lowS (word xs 0) := ⟨_, rfl⟩
  have hlow : Aside0 (∀ w : World, Calls Try.prog 15 #[.string (word xs 0)] w fun e w' => e = .returned (.string nm) ∧ Below w.heap.size w w') := ⟨fun w => by
    have h := lower_calls (word xs 0) w hs
    rw [hnm]
    exact h⟩
  have FB : Aside0 (∀ w : World, Calls Try.prog 14 #[.string nm] w fun e w' => e = .returned (.tuple #[.int .i64 k, .bool true]) ∧ Below w.heap.size w w') := ⟨fun w => by
    rw [hnm]
    have h := find_calls (lowS (word xs 0)) w (by rw [lowS_size]; exact hs)
    rw [findI_low, hf, decide_eq_true (by omega)] at h
    exact h⟩
  have FT : Aside0 (∀ w : World, Calls Try.prog 16 #[.int .i64 k, .int .i64 n] w fun e w' => e = .returned (.bool true) ∧ Below w.heap.size w w') := ⟨fun w => by
    have h := fits_in k n w hk
    rw [hfit] at h
    exact h⟩
  have i0 : (n : Int) ≠ 0 := by omega
  have i1 : ((n : Int) == 0) = false := by simp; omega
  have i2 : (0 : Int) < (n : Int) := by omega
  have HKN := Aside0.mk (show KALL.lookup nm.data.toList = some (.each 1 r w) from by rw [hnm, name_of _ k hk hf]; exact hkd)
  have hnz : nm.size ≤ maxLen := by rw [hnm, lowS_size]; exact Nat.le_trans hs (by decide)
  have hst := fun (w : World) (a : Addr) (f : Fn) (x y : Array Value) => run_store Try.prog w a (.func f x y) .plain rfl
  rw [← hnm] at hms
  clear hF hs hf hfit hnm
  go_enter Try.func22, Try.ntmps22
  go_wp2_with (first
    | (go_at_call 15; go_must (refine (hlow.out _).mono ?_); rintro e w1 ⟨rfl, hb1⟩; have HB := Aside0.mk (step2 (below_alloc (Below.refl _ _) _) hb1); have X2 := Aside0.mk (blk_below (blk_new W (needB 0 (.slice none 0 0) false false (.slice none 0 0))) hb1); clear hb1)
    | (go_at_call 14; go_must (refine (FB.out _).mono ?_); rintro e w2 ⟨rfl, hb2⟩; have HB := Aside0.mk (step2 HB.out hb2); have X2 := Aside0.mk (blk_below X2.out hb2); clear hb2)
    | (go_at_call 16; go_must (refine (FT.out _).mono ?_); rintro e w3 ⟨rfl, hb3⟩; have hltg : W.heap.size < w3.heap.size := Nat.lt_of_lt_of_le (blk_lt X2.out) hb3.size; have HB := Aside0.mk (step2 HB.out hb3); have X2 := Aside0.mk (blk_below X2.out hb3); clear hb3)
    | (go_at_call 41; go_must (refine (needs_calls _).mono ?_); rintro e w4 ⟨Bm, rfl, HM, hBm, hb4⟩; have XG := Aside0.mk (blk_below (blk_new w3 (needB k (.slice none 0 0) false false (.slice none 0 0))) hb4); have HB := Aside0.mk (step2 (below_alloc HB.out _) hb4); have X2 := Aside0.mk (blk_below (blk_alloc X2.out (needB k (.slice none 0 0) false false (.slice none 0 0))) hb4); obtain ⟨D, ho, hD⟩ := HM.out.out; have HO := Aside0.mk ho; have hDn := hD nm.data.toList; rw [HKN.out] at hDn; obtain ⟨hhas, v, hat, a, b, d, ⟨l1, l2, l3⟩, rfl, ha, hb, hd⟩ := hDn; have HAT := Aside0.mk hat; have HHAS := Aside0.mk hhas; have HCA := Aside0.mk ha; have HCB := Aside0.mk hb; have HCD := Aside0.mk hd; have gw : w3.heap.size < (w3.alloc (needB k (.slice none 0 0) false false (.slice none 0 0))).heap.size := blk_lt (blk_new w3 _); have n1 : w3.heap.size < a.block := Nat.lt_of_lt_of_le gw l1; have n2 : w3.heap.size < b.block := Nat.lt_of_lt_of_le gw l2; have n3 : w3.heap.size < d.block := Nat.lt_of_lt_of_le gw l3; clear ha hb hd; clear hb4 ho hD hat hhas)
    | (at_lookup; go_must (refine wpList_lookup_own_ok _ rfl _ _ 76 rfl 9 74 (string_keyed Try.underlying9) Try.underlying76 heldR (zero74 _) (.held (.agg #[.nilFunc])) [] rfl Bm 46 D rfl HO.out _ _ rfl (WideMaps.keyOf_string_mk Try.underlying9 hnz) ?_); intro v' ps hv; rw [HAT.out] at hv; obtain rfl := held_inj hv; rw [HHAS.out]; clear hv)
    | (go_at_call 63; go_must (refine (AP.out w3.heap.size _ a b d (pw_cell_below (below_alloc (Below.refl _ _) _) HCA.out) (pw_cell_below (below_alloc (Below.refl _ _) _) HCB.out) (pw_cell_below (below_alloc (Below.refl _ _) _) HCD.out) (Nat.ne_of_gt n1) (Nat.ne_of_gt n2) (Nat.ne_of_gt n3) (blk_alloc XG.out _) ?hF).mono ?_); (case hF => exact Kd.F_mono (Kd.F_below HF.out (below_alloc HB.out _)) (fun q hq => Nat.lt_trans hq.2 hltg)); rintro e w5 ⟨rfl, HNA, HB5⟩; obtain ⟨va, ua, hga, hna, hnc⟩ := HNA.out.out; obtain ⟨A1, k1, rfl⟩ := Kd.N_slice hna; obtain ⟨A2, k2, rfl⟩ := Kd.N_slice hnc; have X5 := Aside0.mk ((HB5.out.block W.heap.size hltg).trans (blk_alloc X2.out _)); obtain ⟨y0, y1, y2, y3, y4, yf⟩ := cells5' hga; obtain ⟨x0, x1, x2, x3, x4, xf⟩ := cells5' X5.out; have HNA1 := Aside0.mk hna; have HNC1 := Aside0.mk hnc; clear hga hna hnc HNA))
  have hw4 := blk_lt X2.out
  refine bodyPost_ret (v := .tuple #[.agg #[.int .i64 k, .slice A1 ks.length k1, .bool false, .bool false, .slice A2 cs.length k2], .int .i64 0]) (by simp [results, Try.results22, go_sem, x0, x1, x2, x3, x4, y0, y1, y2, y3, y4]) rfl ⟨_, rfl, ⟨A1, k1, A2, k2, rfl, ?_, ?_, ?_, ?_⟩, ?_⟩
  · exact Kd.F_mono (five_F (Kd.N_F HNA1.out) (g := W.heap.size) (fun q hq => by simp at hq; omega) _ _ _ _ _) (fun q hq => by simp at hq; omega)
  · exact (Kd.N_reads' HNA1.out).2.1
  · exact Kd.F_mono (five_F (Kd.N_F HNC1.out) (g := W.heap.size) (fun q hq => by simp at hq; omega) _ _ _ _ _) (fun q hq => by simp at hq; omega)
  · exact (Kd.N_reads' HNC1.out).2.1
  · exact five_B ((below_alloc HB.out _).trans (HB5.out.mono (Nat.le_of_lt hltg))) (Nat.le_refl _) _ _ _ _ _

set_option maxHeartbeats 4000000 in
set_option maxRecDepth 100000 in
theorem of_mset (r w : Bool) (k : Nat) (hk : k < 56) (hkd : kindAt k = some (.each 2 r w)) (A : Option Addr) (n cp : Nat) (xs : List ByteArray) (ok : Nat → Prop) (W : World) (hF : Kd.F Kd.string W ok A n xs) (hs : (word xs 0).size ≤ 140737488351232) (hf : findI (word xs 0) = k) (hfit : fitsB (cmdOf k) n = true) (hn : 1 ≤ n) (hn6 : n ≤ 1000000)
    (hms : ((lowS (word xs 0)).toList == [109, 115, 101, 116]) = true) (hodd : n % 2 = 1) :
    Calls Try.prog 22 #[.slice A n cp] W fun e W' => ∃ v, e = .returned (.tuple #[v, .int .i64 0]) ∧ NeedV W' W.heap.size v k (eachUpto 2 r w xs ((n + 2 - 2) / 2)) false false ([]) ∧ Below W.heap.size W W' := by
  obtain ⟨ad, rfl⟩ := some_at hF (by omega)
  obtain ⟨ad0, hl0, e0, c0⟩ := text_at hF 0 (by omega)
  injection e0 with e0
  subst e0
  rw [word_get, show ad.add 0 = ad from by unfold Addr.add; simp] at c0
  have hadl := World.block_lt_of_cell? W _ c0
  have c0' : ∀ o : Obj, (W.alloc o).cell? ad = some (.string (word xs 0)) := fun o => pw_cell_below (below_alloc (Below.refl _ _) o) c0
  have HF := Aside0.mk (Kd.F_bound hF)
  have hxl := Kd.F_len hF
  obtain ⟨ks, hks⟩ : ∃ ks : List UseD, ks = (eachUpto 2 r w xs ((n + 2 - 2) / 2)) := ⟨_, rfl⟩
  obtain ⟨cs, hcs⟩ : ∃ cs : List ByteArray, cs = ([]) := ⟨_, rfl⟩
  rw [← hks, ← hcs]
  have AP : Aside0 (∀ (g : Nat) (W1 : World) (a b d : Addr) (ha : W1.cell? a = some (.int .i64 ((2 : Nat) : Int))) (hb : W1.cell? b = some (.bool r)) (hd : W1.cell? d = some (.bool w)) (ga : a.block ≠ g) (gb : b.block ≠ g) (gd : d.block ≠ g), W1.heap[g]? = some (needB k (.slice none 0 0) false false (.slice none 0 0)) → Kd.F Kd.string W1 (fun q => q < g) (some ad) n xs → Calls Try.prog 63 #[.pointer (some ⟨g, 0, none⟩), .slice (some ad) n cp, .pointer (some a), .pointer (some b), .pointer (some d)] W1 fun e W' => e = .returned (.tuple #[]) ∧ Aside0 (NeedAt W' g W1.heap.size k ks false false cs) ∧ Aside0 (Below g W1 W')) := ⟨fun g W1 a b d ha hb hd ga gb gd h1 h2 => by
    rw [hks, hcs]
    exact each_walk g k (some ad) n cp xs W1 2 (by omega) r w a b d ha hb hd ga gb gd h1 h2 hn hn6⟩
  clear hks hcs hxl
  obtain ⟨nm, hnm⟩ : ∃ nm, nm = lowS (word xs 0) := ⟨_, rfl⟩
  have hlow : Aside0 (∀ w : World, Calls Try.prog 15 #[.string (word xs 0)] w fun e w' => e = .returned (.string nm) ∧ Below w.heap.size w w') := ⟨fun w => by
    have h := lower_calls (word xs 0) w hs
    rw [hnm]
    exact h⟩
  have FB : Aside0 (∀ w : World, Calls Try.prog 14 #[.string nm] w fun e w' => e = .returned (.tuple #[.int .i64 k, .bool true]) ∧ Below w.heap.size w w') := ⟨fun w => by
    rw [hnm]
    have h := find_calls (lowS (word xs 0)) w (by rw [lowS_size]; exact hs)
    rw [findI_low, hf, decide_eq_true (by omega)] at h
    exact h⟩
  have FT : Aside0 (∀ w : World, Calls Try.prog 16 #[.int .i64 k, .int .i64 n] w fun e w' => e = .returned (.bool true) ∧ Below w.heap.size w w') := ⟨fun w => by
    have h := fits_in k n w hk
    rw [hfit] at h
    exact h⟩
  have i0 : (n : Int) ≠ 0 := by omega
  have i1 : ((n : Int) == 0) = false := by simp; omega
  have i2 : (0 : Int) < (n : Int) := by omega
  have HKN := Aside0.mk (show KALL.lookup nm.data.toList = some (.each 2 r w) from by rw [hnm, name_of _ k hk hf]; exact hkd)
  have hnz : nm.size ≤ maxLen := by rw [hnm, lowS_size]; exact Nat.le_trans hs (by decide)
  have hst := fun (w : World) (a : Addr) (f : Fn) (x y : Array Value) => run_store Try.prog w a (.func f x y) .plain rfl
  have i4 : ((n : Int) % 2 == 0) = false := by simp; omega
  rw [← hnm] at hms
  clear hF hs hf hfit hnm hodd
  go_enter Try.func22, Try.ntmps22
  go_wp2_with (first
    | (go_at_call 15; go_must (refine (hlow.out _).mono ?_); rintro e w1 ⟨rfl, hb1⟩; have HB := Aside0.mk (step2 (below_alloc (Below.refl _ _) _) hb1); have X2 := Aside0.mk (blk_below (blk_new W (needB 0 (.slice none 0 0) false false (.slice none 0 0))) hb1); clear hb1)
    | (go_at_call 14; go_must (refine (FB.out _).mono ?_); rintro e w2 ⟨rfl, hb2⟩; have HB := Aside0.mk (step2 HB.out hb2); have X2 := Aside0.mk (blk_below X2.out hb2); clear hb2)
    | (go_at_call 16; go_must (refine (FT.out _).mono ?_); rintro e w3 ⟨rfl, hb3⟩; have hltg : W.heap.size < w3.heap.size := Nat.lt_of_lt_of_le (blk_lt X2.out) hb3.size; have HB := Aside0.mk (step2 HB.out hb3); have X2 := Aside0.mk (blk_below X2.out hb3); clear hb3)
    | (go_at_call 41; go_must (refine (needs_calls _).mono ?_); rintro e w4 ⟨Bm, rfl, HM, hBm, hb4⟩; have XG := Aside0.mk (blk_below (blk_new w3 (needB k (.slice none 0 0) false false (.slice none 0 0))) hb4); have HB := Aside0.mk (step2 (below_alloc HB.out _) hb4); have X2 := Aside0.mk (blk_below (blk_alloc X2.out (needB k (.slice none 0 0) false false (.slice none 0 0))) hb4); obtain ⟨D, ho, hD⟩ := HM.out.out; have HO := Aside0.mk ho; have hDn := hD nm.data.toList; rw [HKN.out] at hDn; obtain ⟨hhas, v, hat, a, b, d, ⟨l1, l2, l3⟩, rfl, ha, hb, hd⟩ := hDn; have HAT := Aside0.mk hat; have HHAS := Aside0.mk hhas; have HCA := Aside0.mk ha; have HCB := Aside0.mk hb; have HCD := Aside0.mk hd; have gw : w3.heap.size < (w3.alloc (needB k (.slice none 0 0) false false (.slice none 0 0))).heap.size := blk_lt (blk_new w3 _); have n1 : w3.heap.size < a.block := Nat.lt_of_lt_of_le gw l1; have n2 : w3.heap.size < b.block := Nat.lt_of_lt_of_le gw l2; have n3 : w3.heap.size < d.block := Nat.lt_of_lt_of_le gw l3; clear ha hb hd; clear hb4 ho hD hat hhas)
    | (at_lookup; go_must (refine wpList_lookup_own_ok _ rfl _ _ 76 rfl 9 74 (string_keyed Try.underlying9) Try.underlying76 heldR (zero74 _) (.held (.agg #[.nilFunc])) [] rfl Bm 46 D rfl HO.out _ _ rfl (WideMaps.keyOf_string_mk Try.underlying9 hnz) ?_); intro v' ps hv; rw [HAT.out] at hv; obtain rfl := held_inj hv; rw [HHAS.out]; clear hv)
    | (go_at_call 63; go_must (refine (AP.out w3.heap.size _ a b d (pw_cell_below (below_alloc (Below.refl _ _) _) HCA.out) (pw_cell_below (below_alloc (Below.refl _ _) _) HCB.out) (pw_cell_below (below_alloc (Below.refl _ _) _) HCD.out) (Nat.ne_of_gt n1) (Nat.ne_of_gt n2) (Nat.ne_of_gt n3) (blk_alloc XG.out _) ?hF).mono ?_); (case hF => exact Kd.F_mono (Kd.F_below HF.out (below_alloc HB.out _)) (fun q hq => Nat.lt_trans hq.2 hltg)); rintro e w5 ⟨rfl, HNA, HB5⟩; obtain ⟨va, ua, hga, hna, hnc⟩ := HNA.out.out; obtain ⟨A1, k1, rfl⟩ := Kd.N_slice hna; obtain ⟨A2, k2, rfl⟩ := Kd.N_slice hnc; have X5 := Aside0.mk ((HB5.out.block W.heap.size hltg).trans (blk_alloc X2.out _)); obtain ⟨y0, y1, y2, y3, y4, yf⟩ := cells5' hga; obtain ⟨x0, x1, x2, x3, x4, xf⟩ := cells5' X5.out; have HNA1 := Aside0.mk hna; have HNC1 := Aside0.mk hnc; clear hga hna hnc HNA))
  have hw4 := blk_lt X2.out
  refine bodyPost_ret (v := .tuple #[.agg #[.int .i64 k, .slice A1 ks.length k1, .bool false, .bool false, .slice A2 cs.length k2], .int .i64 0]) (by simp [results, Try.results22, go_sem, x0, x1, x2, x3, x4, y0, y1, y2, y3, y4]) rfl ⟨_, rfl, ⟨A1, k1, A2, k2, rfl, ?_, ?_, ?_, ?_⟩, ?_⟩
  · exact Kd.F_mono (five_F (Kd.N_F HNA1.out) (g := W.heap.size) (fun q hq => by simp at hq; omega) _ _ _ _ _) (fun q hq => by simp at hq; omega)
  · exact (Kd.N_reads' HNA1.out).2.1
  · exact Kd.F_mono (five_F (Kd.N_F HNC1.out) (g := W.heap.size) (fun q hq => by simp at hq; omega) _ _ _ _ _) (fun q hq => by simp at hq; omega)
  · exact (Kd.N_reads' HNC1.out).2.1
  · exact five_B ((below_alloc HB.out _).trans (HB5.out.mono (Nat.le_of_lt hltg))) (Nat.le_refl _) _ _ _ _ _

set_option maxHeartbeats 4000000 in
set_option maxRecDepth 100000 in
theorem of_fn49 (k : Nat) (hk : k < 56) (hkd : kindAt k = some (.fn 49)) (A : Option Addr) (n cp : Nat) (xs : List ByteArray) (ok : Nat → Prop) (W : World) (hF : Kd.F Kd.string W ok A n xs) (hs : (word xs 0).size ≤ 140737488351232) (hf : findI (word xs 0) = k) (hfit : fitsB (cmdOf k) n = true) (hn : 2 ≤ n)
    (hms : ((lowS (word xs 0)).toList == [109, 115, 101, 116]) = false) :
    Calls Try.prog 22 #[.slice A n cp] W fun e W' => ∃ v, e = .returned (.tuple #[v, .int .i64 0]) ∧ NeedV W' W.heap.size v k ([⟨word xs 1, decide ((3 : Int) < n), true⟩]) false false ([]) ∧ Below W.heap.size W W' := by
  obtain ⟨ad, rfl⟩ := some_at hF (by omega)
  obtain ⟨ad0, hl0, e0, c0⟩ := text_at hF 0 (by omega)
  injection e0 with e0
  subst e0
  rw [word_get, show ad.add 0 = ad from by unfold Addr.add; simp] at c0
  have hadl := World.block_lt_of_cell? W _ c0
  have c0' : ∀ o : Obj, (W.alloc o).cell? ad = some (.string (word xs 0)) := fun o => pw_cell_below (below_alloc (Below.refl _ _) o) c0
  have HF := Aside0.mk (Kd.F_bound hF)
  have hxl := Kd.F_len hF
  obtain ⟨ks, hks⟩ : ∃ ks : List UseD, ks = ([⟨word xs 1, decide ((3 : Int) < n), true⟩]) := ⟨_, rfl⟩
  obtain ⟨cs, hcs⟩ : ∃ cs : List ByteArray, cs = ([]) := ⟨_, rfl⟩
  rw [← hks, ← hcs]
  have AP : Aside0 (∀ (g : Nat) (W1 : World) , W1.heap[g]? = some (needB k (.slice none 0 0) false false (.slice none 0 0)) → Kd.F Kd.string W1 (fun q => q < g) (some ad) n xs → Calls Try.prog 49 #[.pointer (some ⟨g, 0, none⟩), .slice (some ad) n cp] W1 fun e W' => e = .returned (.tuple #[]) ∧ Aside0 (NeedAt W' g W1.heap.size k ks false false cs) ∧ Aside0 (Below g W1 W')) := ⟨fun g W1  h1 h2 => by
    rw [hks, hcs]
    exact set_calls g k (some ad) n cp xs W1 h1 h2 hn⟩
  clear hks hcs hxl
  obtain ⟨nm, hnm⟩ : ∃ nm, nm = lowS (word xs 0) := ⟨_, rfl⟩
  have hlow : Aside0 (∀ w : World, Calls Try.prog 15 #[.string (word xs 0)] w fun e w' => e = .returned (.string nm) ∧ Below w.heap.size w w') := ⟨fun w => by
    have h := lower_calls (word xs 0) w hs
    rw [hnm]
    exact h⟩
  have FB : Aside0 (∀ w : World, Calls Try.prog 14 #[.string nm] w fun e w' => e = .returned (.tuple #[.int .i64 k, .bool true]) ∧ Below w.heap.size w w') := ⟨fun w => by
    rw [hnm]
    have h := find_calls (lowS (word xs 0)) w (by rw [lowS_size]; exact hs)
    rw [findI_low, hf, decide_eq_true (by omega)] at h
    exact h⟩
  have FT : Aside0 (∀ w : World, Calls Try.prog 16 #[.int .i64 k, .int .i64 n] w fun e w' => e = .returned (.bool true) ∧ Below w.heap.size w w') := ⟨fun w => by
    have h := fits_in k n w hk
    rw [hfit] at h
    exact h⟩
  have i0 : (n : Int) ≠ 0 := by omega
  have i1 : ((n : Int) == 0) = false := by simp; omega
  have i2 : (0 : Int) < (n : Int) := by omega
  have HKN := Aside0.mk (show KALL.lookup nm.data.toList = some (.fn 49) from by rw [hnm, name_of _ k hk hf]; exact hkd)
  have hnz : nm.size ≤ maxLen := by rw [hnm, lowS_size]; exact Nat.le_trans hs (by decide)
  have hst := fun (w : World) (a : Addr) (f : Fn) (x y : Array Value) => run_store Try.prog w a (.func f x y) .plain rfl
  rw [← hnm] at hms
  clear hF hs hf hfit hnm
  go_enter Try.func22, Try.ntmps22
  go_wp2_with (first
    | (go_at_call 15; go_must (refine (hlow.out _).mono ?_); rintro e w1 ⟨rfl, hb1⟩; have HB := Aside0.mk (step2 (below_alloc (Below.refl _ _) _) hb1); have X2 := Aside0.mk (blk_below (blk_new W (needB 0 (.slice none 0 0) false false (.slice none 0 0))) hb1); clear hb1)
    | (go_at_call 14; go_must (refine (FB.out _).mono ?_); rintro e w2 ⟨rfl, hb2⟩; have HB := Aside0.mk (step2 HB.out hb2); have X2 := Aside0.mk (blk_below X2.out hb2); clear hb2)
    | (go_at_call 16; go_must (refine (FT.out _).mono ?_); rintro e w3 ⟨rfl, hb3⟩; have hltg : W.heap.size < w3.heap.size := Nat.lt_of_lt_of_le (blk_lt X2.out) hb3.size; have HB := Aside0.mk (step2 HB.out hb3); have X2 := Aside0.mk (blk_below X2.out hb3); clear hb3)
    | (go_at_call 41; go_must (refine (needs_calls _).mono ?_); rintro e w4 ⟨Bm, rfl, HM, hBm, hb4⟩; have XG := Aside0.mk (blk_below (blk_new w3 (needB k (.slice none 0 0) false false (.slice none 0 0))) hb4); have HB := Aside0.mk (step2 (below_alloc HB.out _) hb4); have X2 := Aside0.mk (blk_below (blk_alloc X2.out (needB k (.slice none 0 0) false false (.slice none 0 0))) hb4); obtain ⟨D, ho, hD⟩ := HM.out.out; have HO := Aside0.mk ho; have hDn := hD nm.data.toList; rw [HKN.out] at hDn; obtain ⟨hhas, v, hat, rfl⟩ := hDn; have HAT := Aside0.mk hat; have HHAS := Aside0.mk hhas; skip; clear hb4 ho hD hat hhas)
    | (at_lookup; go_must (refine wpList_lookup_own_ok _ rfl _ _ 76 rfl 9 74 (string_keyed Try.underlying9) Try.underlying76 heldR (zero74 _) (.held (.agg #[.nilFunc])) [] rfl Bm 46 D rfl HO.out _ _ rfl (WideMaps.keyOf_string_mk Try.underlying9 hnz) ?_); intro v' ps hv; rw [HAT.out] at hv; obtain rfl := held_inj hv; rw [HHAS.out]; clear hv)
    | (go_at_call 49; go_must (refine (AP.out w3.heap.size _  (blk_alloc XG.out _) ?hF).mono ?_); (case hF => exact Kd.F_mono (Kd.F_below HF.out (below_alloc HB.out _)) (fun q hq => Nat.lt_trans hq.2 hltg)); rintro e w5 ⟨rfl, HNA, HB5⟩; obtain ⟨va, ua, hga, hna, hnc⟩ := HNA.out.out; obtain ⟨A1, k1, rfl⟩ := Kd.N_slice hna; obtain ⟨A2, k2, rfl⟩ := Kd.N_slice hnc; have X5 := Aside0.mk ((HB5.out.block W.heap.size hltg).trans (blk_alloc X2.out _)); obtain ⟨y0, y1, y2, y3, y4, yf⟩ := cells5' hga; obtain ⟨x0, x1, x2, x3, x4, xf⟩ := cells5' X5.out; have HNA1 := Aside0.mk hna; have HNC1 := Aside0.mk hnc; clear hga hna hnc HNA))
  have hw4 := blk_lt X2.out
  refine bodyPost_ret (v := .tuple #[.agg #[.int .i64 k, .slice A1 ks.length k1, .bool false, .bool false, .slice A2 cs.length k2], .int .i64 0]) (by simp [results, Try.results22, go_sem, x0, x1, x2, x3, x4, y0, y1, y2, y3, y4]) rfl ⟨_, rfl, ⟨A1, k1, A2, k2, rfl, ?_, ?_, ?_, ?_⟩, ?_⟩
  · exact Kd.F_mono (five_F (Kd.N_F HNA1.out) (g := W.heap.size) (fun q hq => by simp at hq; omega) _ _ _ _ _) (fun q hq => by simp at hq; omega)
  · exact (Kd.N_reads' HNA1.out).2.1
  · exact Kd.F_mono (five_F (Kd.N_F HNC1.out) (g := W.heap.size) (fun q hq => by simp at hq; omega) _ _ _ _ _) (fun q hq => by simp at hq; omega)
  · exact (Kd.N_reads' HNC1.out).2.1
  · exact five_B ((below_alloc HB.out _).trans (HB5.out.mono (Nat.le_of_lt hltg))) (Nat.le_refl _) _ _ _ _ _

set_option maxHeartbeats 4000000 in
set_option maxRecDepth 100000 in
theorem of_fn52 (k : Nat) (hk : k < 56) (hkd : kindAt k = some (.fn 52)) (A : Option Addr) (n cp : Nat) (xs : List ByteArray) (ok : Nat → Prop) (W : World) (hF : Kd.F Kd.string W ok A n xs) (hs : (word xs 0).size ≤ 140737488351232) (hf : findI (word xs 0) = k) (hfit : fitsB (cmdOf k) n = true) (hn : 3 ≤ n)
    (hms : ((lowS (word xs 0)).toList == [109, 115, 101, 116]) = false) :
    Calls Try.prog 22 #[.slice A n cp] W fun e W' => ∃ v, e = .returned (.tuple #[v, .int .i64 0]) ∧ NeedV W' W.heap.size v k ([⟨word xs 1, true, true⟩, ⟨word xs 2, false, true⟩]) false false ([]) ∧ Below W.heap.size W W' := by
  obtain ⟨ad, rfl⟩ := some_at hF (by omega)
  obtain ⟨ad0, hl0, e0, c0⟩ := text_at hF 0 (by omega)
  injection e0 with e0
  subst e0
  rw [word_get, show ad.add 0 = ad from by unfold Addr.add; simp] at c0
  have hadl := World.block_lt_of_cell? W _ c0
  have c0' : ∀ o : Obj, (W.alloc o).cell? ad = some (.string (word xs 0)) := fun o => pw_cell_below (below_alloc (Below.refl _ _) o) c0
  have HF := Aside0.mk (Kd.F_bound hF)
  have hxl := Kd.F_len hF
  obtain ⟨ks, hks⟩ : ∃ ks : List UseD, ks = ([⟨word xs 1, true, true⟩, ⟨word xs 2, false, true⟩]) := ⟨_, rfl⟩
  obtain ⟨cs, hcs⟩ : ∃ cs : List ByteArray, cs = ([]) := ⟨_, rfl⟩
  rw [← hks, ← hcs]
  have AP : Aside0 (∀ (g : Nat) (W1 : World) , W1.heap[g]? = some (needB k (.slice none 0 0) false false (.slice none 0 0)) → Kd.F Kd.string W1 (fun q => q < g) (some ad) n xs → Calls Try.prog 52 #[.pointer (some ⟨g, 0, none⟩), .slice (some ad) n cp] W1 fun e W' => e = .returned (.tuple #[]) ∧ Aside0 (NeedAt W' g W1.heap.size k ks false false cs) ∧ Aside0 (Below g W1 W')) := ⟨fun g W1  h1 h2 => by
    rw [hks, hcs]
    exact two_calls g k (some ad) n cp xs W1 52 false (.inl ⟨rfl, rfl⟩) h1 h2 hn⟩
  clear hks hcs hxl
  obtain ⟨nm, hnm⟩ : ∃ nm, nm = lowS (word xs 0) := ⟨_, rfl⟩
  have hlow : Aside0 (∀ w : World, Calls Try.prog 15 #[.string (word xs 0)] w fun e w' => e = .returned (.string nm) ∧ Below w.heap.size w w') := ⟨fun w => by
    have h := lower_calls (word xs 0) w hs
    rw [hnm]
    exact h⟩
  have FB : Aside0 (∀ w : World, Calls Try.prog 14 #[.string nm] w fun e w' => e = .returned (.tuple #[.int .i64 k, .bool true]) ∧ Below w.heap.size w w') := ⟨fun w => by
    rw [hnm]
    have h := find_calls (lowS (word xs 0)) w (by rw [lowS_size]; exact hs)
    rw [findI_low, hf, decide_eq_true (by omega)] at h
    exact h⟩
  have FT : Aside0 (∀ w : World, Calls Try.prog 16 #[.int .i64 k, .int .i64 n] w fun e w' => e = .returned (.bool true) ∧ Below w.heap.size w w') := ⟨fun w => by
    have h := fits_in k n w hk
    rw [hfit] at h
    exact h⟩
  have i0 : (n : Int) ≠ 0 := by omega
  have i1 : ((n : Int) == 0) = false := by simp; omega
  have i2 : (0 : Int) < (n : Int) := by omega
  have HKN := Aside0.mk (show KALL.lookup nm.data.toList = some (.fn 52) from by rw [hnm, name_of _ k hk hf]; exact hkd)
  have hnz : nm.size ≤ maxLen := by rw [hnm, lowS_size]; exact Nat.le_trans hs (by decide)
  have hst := fun (w : World) (a : Addr) (f : Fn) (x y : Array Value) => run_store Try.prog w a (.func f x y) .plain rfl
  rw [← hnm] at hms
  clear hF hs hf hfit hnm
  go_enter Try.func22, Try.ntmps22
  go_wp2_with (first
    | (go_at_call 15; go_must (refine (hlow.out _).mono ?_); rintro e w1 ⟨rfl, hb1⟩; have HB := Aside0.mk (step2 (below_alloc (Below.refl _ _) _) hb1); have X2 := Aside0.mk (blk_below (blk_new W (needB 0 (.slice none 0 0) false false (.slice none 0 0))) hb1); clear hb1)
    | (go_at_call 14; go_must (refine (FB.out _).mono ?_); rintro e w2 ⟨rfl, hb2⟩; have HB := Aside0.mk (step2 HB.out hb2); have X2 := Aside0.mk (blk_below X2.out hb2); clear hb2)
    | (go_at_call 16; go_must (refine (FT.out _).mono ?_); rintro e w3 ⟨rfl, hb3⟩; have hltg : W.heap.size < w3.heap.size := Nat.lt_of_lt_of_le (blk_lt X2.out) hb3.size; have HB := Aside0.mk (step2 HB.out hb3); have X2 := Aside0.mk (blk_below X2.out hb3); clear hb3)
    | (go_at_call 41; go_must (refine (needs_calls _).mono ?_); rintro e w4 ⟨Bm, rfl, HM, hBm, hb4⟩; have XG := Aside0.mk (blk_below (blk_new w3 (needB k (.slice none 0 0) false false (.slice none 0 0))) hb4); have HB := Aside0.mk (step2 (below_alloc HB.out _) hb4); have X2 := Aside0.mk (blk_below (blk_alloc X2.out (needB k (.slice none 0 0) false false (.slice none 0 0))) hb4); obtain ⟨D, ho, hD⟩ := HM.out.out; have HO := Aside0.mk ho; have hDn := hD nm.data.toList; rw [HKN.out] at hDn; obtain ⟨hhas, v, hat, rfl⟩ := hDn; have HAT := Aside0.mk hat; have HHAS := Aside0.mk hhas; skip; clear hb4 ho hD hat hhas)
    | (at_lookup; go_must (refine wpList_lookup_own_ok _ rfl _ _ 76 rfl 9 74 (string_keyed Try.underlying9) Try.underlying76 heldR (zero74 _) (.held (.agg #[.nilFunc])) [] rfl Bm 46 D rfl HO.out _ _ rfl (WideMaps.keyOf_string_mk Try.underlying9 hnz) ?_); intro v' ps hv; rw [HAT.out] at hv; obtain rfl := held_inj hv; rw [HHAS.out]; clear hv)
    | (go_at_call 52; go_must (refine (AP.out w3.heap.size _  (blk_alloc XG.out _) ?hF).mono ?_); (case hF => exact Kd.F_mono (Kd.F_below HF.out (below_alloc HB.out _)) (fun q hq => Nat.lt_trans hq.2 hltg)); rintro e w5 ⟨rfl, HNA, HB5⟩; obtain ⟨va, ua, hga, hna, hnc⟩ := HNA.out.out; obtain ⟨A1, k1, rfl⟩ := Kd.N_slice hna; obtain ⟨A2, k2, rfl⟩ := Kd.N_slice hnc; have X5 := Aside0.mk ((HB5.out.block W.heap.size hltg).trans (blk_alloc X2.out _)); obtain ⟨y0, y1, y2, y3, y4, yf⟩ := cells5' hga; obtain ⟨x0, x1, x2, x3, x4, xf⟩ := cells5' X5.out; have HNA1 := Aside0.mk hna; have HNC1 := Aside0.mk hnc; clear hga hna hnc HNA))
  have hw4 := blk_lt X2.out
  refine bodyPost_ret (v := .tuple #[.agg #[.int .i64 k, .slice A1 ks.length k1, .bool false, .bool false, .slice A2 cs.length k2], .int .i64 0]) (by simp [results, Try.results22, go_sem, x0, x1, x2, x3, x4, y0, y1, y2, y3, y4]) rfl ⟨_, rfl, ⟨A1, k1, A2, k2, rfl, ?_, ?_, ?_, ?_⟩, ?_⟩
  · exact Kd.F_mono (five_F (Kd.N_F HNA1.out) (g := W.heap.size) (fun q hq => by simp at hq; omega) _ _ _ _ _) (fun q hq => by simp at hq; omega)
  · exact (Kd.N_reads' HNA1.out).2.1
  · exact Kd.F_mono (five_F (Kd.N_F HNC1.out) (g := W.heap.size) (fun q hq => by simp at hq; omega) _ _ _ _ _) (fun q hq => by simp at hq; omega)
  · exact (Kd.N_reads' HNC1.out).2.1
  · exact five_B ((below_alloc HB.out _).trans (HB5.out.mono (Nat.le_of_lt hltg))) (Nat.le_refl _) _ _ _ _ _

set_option maxHeartbeats 4000000 in
set_option maxRecDepth 100000 in
theorem of_fn53 (k : Nat) (hk : k < 56) (hkd : kindAt k = some (.fn 53)) (A : Option Addr) (n cp : Nat) (xs : List ByteArray) (ok : Nat → Prop) (W : World) (hF : Kd.F Kd.string W ok A n xs) (hs : (word xs 0).size ≤ 140737488351232) (hf : findI (word xs 0) = k) (hfit : fitsB (cmdOf k) n = true) (hn : 3 ≤ n)
    (hms : ((lowS (word xs 0)).toList == [109, 115, 101, 116]) = false) :
    Calls Try.prog 22 #[.slice A n cp] W fun e W' => ∃ v, e = .returned (.tuple #[v, .int .i64 0]) ∧ NeedV W' W.heap.size v k ([⟨word xs 1, true, true⟩, ⟨word xs 2, true, true⟩]) false false ([]) ∧ Below W.heap.size W W' := by
  obtain ⟨ad, rfl⟩ := some_at hF (by omega)
  obtain ⟨ad0, hl0, e0, c0⟩ := text_at hF 0 (by omega)
  injection e0 with e0
  subst e0
  rw [word_get, show ad.add 0 = ad from by unfold Addr.add; simp] at c0
  have hadl := World.block_lt_of_cell? W _ c0
  have c0' : ∀ o : Obj, (W.alloc o).cell? ad = some (.string (word xs 0)) := fun o => pw_cell_below (below_alloc (Below.refl _ _) o) c0
  have HF := Aside0.mk (Kd.F_bound hF)
  have hxl := Kd.F_len hF
  obtain ⟨ks, hks⟩ : ∃ ks : List UseD, ks = ([⟨word xs 1, true, true⟩, ⟨word xs 2, true, true⟩]) := ⟨_, rfl⟩
  obtain ⟨cs, hcs⟩ : ∃ cs : List ByteArray, cs = ([]) := ⟨_, rfl⟩
  rw [← hks, ← hcs]
  have AP : Aside0 (∀ (g : Nat) (W1 : World) , W1.heap[g]? = some (needB k (.slice none 0 0) false false (.slice none 0 0)) → Kd.F Kd.string W1 (fun q => q < g) (some ad) n xs → Calls Try.prog 53 #[.pointer (some ⟨g, 0, none⟩), .slice (some ad) n cp] W1 fun e W' => e = .returned (.tuple #[]) ∧ Aside0 (NeedAt W' g W1.heap.size k ks false false cs) ∧ Aside0 (Below g W1 W')) := ⟨fun g W1  h1 h2 => by
    rw [hks, hcs]
    exact two_calls g k (some ad) n cp xs W1 53 true (.inr ⟨rfl, rfl⟩) h1 h2 hn⟩
  clear hks hcs hxl
  obtain ⟨nm, hnm⟩ : ∃ nm, nm = lowS (word xs 0) := ⟨_, rfl⟩
  have hlow : Aside0 (∀ w : World, Calls Try.prog 15 #[.string (word xs 0)] w fun e w' => e = .returned (.string nm) ∧ Below w.heap.size w w') := ⟨fun w => by
    have h := lower_calls (word xs 0) w hs
    rw [hnm]
    exact h⟩
  have FB : Aside0 (∀ w : World, Calls Try.prog 14 #[.string nm] w fun e w' => e = .returned (.tuple #[.int .i64 k, .bool true]) ∧ Below w.heap.size w w') := ⟨fun w => by
    rw [hnm]
    have h := find_calls (lowS (word xs 0)) w (by rw [lowS_size]; exact hs)
    rw [findI_low, hf, decide_eq_true (by omega)] at h
    exact h⟩
  have FT : Aside0 (∀ w : World, Calls Try.prog 16 #[.int .i64 k, .int .i64 n] w fun e w' => e = .returned (.bool true) ∧ Below w.heap.size w w') := ⟨fun w => by
    have h := fits_in k n w hk
    rw [hfit] at h
    exact h⟩
  have i0 : (n : Int) ≠ 0 := by omega
  have i1 : ((n : Int) == 0) = false := by simp; omega
  have i2 : (0 : Int) < (n : Int) := by omega
  have HKN := Aside0.mk (show KALL.lookup nm.data.toList = some (.fn 53) from by rw [hnm, name_of _ k hk hf]; exact hkd)
  have hnz : nm.size ≤ maxLen := by rw [hnm, lowS_size]; exact Nat.le_trans hs (by decide)
  have hst := fun (w : World) (a : Addr) (f : Fn) (x y : Array Value) => run_store Try.prog w a (.func f x y) .plain rfl
  rw [← hnm] at hms
  clear hF hs hf hfit hnm
  go_enter Try.func22, Try.ntmps22
  go_wp2_with (first
    | (go_at_call 15; go_must (refine (hlow.out _).mono ?_); rintro e w1 ⟨rfl, hb1⟩; have HB := Aside0.mk (step2 (below_alloc (Below.refl _ _) _) hb1); have X2 := Aside0.mk (blk_below (blk_new W (needB 0 (.slice none 0 0) false false (.slice none 0 0))) hb1); clear hb1)
    | (go_at_call 14; go_must (refine (FB.out _).mono ?_); rintro e w2 ⟨rfl, hb2⟩; have HB := Aside0.mk (step2 HB.out hb2); have X2 := Aside0.mk (blk_below X2.out hb2); clear hb2)
    | (go_at_call 16; go_must (refine (FT.out _).mono ?_); rintro e w3 ⟨rfl, hb3⟩; have hltg : W.heap.size < w3.heap.size := Nat.lt_of_lt_of_le (blk_lt X2.out) hb3.size; have HB := Aside0.mk (step2 HB.out hb3); have X2 := Aside0.mk (blk_below X2.out hb3); clear hb3)
    | (go_at_call 41; go_must (refine (needs_calls _).mono ?_); rintro e w4 ⟨Bm, rfl, HM, hBm, hb4⟩; have XG := Aside0.mk (blk_below (blk_new w3 (needB k (.slice none 0 0) false false (.slice none 0 0))) hb4); have HB := Aside0.mk (step2 (below_alloc HB.out _) hb4); have X2 := Aside0.mk (blk_below (blk_alloc X2.out (needB k (.slice none 0 0) false false (.slice none 0 0))) hb4); obtain ⟨D, ho, hD⟩ := HM.out.out; have HO := Aside0.mk ho; have hDn := hD nm.data.toList; rw [HKN.out] at hDn; obtain ⟨hhas, v, hat, rfl⟩ := hDn; have HAT := Aside0.mk hat; have HHAS := Aside0.mk hhas; skip; clear hb4 ho hD hat hhas)
    | (at_lookup; go_must (refine wpList_lookup_own_ok _ rfl _ _ 76 rfl 9 74 (string_keyed Try.underlying9) Try.underlying76 heldR (zero74 _) (.held (.agg #[.nilFunc])) [] rfl Bm 46 D rfl HO.out _ _ rfl (WideMaps.keyOf_string_mk Try.underlying9 hnz) ?_); intro v' ps hv; rw [HAT.out] at hv; obtain rfl := held_inj hv; rw [HHAS.out]; clear hv)
    | (go_at_call 53; go_must (refine (AP.out w3.heap.size _  (blk_alloc XG.out _) ?hF).mono ?_); (case hF => exact Kd.F_mono (Kd.F_below HF.out (below_alloc HB.out _)) (fun q hq => Nat.lt_trans hq.2 hltg)); rintro e w5 ⟨rfl, HNA, HB5⟩; obtain ⟨va, ua, hga, hna, hnc⟩ := HNA.out.out; obtain ⟨A1, k1, rfl⟩ := Kd.N_slice hna; obtain ⟨A2, k2, rfl⟩ := Kd.N_slice hnc; have X5 := Aside0.mk ((HB5.out.block W.heap.size hltg).trans (blk_alloc X2.out _)); obtain ⟨y0, y1, y2, y3, y4, yf⟩ := cells5' hga; obtain ⟨x0, x1, x2, x3, x4, xf⟩ := cells5' X5.out; have HNA1 := Aside0.mk hna; have HNC1 := Aside0.mk hnc; clear hga hna hnc HNA))
  have hw4 := blk_lt X2.out
  refine bodyPost_ret (v := .tuple #[.agg #[.int .i64 k, .slice A1 ks.length k1, .bool false, .bool false, .slice A2 cs.length k2], .int .i64 0]) (by simp [results, Try.results22, go_sem, x0, x1, x2, x3, x4, y0, y1, y2, y3, y4]) rfl ⟨_, rfl, ⟨A1, k1, A2, k2, rfl, ?_, ?_, ?_, ?_⟩, ?_⟩
  · exact Kd.F_mono (five_F (Kd.N_F HNA1.out) (g := W.heap.size) (fun q hq => by simp at hq; omega) _ _ _ _ _) (fun q hq => by simp at hq; omega)
  · exact (Kd.N_reads' HNA1.out).2.1
  · exact Kd.F_mono (five_F (Kd.N_F HNC1.out) (g := W.heap.size) (fun q hq => by simp at hq; omega) _ _ _ _ _) (fun q hq => by simp at hq; omega)
  · exact (Kd.N_reads' HNC1.out).2.1
  · exact five_B ((below_alloc HB.out _).trans (HB5.out.mono (Nat.le_of_lt hltg))) (Nat.le_refl _) _ _ _ _ _

set_option maxHeartbeats 4000000 in
set_option maxRecDepth 100000 in
theorem of_fn54 (k : Nat) (hk : k < 56) (hkd : kindAt k = some (.fn 54)) (A : Option Addr) (n cp : Nat) (xs : List ByteArray) (ok : Nat → Prop) (W : World) (hF : Kd.F Kd.string W ok A n xs) (hs : (word xs 0).size ≤ 140737488351232) (hf : findI (word xs 0) = k) (hfit : fitsB (cmdOf k) n = true) (hn : 1 ≤ n)
    (hms : ((lowS (word xs 0)).toList == [109, 115, 101, 116]) = false) :
    Calls Try.prog 22 #[.slice A n cp] W fun e W' => ∃ v, e = .returned (.tuple #[v, .int .i64 0]) ∧ NeedV W' W.heap.size v k ([]) true false ([]) ∧ Below W.heap.size W W' := by
  obtain ⟨ad, rfl⟩ := some_at hF (by omega)
  obtain ⟨ad0, hl0, e0, c0⟩ := text_at hF 0 (by omega)
  injection e0 with e0
  subst e0
  rw [word_get, show ad.add 0 = ad from by unfold Addr.add; simp] at c0
  have hadl := World.block_lt_of_cell? W _ c0
  have c0' : ∀ o : Obj, (W.alloc o).cell? ad = some (.string (word xs 0)) := fun o => pw_cell_below (below_alloc (Below.refl _ _) o) c0
  have HF := Aside0.mk (Kd.F_bound hF)
  have hxl := Kd.F_len hF
  obtain ⟨ks, hks⟩ : ∃ ks : List UseD, ks = ([]) := ⟨_, rfl⟩
  obtain ⟨cs, hcs⟩ : ∃ cs : List ByteArray, cs = ([]) := ⟨_, rfl⟩
  rw [← hks, ← hcs]
  have AP : Aside0 (∀ (g : Nat) (W1 : World) , W1.heap[g]? = some (needB k (.slice none 0 0) false false (.slice none 0 0)) → Kd.F Kd.string W1 (fun q => q < g) (some ad) n xs → Calls Try.prog 54 #[.pointer (some ⟨g, 0, none⟩), .slice (some ad) n cp] W1 fun e W' => e = .returned (.tuple #[]) ∧ Aside0 (NeedAt W' g W1.heap.size k ks true false cs) ∧ Aside0 (Below g W1 W')) := ⟨fun g W1  h1 h2 => by
    rw [hks, hcs]
    exact allR_calls g k (some ad) n cp W1 54 (.inl rfl) h1⟩
  clear hks hcs hxl
  obtain ⟨nm, hnm⟩ : ∃ nm, nm = lowS (word xs 0) := ⟨_, rfl⟩
  have hlow : Aside0 (∀ w : World, Calls Try.prog 15 #[.string (word xs 0)] w fun e w' => e = .returned (.string nm) ∧ Below w.heap.size w w') := ⟨fun w => by
    have h := lower_calls (word xs 0) w hs
    rw [hnm]
    exact h⟩
  have FB : Aside0 (∀ w : World, Calls Try.prog 14 #[.string nm] w fun e w' => e = .returned (.tuple #[.int .i64 k, .bool true]) ∧ Below w.heap.size w w') := ⟨fun w => by
    rw [hnm]
    have h := find_calls (lowS (word xs 0)) w (by rw [lowS_size]; exact hs)
    rw [findI_low, hf, decide_eq_true (by omega)] at h
    exact h⟩
  have FT : Aside0 (∀ w : World, Calls Try.prog 16 #[.int .i64 k, .int .i64 n] w fun e w' => e = .returned (.bool true) ∧ Below w.heap.size w w') := ⟨fun w => by
    have h := fits_in k n w hk
    rw [hfit] at h
    exact h⟩
  have i0 : (n : Int) ≠ 0 := by omega
  have i1 : ((n : Int) == 0) = false := by simp; omega
  have i2 : (0 : Int) < (n : Int) := by omega
  have HKN := Aside0.mk (show KALL.lookup nm.data.toList = some (.fn 54) from by rw [hnm, name_of _ k hk hf]; exact hkd)
  have hnz : nm.size ≤ maxLen := by rw [hnm, lowS_size]; exact Nat.le_trans hs (by decide)
  have hst := fun (w : World) (a : Addr) (f : Fn) (x y : Array Value) => run_store Try.prog w a (.func f x y) .plain rfl
  rw [← hnm] at hms
  clear hF hs hf hfit hnm
  go_enter Try.func22, Try.ntmps22
  go_wp2_with (first
    | (go_at_call 15; go_must (refine (hlow.out _).mono ?_); rintro e w1 ⟨rfl, hb1⟩; have HB := Aside0.mk (step2 (below_alloc (Below.refl _ _) _) hb1); have X2 := Aside0.mk (blk_below (blk_new W (needB 0 (.slice none 0 0) false false (.slice none 0 0))) hb1); clear hb1)
    | (go_at_call 14; go_must (refine (FB.out _).mono ?_); rintro e w2 ⟨rfl, hb2⟩; have HB := Aside0.mk (step2 HB.out hb2); have X2 := Aside0.mk (blk_below X2.out hb2); clear hb2)
    | (go_at_call 16; go_must (refine (FT.out _).mono ?_); rintro e w3 ⟨rfl, hb3⟩; have hltg : W.heap.size < w3.heap.size := Nat.lt_of_lt_of_le (blk_lt X2.out) hb3.size; have HB := Aside0.mk (step2 HB.out hb3); have X2 := Aside0.mk (blk_below X2.out hb3); clear hb3)
    | (go_at_call 41; go_must (refine (needs_calls _).mono ?_); rintro e w4 ⟨Bm, rfl, HM, hBm, hb4⟩; have XG := Aside0.mk (blk_below (blk_new w3 (needB k (.slice none 0 0) false false (.slice none 0 0))) hb4); have HB := Aside0.mk (step2 (below_alloc HB.out _) hb4); have X2 := Aside0.mk (blk_below (blk_alloc X2.out (needB k (.slice none 0 0) false false (.slice none 0 0))) hb4); obtain ⟨D, ho, hD⟩ := HM.out.out; have HO := Aside0.mk ho; have hDn := hD nm.data.toList; rw [HKN.out] at hDn; obtain ⟨hhas, v, hat, rfl⟩ := hDn; have HAT := Aside0.mk hat; have HHAS := Aside0.mk hhas; skip; clear hb4 ho hD hat hhas)
    | (at_lookup; go_must (refine wpList_lookup_own_ok _ rfl _ _ 76 rfl 9 74 (string_keyed Try.underlying9) Try.underlying76 heldR (zero74 _) (.held (.agg #[.nilFunc])) [] rfl Bm 46 D rfl HO.out _ _ rfl (WideMaps.keyOf_string_mk Try.underlying9 hnz) ?_); intro v' ps hv; rw [HAT.out] at hv; obtain rfl := held_inj hv; rw [HHAS.out]; clear hv)
    | (go_at_call 54; go_must (refine (AP.out w3.heap.size _  (blk_alloc XG.out _) ?hF).mono ?_); (case hF => exact Kd.F_mono (Kd.F_below HF.out (below_alloc HB.out _)) (fun q hq => Nat.lt_trans hq.2 hltg)); rintro e w5 ⟨rfl, HNA, HB5⟩; obtain ⟨va, ua, hga, hna, hnc⟩ := HNA.out.out; obtain ⟨A1, k1, rfl⟩ := Kd.N_slice hna; obtain ⟨A2, k2, rfl⟩ := Kd.N_slice hnc; have X5 := Aside0.mk ((HB5.out.block W.heap.size hltg).trans (blk_alloc X2.out _)); obtain ⟨y0, y1, y2, y3, y4, yf⟩ := cells5' hga; obtain ⟨x0, x1, x2, x3, x4, xf⟩ := cells5' X5.out; have HNA1 := Aside0.mk hna; have HNC1 := Aside0.mk hnc; clear hga hna hnc HNA))
  have hw4 := blk_lt X2.out
  refine bodyPost_ret (v := .tuple #[.agg #[.int .i64 k, .slice A1 ks.length k1, .bool true, .bool false, .slice A2 cs.length k2], .int .i64 0]) (by simp [results, Try.results22, go_sem, x0, x1, x2, x3, x4, y0, y1, y2, y3, y4]) rfl ⟨_, rfl, ⟨A1, k1, A2, k2, rfl, ?_, ?_, ?_, ?_⟩, ?_⟩
  · exact Kd.F_mono (five_F (Kd.N_F HNA1.out) (g := W.heap.size) (fun q hq => by simp at hq; omega) _ _ _ _ _) (fun q hq => by simp at hq; omega)
  · exact (Kd.N_reads' HNA1.out).2.1
  · exact Kd.F_mono (five_F (Kd.N_F HNC1.out) (g := W.heap.size) (fun q hq => by simp at hq; omega) _ _ _ _ _) (fun q hq => by simp at hq; omega)
  · exact (Kd.N_reads' HNC1.out).2.1
  · exact five_B ((below_alloc HB.out _).trans (HB5.out.mono (Nat.le_of_lt hltg))) (Nat.le_refl _) _ _ _ _ _

set_option maxHeartbeats 4000000 in
set_option maxRecDepth 100000 in
theorem of_fn55 (k : Nat) (hk : k < 56) (hkd : kindAt k = some (.fn 55)) (A : Option Addr) (n cp : Nat) (xs : List ByteArray) (ok : Nat → Prop) (W : World) (hF : Kd.F Kd.string W ok A n xs) (hs : (word xs 0).size ≤ 140737488351232) (hf : findI (word xs 0) = k) (hfit : fitsB (cmdOf k) n = true) (hn : 1 ≤ n)
    (hms : ((lowS (word xs 0)).toList == [109, 115, 101, 116]) = false) :
    Calls Try.prog 22 #[.slice A n cp] W fun e W' => ∃ v, e = .returned (.tuple #[v, .int .i64 0]) ∧ NeedV W' W.heap.size v k ([]) true false ([]) ∧ Below W.heap.size W W' := by
  obtain ⟨ad, rfl⟩ := some_at hF (by omega)
  obtain ⟨ad0, hl0, e0, c0⟩ := text_at hF 0 (by omega)
  injection e0 with e0
  subst e0
  rw [word_get, show ad.add 0 = ad from by unfold Addr.add; simp] at c0
  have hadl := World.block_lt_of_cell? W _ c0
  have c0' : ∀ o : Obj, (W.alloc o).cell? ad = some (.string (word xs 0)) := fun o => pw_cell_below (below_alloc (Below.refl _ _) o) c0
  have HF := Aside0.mk (Kd.F_bound hF)
  have hxl := Kd.F_len hF
  obtain ⟨ks, hks⟩ : ∃ ks : List UseD, ks = ([]) := ⟨_, rfl⟩
  obtain ⟨cs, hcs⟩ : ∃ cs : List ByteArray, cs = ([]) := ⟨_, rfl⟩
  rw [← hks, ← hcs]
  have AP : Aside0 (∀ (g : Nat) (W1 : World) , W1.heap[g]? = some (needB k (.slice none 0 0) false false (.slice none 0 0)) → Kd.F Kd.string W1 (fun q => q < g) (some ad) n xs → Calls Try.prog 55 #[.pointer (some ⟨g, 0, none⟩), .slice (some ad) n cp] W1 fun e W' => e = .returned (.tuple #[]) ∧ Aside0 (NeedAt W' g W1.heap.size k ks true false cs) ∧ Aside0 (Below g W1 W')) := ⟨fun g W1  h1 h2 => by
    rw [hks, hcs]
    exact allR_calls g k (some ad) n cp W1 55 (.inr rfl) h1⟩
  clear hks hcs hxl
  obtain ⟨nm, hnm⟩ : ∃ nm, nm = lowS (word xs 0) := ⟨_, rfl⟩
  have hlow : Aside0 (∀ w : World, Calls Try.prog 15 #[.string (word xs 0)] w fun e w' => e = .returned (.string nm) ∧ Below w.heap.size w w') := ⟨fun w => by
    have h := lower_calls (word xs 0) w hs
    rw [hnm]
    exact h⟩
  have FB : Aside0 (∀ w : World, Calls Try.prog 14 #[.string nm] w fun e w' => e = .returned (.tuple #[.int .i64 k, .bool true]) ∧ Below w.heap.size w w') := ⟨fun w => by
    rw [hnm]
    have h := find_calls (lowS (word xs 0)) w (by rw [lowS_size]; exact hs)
    rw [findI_low, hf, decide_eq_true (by omega)] at h
    exact h⟩
  have FT : Aside0 (∀ w : World, Calls Try.prog 16 #[.int .i64 k, .int .i64 n] w fun e w' => e = .returned (.bool true) ∧ Below w.heap.size w w') := ⟨fun w => by
    have h := fits_in k n w hk
    rw [hfit] at h
    exact h⟩
  have i0 : (n : Int) ≠ 0 := by omega
  have i1 : ((n : Int) == 0) = false := by simp; omega
  have i2 : (0 : Int) < (n : Int) := by omega
  have HKN := Aside0.mk (show KALL.lookup nm.data.toList = some (.fn 55) from by rw [hnm, name_of _ k hk hf]; exact hkd)
  have hnz : nm.size ≤ maxLen := by rw [hnm, lowS_size]; exact Nat.le_trans hs (by decide)
  have hst := fun (w : World) (a : Addr) (f : Fn) (x y : Array Value) => run_store Try.prog w a (.func f x y) .plain rfl
  rw [← hnm] at hms
  clear hF hs hf hfit hnm
  go_enter Try.func22, Try.ntmps22
  go_wp2_with (first
    | (go_at_call 15; go_must (refine (hlow.out _).mono ?_); rintro e w1 ⟨rfl, hb1⟩; have HB := Aside0.mk (step2 (below_alloc (Below.refl _ _) _) hb1); have X2 := Aside0.mk (blk_below (blk_new W (needB 0 (.slice none 0 0) false false (.slice none 0 0))) hb1); clear hb1)
    | (go_at_call 14; go_must (refine (FB.out _).mono ?_); rintro e w2 ⟨rfl, hb2⟩; have HB := Aside0.mk (step2 HB.out hb2); have X2 := Aside0.mk (blk_below X2.out hb2); clear hb2)
    | (go_at_call 16; go_must (refine (FT.out _).mono ?_); rintro e w3 ⟨rfl, hb3⟩; have hltg : W.heap.size < w3.heap.size := Nat.lt_of_lt_of_le (blk_lt X2.out) hb3.size; have HB := Aside0.mk (step2 HB.out hb3); have X2 := Aside0.mk (blk_below X2.out hb3); clear hb3)
    | (go_at_call 41; go_must (refine (needs_calls _).mono ?_); rintro e w4 ⟨Bm, rfl, HM, hBm, hb4⟩; have XG := Aside0.mk (blk_below (blk_new w3 (needB k (.slice none 0 0) false false (.slice none 0 0))) hb4); have HB := Aside0.mk (step2 (below_alloc HB.out _) hb4); have X2 := Aside0.mk (blk_below (blk_alloc X2.out (needB k (.slice none 0 0) false false (.slice none 0 0))) hb4); obtain ⟨D, ho, hD⟩ := HM.out.out; have HO := Aside0.mk ho; have hDn := hD nm.data.toList; rw [HKN.out] at hDn; obtain ⟨hhas, v, hat, rfl⟩ := hDn; have HAT := Aside0.mk hat; have HHAS := Aside0.mk hhas; skip; clear hb4 ho hD hat hhas)
    | (at_lookup; go_must (refine wpList_lookup_own_ok _ rfl _ _ 76 rfl 9 74 (string_keyed Try.underlying9) Try.underlying76 heldR (zero74 _) (.held (.agg #[.nilFunc])) [] rfl Bm 46 D rfl HO.out _ _ rfl (WideMaps.keyOf_string_mk Try.underlying9 hnz) ?_); intro v' ps hv; rw [HAT.out] at hv; obtain rfl := held_inj hv; rw [HHAS.out]; clear hv)
    | (go_at_call 55; go_must (refine (AP.out w3.heap.size _  (blk_alloc XG.out _) ?hF).mono ?_); (case hF => exact Kd.F_mono (Kd.F_below HF.out (below_alloc HB.out _)) (fun q hq => Nat.lt_trans hq.2 hltg)); rintro e w5 ⟨rfl, HNA, HB5⟩; obtain ⟨va, ua, hga, hna, hnc⟩ := HNA.out.out; obtain ⟨A1, k1, rfl⟩ := Kd.N_slice hna; obtain ⟨A2, k2, rfl⟩ := Kd.N_slice hnc; have X5 := Aside0.mk ((HB5.out.block W.heap.size hltg).trans (blk_alloc X2.out _)); obtain ⟨y0, y1, y2, y3, y4, yf⟩ := cells5' hga; obtain ⟨x0, x1, x2, x3, x4, xf⟩ := cells5' X5.out; have HNA1 := Aside0.mk hna; have HNC1 := Aside0.mk hnc; clear hga hna hnc HNA))
  have hw4 := blk_lt X2.out
  refine bodyPost_ret (v := .tuple #[.agg #[.int .i64 k, .slice A1 ks.length k1, .bool true, .bool false, .slice A2 cs.length k2], .int .i64 0]) (by simp [results, Try.results22, go_sem, x0, x1, x2, x3, x4, y0, y1, y2, y3, y4]) rfl ⟨_, rfl, ⟨A1, k1, A2, k2, rfl, ?_, ?_, ?_, ?_⟩, ?_⟩
  · exact Kd.F_mono (five_F (Kd.N_F HNA1.out) (g := W.heap.size) (fun q hq => by simp at hq; omega) _ _ _ _ _) (fun q hq => by simp at hq; omega)
  · exact (Kd.N_reads' HNA1.out).2.1
  · exact Kd.F_mono (five_F (Kd.N_F HNC1.out) (g := W.heap.size) (fun q hq => by simp at hq; omega) _ _ _ _ _) (fun q hq => by simp at hq; omega)
  · exact (Kd.N_reads' HNC1.out).2.1
  · exact five_B ((below_alloc HB.out _).trans (HB5.out.mono (Nat.le_of_lt hltg))) (Nat.le_refl _) _ _ _ _ _

set_option maxHeartbeats 4000000 in
set_option maxRecDepth 100000 in
theorem of_fn56 (k : Nat) (hk : k < 56) (hkd : kindAt k = some (.fn 56)) (A : Option Addr) (n cp : Nat) (xs : List ByteArray) (ok : Nat → Prop) (W : World) (hF : Kd.F Kd.string W ok A n xs) (hs : (word xs 0).size ≤ 140737488351232) (hf : findI (word xs 0) = k) (hfit : fitsB (cmdOf k) n = true) (hn : 1 ≤ n)
    (hms : ((lowS (word xs 0)).toList == [109, 115, 101, 116]) = false) :
    Calls Try.prog 22 #[.slice A n cp] W fun e W' => ∃ v, e = .returned (.tuple #[v, .int .i64 0]) ∧ NeedV W' W.heap.size v k ([]) false true ([]) ∧ Below W.heap.size W W' := by
  obtain ⟨ad, rfl⟩ := some_at hF (by omega)
  obtain ⟨ad0, hl0, e0, c0⟩ := text_at hF 0 (by omega)
  injection e0 with e0
  subst e0
  rw [word_get, show ad.add 0 = ad from by unfold Addr.add; simp] at c0
  have hadl := World.block_lt_of_cell? W _ c0
  have c0' : ∀ o : Obj, (W.alloc o).cell? ad = some (.string (word xs 0)) := fun o => pw_cell_below (below_alloc (Below.refl _ _) o) c0
  have HF := Aside0.mk (Kd.F_bound hF)
  have hxl := Kd.F_len hF
  obtain ⟨ks, hks⟩ : ∃ ks : List UseD, ks = ([]) := ⟨_, rfl⟩
  obtain ⟨cs, hcs⟩ : ∃ cs : List ByteArray, cs = ([]) := ⟨_, rfl⟩
  rw [← hks, ← hcs]
  have AP : Aside0 (∀ (g : Nat) (W1 : World) , W1.heap[g]? = some (needB k (.slice none 0 0) false false (.slice none 0 0)) → Kd.F Kd.string W1 (fun q => q < g) (some ad) n xs → Calls Try.prog 56 #[.pointer (some ⟨g, 0, none⟩), .slice (some ad) n cp] W1 fun e W' => e = .returned (.tuple #[]) ∧ Aside0 (NeedAt W' g W1.heap.size k ks false true cs) ∧ Aside0 (Below g W1 W')) := ⟨fun g W1  h1 h2 => by
    rw [hks, hcs]
    exact allW_calls g k (some ad) n cp W1 h1⟩
  clear hks hcs hxl
  obtain ⟨nm, hnm⟩ : ∃ nm, nm = lowS (word xs 0) := ⟨_, rfl⟩
  have hlow : Aside0 (∀ w : World, Calls Try.prog 15 #[.string (word xs 0)] w fun e w' => e = .returned (.string nm) ∧ Below w.heap.size w w') := ⟨fun w => by
    have h := lower_calls (word xs 0) w hs
    rw [hnm]
    exact h⟩
  have FB : Aside0 (∀ w : World, Calls Try.prog 14 #[.string nm] w fun e w' => e = .returned (.tuple #[.int .i64 k, .bool true]) ∧ Below w.heap.size w w') := ⟨fun w => by
    rw [hnm]
    have h := find_calls (lowS (word xs 0)) w (by rw [lowS_size]; exact hs)
    rw [findI_low, hf, decide_eq_true (by omega)] at h
    exact h⟩
  have FT : Aside0 (∀ w : World, Calls Try.prog 16 #[.int .i64 k, .int .i64 n] w fun e w' => e = .returned (.bool true) ∧ Below w.heap.size w w') := ⟨fun w => by
    have h := fits_in k n w hk
    rw [hfit] at h
    exact h⟩
  have i0 : (n : Int) ≠ 0 := by omega
  have i1 : ((n : Int) == 0) = false := by simp; omega
  have i2 : (0 : Int) < (n : Int) := by omega
  have HKN := Aside0.mk (show KALL.lookup nm.data.toList = some (.fn 56) from by rw [hnm, name_of _ k hk hf]; exact hkd)
  have hnz : nm.size ≤ maxLen := by rw [hnm, lowS_size]; exact Nat.le_trans hs (by decide)
  have hst := fun (w : World) (a : Addr) (f : Fn) (x y : Array Value) => run_store Try.prog w a (.func f x y) .plain rfl
  rw [← hnm] at hms
  clear hF hs hf hfit hnm
  go_enter Try.func22, Try.ntmps22
  go_wp2_with (first
    | (go_at_call 15; go_must (refine (hlow.out _).mono ?_); rintro e w1 ⟨rfl, hb1⟩; have HB := Aside0.mk (step2 (below_alloc (Below.refl _ _) _) hb1); have X2 := Aside0.mk (blk_below (blk_new W (needB 0 (.slice none 0 0) false false (.slice none 0 0))) hb1); clear hb1)
    | (go_at_call 14; go_must (refine (FB.out _).mono ?_); rintro e w2 ⟨rfl, hb2⟩; have HB := Aside0.mk (step2 HB.out hb2); have X2 := Aside0.mk (blk_below X2.out hb2); clear hb2)
    | (go_at_call 16; go_must (refine (FT.out _).mono ?_); rintro e w3 ⟨rfl, hb3⟩; have hltg : W.heap.size < w3.heap.size := Nat.lt_of_lt_of_le (blk_lt X2.out) hb3.size; have HB := Aside0.mk (step2 HB.out hb3); have X2 := Aside0.mk (blk_below X2.out hb3); clear hb3)
    | (go_at_call 41; go_must (refine (needs_calls _).mono ?_); rintro e w4 ⟨Bm, rfl, HM, hBm, hb4⟩; have XG := Aside0.mk (blk_below (blk_new w3 (needB k (.slice none 0 0) false false (.slice none 0 0))) hb4); have HB := Aside0.mk (step2 (below_alloc HB.out _) hb4); have X2 := Aside0.mk (blk_below (blk_alloc X2.out (needB k (.slice none 0 0) false false (.slice none 0 0))) hb4); obtain ⟨D, ho, hD⟩ := HM.out.out; have HO := Aside0.mk ho; have hDn := hD nm.data.toList; rw [HKN.out] at hDn; obtain ⟨hhas, v, hat, rfl⟩ := hDn; have HAT := Aside0.mk hat; have HHAS := Aside0.mk hhas; skip; clear hb4 ho hD hat hhas)
    | (at_lookup; go_must (refine wpList_lookup_own_ok _ rfl _ _ 76 rfl 9 74 (string_keyed Try.underlying9) Try.underlying76 heldR (zero74 _) (.held (.agg #[.nilFunc])) [] rfl Bm 46 D rfl HO.out _ _ rfl (WideMaps.keyOf_string_mk Try.underlying9 hnz) ?_); intro v' ps hv; rw [HAT.out] at hv; obtain rfl := held_inj hv; rw [HHAS.out]; clear hv)
    | (go_at_call 56; go_must (refine (AP.out w3.heap.size _  (blk_alloc XG.out _) ?hF).mono ?_); (case hF => exact Kd.F_mono (Kd.F_below HF.out (below_alloc HB.out _)) (fun q hq => Nat.lt_trans hq.2 hltg)); rintro e w5 ⟨rfl, HNA, HB5⟩; obtain ⟨va, ua, hga, hna, hnc⟩ := HNA.out.out; obtain ⟨A1, k1, rfl⟩ := Kd.N_slice hna; obtain ⟨A2, k2, rfl⟩ := Kd.N_slice hnc; have X5 := Aside0.mk ((HB5.out.block W.heap.size hltg).trans (blk_alloc X2.out _)); obtain ⟨y0, y1, y2, y3, y4, yf⟩ := cells5' hga; obtain ⟨x0, x1, x2, x3, x4, xf⟩ := cells5' X5.out; have HNA1 := Aside0.mk hna; have HNC1 := Aside0.mk hnc; clear hga hna hnc HNA))
  have hw4 := blk_lt X2.out
  refine bodyPost_ret (v := .tuple #[.agg #[.int .i64 k, .slice A1 ks.length k1, .bool false, .bool true, .slice A2 cs.length k2], .int .i64 0]) (by simp [results, Try.results22, go_sem, x0, x1, x2, x3, x4, y0, y1, y2, y3, y4]) rfl ⟨_, rfl, ⟨A1, k1, A2, k2, rfl, ?_, ?_, ?_, ?_⟩, ?_⟩
  · exact Kd.F_mono (five_F (Kd.N_F HNA1.out) (g := W.heap.size) (fun q hq => by simp at hq; omega) _ _ _ _ _) (fun q hq => by simp at hq; omega)
  · exact (Kd.N_reads' HNA1.out).2.1
  · exact Kd.F_mono (five_F (Kd.N_F HNC1.out) (g := W.heap.size) (fun q hq => by simp at hq; omega) _ _ _ _ _) (fun q hq => by simp at hq; omega)
  · exact (Kd.N_reads' HNC1.out).2.1
  · exact five_B ((below_alloc HB.out _).trans (HB5.out.mono (Nat.le_of_lt hltg))) (Nat.le_refl _) _ _ _ _ _

set_option maxHeartbeats 4000000 in
set_option maxRecDepth 100000 in
theorem of_fn57 (k : Nat) (hk : k < 56) (hkd : kindAt k = some (.fn 57)) (A : Option Addr) (n cp : Nat) (xs : List ByteArray) (ok : Nat → Prop) (W : World) (hF : Kd.F Kd.string W ok A n xs) (hs : (word xs 0).size ≤ 140737488351232) (hf : findI (word xs 0) = k) (hfit : fitsB (cmdOf k) n = true) (hn : 2 ≤ n) (hcp : n ≤ cp) (hn6 : n ≤ 1000000)
    (hms : ((lowS (word xs 0)).toList == [109, 115, 101, 116]) = false) :
    Calls Try.prog 22 #[.slice A n cp] W fun e W' => ∃ v, e = .returned (.tuple #[v, .int .i64 0]) ∧ NeedV W' W.heap.size v k ([]) false false (xs.drop 1) ∧ Below W.heap.size W W' := by
  obtain ⟨ad, rfl⟩ := some_at hF (by omega)
  obtain ⟨ad0, hl0, e0, c0⟩ := text_at hF 0 (by omega)
  injection e0 with e0
  subst e0
  rw [word_get, show ad.add 0 = ad from by unfold Addr.add; simp] at c0
  have hadl := World.block_lt_of_cell? W _ c0
  have c0' : ∀ o : Obj, (W.alloc o).cell? ad = some (.string (word xs 0)) := fun o => pw_cell_below (below_alloc (Below.refl _ _) o) c0
  have HF := Aside0.mk (Kd.F_bound hF)
  have hxl := Kd.F_len hF
  obtain ⟨ks, hks⟩ : ∃ ks : List UseD, ks = ([]) := ⟨_, rfl⟩
  obtain ⟨cs, hcs⟩ : ∃ cs : List ByteArray, cs = (xs.drop 1) := ⟨_, rfl⟩
  rw [← hks, ← hcs]
  have AP : Aside0 (∀ (g : Nat) (W1 : World) , W1.heap[g]? = some (needB k (.slice none 0 0) false false (.slice none 0 0)) → Kd.F Kd.string W1 (fun q => q < g) (some ad) n xs → Calls Try.prog 57 #[.pointer (some ⟨g, 0, none⟩), .slice (some ad) n cp] W1 fun e W' => e = .returned (.tuple #[]) ∧ Aside0 (NeedAt W' g W1.heap.size k ks false false cs) ∧ Aside0 (Below g W1 W')) := ⟨fun g W1  h1 h2 => by
    rw [hks, hcs]
    exact subscribe_calls g k (some ad) n cp xs W1 h1 h2 hn hcp hn6⟩
  clear hks hcs hxl
  obtain ⟨nm, hnm⟩ : ∃ nm, nm = lowS (word xs 0) := ⟨_, rfl⟩
  have hlow : Aside0 (∀ w : World, Calls Try.prog 15 #[.string (word xs 0)] w fun e w' => e = .returned (.string nm) ∧ Below w.heap.size w w') := ⟨fun w => by
    have h := lower_calls (word xs 0) w hs
    rw [hnm]
    exact h⟩
  have FB : Aside0 (∀ w : World, Calls Try.prog 14 #[.string nm] w fun e w' => e = .returned (.tuple #[.int .i64 k, .bool true]) ∧ Below w.heap.size w w') := ⟨fun w => by
    rw [hnm]
    have h := find_calls (lowS (word xs 0)) w (by rw [lowS_size]; exact hs)
    rw [findI_low, hf, decide_eq_true (by omega)] at h
    exact h⟩
  have FT : Aside0 (∀ w : World, Calls Try.prog 16 #[.int .i64 k, .int .i64 n] w fun e w' => e = .returned (.bool true) ∧ Below w.heap.size w w') := ⟨fun w => by
    have h := fits_in k n w hk
    rw [hfit] at h
    exact h⟩
  have i0 : (n : Int) ≠ 0 := by omega
  have i1 : ((n : Int) == 0) = false := by simp; omega
  have i2 : (0 : Int) < (n : Int) := by omega
  have HKN := Aside0.mk (show KALL.lookup nm.data.toList = some (.fn 57) from by rw [hnm, name_of _ k hk hf]; exact hkd)
  have hnz : nm.size ≤ maxLen := by rw [hnm, lowS_size]; exact Nat.le_trans hs (by decide)
  have hst := fun (w : World) (a : Addr) (f : Fn) (x y : Array Value) => run_store Try.prog w a (.func f x y) .plain rfl
  rw [← hnm] at hms
  clear hF hs hf hfit hnm
  go_enter Try.func22, Try.ntmps22
  go_wp2_with (first
    | (go_at_call 15; go_must (refine (hlow.out _).mono ?_); rintro e w1 ⟨rfl, hb1⟩; have HB := Aside0.mk (step2 (below_alloc (Below.refl _ _) _) hb1); have X2 := Aside0.mk (blk_below (blk_new W (needB 0 (.slice none 0 0) false false (.slice none 0 0))) hb1); clear hb1)
    | (go_at_call 14; go_must (refine (FB.out _).mono ?_); rintro e w2 ⟨rfl, hb2⟩; have HB := Aside0.mk (step2 HB.out hb2); have X2 := Aside0.mk (blk_below X2.out hb2); clear hb2)
    | (go_at_call 16; go_must (refine (FT.out _).mono ?_); rintro e w3 ⟨rfl, hb3⟩; have hltg : W.heap.size < w3.heap.size := Nat.lt_of_lt_of_le (blk_lt X2.out) hb3.size; have HB := Aside0.mk (step2 HB.out hb3); have X2 := Aside0.mk (blk_below X2.out hb3); clear hb3)
    | (go_at_call 41; go_must (refine (needs_calls _).mono ?_); rintro e w4 ⟨Bm, rfl, HM, hBm, hb4⟩; have XG := Aside0.mk (blk_below (blk_new w3 (needB k (.slice none 0 0) false false (.slice none 0 0))) hb4); have HB := Aside0.mk (step2 (below_alloc HB.out _) hb4); have X2 := Aside0.mk (blk_below (blk_alloc X2.out (needB k (.slice none 0 0) false false (.slice none 0 0))) hb4); obtain ⟨D, ho, hD⟩ := HM.out.out; have HO := Aside0.mk ho; have hDn := hD nm.data.toList; rw [HKN.out] at hDn; obtain ⟨hhas, v, hat, rfl⟩ := hDn; have HAT := Aside0.mk hat; have HHAS := Aside0.mk hhas; skip; clear hb4 ho hD hat hhas)
    | (at_lookup; go_must (refine wpList_lookup_own_ok _ rfl _ _ 76 rfl 9 74 (string_keyed Try.underlying9) Try.underlying76 heldR (zero74 _) (.held (.agg #[.nilFunc])) [] rfl Bm 46 D rfl HO.out _ _ rfl (WideMaps.keyOf_string_mk Try.underlying9 hnz) ?_); intro v' ps hv; rw [HAT.out] at hv; obtain rfl := held_inj hv; rw [HHAS.out]; clear hv)
    | (go_at_call 57; go_must (refine (AP.out w3.heap.size _  (blk_alloc XG.out _) ?hF).mono ?_); (case hF => exact Kd.F_mono (Kd.F_below HF.out (below_alloc HB.out _)) (fun q hq => Nat.lt_trans hq.2 hltg)); rintro e w5 ⟨rfl, HNA, HB5⟩; obtain ⟨va, ua, hga, hna, hnc⟩ := HNA.out.out; obtain ⟨A1, k1, rfl⟩ := Kd.N_slice hna; obtain ⟨A2, k2, rfl⟩ := Kd.N_slice hnc; have X5 := Aside0.mk ((HB5.out.block W.heap.size hltg).trans (blk_alloc X2.out _)); obtain ⟨y0, y1, y2, y3, y4, yf⟩ := cells5' hga; obtain ⟨x0, x1, x2, x3, x4, xf⟩ := cells5' X5.out; have HNA1 := Aside0.mk hna; have HNC1 := Aside0.mk hnc; clear hga hna hnc HNA))
  have hw4 := blk_lt X2.out
  refine bodyPost_ret (v := .tuple #[.agg #[.int .i64 k, .slice A1 ks.length k1, .bool false, .bool false, .slice A2 cs.length k2], .int .i64 0]) (by simp [results, Try.results22, go_sem, x0, x1, x2, x3, x4, y0, y1, y2, y3, y4]) rfl ⟨_, rfl, ⟨A1, k1, A2, k2, rfl, ?_, ?_, ?_, ?_⟩, ?_⟩
  · exact Kd.F_mono (five_F (Kd.N_F HNA1.out) (g := W.heap.size) (fun q hq => by simp at hq; omega) _ _ _ _ _) (fun q hq => by simp at hq; omega)
  · exact (Kd.N_reads' HNA1.out).2.1
  · exact Kd.F_mono (five_F (Kd.N_F HNC1.out) (g := W.heap.size) (fun q hq => by simp at hq; omega) _ _ _ _ _) (fun q hq => by simp at hq; omega)
  · exact (Kd.N_reads' HNC1.out).2.1
  · exact five_B ((below_alloc HB.out _).trans (HB5.out.mono (Nat.le_of_lt hltg))) (Nat.le_refl _) _ _ _ _ _

set_option maxHeartbeats 4000000 in
set_option maxRecDepth 100000 in
theorem of_fn59 (k : Nat) (hk : k < 56) (hkd : kindAt k = some (.fn 59)) (A : Option Addr) (n cp : Nat) (xs : List ByteArray) (ok : Nat → Prop) (W : World) (hF : Kd.F Kd.string W ok A n xs) (hs : (word xs 0).size ≤ 140737488351232) (hf : findI (word xs 0) = k) (hfit : fitsB (cmdOf k) n = true) (hn : 2 ≤ n)
    (hms : ((lowS (word xs 0)).toList == [109, 115, 101, 116]) = false) :
    Calls Try.prog 22 #[.slice A n cp] W fun e W' => ∃ v, e = .returned (.tuple #[v, .int .i64 0]) ∧ NeedV W' W.heap.size v k ([]) false false ([word xs 1]) ∧ Below W.heap.size W W' := by
  obtain ⟨ad, rfl⟩ := some_at hF (by omega)
  obtain ⟨ad0, hl0, e0, c0⟩ := text_at hF 0 (by omega)
  injection e0 with e0
  subst e0
  rw [word_get, show ad.add 0 = ad from by unfold Addr.add; simp] at c0
  have hadl := World.block_lt_of_cell? W _ c0
  have c0' : ∀ o : Obj, (W.alloc o).cell? ad = some (.string (word xs 0)) := fun o => pw_cell_below (below_alloc (Below.refl _ _) o) c0
  have HF := Aside0.mk (Kd.F_bound hF)
  have hxl := Kd.F_len hF
  obtain ⟨ks, hks⟩ : ∃ ks : List UseD, ks = ([]) := ⟨_, rfl⟩
  obtain ⟨cs, hcs⟩ : ∃ cs : List ByteArray, cs = ([word xs 1]) := ⟨_, rfl⟩
  rw [← hks, ← hcs]
  have AP : Aside0 (∀ (g : Nat) (W1 : World) , W1.heap[g]? = some (needB k (.slice none 0 0) false false (.slice none 0 0)) → Kd.F Kd.string W1 (fun q => q < g) (some ad) n xs → Calls Try.prog 59 #[.pointer (some ⟨g, 0, none⟩), .slice (some ad) n cp] W1 fun e W' => e = .returned (.tuple #[]) ∧ Aside0 (NeedAt W' g W1.heap.size k ks false false cs) ∧ Aside0 (Below g W1 W')) := ⟨fun g W1  h1 h2 => by
    rw [hks, hcs]
    exact publish_calls g k (some ad) n cp xs W1 h1 h2 hn⟩
  clear hks hcs hxl
  obtain ⟨nm, hnm⟩ : ∃ nm, nm = lowS (word xs 0) := ⟨_, rfl⟩
  have hlow : Aside0 (∀ w : World, Calls Try.prog 15 #[.string (word xs 0)] w fun e w' => e = .returned (.string nm) ∧ Below w.heap.size w w') := ⟨fun w => by
    have h := lower_calls (word xs 0) w hs
    rw [hnm]
    exact h⟩
  have FB : Aside0 (∀ w : World, Calls Try.prog 14 #[.string nm] w fun e w' => e = .returned (.tuple #[.int .i64 k, .bool true]) ∧ Below w.heap.size w w') := ⟨fun w => by
    rw [hnm]
    have h := find_calls (lowS (word xs 0)) w (by rw [lowS_size]; exact hs)
    rw [findI_low, hf, decide_eq_true (by omega)] at h
    exact h⟩
  have FT : Aside0 (∀ w : World, Calls Try.prog 16 #[.int .i64 k, .int .i64 n] w fun e w' => e = .returned (.bool true) ∧ Below w.heap.size w w') := ⟨fun w => by
    have h := fits_in k n w hk
    rw [hfit] at h
    exact h⟩
  have i0 : (n : Int) ≠ 0 := by omega
  have i1 : ((n : Int) == 0) = false := by simp; omega
  have i2 : (0 : Int) < (n : Int) := by omega
  have HKN := Aside0.mk (show KALL.lookup nm.data.toList = some (.fn 59) from by rw [hnm, name_of _ k hk hf]; exact hkd)
  have hnz : nm.size ≤ maxLen := by rw [hnm, lowS_size]; exact Nat.le_trans hs (by decide)
  have hst := fun (w : World) (a : Addr) (f : Fn) (x y : Array Value) => run_store Try.prog w a (.func f x y) .plain rfl
  rw [← hnm] at hms
  clear hF hs hf hfit hnm
  go_enter Try.func22, Try.ntmps22
  go_wp2_with (first
    | (go_at_call 15; go_must (refine (hlow.out _).mono ?_); rintro e w1 ⟨rfl, hb1⟩; have HB := Aside0.mk (step2 (below_alloc (Below.refl _ _) _) hb1); have X2 := Aside0.mk (blk_below (blk_new W (needB 0 (.slice none 0 0) false false (.slice none 0 0))) hb1); clear hb1)
    | (go_at_call 14; go_must (refine (FB.out _).mono ?_); rintro e w2 ⟨rfl, hb2⟩; have HB := Aside0.mk (step2 HB.out hb2); have X2 := Aside0.mk (blk_below X2.out hb2); clear hb2)
    | (go_at_call 16; go_must (refine (FT.out _).mono ?_); rintro e w3 ⟨rfl, hb3⟩; have hltg : W.heap.size < w3.heap.size := Nat.lt_of_lt_of_le (blk_lt X2.out) hb3.size; have HB := Aside0.mk (step2 HB.out hb3); have X2 := Aside0.mk (blk_below X2.out hb3); clear hb3)
    | (go_at_call 41; go_must (refine (needs_calls _).mono ?_); rintro e w4 ⟨Bm, rfl, HM, hBm, hb4⟩; have XG := Aside0.mk (blk_below (blk_new w3 (needB k (.slice none 0 0) false false (.slice none 0 0))) hb4); have HB := Aside0.mk (step2 (below_alloc HB.out _) hb4); have X2 := Aside0.mk (blk_below (blk_alloc X2.out (needB k (.slice none 0 0) false false (.slice none 0 0))) hb4); obtain ⟨D, ho, hD⟩ := HM.out.out; have HO := Aside0.mk ho; have hDn := hD nm.data.toList; rw [HKN.out] at hDn; obtain ⟨hhas, v, hat, rfl⟩ := hDn; have HAT := Aside0.mk hat; have HHAS := Aside0.mk hhas; skip; clear hb4 ho hD hat hhas)
    | (at_lookup; go_must (refine wpList_lookup_own_ok _ rfl _ _ 76 rfl 9 74 (string_keyed Try.underlying9) Try.underlying76 heldR (zero74 _) (.held (.agg #[.nilFunc])) [] rfl Bm 46 D rfl HO.out _ _ rfl (WideMaps.keyOf_string_mk Try.underlying9 hnz) ?_); intro v' ps hv; rw [HAT.out] at hv; obtain rfl := held_inj hv; rw [HHAS.out]; clear hv)
    | (go_at_call 59; go_must (refine (AP.out w3.heap.size _  (blk_alloc XG.out _) ?hF).mono ?_); (case hF => exact Kd.F_mono (Kd.F_below HF.out (below_alloc HB.out _)) (fun q hq => Nat.lt_trans hq.2 hltg)); rintro e w5 ⟨rfl, HNA, HB5⟩; obtain ⟨va, ua, hga, hna, hnc⟩ := HNA.out.out; obtain ⟨A1, k1, rfl⟩ := Kd.N_slice hna; obtain ⟨A2, k2, rfl⟩ := Kd.N_slice hnc; have X5 := Aside0.mk ((HB5.out.block W.heap.size hltg).trans (blk_alloc X2.out _)); obtain ⟨y0, y1, y2, y3, y4, yf⟩ := cells5' hga; obtain ⟨x0, x1, x2, x3, x4, xf⟩ := cells5' X5.out; have HNA1 := Aside0.mk hna; have HNC1 := Aside0.mk hnc; clear hga hna hnc HNA))
  have hw4 := blk_lt X2.out
  refine bodyPost_ret (v := .tuple #[.agg #[.int .i64 k, .slice A1 ks.length k1, .bool false, .bool false, .slice A2 cs.length k2], .int .i64 0]) (by simp [results, Try.results22, go_sem, x0, x1, x2, x3, x4, y0, y1, y2, y3, y4]) rfl ⟨_, rfl, ⟨A1, k1, A2, k2, rfl, ?_, ?_, ?_, ?_⟩, ?_⟩
  · exact Kd.F_mono (five_F (Kd.N_F HNA1.out) (g := W.heap.size) (fun q hq => by simp at hq; omega) _ _ _ _ _) (fun q hq => by simp at hq; omega)
  · exact (Kd.N_reads' HNA1.out).2.1
  · exact Kd.F_mono (five_F (Kd.N_F HNC1.out) (g := W.heap.size) (fun q hq => by simp at hq; omega) _ _ _ _ _) (fun q hq => by simp at hq; omega)
  · exact (Kd.N_reads' HNC1.out).2.1
  · exact five_B ((below_alloc HB.out _).trans (HB5.out.mono (Nat.le_of_lt hltg))) (Nat.le_refl _) _ _ _ _ _

end Go.Proofs.Ytflnpgfddedahaa.U
