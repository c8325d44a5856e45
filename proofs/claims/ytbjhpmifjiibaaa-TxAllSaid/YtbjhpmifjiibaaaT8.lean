/- The statement TxOrder, walked: whatever requests come, the call tells true. -/
import Derived.Test.YtbjhpmifjiibaaaT7
import Derived.Deep.RegionHeld3
namespace Go.Proofs.Ytbjhpmifjiibaaa.T
open Go.RowKit Go.Maps Go.Proofs.YtbjhpmifjiibaaaW.PrintWords Go.Proofs.YtbjhpmifjiibaaaW.PrintLast Go.Proofs.YtbjhpmifjiibaaaW.PrintMore
attribute [local go_sem] max2_int min2_int max_two min_two max_three min_three
set_option linter.unusedVariables false
set_option linter.unusedSimpArgs false

/-- A block of four cells, written whole. -/
theorem four_set {W : World} {g : Nat} {t : TypeId} {a b c d : Value} (h : W.heap[g]? = some (.cells #[a, b, c, d] t (0, 0))) (a' b' c' d' : Value) :
    ((((W.setCell ⟨g, 0, none⟩ a').setCell ⟨g, 1, none⟩ b').setCell ⟨g, 2, none⟩ c').setCell ⟨g, 3, none⟩ d').heap[g]? = some (.cells #[a', b', c', d'] t (0, 0)) :=
  (blk_set (blk_set (blk_set (blk_set h 0 a') 1 b') 2 c') 3 d').trans rfl
theorem four_F {α : Type} {d : Kd α} {W : World} {ok : Nat → Prop} {A : Option Addr} {n : Nat} {xs : List α} (h : Kd.F d W ok A n xs) {g : Nat} (hg : ∀ k, ok k → k ≠ g) (a' b' c' d' : Value) :
    Kd.F d ((((W.setCell ⟨g, 0, none⟩ a').setCell ⟨g, 1, none⟩ b').setCell ⟨g, 2, none⟩ c').setCell ⟨g, 3, none⟩ d') ok A n xs :=
  Kd.F_far (p := ⟨g, 3, none⟩) (Kd.F_far (p := ⟨g, 2, none⟩) (Kd.F_far (p := ⟨g, 1, none⟩) (Kd.F_far (p := ⟨g, 0, none⟩) h hg a') hg b') hg c') hg d'
theorem four_B {B : Nat} {w W : World} (h : Below B w W) {g : Nat} (hg : B ≤ g) (a' b' c' d' : Value) :
    Below B w ((((W.setCell ⟨g, 0, none⟩ a').setCell ⟨g, 1, none⟩ b').setCell ⟨g, 2, none⟩ c').setCell ⟨g, 3, none⟩ d') :=
  (((h.setCell (p := ⟨g, 0, none⟩) hg a').setCell (p := ⟨g, 1, none⟩) hg b').setCell (p := ⟨g, 2, none⟩) hg c').setCell (p := ⟨g, 3, none⟩) hg d'
theorem take_six {α : Type} {l : List α} {p : Nat} (hp : (if (6 : Int) < (l.length : Int) then (6 : Int) else (l.length : Int)) = (p : Int)) : l.take 6 = l.take p := by
  split at hp
  · have : p = 6 := by omega
    rw [this]
  · have : p = l.length := by omega
    rw [this, List.take_of_length_le (by omega), List.take_of_length_le (Nat.le_refl _)]
theorem field_bad : ∀ W : World, (Instr.field 26 (tx false false none 0 0 none 0 0) 1).run Try.prog W = .ok (.bool false) W := fun W => by kernel_rfl
/-- An empty row of the call's own. -/
theorem N_empty {α : Type} (d : Kd α) {e base b : Nat} {ok : Nat → Prop} {W : World} (h : W.heap[b]? = some (.cells #[] e (0, 0))) (hb : base ≤ b) (hok : ok b) : d.N e W base ok (.slice (some ⟨b, 0, none⟩) 0 0) [] :=
  ⟨fun k hk => by simp [Value.ownBlock] at hk; subst hk; exact hok, [], rfl, ⟨fun k hk => hk.symm, [], ⟨by simp, .inr ⟨b, 0, #[], rfl, hb, h, Nat.le_refl _, Nat.zero_le _, by simp, by simp⟩⟩, Reps.none _ _⟩, fun j x c hx => by simp at hx⟩

theorem gate_step {P : Program} {ops : Array Oper} {o : Oper} {a : Act} {Q : Exit → Act → World → Prop} {Kc : Act → World → Prop} {W : World} {N : Tmp} (_h : o.dst = some N)
    (h : if Region.wanted o (yielded ops a.tmps) = true then Oper.wp P o a W Kc Q else Kc (a.put o.dst undef) W) : if Region.wanted o (yielded ops a.tmps) = true then Oper.wp P o a W Kc Q else Kc (a.put o.dst undef) W := h
theorem rows_at {w : World} {ok : Nat → Prop} {A : Option Addr} {n : Nat} {xs : List (List ByteArray)} (h : Kd.F kRows w ok A n xs) (k : Nat) (hk : k < n) :
    ∃ (ad : Addr) (hl : k < xs.length) (A' : Option Addr) (c' : Nat), A = some ad ∧ w.cell? (ad.add k) = some (.slice A' xs[k].length c') ∧ xs[k].length ≤ c' ∧ Kd.F Kd.string w ok A' xs[k].length xs[k] := by
  have hn := Kd.F_len h
  have hl : k < xs.length := by omega
  obtain ⟨ad, c, e, _, hf, hc0, _⟩ := Kd.F_get h ([] : List ByteArray) (k : Int) (by omega) (by omega)
  have hc : ∀ j u, c[j]? = some u → w.cell? (ad.add (k * 1 + j)) = some u := hc0
  rw [Int.toNat_natCast, List.getD_eq_getElem?_getD, List.getElem?_eq_getElem hl, Option.getD_some] at hf
  obtain ⟨A', c', rfl, h1, h2⟩ := Kd.FK_slice_open hf
  exact ⟨ad, hl, A', c', e, by simpa using hc 0 _ rfl, h1, h2⟩

set_option maxHeartbeats 2000000 in
set_option maxRecDepth 100000 in
theorem order_calls (A : Option Addr) (n c : Nat) (okl : Nat → Prop) (ls : List (List ByteArray)) (w : World) (h : Kd.F kRows w okl A n ls) (hz : ∀ r ∈ ls, ∀ s ∈ r, s.size + 1 ≤ 9223372036854775807) :
    Calls Try.prog 3 #[.slice A n c] w fun e w' => e = .returned (.bool true) ∧ Below w.heap.size w w' := by
  have HL := Aside0.mk h
  have HN := Aside0.mk (Kd.F_len h)
  have hmax := Kd.F_max h
  have HZ := Aside0.mk hz
  clear h hz
  obtain ⟨m, hm⟩ : ∃ m : Nat, (if (12 : Int) < (n : Int) then (12 : Int) else (n : Int)) = (m : Int) := ⟨min n 12, by split <;> omega⟩
  have hm1 : m ≤ 12 := by split at hm <;> omega
  have hm2 : m ≤ n := by split at hm <;> omega
  go_enter Try.func3, Try.ntmps3
  go_wp2_with (first | (go_at_call 7; refine (shown_calls _).mono ?_; rintro e w1 ⟨rfl, hb1⟩; have HB1 := Aside0.mk hb1; clear hb1) | (go_at_call 8; refine (begin_calls false false none 0 0 none 0 0 _).mono ?_; rintro e w2 ⟨rfl, hb2⟩; have HB2 := Aside0.mk (step2 HB1.out hb2); clear hb2) | (go_at_call 9; refine (queue_off false none 0 0 none 0 0 none 0 0 _).mono ?_; rintro e w3 ⟨rfl, hb3⟩; have X3 := Aside0.mk (blk_below (blk_new w2 _) hb3); have hz3 : w2.heap.size < w3.heap.size := blk_lt X3.out; have HB3 := Aside0.mk (step2 (below_alloc HB2.out _) hb3); clear hb3))
  have hwg : w.heap.size ≤ w2.heap.size := HB2.out.size
  have HB4 := Aside0.mk (below_alloc HB3.out (.cells #[.bool false, .bool false, .slice none 0 0, .slice none 0 0] 26))
  have X4 := Aside0.mk (blk_alloc X3.out (.cells #[.bool false, .bool false, .slice none 0 0, .slice none 0 0] 26))
  clear HB1 HB2 HB3 X3
  generalize w2.heap.size = g at *
  generalize w3.alloc (.cells #[.bool false, .bool false, .slice none 0 0, .slice none 0 0] 26) = w4 at *
  go_loopw [9] (fun i wr => ∃ (k : Nat) (Aq : Option Addr) (cq : Nat), k ≤ m ∧ i = .int .i64 k ∧ g < wr.heap.size ∧ Aside0 (Below w.heap.size w wr) ∧ Aside0 (wr.heap[g]? = some (.cells #[.bool true, .bool false, .slice Aq k cq, .slice none 0 0] 26 (0, 0))) ∧ Aside0 (Kd.F kRows wr (fun b => g < b ∧ b < wr.heap.size) Aq k ((ls.take k).map (·.take 6)))) (fun i _ => m - (intOf i).toNat)
  case atStart => exact ⟨0, none, 0, Nat.zero_le _, rfl, blk_lt X4.out, HB4, X4, ⟨Kd.F_nil _ _ _⟩⟩
  case round =>
    obtain ⟨k, Aq, cq, hkm, rfl, hgr, HB, HX, HQ⟩ := hrel
    by_cases hlt : k < m
    · obtain ⟨ad, hl, Ar, cr, rfl, hc0, hcr, hF⟩ := rows_at (Kd.F_below HL.out HB.out) k (by omega)
      have hrz := HZ.out _ (List.getElem_mem hl)
      obtain ⟨row, hrow⟩ : ∃ row, row = ls[k] := ⟨_, rfl⟩
      rw [← hrow] at hc0 hcr hF hrz
      have HROW := Aside0.mk hrow
      have HF := Aside0.mk hF
      have HRZ := Aside0.mk hrz
      clear hrow hF hrz
      obtain ⟨p, hp⟩ : ∃ p : Nat, (if (6 : Int) < (row.length : Int) then (6 : Int) else (row.length : Int)) = (p : Int) := ⟨min row.length 6, by split <;> omega⟩
      have hp1 : p ≤ 6 := by split at hp <;> omega
      have hp2 : p ≤ row.length := by split at hp <;> omega
      have hp3 : p ≤ cr := by omega
      have hkn : (k : Int) < (n : Int) := by omega
      have hk0 : (0 : Int) ≤ (k : Int) := by omega
      go_upto_region 10 with fail
      have FT : ∀ W, Below wr.heap.size wr W → Kd.F Kd.string W (fun b => okl b ∧ b < wr.heap.size) Ar p (row.take p) := fun W hb => by
        have h1 := Kd.F_take HF.out hp2
        rw [List.length_take, Nat.min_eq_left hp2] at h1
        exact Kd.F_old h1 hb
      have S0 : wr.cell? (ad.add k) = some (.slice Ar row.length cr) := hc0
      go_cut [10] (fun v W => ∃ (A6 : Option Addr) (c6 : Nat), v = .slice A6 p c6 ∧ Aside0 (Kd.N Kd.string 9 W wr.heap.size (fun b => wr.heap.size ≤ b) (.slice A6 p c6) (row.take p)) ∧ Aside0 (Below wr.heap.size wr W))
      case first =>
       go_region_held3 (fun W => W.cell? (ad.add k) = some (.slice Ar row.length cr))
        (first | exact S0 | exact pw_cell_below hb6 S0 | go_keep)
        (first | ((with_reducible refine gate_step (N := 59) rfl ?_); go_loud (refine Kd.N_append_rows_step Kd.string (w0 := wr) wr.heap.size ?hw (.tmp 47) (.tmp 58) 30 9 (.string ⟨#[]⟩) 16 rfl Try.underlying30 info9 rfl (Nat.le_refl _) (Nat.le_add_left _ _) _ [] (row.take p) Ar p cr (fun b => okl b ∨ wr.heap.size ≤ b) (fun b => okl b ∧ b < wr.heap.size) rfl rfl ?hN ?hF ?hokp ?hfresh ?hB ?hbase ?hl ?_); (case hw => rfl); (case hN => exact N_empty Kd.string (blk_new wr _) (Nat.le_refl _) (.inr (Nat.le_refl _))); (case hF => exact FT _ (by first | exact below_alloc (Below.refl _ _) _ | exact (below_alloc (Below.refl _ _) _).drew)); (case hokp => exact fun b hb => ⟨.inl hb.1, ne_own (B := wr.heap.size) hb.2 (fun j hj => by injection hj with hj; exact Nat.le_of_eq hj)⟩); (case hfresh => exact fun b hb => .inr (by simp at hb; omega)); (case hB => first | exact below_alloc (Below.refl _ _) _ | exact (below_alloc (Below.refl _ _) _).drew); (case hbase => simp); (case hl => simp; omega); intro v6 w6 hN6 hb6 _ _))
       all_goals
         go_wp2_with fail
         go_meet
         have h6 := N_flat flat_string hN6 (Kd.N_base hN6)
         obtain ⟨A6, c6, e6⟩ := Kd.N_slice h6
         subst e6
         have hl6 : ([] ++ row.take p).length = p := by simp [hp2]
         rw [hl6] at h6
         exact ⟨A6, c6, by rw [hl6], ⟨h6⟩, ⟨hb6⟩⟩
      case rest =>
       obtain ⟨A6, c6, rfl, HN6, HB6⟩ := hcut
       have hgc : g < wc.heap.size := Nat.lt_of_lt_of_le hgr HB6.out.size
       have X6 := Aside0.mk (blk_below HX.out HB6.out)
       obtain ⟨x0, x1, x2, x3, xf⟩ := cells4 X6.out
       have hk24 : (k + 1) * 24 ≤ 140737488355328 := by omega
       have hp16 : p * 16 ≤ 140737488355328 := by omega
       go_wp2_with (go_at_call 9; go_must (refine (queue_on false Aq k cq none 0 0 A6 p c6 _ _ _ _ _ (Kd.F_below HQ.out HB6.out) (Kd.N_F HN6.out) hk24 hp16).mono ?_); rintro e w7 ⟨A7, c7, rfl, HF7, _, hb7⟩; have HB7 := Aside0.mk hb7; clear hb7)
       have hb8 := step2 HB7.out (below_alloc (Below.refl _ _) (.cells #[.bool true, .bool false, .slice A7 (k + 1) c7, .slice none 0 0] 26))
       have U8 := Aside0.mk (blk_new w7 (.cells #[.bool true, .bool false, .slice A7 (k + 1) c7, .slice none 0 0] 26))
       have F8 := Aside0.mk (Kd.F_alloc (Kd.F_bound HF7.out) (.cells #[.bool true, .bool false, .slice A7 (k + 1) c7, .slice none 0 0] 26))
       have HB8 := Aside0.mk hb8
       have hcw7 : wc.heap.size ≤ w7.heap.size := HB7.out.size
       have hp0 : (row.take p).length = p := by rw [List.length_take, Nat.min_eq_left hp2]
       have HP0 := Aside0.mk hp0
       clear hb8 hp0 HF7 x0 x1 x2 x3 xf
       generalize w7.alloc (.cells #[.bool true, .bool false, .slice A7 (k + 1) c7, .slice none 0 0] 26) = w8 at *
       obtain ⟨gw, hgw⟩ : ∃ gw, 0 < p → A6 = some ⟨gw, 0, none⟩ ∧ wr.heap.size ≤ gw ∧ gw < wc.heap.size ∧ ∃ cells, wc.heap[gw]? = some (.cells cells 9 (0, 0)) := by
         by_cases h0 : 0 < p
         · obtain ⟨gw, cap, hv, h1, h2, h3⟩ := Kd.N_form HN6.out (by have := HP0.out; omega)
           injection hv with hv1
           exact ⟨gw, fun _ => ⟨hv1, h1, h2, h3⟩⟩
         · exact ⟨0, fun h => absurd h h0⟩
       have HGW := Aside0.mk hgw
       clear hgw
       obtain ⟨wo, rfl⟩ : ∃ wo : World, wo = wr := ⟨_, rfl⟩
       go_loopw [13] (fun v wi => ∃ j : Nat, j ≤ p ∧ v = .int .i64 j ∧ w7.heap.size < wi.heap.size ∧ Aside0 (Below w.heap.size w wi) ∧ Aside0 (wi.heap[g]? = some (.cells #[.bool true, .bool false, .slice Aq k cq, .slice none 0 0] 26 (0, 0))) ∧ Aside0 (wi.heap[w7.heap.size]? = some (.cells #[.bool true, .bool false, .slice A7 (k + 1) c7, .slice none 0 0] 26 (0, 0))) ∧ Aside0 (Kd.F kRows wi (fun b => ((g < b ∧ b < wo.heap.size) ∨ wc.heap.size ≤ b) ∧ b < w7.heap.size) A7 (k + 1) ((ls.take k).map (·.take 6) ++ [row.take p])) ∧ Aside0 (∀ j', j ≤ j' → ∀ h : j' < (row.take p).length, wi.cell? ⟨gw, j', none⟩ = some (.string (row.take p)[j']) ∧ wi.frozen? ⟨gw, j', none⟩ = false)) (fun v _ => p - (intOf v).toNat)
       case atStart => exact ⟨0, Nat.zero_le _, rfl, blk_lt U8.out, ⟨step2 HB.out (step2 HB6.out HB8.out)⟩, ⟨blk_below X6.out HB8.out⟩, U8, F8, ⟨fun j' _ h => by
         have h0 : 0 < p := by have := HP0.out; omega
         obtain ⟨rfl, h1, h2, cells, h3⟩ := HGW.out h0
         obtain ⟨ad, hl', e, hc⟩ := text_at (Kd.F_below (Kd.N_F HN6.out) HB8.out) j' (by have := HP0.out; omega)
         injection e with e
         subst e
         exact ⟨by simpa [add_plain] using hc, blk_frozen (blk_below h3 HB8.out) j'⟩⟩⟩
       case round =>
         obtain ⟨j, hjp, rfl, hzi, HBi, HXi, HUi, HFi, HCi⟩ := hrel
         by_cases hjlt : j < p
         · have hjl : j < (row.take p).length := by have := HP0.out; omega
           obtain ⟨hcj, hfj⟩ := HCi.out j (Nat.le_refl _) hjl
           obtain ⟨eA, hg1, hg2, _⟩ := HGW.out (by omega)
           subst eA
           obtain ⟨s, hs⟩ : ∃ s, s = (row.take p)[j] := ⟨_, rfl⟩
           rw [← hs] at hcj
           have hsz : s.size + 1 ≤ 9223372036854775807 := HRZ.out s (by rw [hs]; exact List.mem_of_mem_take (List.getElem_mem hjl))
           clear hs
           go_wp2_with fail
           go_roundw
           case rel => exact ⟨j + 1, by omega, by go_num, by simpa using hzi, ⟨HBi.out.setCell (p := ⟨gw, j, none⟩) (show w.heap.size ≤ gw by have := HB.out.size; omega) _⟩, ⟨blk_far HXi.out (by show g ≠ gw; omega) _⟩, ⟨blk_far HUi.out (by show w7.heap.size ≠ gw; omega) _⟩, ⟨Kd.F_far HFi.out (fun b hb => by show b ≠ gw; omega) _⟩, ⟨fun j' hj' h => by
             obtain ⟨h1, h2⟩ := HCi.out j' (by omega) h
             refine ⟨?_, by simpa using h2⟩
             rw [World.cell?_setCell_other]
             · exact h1
             · simp <;> omega⟩⟩
           case measure => simp [intOf]; omega
         · obtain ⟨x0, x1, x2, x3, xf⟩ := cells4 HXi.out
           obtain ⟨y0, y1, y2, y3, yf⟩ := cells4 HUi.out
           have hgi : g < wr.heap.size := by omega
           go_wp2_with (go_at_call 8; go_must (refine (begin_calls true false A7 (k + 1) c7 none 0 0 _).mono ?_); rintro e w9 ⟨rfl, hb9⟩; have HB9 := Aside0.mk hb9; clear hb9)
           go_roundw
           case rel => exact ⟨k + 1, A7, c7, by omega, by go_num, Nat.lt_of_lt_of_le (by simpa using hgi) (Nat.le_trans HB9.out.size (by simp)), ⟨below_alloc (step2 (four_B HBi.out hwg _ _ _ _) HB9.out) _⟩, ⟨blk_alloc (blk_below (four_set HXi.out _ _ _ _) HB9.out) _⟩, ⟨by
             have h1 := Kd.F_alloc (Kd.F_below (four_F HFi.out (g := g) (fun b hb => by omega) (.bool true) (.bool false) (.slice A7 (k + 1) c7) (.slice none 0 0)) HB9.out) (.cells #[.bool true, .bool false, .slice A7 (k + 1) c7, .slice none 0 0] 26)
             rw [take_snoc ls k hl, List.map_append, List.map_cons, List.map_nil]
             have hr6 : ls[k].take 6 = row.take p := by rw [← HROW.out]; exact take_six hp
             rw [hr6]
             exact Kd.F_mono h1 (fun b hb => ⟨by omega, by have := HB9.out.size; simp at this ⊢; omega⟩)⟩⟩
           case measure => simp [intOf]; omega
    · have hkm' : k = m := by omega
      subst hkm'
      obtain ⟨L, hL⟩ : ∃ L, L = (ls.take k).map (·.take 6) := ⟨_, rfl⟩
      rw [← hL] at HQ
      have HLL := Aside0.mk hL
      clear hL
      obtain ⟨wo, rfl⟩ : ∃ wo : World, wo = wr := ⟨_, rfl⟩
      go_wp2_with fail
      go_loopw [16] (fun i wi => ∃ j : Nat, j ≤ k ∧ i = .int .i64 j ∧ Aside0 (∃ q, wi = wo.drewN q)) (fun i _ => k - (intOf i).toNat)
      case atStart => exact ⟨0, Nat.zero_le _, rfl, ⟨0, rfl⟩⟩
      case round =>
        obtain ⟨j, hjk, rfl, HW⟩ := hrel
        have HBr : Aside0 (Below w.heap.size w wr) := ⟨by obtain ⟨q, hq⟩ := HW.out; rw [hq]; exact pw_below_drewN HB.out q⟩
        have HXr : Aside0 (wr.heap[g]? = some (.cells #[.bool true, .bool false, .slice Aq k cq, .slice none 0 0] 26 (0, 0))) := ⟨by obtain ⟨q, hq⟩ := HW.out; rw [hq]; exact HX.out⟩
        have HQr : Aside0 (Kd.F kRows wr (fun b => g < b ∧ b < wo.heap.size) Aq k L) := ⟨by obtain ⟨q, hq⟩ := HW.out; rw [hq]; exact Kd.F_drewN HQ.out q⟩
        by_cases hlt : j < k
        · obtain ⟨ad, hl, Ar, cr, rfl, hc0, hcr, hF⟩ := rows_at (Kd.F_below HL.out HBr.out) j (by omega)
          obtain ⟨bd, hl2, Br, dr, rfl, hd0, hdr, hG⟩ := rows_at HQr.out j hlt
          obtain ⟨x0, x1, x2, x3, xf⟩ := cells4 HXr.out
          obtain ⟨row, hrow⟩ : ∃ row, row = ls[j] := ⟨_, rfl⟩
          obtain ⟨own, hown⟩ : ∃ own, own = L[j] := ⟨_, rfl⟩
          rw [← hrow] at hc0 hcr hF
          rw [← hown] at hd0 hdr hG
          obtain ⟨p, hp⟩ : ∃ p : Nat, (if (6 : Int) < (row.length : Int) then (6 : Int) else (row.length : Int)) = (p : Int) := ⟨min row.length 6, by split <;> omega⟩
          have hsame : own = row.take p := by
            rw [hown, ← take_six hp, hrow]
            simp [HLL.out]
          have hp1 : p ≤ 6 := by split at hp <;> omega
          have hp2 : p ≤ row.length := by split at hp <;> omega
          have hp3 : p ≤ cr := by omega
          have hkn : (j : Int) < (n : Int) := by omega
          have hk0 : (0 : Int) ≤ (j : Int) := by omega
          have hjk' : (j : Int) < (k : Int) := by omega
          have FT : Kd.F Kd.string wr okl Ar p (row.take p) := by
            have h1 := Kd.F_take hF hp2
            rwa [List.length_take, Nat.min_eq_left hp2] at h1
          have HT : Aside0 (∀ q, Calls Try.prog 10 #[.slice Br own.length dr, .slice Ar p cr] (wr.drewN q) fun e w' => e = .returned (.bool true) ∧ ∃ m, w' = (wr.drewN q).drewN m) := ⟨fun q => by
            have h := texts_calls Br Ar own.length dr p cr _ _ _ _ (wr.drewN q) (Kd.F_drewN hG q) (Kd.F_drewN FT q)
            rw [hsame, same_self] at h
            rw [hsame]
            exact h⟩
          clear FT hF hG hsame hrow hown HL HQ HQr
          go_wp2_with fail
          go_quiet ((go_at_call 10; exact Calls.quiet_of (HT.out _)))
          go_wp2_with fail
          go_roundw
          case rel => exact ⟨j + 1, by omega, by go_num, ⟨by obtain ⟨q, hq⟩ := HW.out; rw [hq, World.drewN_drewN]; exact ⟨_, rfl⟩⟩⟩
          case measure => simp [intOf]; omega
        · obtain ⟨x0, x1, x2, x3, xf⟩ := cells4 HXr.out
          have hfield := field_bad
          go_wp2_with (first | (go_at_call_of 11 (Value.agg #[.bool true, .bool false, .slice Aq k cq, .slice none 0 0]); go_must (refine (spoil_calls true false Aq k cq none 0 0 _).mono ?_); rintro e w5 ⟨rfl, hb5⟩; have HB5 := Aside0.mk (step2 HBr.out hb5); clear hb5) | (go_at_call 11; go_must (refine (spoil_calls false false none 0 0 none 0 0 _).mono ?_); rintro e w6 ⟨rfl, hb6⟩; have HB6 := Aside0.mk (step2 (below_alloc HB5.out _) hb6); clear hb6))
          go_ret
          exact ⟨rfl, HB6.out⟩

end Go.Proofs.Ytbjhpmifjiibaaa.T
