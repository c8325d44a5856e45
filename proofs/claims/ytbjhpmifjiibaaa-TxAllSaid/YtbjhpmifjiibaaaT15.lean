/- How a transaction record that comes in is opened. -/
import Derived.Test.YtbjhpmifjiibaaaT9
import Derived.Lib.SmallJoins
namespace Go.Proofs.Ytbjhpmifjiibaaa.T
open Go.RowKit Go.ChangeShapes Go.WideShapes Go.ChangeAt Go.Proofs.YtbjhpmifjiibaaaW.PrintWords
set_option linter.unusedVariables false
set_option linter.unusedSimpArgs false

section
variable {H : Type} {enc : TypeId × Value → H} {w : World} {base : Nat} {spare : Nat → Bool} {held : Bool}
theorem light_field {P : Program} {t : TypeId} {fs : Array Field} {ds : List (DataW H)} (ht : P.underlying t = some (.struct fs)) (h : Light P t (.agg ds)) {j : Nat} {t' : TypeId} {d : DataW H} (hf : (fs.toList.map (·.type))[j]? = some t') (hd : ds[j]? = some d) : Light P t' d := fun m hm =>
  h m (by simp only [DataW.weights, ht]; exact DataW.weights_mem_each hf hd m hm)
theorem under36 : ∃ f0 f1, Try.prog.underlying 36 = some (.struct #[f0, f1]) ∧ f0.type = 9 ∧ f1.type = 3 ∧ f0.offset = 0 ∧ f1.offset = 1 := ⟨_, _, Try.underlying36, rfl, rfl, rfl, rfl⟩
theorem cells36 : Try.prog.cellsOf 36 = 2 := by kernel_rfl
theorem cells9 : Try.prog.cellsOf 9 = 1 := by kernel_rfl
theorem cells3 : Try.prog.cellsOf 3 = 1 := by kernel_rfl
theorem opens_seen : Opens enc Try.prog w base spare held 36 kSeen (fun x => x.key.size ≤ reachBytes ∧ (Lit.int .i64 x.n).wf = true) := by
  intro fuel cs x h hl
  obtain ⟨f0, f1, hu, t0, t1, o0, o1⟩ := under36
  obtain ⟨y0, y1, n, rfl, hlen, h0, h1⟩ := trod_struct2 hu h
  rw [t0, o0, cells9] at h0
  rw [t1, o1, cells3] at h1
  rw [cells36] at hlen
  have l0 : Light Try.prog 9 y0.1 := light_field hu hl (j := 0) (by simp [t0]) rfl
  have l1 : Light Try.prog 3 y1.1 := light_field hu hl (j := 1) (by simp [t1]) rfl
  obtain ⟨key, hk, hk2⟩ := opens_string Try.underlying9 _ _ _ h0 l0
  obtain ⟨num, hn, hn2⟩ := opens_int Try.underlying3 _ _ _ h1 l1
  match cs, hlen with
  | [a, b], _ =>
    refine ⟨⟨key, num⟩, ⟨[a], [b], rfl, ?_, ?_⟩, hk2, hn2⟩
    · simpa using hk
    · simpa using hn
abbrev GSeen (ss : List SeenD) : Prop := ∀ x ∈ ss, x.key.size ≤ reachBytes ∧ (Lit.int .i64 x.n).wf = true
theorem under26 : ∃ f0 f1 f2 f3, Try.prog.underlying 26 = some (.struct #[f0, f1, f2, f3]) ∧ Go.Deep.oneCellFields Try.prog #[f0, f1, f2, f3] = true ∧ f0.type = 4 ∧ f1.type = 4 ∧ f2.type = 22 ∧ f3.type = 24 := ⟨_, _, _, _, Try.underlying26, by kernel_rfl, rfl, rfl, rfl, rfl⟩
theorem cells26 : Try.prog.cellsOf 26 = 4 := by kernel_rfl
/-- A field that is a slice. -/
theorem field_F {t e : TypeId} {α : Type} {d : Kd α} {G : α → Prop} (ht : Try.prog.underlying t = some (.slice e)) (hc : Try.prog.cellsOf e = d.sz) (he : Opens enc Try.prog w base spare held e d G) (hh : Kd.Heap d) {v : Value} {fuel : Nat} {x : DataW H × List MemPlace}
    (h : DataW.trod enc Try.prog w base spare held fuel t [v] = some x) (hl : Light Try.prog t x.1) :
    ∃ A n c xs, v = .slice A n c ∧ n ≤ c ∧ Kd.F d w (fun k => k < w.heap.size) A n xs ∧ n * Try.prog.bytesOf e ≤ reachBytes ∧ ∀ x ∈ xs, G x := by
  obtain ⟨xs, ⟨A, c, hcs, hlc, hC⟩, hb, hG⟩ := opens_slice ht hc he _ _ _ h hl
  injection hcs with hcs _
  exact ⟨A, xs.length, c, xs, hcs, hlc, Kd.C_F hh hC, hb, hG⟩
theorem heap_seen : Kd.Heap kSeen := Kd.heap_iso _ (Kd.heap_pair Kd.heap_string (Kd.heap_int .i64))
theorem open_tx {r : Reach} {b0 : Nat} {v : Value} {d : DataW H} {p : List MemPlace} (hv : Value.okWide Try.prog w r b0 26 v) (h : DataW.Trod enc Try.prog w base spare held 26 v d p) (hl : Light Try.prog 26 d) :
    ∃ on bad Aq nq cq As ns cs qs ss, v = .agg #[.bool on, .bool bad, .slice Aq nq cq, .slice As ns cs] ∧ nq ≤ cq ∧ ns ≤ cs ∧ Kd.F kRows w (fun k => k < w.heap.size) Aq nq qs ∧ Kd.F kSeen w (fun k => k < w.heap.size) As ns ss ∧ GSeen ss := by
  obtain ⟨f0, f1, f2, f3, hu, hone, t0, t1, t2, t3⟩ := under26
  obtain ⟨v0, v1, v2, v3, y0, y1, y2, y3, n, rfl, rfl, _, h0, h1, h2, h3⟩ := Go.Joins.open_agg4 hu hone cells26 hv h
  rw [t0] at h0
  rw [t1] at h1
  rw [t2] at h2
  rw [t3] at h3
  obtain ⟨on, ho, _⟩ := DataW.trod_bool Try.underlying4 h0
  obtain ⟨bad, hb, _⟩ := DataW.trod_bool Try.underlying4 h1
  obtain ⟨Aq, nq, cq, qs, rfl, hcq, hq, _, _⟩ := field_F Try.underlying22 (by kernel_rfl) (opens_slice Try.underlying30 (by kernel_rfl) (opens_string Try.underlying9)) (Kd.heap_slice 9 Kd.heap_string) h2 (light_field hu hl (j := 2) (by simp [t2]) rfl)
  obtain ⟨As, ns, cs, ss, rfl, hcs, hs, _, hg⟩ := field_F Try.underlying24 (by kernel_rfl) opens_seen heap_seen h3 (light_field hu hl (j := 3) (by simp [t3]) rfl)
  injection ho with ho
  injection hb with hb
  subst ho
  subst hb
  exact ⟨on, bad, Aq, nq, cq, As, ns, cs, qs, ss, rfl, hcq, hcs, hq, hs, hg⟩
end
end Go.Proofs.Ytbjhpmifjiibaaa.T
