/- How a case (a key, a number, words, keys seen) that comes in is opened. -/
import Derived.Test.YtbjhpmifjiibaaaT15
namespace Go.Proofs.Ytbjhpmifjiibaaa.T
open Go.RowKit Go.ChangeShapes Go.WideShapes Go.ChangeAt Go.Proofs.YtbjhpmifjiibaaaW.PrintWords
set_option linter.unusedVariables false
set_option linter.unusedSimpArgs false
section
variable {H : Type} {enc : TypeId × Value → H} {w : World} {base : Nat} {spare : Nat → Bool} {held : Bool}
theorem under41 : ∃ f0 f1 f2 f3, Try.prog.underlying 41 = some (.struct #[f0, f1, f2, f3]) ∧ Go.Deep.oneCellFields Try.prog #[f0, f1, f2, f3] = true ∧ f0.type = 9 ∧ f1.type = 3 ∧ f2.type = 30 ∧ f3.type = 24 := ⟨_, _, _, _, Try.underlying41, by kernel_rfl, rfl, rfl, rfl, rfl⟩
theorem cells41 : Try.prog.cellsOf 41 = 4 := by kernel_rfl
theorem open_case {r : Reach} {b0 : Nat} {v : Value} {d : DataW H} {p : List MemPlace} (hv : Value.okWide Try.prog w r b0 41 v) (h : DataW.Trod enc Try.prog w base spare held 41 v d p) (hl : Light Try.prog 41 d) :
    ∃ key n Aa na ca An nn cn xs now, v = .agg #[.string key, .int .i64 n, .slice Aa na ca, .slice An nn cn] ∧ na ≤ ca ∧ nn ≤ cn ∧ Kd.F Kd.string w (fun k => k < w.heap.size) Aa na xs ∧ Kd.F kSeen w (fun k => k < w.heap.size) An nn now ∧ GSeen now := by
  obtain ⟨f0, f1, f2, f3, hu, hone, t0, t1, t2, t3⟩ := under41
  obtain ⟨v0, v1, v2, v3, y0, y1, y2, y3, n, rfl, rfl, _, h0, h1, h2, h3⟩ := Go.Joins.open_agg4 hu hone cells41 hv h
  rw [t0] at h0
  rw [t1] at h1
  rw [t2] at h2
  rw [t3] at h3
  obtain ⟨key, hk, _⟩ := DataW.trod_string Try.underlying9 h0
  obtain ⟨num, hn, _⟩ := DataW.trod_int Try.underlying3 h1
  obtain ⟨Aa, na, ca, xs, rfl, hca, ha, _, _⟩ := field_F Try.underlying30 (by kernel_rfl) (opens_string Try.underlying9) Kd.heap_string h2 (light_field hu hl (j := 2) (by simp [t2]) rfl)
  obtain ⟨An, nn, cn, now, rfl, hcn, hs, _, hg⟩ := field_F Try.underlying24 (by kernel_rfl) opens_seen heap_seen h3 (light_field hu hl (j := 3) (by simp [t3]) rfl)
  injection hk with hk
  injection hn with hn
  subst hk
  subst hn
  exact ⟨key, num, Aa, na, ca, An, nn, cn, xs, now, rfl, hca, hcn, ha, hs, hg⟩
end
end Go.Proofs.Ytbjhpmifjiibaaa.T
