/- How an argument is opened: what reads as data is read as a Lean value, with its bounds. -/
import Derived.Test.YtbjhpmifjiibaaaT8
import Derived.ProofKit
import Derived.OpenShut
import Derived.ChangeOld
import Derived.SizedLaws
namespace Go.Proofs.Ytbjhpmifjiibaaa.T
open Go.RowKit Go.ChangeShapes Go.WideShapes Go.ChangeAt Go.Proofs.YtbjhpmifjiibaaaW.PrintWords
set_option linter.unusedVariables false
set_option linter.unusedSimpArgs false

section
variable {H : Type} {enc : TypeId × Value → H} {P : Program} {w : World} {base : Nat} {spare : Nat → Bool} {held : Bool}
/-- No string, slice or map of it takes more than the form's reach. -/
def Light (P : Program) (t : TypeId) (x : DataW H) : Prop := ∀ m ∈ x.weights P t, m ≤ reachBytes
/-- What reads at type t is read by d, and G is known of it. -/
def Opens (enc : TypeId × Value → H) (P : Program) (w : World) (base : Nat) (spare : Nat → Bool) (held : Bool) {α : Type} (t : TypeId) (d : Kd α) (G : α → Prop) : Prop :=
  ∀ fuel cs x, DataW.trod enc P w base spare held fuel t cs = some x → Light P t x.1 → ∃ a, d.K w a cs ∧ G a

theorem opens_string {t : TypeId} (ht : P.underlying t = some .string) : Opens enc P w base spare held t Kd.string (fun s => s.size ≤ reachBytes) := by
  intro fuel cs x h hl
  obtain ⟨s, rfl, rfl, hs⟩ := DataW.trod_string ht h
  refine ⟨s, rfl, ?_⟩
  have := hl s.data.toList.length (by simp [DataW.weights])
  rwa [Array.length_toList] at this
theorem opens_int {t : TypeId} {k : IntKind} (ht : P.underlying t = some (.int k)) : Opens enc P w base spare held t (Kd.int k) (fun n => (Lit.int k n).wf = true) := by
  intro fuel cs x h _
  obtain ⟨n, rfl, rfl, hn⟩ := DataW.trod_int ht h
  exact ⟨n, rfl, hn⟩
theorem opens_bool {t : TypeId} (ht : P.underlying t = some .bool) : Opens enc P w base spare held t Kd.bool (fun _ => True) := by
  intro fuel cs x h _
  obtain ⟨b, rfl, rfl⟩ := DataW.trod_bool ht h
  exact ⟨b, rfl, trivial⟩
theorem weights_all {e : TypeId} : ∀ {l : List (DataW H)} {x : DataW H} {m : Nat}, x ∈ l → m ∈ x.weights P e → m ∈ DataW.weightsAll P e l
  | y :: l, x, m, hx, hm => by
    simp only [DataW.weightsAll, List.mem_append]
    rcases List.mem_cons.1 hx with rfl | hx
    · exact .inl hm
    · exact .inr (weights_all hx hm)
theorem opens_slice {t e : TypeId} {α : Type} {d : Kd α} {G : α → Prop} (ht : P.underlying t = some (.slice e)) (hc : P.cellsOf e = d.sz) (he : Opens enc P w base spare held e d G) :
    Opens enc P w base spare held t (Kd.slice e d) (fun xs => xs.length * P.bytesOf e ≤ reachBytes ∧ ∀ x ∈ xs, G x) := by
  intro fuel cs x h hl
  rcases DataW.trod_slice ht h with ⟨rfl, rfl⟩ | ⟨a, len, cap, elems, rest, n, _, rfl, rfl, hb, hlc, hm, hlen, hel, hsp, hns⟩
  · exact ⟨[], ⟨none, 0, rfl, Nat.le_refl _, Kd.C_nil d w⟩, by simp, fun x hx => by simp at hx⟩
  · have each : ∀ j, j < len → ∃ y c, d.K w y c ∧ G y ∧ ∀ i u, c[i]? = some u → w.cell? (a.add (j * d.sz + i)) = some u := by
      intro j hj
      have h1 := hel j hj
      rw [hc, List.getElem?_eq_getElem (by omega), Option.bind_eq_some_iff] at h1
      obtain ⟨cs', hcs, hy⟩ := h1
      obtain ⟨y, hK, hG⟩ := he _ _ _ hy (fun m hm' => hl m (by
        simp only [DataW.weights, ht, List.mem_cons, List.mem_append]
        exact .inr (.inl (weights_all (List.mem_map.2 ⟨_, List.getElem_mem _, rfl⟩) hm'))))
      obtain ⟨_, hcl, hcell⟩ := World.cells?_some hcs
      refine ⟨y, cs', hK, hG, fun i u hu => ?_⟩
      have hi : i < d.sz := by
        have := (List.getElem?_eq_some_iff.1 hu).1
        omega
      have h2 := hcell i hi
      rw [hu] at h2
      rw [← h2, Addr.add_add]
    have hn : len ≤ 9223372036854775807 := by unfold maxLen at hm; omega
    have hG : (List.ofFn fun j : Fin len => Classical.choose (each j.1 j.2)).length = len := List.length_ofFn
    have get : ∀ (j : Nat) (y : α), (List.ofFn fun j : Fin len => Classical.choose (each j.1 j.2))[j]? = some y → ∃ c, d.K w y c ∧ G y ∧ ∀ i u, c[i]? = some u → w.cell? (a.add (j * d.sz + i)) = some u := by
      intro j y hy
      have hj : j < len := by
        have := (List.getElem?_eq_some_iff.1 hy).1
        rwa [List.length_ofFn] at this
      rw [List.getElem?_ofFn, dif_pos hj] at hy
      injection hy with hy
      subst hy
      exact Classical.choose_spec (each j hj)
    refine ⟨List.ofFn fun j : Fin len => Classical.choose (each j.1 j.2), ⟨some a, cap, by rw [hG], by rw [hG]; exact hlc, ⟨rfl, by rw [hG]; exact hn, fun _ => ⟨a, rfl, fun j y hy => ?_⟩⟩⟩, ?_, ?_⟩
    · obtain ⟨c, hK, _, hcell⟩ := get j y hy
      exact ⟨c, d.K_len hK, hK, hcell⟩
    · rw [hG]
      have h1 := hl ((elems.length + rest.length) * P.bytesOf e) (by simp [DataW.weights, ht])
      refine Nat.le_trans (Nat.mul_le_mul_right _ ?_) h1
      omega
    · intro y hy
      obtain ⟨j, hj⟩ := List.getElem?_of_mem hy
      obtain ⟨c, _, hGy, _⟩ := get j y hj
      exact hGy
/-- What an argument's weight is. -/
theorem light_arg {ts : List TypeId} {ds : List (DataW H)} (h : (DataW.weightsEach P ts ds).all (· ≤ reachBytes) = true) {j : Nat} {t : TypeId} {d : DataW H} (ht : ts[j]? = some t) (hd : ds[j]? = some d) : Light P t d := fun m hm => by
  have := List.all_eq_true.1 h _ (DataW.weights_mem_each ht hd m hm)
  simpa using this
/-- A slice that came in. -/
theorem open_F {t e : TypeId} {α : Type} {d : Kd α} {G : α → Prop} (ht : P.underlying t = some (.slice e)) (hc : P.cellsOf e = d.sz) (he : Opens enc P w base spare held e d G) (hh : Kd.Heap d) {v : Value} {x : DataW H} {ps : List MemPlace}
    (h : DataW.Trod enc P w base spare held t v x ps) (hl : Light P t x) (hv : v.cells = #[v]) :
    ∃ A n c xs, v = .slice A n c ∧ n ≤ c ∧ Kd.F d w (fun k => k < w.heap.size) A n xs ∧ n * P.bytesOf e ≤ reachBytes ∧ ∀ x ∈ xs, G x := by
  obtain ⟨fuel, hf⟩ := h
  obtain ⟨xs, ⟨A, c, hcs, hlc, hC⟩, hb, hG⟩ := opens_slice ht hc he _ _ _ hf hl
  rw [hv] at hcs
  injection hcs with hcs
  exact ⟨A, xs.length, c, xs, hcs, hlc, Kd.C_F hh hC, hb, hG⟩
end

end Go.Proofs.Ytbjhpmifjiibaaa.T
