/- How an argument is opened: what reads as data is read as a Lean value, with its bounds. -/
import Derived.Test.YtflnpgfddedahaaC4
import Derived.ProofKit
import Derived.OpenShut
import Derived.ChangeOld
import Derived.SizedLaws
namespace Go.Proofs.Ytflnpgfddedahaa.U
open Go.RowKit Go.ChangeShapes Go.WideShapes Go.ChangeAt Go.Proofs.YtflnpgfddedahaaW.PrintWords
set_option linter.unusedVariables false
set_option linter.unusedSimpArgs false

section
variable {H : Type} {enc : TypeId × Value → H} {P : Program} {w : World} {base : Nat} {spare : Nat → Bool} {held : Bool}
/-- No string, slice or map of it takes more than the form's reach. -/
def Light (P : Program) (t : TypeId) (x : DataW H) : Prop := ∀ m ∈ x.weights P t, m ≤ reachBytes
/-- What reads at type t is read by d, and G is known of it. -/
def Opens (enc : TypeId × Value → H) (P : Program) (w : World) (base : Nat) (spare : Nat → Bool) (held : Bool) {α : Type} (t : TypeId) (d : Kd α) (G : α → Prop) : Prop :=
  ∀ fuel cs x, DataW.trod enc P w base spare held fuel t cs = some x → Light P t x.1 → ∃ a, d.K w a cs ∧ G a

theorem opens_string {t : TypeId} (ht : P.underlying t = some .string) : Opens enc P w base spare held t Kd.string (fun s => s.size ≤ reachBytes) := by
  intro fuel cs x h hl
  obtain ⟨s, rfl, rfl, hs⟩ := DataW.trod_string ht h
  refine ⟨s, rfl, ?_⟩
  have := hl s.data.toList.length (by simp [DataW.weights])
  rwa [Array.length_toList] at this
theorem opens_int {t : TypeId} {k : IntKind} (ht : P.underlying t = some (.int k)) : Opens enc P w base spare held t (Kd.int k) (fun n => (Lit.int k n).wf = true) := by
  intro fuel cs x h _
  obtain ⟨n, rfl, rfl, hn⟩ := DataW.trod_int ht h
  exact ⟨n, rfl, hn⟩
theorem opens_bool {t : TypeId} (ht : P.underlying t = some .bool) : Opens enc P w base spare held t Kd.bool (fun _ => True) := by
  intro fuel cs x h _
  obtain ⟨b, rfl, rfl⟩ := DataW.trod_bool ht h
  exact ⟨b, rfl, trivial⟩
theorem weights_all {e : TypeId} : ∀ {l : List (DataW H)} {x : DataW H} {m : Nat}, x ∈ l → m ∈ x.weights P e → m ∈ DataW.weightsAll P e l
  | y :: l, x, m, hx, hm => by
    simp only [DataW.weightsAll, List.mem_append]
    rcases List.mem_cons.1 hx with rfl | hx
    · exact .inl hm
    · exact .inr (weights_all hx hm)
theorem opens_slice {t e : TypeId} {α : Type} {d : Kd α} {G : α → Prop} (ht : P.underlying t = some (.slice e)) (hc : P.cellsOf e = d.sz) (he : Opens enc P w base spare held e d G) :
    Opens enc P w base spare held t (Kd.slice e d) (fun xs => xs.length * P.bytesOf e ≤ reachBytes ∧ ∀ x ∈ xs, G x) := by
  intro fuel cs x h hl
  rcases DataW.trod_slice ht h with ⟨rfl, rfl⟩ | ⟨a, len, cap, elems, rest, n, _, rfl, rfl, hb, hlc, hm, hlen, hel, hsp, hns⟩
  · exact ⟨[], ⟨none, 0, rfl, Nat.le_refl _, Kd.C_nil d w⟩, by simp, fun x hx => by simp at hx⟩
  · have each : ∀ j, j < len → ∃ y c, d.K w y c ∧ G y ∧ ∀ i u, c[i]? = some u → w.cell? (a.add (j * d.sz + i)) = some u := by
      intro j hj
      have h1 := hel j hj
      rw [hc, List.getElem?_eq_getElem (by omega), Option.bind_eq_some_iff] at h1
      obtain ⟨cs', hcs, hy⟩ := h1
      obtain ⟨y, hK, hG⟩ := he _ _ _ hy (fun m hm' => hl m (by
        simp only [DataW.weights, ht, List.mem_cons, List.mem_append]
        exact .inr (.inl (weights_all (List.mem_map.2 ⟨_, List.getElem_mem _, rfl⟩) hm'))))
      obtain ⟨_, hcl, hcell⟩ := World.cells?_some hcs
      refine ⟨y, cs', hK, hG, fun i u hu => ?_⟩
      have hi : i < d.sz := by
        have := (List.getElem?_eq_some_iff.1 hu).1
        omega
      have h2 := hcell i hi
      rw [hu] at h2
      rw [← h2, Addr.add_add]
    have hn : len ≤ 9223372036854775807 := by unfold maxLen at hm; omega
    have hG : (List.ofFn fun j : Fin len => Classical.choose (each j.1 j.2)).length = len := List.length_ofFn
    have get : ∀ (j : Nat) (y : α), (List.ofFn fun j : Fin len => Classical.choose (each j.1 j.2))[j]? = some y → ∃ c, d.K w y c ∧ G y ∧ ∀ i u, c[i]? = some u → w.cell? (a.add (j * d.sz + i)) = some u := by
      intro j y hy
      have hj : j < len := by
        have := (List.getElem?_eq_some_iff.1 hy).1
        rwa [List.length_ofFn] at this
      rw [List.getElem?_ofFn, dif_pos hj] at hy
      injection hy with hy
      subst hy
      exact Classical.choose_spec (each j hj)
    refine ⟨List.ofFn fun j : Fin len => Classical.choose (each j.1 j.2), ⟨some a, cap, by rw [hG], by rw [hG]; exact hlc, ⟨rfl, by rw [hG]; exact hn, fun _ => ⟨a, rfl, fun j y hy => ?_⟩⟩⟩, ?_, ?_⟩
    · obtain ⟨c, hK, _, hcell⟩ := get j y hy
      exact ⟨c, d.K_len hK, hK, hcell⟩
    · rw [hG]
      have h1 := hl ((elems.length + rest.length) * P.bytesOf e) (by simp [DataW.weights, ht])
      refine Nat.le_trans (Nat.mul_le_mul_right _ ?_) h1
      omega
    · intro y hy
      obtain ⟨j, hj⟩ := List.getElem?_of_mem hy
      obtain ⟨c, _, hGy, _⟩ := get j y hj
      exact hGy
/-- What an argument's weight is. -/
theorem light_arg {ts : List TypeId} {ds : List (DataW H)} (h : (DataW.weightsEach P ts ds).all (· ≤ reachBytes) = true) {j : Nat} {t : TypeId} {d : DataW H} (ht : ts[j]? = some t) (hd : ds[j]? = some d) : Light P t d := fun m hm => by
  have := List.all_eq_true.1 h _ (DataW.weights_mem_each ht hd m hm)
  simpa using this
/-- A slice that came in. -/
theorem open_F {t e : TypeId} {α : Type} {d : Kd α} {G : α → Prop} (ht : P.underlying t = some (.slice e)) (hc : P.cellsOf e = d.sz) (he : Opens enc P w base spare held e d G) (hh : Kd.Heap d) {v : Value} {x : DataW H} {ps : List MemPlace}
    (h : DataW.Trod enc P w base spare held t v x ps) (hl : Light P t x) (hv : v.cells = #[v]) :
    ∃ A n c xs, v = .slice A n c ∧ n ≤ c ∧ Kd.F d w (fun k => k < w.heap.size) A n xs ∧ n * P.bytesOf e ≤ reachBytes ∧ ∀ x ∈ xs, G x := by
  obtain ⟨fuel, hf⟩ := h
  obtain ⟨xs, ⟨A, c, hcs, hlc, hC⟩, hb, hG⟩ := opens_slice ht hc he _ _ _ hf hl
  rw [hv] at hcs
  injection hcs with hcs
  exact ⟨A, xs.length, c, xs, hcs, hlc, Kd.C_F hh hC, hb, hG⟩
end


section
variable {H : Type} {enc : TypeId × Value → H} {w : World} {base : Nat} {spare : Nat → Bool} {held : Bool}
theorem okWide_array {P : Program} {r : Reach} {b0 : Nat} {t e : TypeId} {n : Nat} {v : Value} (ht : P.underlying t = some (.array n e)) (h : Value.okWide P w r b0 t v) : ∃ cs, v = .agg cs ∧ cs.size = P.cellsOf t := by
  unfold Value.okWide at h
  rw [ht] at h
  obtain ⟨cs, h1, h2, _⟩ := h
  exact ⟨cs, h1, h2⟩
theorem cells22 : Try.prog.cellsOf 22 = 2 := by kernel_rfl
theorem cells5 : Try.prog.cellsOf 5 = 1 := by kernel_rfl
theorem byte_bd {n : Int} (h : (Lit.int .u8 n).wf = true) : ∃ k : Nat, n = (k : Int) ∧ k < 256 := by
  simp [Lit.wf, IntKind.min, IntKind.max, IntKind.signed, IntKind.bits] at h
  exact ⟨n.toNat, by omega, by omega⟩
theorem u16_bd {n : Int} (h : (Lit.int .u16 n).wf = true) : 0 ≤ n ∧ n < 65536 := by
  simp [Lit.wf, IntKind.min, IntKind.max, IntKind.signed, IntKind.bits] at h
  omega
/-- Two bytes that come in. -/
theorem open_bytes2 {r : Reach} {b0 : Nat} {v : Value} {d : DataW H} {p : List MemPlace} (hv : Value.okWide Try.prog w r b0 22 v) (h : DataW.Trod enc Try.prog w base spare held 22 v d p) :
    ∃ n m : Nat, v = .agg #[.int .u8 n, .int .u8 m] ∧ n < 256 ∧ m < 256 := by
  obtain ⟨cs, rfl, hsz⟩ := okWide_array Try.underlying22 hv
  rw [cells22] at hsz
  obtain ⟨fuel, hf⟩ := h
  obtain ⟨xs, m, _, _, _, hxl, hx⟩ := DataW.trod_array Try.underlying22 hf
  obtain ⟨c0, c1, rfl⟩ : ∃ c0 c1, cs = #[c0, c1] := by
    obtain ⟨l⟩ := cs
    match l, hsz with
    | [a, b], _ => exact ⟨a, b, rfl⟩
  have h0 := hx 0 (by omega)
  have h1 := hx 1 (by omega)
  rw [cells5] at h0 h1
  rw [List.getElem?_eq_getElem (by omega)] at h0 h1
  obtain ⟨n0, e0, _, w0⟩ := DataW.trod_int Try.underlying5 h0
  obtain ⟨n1, e1, _, w1⟩ := DataW.trod_int Try.underlying5 h1
  simp [Value.cells] at e0 e1
  obtain ⟨k0, rfl, b0⟩ := byte_bd w0
  obtain ⟨k1, rfl, b1⟩ := byte_bd w1
  subst e0
  subst e1
  exact ⟨k0, k1, rfl, b0, b1⟩
end
end Go.Proofs.Ytflnpgfddedahaa.U
