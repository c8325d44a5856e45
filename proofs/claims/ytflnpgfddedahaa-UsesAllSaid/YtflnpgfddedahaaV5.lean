/- What the calls of UsesMany tell. -/
import Derived.Test.YtflnpgfddedahaaV4
namespace Go.Proofs.Ytflnpgfddedahaa.U
open Go.RowKit Go.Great Go.Proofs.YtflnpgfddedahaaW.PrintWords
set_option linter.unusedVariables false
set_option linter.unusedSimpArgs false
/-- Of, where what it answers is known. -/
theorem of_known {xs : List ByteArray} {id : Int} {ks : List UseD} {err : Int} {n m : Nat} (he : ofS xs = (⟨id, ks, false, false, []⟩, err)) (hk : ks.length = m) (A : Option Addr) (cp : Nat) (ok : Nat → Prop) (W : World) (hF : Kd.F Kd.string W ok A n xs) (hcp : n ≤ cp) (hn6 : n ≤ 1000000) (hs : (word xs 0).size ≤ 140737488351232) :
    Calls Try.prog 22 #[.slice A n cp] W fun e W' => ∃ Ak ck Ac cc, e = .returned (.tuple #[.agg #[.int .i64 id, .slice Ak m ck, .bool false, .bool false, .slice Ac 0 cc], .int .i64 err]) ∧ Aside0 (Kd.F kUse W' (fun b => W.heap.size ≤ b) Ak m ks) ∧ Aside0 (Below W.heap.size W W') :=
  (of_said A n cp xs ok W hF hcp hn6 hs).mono fun e W' h => by
    unfold OfSaid at h
    rw [he] at h
    obtain ⟨Ak, ck, Ac, cc, h1, h2, h3, _, _, h6⟩ := h
    subst hk
    exact ⟨Ak, ck, Ac, cc, h1, ⟨h2⟩, ⟨h6⟩⟩
theorem texts_same {xs ys : List ByteArray} (he : xs = ys) (A B : Option Addr) (n c m d : Nat) (oka okb : Nat → Prop) (w : World) (ha : Kd.F Kd.string w oka A n xs) (hb : Kd.F Kd.string w okb B m ys) :
    Calls Try.prog 24 #[.slice A n c, .slice B m d] w fun e w' => e = .returned (.bool true) ∧ Aside0 (Below w.heap.size w w') :=
  (texts_calls A B n c m d oka okb xs ys w ha hb).mono fun e w' ⟨h1, j, h2⟩ => by
    subst he
    rw [same_self] at h1
    subst h2
    exact ⟨h1, ⟨pw_below_drewN (Below.refl _ _) _⟩⟩
theorem pairs_take (ys : List ByteArray) (j : Nat) (h : j < ys.length) : pairsOf (ys.take (j + 1)) = pairsOf (ys.take j) ++ [ys[j], VEE] := by
  unfold pairsOf
  rw [← List.take_append_getElem h, List.flatMap_append]
  simp
end Go.Proofs.Ytflnpgfddedahaa.U
