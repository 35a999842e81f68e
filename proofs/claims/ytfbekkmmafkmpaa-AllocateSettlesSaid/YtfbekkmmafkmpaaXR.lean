/- Words of this session's own for the rows: how an argument's reading as data opens to plain values. -/
import Derived.Test.YtfbekkmmafkmpaaXW
import Derived.Test.YtfbekkmmafkmpaaWAt
import Derived.ProofKit
import Derived.OpenShut
import Derived.ChangeOld
import Derived.Below
import Derived.Deep.Slices
namespace Go.Proofs.Ytfbekkmmafkmpaa
open Go.ChangeShapes Go.WideShapes Go.ChangeAt Go.RowKit Go.Deep Go.Proofs.YtfbekkmmafkmpaaW.PrintWords Go.Proofs.YtfbekkmmafkmpaaW.PrintLast Go.Proofs.YtfbekkmmafkmpaaW.PrintMore

/-- Whatever reads as data of type T is a value of the kind d, and good. -/
def Opens (P : Program) {α : Type} (d : Kd α) (T : TypeId) (good : α → Prop) : Prop :=
  ∀ (H : Type) (enc : TypeId × Value → H) (w : World) (base : Nat) (spare : Nat → Bool) (held : Bool) (fuel : Nat) (cs : List Value) (x : DataW H × List MemPlace), DataW.trod enc P w base spare held fuel T cs = some x → ∃ v, d.K w v cs ∧ good v
theorem opens_int {P : Program} {T : TypeId} {k : IntKind} (ht : P.underlying T = some (.int k)) : Opens P (Kd.int k) T (fun n => (Lit.int k n).wf = true) := by
  intro H enc w base spare held fuel cs x h
  obtain ⟨n, rfl, _, hw⟩ := DataW.trod_int ht h
  exact ⟨n, rfl, hw⟩
theorem opens_bool {P : Program} {T : TypeId} (ht : P.underlying T = some .bool) : Opens P Kd.bool T (fun _ => True) := by
  intro H enc w base spare held fuel cs x h
  obtain ⟨n, rfl, _⟩ := DataW.trod_bool ht h
  exact ⟨n, rfl, trivial⟩
theorem list_of_all {α : Type} {Q : Nat → α → Prop} : ∀ n : Nat, (∀ i, i < n → ∃ v, Q i v) → ∃ l : List α, l.length = n ∧ ∀ i v, l[i]? = some v → Q i v
  | 0, _ => ⟨[], rfl, fun i v h => by simp at h⟩
  | n + 1, h => by
    obtain ⟨l, hl, hq⟩ := list_of_all n (fun i hi => h i (by omega))
    obtain ⟨v, hv⟩ := h n (by omega)
    refine ⟨l ++ [v], by simp [hl], fun i u hi => ?_⟩
    by_cases hin : i < n
    · rw [List.getElem?_append_left (by omega)] at hi
      exact hq i u hi
    · have : i = n := by
        have := (List.getElem?_eq_some_iff.1 hi).1
        simp at this
        omega
      subst this
      rw [List.getElem?_append_right (by omega), hl] at hi
      simp at hi
      subst hi
      exact hv
/-- An argument that is a slice: its elements, as one list. -/
theorem opens_slice {P : Program} {α : Type} {d : Kd α} {T E : TypeId} {good : α → Prop} (hd : Opens P d E good) (ht : P.underlying T = some (.slice E)) (hsz : P.cellsOf E = d.sz)
    {H : Type} {enc : TypeId × Value → H} {w : World} {base : Nat} {spare : Nat → Bool} {held : Bool} {a : Option Addr} {n c : Nat} {dd : DataW H} {p : List MemPlace}
    (h : DataW.Trod enc P w base spare held T (.slice a n c) dd p) : ∃ l : List α, n = l.length ∧ l.length ≤ c ∧ c ≤ 9223372036854775807 ∧ Kd.C d w a l.length l ∧ ∀ x ∈ l, good x := by
  obtain ⟨fuel, hf⟩ := h
  rcases open_slice ht hf with ⟨hcs, _⟩ | ⟨ad, len, cap, m, n', D, Pl, hcs, _, hlc, hcm, hmm, _, hi⟩
  · simp [Value.cells] at hcs
    obtain ⟨rfl, rfl, rfl⟩ := hcs
    exact ⟨[], rfl, Nat.le_refl _, by omega, ⟨rfl, by simp, fun h => absurd h (by simp)⟩, fun x hx => by cases hx⟩
  · simp [Value.cells] at hcs
    obtain ⟨rfl, rfl, rfl⟩ := hcs
    have hnm : n ≤ m := by rw [hmm]; split <;> omega
    simp only [maxLen] at hcm
    have hall : ∀ i, i < n → ∃ v : α, (∃ cs', cs'.length = d.sz ∧ d.K w v cs' ∧ ∀ j u, cs'[j]? = some u → w.cell? (ad.add (i * d.sz + j)) = some u) ∧ good v := by
      intro i hin
      obtain ⟨cs', hcells, htrod⟩ := hi i (by omega)
      obtain ⟨v, hK, hgood⟩ := hd _ _ _ _ _ _ _ _ _ htrod
      obtain ⟨_, hlen, hat⟩ := World.cells?_some hcells
      rw [hsz] at hlen hat
      refine ⟨v, ⟨cs', hlen, hK, fun j u hj => ?_⟩, hgood⟩
      have hjl : j < d.sz := by have := (List.getElem?_eq_some_iff.1 hj).1; omega
      have := hat j hjl
      rw [← Go.Deep.add_add, this, hj]
    obtain ⟨l, hl, hq⟩ := list_of_all n hall
    refine ⟨l, hl.symm, by omega, by omega, ⟨rfl, by omega, fun _ => ⟨ad, rfl, fun j x hj => ?_⟩⟩, fun x hx => ?_⟩
    · obtain ⟨⟨cs', h1, h2, h3⟩, _⟩ := hq j x hj
      exact ⟨cs', h1, h2, h3⟩
    · obtain ⟨j, hj⟩ := List.getElem?_of_mem hx
      exact (hq j x hj).2
end Go.Proofs.Ytfbekkmmafkmpaa
