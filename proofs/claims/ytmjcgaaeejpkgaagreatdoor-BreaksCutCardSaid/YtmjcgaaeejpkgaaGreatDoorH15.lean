/- A layer for programs of small data: values, stores, code, and an evaluator of code that the kernel runs; part 15. -/
import Derived.Test.YtmjcgaaeejpkgaaGreatDoorH14
import Derived.ChangeSlices

section
set_option linter.unusedVariables false
set_option linter.unusedSimpArgs false
set_option linter.constructorNameAsVariable false
set_option autoImplicit false
set_option linter.unusedVariables false
set_option linter.unusedSimpArgs false
set_option linter.constructorNameAsVariable false
namespace Hb
open Go
theorem spot_of {P : Program} {W : World} {r : Reach} {base : Nat} {t e : TypeId} {a : Addr} {n cap : Nat} (ht : P.underlying t = some (.slice e)) (h : Value.okWide P W r base t (.slice (some a) n cap)) : a.spot = none := by
  simp only [Value.okWide, ht, Cell.okWide, Cell.ok] at h
  exact h.2.2.2.1
theorem ints_arg {H : Type} {enc : TypeId × Value → H} {P : Program} {W : World} {r : Reach} {base : Nat} {held : Bool} {t e : TypeId} {k : IntKind} {v : Value} {d : DataW H} {ps : List MemPlace}
    (ht : P.underlying t = some (.slice e)) (he : P.underlying e = some (.int k)) (hc : P.cellsOf e = 1) (hv : Value.okWide P W r base t v) (h : DataW.Trod enc P W 0 (fun _ => true) held t v d ps) :
    ∃ l : List Int, RepV ⟨W, [], fun _ => (0, 0), 0, fun b => b < W.heap.size⟩ (.sl 1 l.length (l.map (AV.i k))) v ∧ (∀ n ∈ l, (Lit.int k n).wf = true) ∧
      ∀ W', (∀ may, W.keptBut W' may) → DataW.Trod enc P W' 0 (fun b => decide (b < W.heap.size)) held t v d ps := by
  obtain ⟨a0, n0, c0, rfl⟩ := Go.WideShapes.okWide_slice ht hv
  obtain ⟨fuel, hf⟩ := h
  rcases Go.ChangeShapes.open_ints ht he hc hf with ⟨hcs, hx⟩ | ⟨a, len, cap, zs, hcs, _, hle, hm, hz, hx, hcell, hw⟩
  · simp [Value.cells] at hcs
    obtain ⟨rfl, rfl, rfl⟩ := hcs
    simp only [Prod.mk.injEq] at hx
    obtain ⟨rfl, rfl⟩ := hx
    exact ⟨[], by simp [RepV], by simp, fun W' _ => Go.RowKit.shut_slice_nil ht⟩
  · simp [Value.cells] at hcs
    obtain ⟨rfl, rfl, rfl⟩ := hcs
    simp only [Prod.mk.injEq] at hx
    obtain ⟨rfl, rfl⟩ := hx
    have hsp := spot_of ht hv
    obtain ⟨b, off, spot⟩ := a
    have hsp : spot = none := hsp
    subst hsp
    simp only [if_true] at hz
    have hcell' : ∀ i, i < zs.length → W.cell? ⟨b, off + i, none⟩ = some (.int k (zs.getD i 0)) := fun i hi => by rw [← Go.WideShapes.add_plain]; exact hcell i hi
    have hb : 0 < zs.length → b < W.heap.size := by
      intro h0
      have := hcell' 0 h0
      unfold World.cell? at this
      cases hh : W.heap[b]? with
      | none => simp [hh] at this
      | some o => exact (Array.getElem?_eq_some_iff.1 hh).1
    refine ⟨zs.take n0, ?_, fun n hn => hw n (List.mem_of_mem_take hn), fun W' hk => ?_⟩
    · simp only [RepV]
      have hl : (zs.take n0).length = n0 := by rw [List.length_take]; omega
      refine ⟨by simp, .inr ⟨b, off, c0, by rw [hl], by omega, fun hne => hb ?_, rep_ints fun q hq => ?_⟩⟩
      · cases zs with
        | nil => simp at hne
        | cons x xs => simp
      · have h1 := hcell' q (by simp at hq; omega)
        rw [h1]
        simp [List.getD, List.getElem_take]
        rw [List.getElem?_eq_getElem (by simp at hq; omega)]
        rfl
    · by_cases h0 : 0 < zs.length
      · have hlt := hb h0
        exact ⟨2, Go.ChangeShapes.shut_ints 0 ht he hc (Nat.zero_le _) hle hm (by simp [hlt, hz]) (fun i hi => by
          rw [Go.WideShapes.add_plain, (hk (fun _ => False)).cell hlt (fun h => h)]
          exact hcell' i hi) hw⟩
      · have hz0 : zs.length = 0 := by omega
        have hc0 : c0 = 0 := by omega
        have hn0 : n0 = 0 := by omega
        exact ⟨2, Go.ChangeShapes.shut_ints 0 ht he hc (Nat.zero_le _) hle hm (by rw [hz0, hc0, hn0]; simp) (fun i hi => by omega) hw⟩
end Hb
end

section
set_option linter.unusedVariables false
set_option linter.unusedSimpArgs false
set_option linter.constructorNameAsVariable false
set_option autoImplicit false
set_option linter.unusedVariables false
namespace Hb
open Go
theorem decI_sl (k : IntKind) (a : List Int) : (encI k).decS (.sl 1 a.length (a.map (AV.i k))) = some a := by
  have := (encI k).decS_sl a
  rw [Enc.sl] at this
  have e2 : (encI k).encL a = a.map (.i k) := by
    simp only [Enc.encL]
    rw [← List.flatMap_singleton' (a.map (AV.i k))]
    simp [List.flatMap_map, encI]
  rw [e2] at this
  exact this
theorem byte_wf {a : Int} (h : (Lit.int .u8 a).wf = true) : 0 ≤ a ∧ a ≤ 255 := by
  unfold Lit.wf at h
  rw [Bool.and_eq_true, decide_eq_true_eq, decide_eq_true_eq] at h
  exact h
end Hb
end
