/- From a call that the evaluator knows to the statement of a row. -/
import Derived.Test.YtmcpmmololjjcaaGreatDoorH11
import Derived.ChangeFn
import Derived.OpenShut
import Derived.LaidMore
set_option autoImplicit false
set_option linter.unusedVariables false
namespace Hb
open Go

/-! ## From a call to the statement's call -/

theorem kept_of_heap {w w' : World} (ho : w'.os = w.os) (hp : w'.output = w.output) (h : ∀ i, i < w.heap.size → w'.heap[i]? = w.heap[i]?) (may : MemPlace → Prop) : w.keptBut w' may := by
  refine ⟨ho, hp, fun i hi => ?_⟩
  rw [h i hi]
  exact (World.keptBut_refl w may).2.2 i hi

/-- What the package-level variables hold that the call may read. -/
def GlobOk (P : Prg) (W : World) : Prop := ∀ g cs, P.glob g = some cs → g < W.heap.size ∧ RepAt ⟨W, [], fun _ => (0, 0), 0, W.heap.size⟩ g 0 cs

theorem GlobOk.none {P : Prg} {W : World} (h : P.glob = fun _ => none) : GlobOk P W := fun g cs hc => by rw [h] at hc; cases hc

theorem ACall.calls {P : Prg} {W : World} (hg : GlobOk P W) {g : FuncId} {args : List AV} {vs : List Value} {x : Bool} (h : ACall P g args ([], 0) fun v' _ => v' = .b x) (hv : ∀ c, RepL c args vs) :
    Calls P.toProgram g vs.toArray W fun e w' => e = .returned (.bool x) ∧ ∀ may, W.keptBut w' may := by
  let c : Cx := ⟨W, [], fun _ => (0, 0), 0, W.heap.size⟩
  have hs : Sim P c := ⟨fun r b hb => (by simp [c] at hb), fun r r' b b' hb => (by simp [c] at hb), fun r b hb => (by simp [c] at hb), Nat.le_refl _, hg⟩
  refine (callsIn_wide.1 (h.2 c vs rfl hs (hv c))).mono fun e w' ⟨c', v, av, e1, e2, e3, e4, e5, e6⟩ => ?_
  subst e6
  subst e2
  have : v = .bool x := e5
  subst this
  refine ⟨e1, fun may => kept_of_heap e4.os e4.output (fun i hi => e4.keep i hi ?_) may⟩
  rintro ⟨r, blk, hb, _⟩
  simp [c] at hb

/-- Numbers in a row. -/
theorem rep_ints {c : Cx} {b : Nat} {k : IntKind} : ∀ {l : List Int} {off : Nat}, (∀ r, (h : r < l.length) → c.w.cell? ⟨b, off + r, none⟩ = some (.int k l[r])) → RepAt c b off (l.map (AV.i k))
  | [], off, h => by simp only [List.map_nil, RepAt]
  | a :: l, off, h => by
    simp only [List.map_cons, RepAt]
    refine ⟨⟨.int k a, h 0 (by simp), rfl, by simp only [RepV]⟩, rep_ints fun r hr => ?_⟩
    have := h (r + 1) (by simpa using hr)
    rw [show off + 1 + r = off + (r + 1) from by omega]
    exact this

/-- A listed variable that is an array of numbers: its cells. -/
theorem laid_ints {P : Program} {w : World} {g n : Nat} {name : String} {t e : TypeId} {k : IntKind} {l : List Int} {cs : Array Value} {fuel : Nat} {p : List MemPlace}
    (hg : P.globalNamed name = some g) (ht : P.underlying t = some (.array n e)) (he : P.underlying e = some (.int k)) (hc : P.cellsOf e = 1) (hn : l.length = n)
    (hv : w.var? P name = some cs) (hd : DataW.trod (H := Unit) (fun _ => ()) P w 0 (fun _ => true) false fuel t cs.toList = some (.agg (l.map fun z => .lit (.int k z)), p)) :
    ∀ r, (h : r < l.length) → w.cell? ⟨g, r, none⟩ = some (.int k l[r]) := by
  intro r hr
  obtain ⟨xs, m, _, ex, _, hl, hel⟩ := DataW.trod_array ht hd
  have hE := hel r (by omega)
  rw [hc, Nat.mul_one, List.getElem?_eq_getElem (by omega)] at hE
  obtain ⟨z, e1, e2, _⟩ := DataW.trod_int he hE
  have e3 : (xs.map (·.1)) = l.map fun z => .lit (.int k z) := (DataW.agg.inj (Prod.mk.inj ex).1).symm
  have e4 : (xs.map (·.1))[r]? = (l.map fun z => (DataW.lit (.int k z) : DataW Unit))[r]? := by rw [e3]
  rw [List.getElem?_map, List.getElem?_map, List.getElem?_eq_getElem (by omega : r < xs.length), List.getElem?_eq_getElem hr, e2] at e4
  have hz : z = l[r] := by
    simp only [Option.map_some, Option.some.injEq, DataW.lit.injEq, Lit.int.injEq, true_and] at e4
    exact e4
  rw [World.var?_cell hg hv r, ← hz]
  have : cs.toList[r]? = some (.int k z) := by
    have h0 : ((cs.toList.drop r).take 1)[0]? = some (.int k z) := by rw [e1]; rfl
    simpa using h0
  simpa using this

theorem laid_get {P : Program} {w : World} : ∀ {laid : List (String × DataW Unit)} {ps : List MemPlace} {i : Nat} {n : String} {d : DataW Unit}, DataW.LaidVars P w laid ps → laid[i]? = some (n, d) →
    ∃ g t cs fuel p, P.globalNamed n = some g ∧ (P.globals[g]?).map (·.type) = some t ∧ w.var? P n = some cs ∧ DataW.trod (H := Unit) (fun _ => ()) P w 0 (fun _ => true) false fuel t cs.toList = some (d, p)
  | [], ps, i, n, d, h, hi => by simp at hi
  | (n0, d0) :: laid, ps, 0, n, d, h, hi => by
    simp only [List.getElem?_cons_zero, Option.some.injEq, Prod.mk.injEq] at hi
    obtain ⟨rfl, rfl⟩ := hi
    obtain ⟨g, t, cs, fuel, p, q, h1, h2, h3, h4, _⟩ := h
    exact ⟨g, t, cs, fuel, p, h1, h2, h3, h4⟩
  | (n0, d0) :: laid, ps, i + 1, n, d, h, hi => by
    obtain ⟨g, t, cs, fuel, p, q, h1, h2, h3, h4, h5, _⟩ := h
    exact laid_get h5 (by simpa using hi)

/-- A listed variable that is a number. -/
theorem laid_int {P : Program} {w : World} {g : Nat} {name : String} {t : TypeId} {k : IntKind} {z : Int} {cs : Array Value} {fuel : Nat} {p : List MemPlace}
    (hg : P.globalNamed name = some g) (ht : P.underlying t = some (.int k)) (hv : w.var? P name = some cs) (hd : DataW.trod (H := Unit) (fun _ => ()) P w 0 (fun _ => true) false fuel t cs.toList = some (.lit (.int k z), p)) :
    w.cell? ⟨g, 0, none⟩ = some (.int k z) := by
  obtain ⟨n, e1, e2, _⟩ := DataW.trod_int ht hd
  have : n = z := by
    have := (Prod.mk.inj e2).1
    simp only [DataW.lit.injEq, Lit.int.injEq, true_and] at this
    exact this.symm
  subst this
  rw [World.var?_cell hg hv 0]
  have : cs.toList[0]? = some (.int k n) := by rw [e1]; rfl
  simpa using this

end Hb
