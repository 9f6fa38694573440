/- From a call that the evaluator knows to the statement of a row. -/
import Derived.Test.YtkmpehlhplhnhaaGreatDoorH15
set_option autoImplicit false
set_option linter.unusedVariables false
namespace Hb
open Go

/-! ## Listed variables, more -/

noncomputable def avInts (l : List AV) : List Int := l.map fun x => match x with | .i _ z => z | _ => 0

theorem glob_lt {w : World} {g o : Nat} {v : Value} (h : w.cell? ⟨g, o, none⟩ = some v) : g < w.heap.size := by
  simp only [World.cell?] at h
  rcases Nat.lt_or_ge g w.heap.size with hl | hl
  · exact hl
  · rw [Array.getElem?_eq_none hl] at h; cases h

/-- A listed array of numbers, whole. -/
theorem glob_ints {P : Prg} {w : World} {g n i : Nat} {name : String} {e t : TypeId} {k : IntKind} {l : List AV} {laid : List (String × DataW Unit)} {ps : List MemPlace} {d : DataW Unit}
    (hL : DataW.LaidVars P.toProgram w laid ps) (hi : laid[i]? = some (name, d)) (hd : d = .agg ((avInts l).map fun z => .lit (.int k z))) (hl : l = (avInts l).map (AV.i k))
    (hg : P.toProgram.globalNamed name = some g) (hG : (P.globals[g]?).map (·.type) = some t) (ht : P.underlying t = some (.array n e)) (he : P.underlying e = some (.int k)) (hc : P.cellsOf e = 1) (hn : l.length = n) (h0 : 0 < n) :
    g < w.heap.size ∧ RepAt ⟨w, [], fun _ => (0, 0), 0, fun b => b < w.heap.size⟩ g 0 l := by
  obtain ⟨g', t', cs, fuel, p, e1, e2, e3, e4⟩ := laid_get hL hi
  rw [hg] at e1; cases e1
  rw [hG] at e2; cases e2
  subst hd
  have hn' : (avInts l).length = n := by rw [← hn]; simp [avInts]
  have h := laid_ints hg ht he hc hn' e3 e4
  refine ⟨glob_lt (h 0 (by omega)), ?_⟩
  rw [hl]
  exact rep_ints fun r hr => by simpa using h r hr

theorem rep_pairs {c : Cx} {b : Nat} {k : IntKind} : ∀ {l : List (Int × Int)} {off : Nat}, (∀ r, (h : r < l.length) → c.w.cell? ⟨b, off + 2 * r, none⟩ = some (.int k l[r].1) ∧ c.w.cell? ⟨b, off + 2 * r + 1, none⟩ = some (.int k l[r].2)) →
    RepAt c b off (l.flatMap fun z => [AV.i k z.1, AV.i k z.2])
  | [], off, h => by simp only [List.flatMap_nil, RepAt]
  | a :: l, off, h => by
    simp only [List.flatMap_cons, List.cons_append, List.nil_append, RepAt]
    have h0 := h 0 (by simp)
    refine ⟨⟨.int k a.1, h0.1, rfl, by simp only [RepV]⟩, ⟨.int k a.2, h0.2, rfl, by simp only [RepV]⟩, rep_pairs fun r hr => ?_⟩
    have := h (r + 1) (by simpa using hr)
    rw [show off + 1 + 1 + 2 * r = off + 2 * (r + 1) from by omega]
    exact this

/-- A listed variable that is an array of pairs of numbers. -/
theorem laid_pairs {P : Program} {w : World} {g n : Nat} {name : String} {t e : TypeId} {k : IntKind} {l : List (Int × Int)} {cs : Array Value} {fuel : Nat} {p : List MemPlace} {f0 f1 : Field}
    (hg : P.globalNamed name = some g) (ht : P.underlying t = some (.array n e)) (he : P.underlying e = some (.struct #[f0, f1])) (h0 : P.underlying f0.type = some (.int k)) (h1 : P.underlying f1.type = some (.int k)) (o0 : f0.offset = 0) (o1 : f1.offset = 1)
    (c0 : P.cellsOf f0.type = 1) (c1 : P.cellsOf f1.type = 1) (hc : P.cellsOf e = 2) (hn : l.length = n)
    (hv : w.var? P name = some cs) (hd : DataW.trod (H := Unit) (fun _ => ()) P w 0 (fun _ => true) false fuel t cs.toList = some (.agg (l.map fun z => .agg [.lit (.int k z.1), .lit (.int k z.2)]), p)) :
    ∀ r, (h : r < l.length) → w.cell? ⟨g, 2 * r, none⟩ = some (.int k l[r].1) ∧ w.cell? ⟨g, 2 * r + 1, none⟩ = some (.int k l[r].2) := by
  intro r hr
  obtain ⟨xs, m, _, ex, _, hl, hel⟩ := DataW.trod_array ht hd
  have hE := hel r (by omega)
  rw [hc, List.getElem?_eq_getElem (by omega)] at hE
  obtain ⟨y0, y1, m', ey, _, hy0, hy1⟩ := ChangeShapes.trod_struct2 he hE
  rw [o0, c0] at hy0
  rw [o1, c1] at hy1
  obtain ⟨z0, a1, a2, _⟩ := DataW.trod_int h0 hy0
  obtain ⟨z1, b1, b2, _⟩ := DataW.trod_int h1 hy1
  have e3 : (xs.map (·.1)) = l.map fun z => .agg [.lit (.int k z.1), .lit (.int k z.2)] := (DataW.agg.inj (Prod.mk.inj ex).1).symm
  have e4 : (xs.map (·.1))[r]? = (l.map fun z => (DataW.agg [.lit (.int k z.1), .lit (.int k z.2)] : DataW Unit))[r]? := by rw [e3]
  rw [List.getElem?_map, List.getElem?_map, List.getElem?_eq_getElem (by omega : r < xs.length), List.getElem?_eq_getElem hr, ey, a2, b2] at e4
  simp only [Option.map_some, Option.some.injEq, DataW.agg.injEq, List.cons.injEq, DataW.lit.injEq, Lit.int.injEq, true_and, and_true] at e4
  obtain ⟨q0, q1⟩ := e4
  constructor
  · rw [World.var?_cell hg hv (2 * r), ← q0]
    have h0 : (((((cs.toList.drop (r * 2)).take 2)).drop 0).take 1)[0]? = some (.int k z0) := by rw [a1]; rfl
    have : cs.toList[2 * r]? = some (.int k z0) := by
      rw [Nat.mul_comm]
      simpa using h0
    simpa using this
  · rw [World.var?_cell hg hv (2 * r + 1), ← q1]
    have h0 : (((((cs.toList.drop (r * 2)).take 2)).drop 1).take 1)[0]? = some (.int k z1) := by rw [b1]; rfl
    have : cs.toList[2 * r + 1]? = some (.int k z1) := by
      rw [Nat.mul_comm 2 r]
      simpa using h0
    simpa using this

noncomputable def avPairs : List AV → List (Int × Int)
  | .i _ a :: .i _ b :: l => (a, b) :: avPairs l
  | _ => []

theorem glob_pairs {P : Prg} {w : World} {g n i : Nat} {name : String} {e t : TypeId} {k : IntKind} {l : List AV} {laid : List (String × DataW Unit)} {ps : List MemPlace} {d : DataW Unit} {f0 f1 : Field}
    (hL : DataW.LaidVars P.toProgram w laid ps) (hi : laid[i]? = some (name, d)) (hd : d = .agg ((avPairs l).map fun z => .agg [.lit (.int k z.1), .lit (.int k z.2)])) (hl : l = (avPairs l).flatMap fun z => [AV.i k z.1, AV.i k z.2])
    (hg : P.toProgram.globalNamed name = some g) (hG : (P.globals[g]?).map (·.type) = some t) (ht : P.underlying t = some (.array n e)) (he : P.underlying e = some (.struct #[f0, f1])) (h0 : P.underlying f0.type = some (.int k)) (h1 : P.underlying f1.type = some (.int k))
    (o0 : f0.offset = 0) (o1 : f1.offset = 1) (c0 : P.cellsOf f0.type = 1) (c1 : P.cellsOf f1.type = 1) (hc : P.cellsOf e = 2) (hn : (avPairs l).length = n) (hp : 0 < n) :
    g < w.heap.size ∧ RepAt ⟨w, [], fun _ => (0, 0), 0, fun b => b < w.heap.size⟩ g 0 l := by
  obtain ⟨g', t', cs, fuel, p, e1, e2, e3, e4⟩ := laid_get hL hi
  rw [hg] at e1; cases e1
  rw [hG] at e2; cases e2
  subst hd
  have h := laid_pairs hg ht he h0 h1 o0 o1 c0 c1 hc hn e3 e4
  refine ⟨glob_lt (h 0 (by omega)).1, ?_⟩
  rw [hl]
  exact rep_pairs fun r hr => by simpa using h r hr

def isInt (P : Program) (t : TypeId) (k : IntKind) : Bool :=
  match P.underlying t with
  | some (.int k') => decide (k' = k)
  | _ => false

theorem isInt_eq {P : Program} {t : TypeId} {k : IntKind} (h : isInt P t k = true) : P.underlying t = some (.int k) := by
  unfold isInt at h
  split at h
  · rename_i k' hu
    rw [hu, of_decide_eq_true h]
  · cases h

/-- Is the type a struct of two numbers of kind k? -/
def isPair (P : Program) (e : TypeId) (k : IntKind) : Bool :=
  match P.underlying e with
  | some (.struct fs) => match fs.toList with
    | [f0, f1] => isInt P f0.type k && isInt P f1.type k && f0.offset == 0 && f1.offset == 1 && P.cellsOf f0.type == 1 && P.cellsOf f1.type == 1 && P.cellsOf e == 2
    | _ => false
  | _ => false

theorem glob_pairs' {P : Prg} {w : World} {g n i : Nat} {name : String} {e t : TypeId} {k : IntKind} {l : List AV} {laid : List (String × DataW Unit)} {ps : List MemPlace} {d : DataW Unit}
    (hL : DataW.LaidVars P.toProgram w laid ps) (hi : laid[i]? = some (name, d)) (hd : d = .agg ((avPairs l).map fun z => .agg [.lit (.int k z.1), .lit (.int k z.2)])) (hl : l = (avPairs l).flatMap fun z => [AV.i k z.1, AV.i k z.2])
    (hg : P.toProgram.globalNamed name = some g) (hG : (P.globals[g]?).map (·.type) = some t) (ht : P.underlying t = some (.array n e)) (he : isPair P.toProgram e k = true) (hn : (avPairs l).length = n) (hp : 0 < n) :
    g < w.heap.size ∧ RepAt ⟨w, [], fun _ => (0, 0), 0, fun b => b < w.heap.size⟩ g 0 l := by
  unfold isPair at he
  split at he
  · rename_i fs hu
    split at he
    · rename_i f0 f1 hf
      simp only [Bool.and_eq_true, beq_iff_eq] at he
      obtain ⟨⟨⟨⟨⟨⟨a1, a2⟩, a3⟩, a4⟩, a5⟩, a6⟩, a7⟩ := he
      have : fs = #[f0, f1] := by cases fs; exact congrArg Array.mk hf
      subst this
      exact glob_pairs hL hi hd hl hg hG ht hu (isInt_eq a1) (isInt_eq a2) a3 a4 a5 a6 a7 hn hp
    · cases he
  · cases he

def isIface (P : Program) (t : TypeId) : Bool := match P.underlying t with | some (.interface _) => true | _ => false

/-- A listed error: what its interface holds isn't looked at. -/
theorem glob_err {P : Prg} {w : World} {g i t T : Nat} {name nm : String} {laid : List (String × DataW Unit)} {ps : List MemPlace} {d0 : DataW Unit}
    (hL : DataW.LaidVars P.toProgram w laid ps) (hi : laid[i]? = some (name, .iface nm d0)) (hg : P.toProgram.globalNamed name = some g) (hG : (P.globals[g]?).map (·.type) = some t) (ht : isIface P.toProgram t = true)
    (row : ∀ u, P.toProgram.typeName? 3 u = some nm → u = T) :
    g < w.heap.size ∧ RepAt ⟨w, [], fun _ => (0, 0), 0, fun b => b < w.heap.size⟩ g 0 [.ifc T .u] := by
  obtain ⟨g', t', cs, fuel, p, e1, e2, e3, e4⟩ := laid_get hL hi
  rw [hg] at e1; cases e1
  rw [hG] at e2; cases e2
  obtain ⟨ms, ht⟩ : ∃ ms, P.underlying t = some (.interface ms) := by
    unfold isIface at ht
    split at ht
    · exact ⟨_, by assumption⟩
    · cases ht
  obtain ⟨f1, u, v, hcs, hn, _⟩ := iface_of_trod ht e4
  have hT := row u hn
  subst hT
  have h0 : w.cell? ⟨g, 0, none⟩ = some (.iface u v) := by
    rw [World.var?_cell hg e3 0, ← Array.getElem?_toList, hcs]
    rfl
  refine ⟨glob_lt h0, ?_⟩
  simp only [RepAt, RepV]
  exact ⟨⟨_, h0, rfl, v, rfl, trivial⟩, trivial⟩

end Hb
