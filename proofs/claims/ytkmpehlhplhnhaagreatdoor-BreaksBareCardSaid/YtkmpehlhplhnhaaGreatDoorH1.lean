/- A layer for programs of small data: values, stores, code, and an evaluator of code that the kernel runs; part 1. -/
import Derived.RangeFuncLeaves
import Derived.RangeFuncRecord
import Derived.LoopNIn
import Derived.OrdersIn
import Derived.WideLaws
import Derived.Below
import Derived.Laws.Cells
import Derived.Laws.Strings
import Derived.ChangeKeysEq

section
set_option linter.unusedVariables false
set_option linter.unusedSimpArgs false
set_option linter.constructorNameAsVariable false
set_option autoImplicit false
namespace Hb
open Go
inductive AV where
  | u
  | b (x : Bool)
  | i (k : IntKind) (n : Int)
  | s (l : List Nat)
  | p (r st k i o : Nat)
  | pe (cs : List AV) (k i o : Nat)
  | np
  | sl (k n : Nat) (cs : List AV)
  | ns
  | sz
  | gr (r st i n k : Nat)
  | m (r st : Nat)
  | mi (ck : Nat) (bs : List Nat) (ks : List AV)
  | nm
  | it (r st : Nat)
  | fn (f : Fn) (first cap : List AV)
  | fy (r st : Nat)
  | nf
  | ifc (t : Nat) (v : AV)
  | ni
  | agg (l : List AV)
  | tup (l : List AV)
  deriving Inhabited
def AV.cells : AV → Option (List AV)
  | .u => none
  | .tup _ => none
  | .agg l => some l
  | v => some [v]
inductive XO where
  | t (n : Nat)
  | c (v : AV)
  | f (n : Nat)
  deriving Inhabited
def XO.ev (ρ : Nat → AV) : XO → AV
  | .t n => ρ n
  | .c v => v
  | .f n => .fn (.func n) [] []
def replaceAt (l : List AV) (off : Nat) (cs : List AV) : List AV := l.take off ++ (cs ++ l.drop (off + cs.length))
def fillA (ρ : Nat → AV) : List AV → List (Nat × Nat × XO) → Option (List AV)
  | z, [] => some z
  | z, (off, size, x) :: ps => (x.ev ρ).cells.bind fun cs =>
    if cs.length = size ∧ off + size ≤ z.length then fillA ρ (replaceAt z off cs) ps else none
inductive XEq where
  | int | str | bool | slc | fun | ptr | map | ifc
  | ints (n : Nat)
  | ifi (l : List Nat)
  | struct (fs : List (Nat × XEq))
  deriving Inhabited
inductive XConv where
  | int (k : IntKind)
  | same
  | s2b (T : Nat)
  | b2s
  | tou
  | fru (u n : Nat)
  | tas (t : Nat) (ok : Bool)
  deriving Inhabited
inductive XBi where
  | len (str : Bool) | min | max
  | append (T k : Nat) (zero : List AV)
  | appz (T k : Nat) (zero : List AV)
  | copy (k : Nat)
  | cap
  | sdat (k : Nat)
  | ustr (e : Nat)
  deriving Inhabited
inductive XOp where
  | move (x : XO)
  | pick (c a b : XO)
  | alloc (T : Nat) (zero : List AV)
  | box (T k : Nat) (x : XO)
  | build (zero : List AV) (parts : List (Nat × Nat × XO))
  | lit (T k n : Nat) (zero : List AV) (parts : List (Nat × Nat × XO))
  | load (g : Bool) (n : Nat) (x : XO)
  | store (n : Nat) (a x : XO)
  | nilc (x : XO)
  | bin (op : BinOp) (x y : XO)
  | eq (k : XEq) (neg : Bool) (x y : XO)
  | un (op : UnOp) (x : XO)
  | conv (c : XConv) (x : XO)
  | mki (t : Nat) (x : XO)
  | mkf (f : Fn) (first cap : List XO)
  | ssl (x : XO) (lo hi : Option XO)
  | lsl (k : Nat) (x : XO) (lo hi mx : Option XO)
  | fadr (off : Nat) (x : XO)
  | fld (g : Bool) (off n : Nat) (x : XO)
  | iadr (k : Nat) (arr : Option Nat) (x i : XO)
  | idxs (x i : XO)
  | idxa (g : Bool) (k len : Nat) (x i : XO)
  | ext (x : XO) (n : Nat)
  | call (f : XO) (args : List XO)
  | bi (b : XBi) (args : List XO)
  | mksl (T k : Nat) (zero : List AV) (len cap : XO)
  | rng (x : XO)
  | next (x : XO)
  | asl (k n : Nat) (x : XO) (lo hi : Option XO)
  | mkm
  | mget (str : Bool) (z : AV) (ok : Bool) (x i : XO)
  | mset (str : Bool) (x i v : XO)
  | mdel (str : Bool) (x i : XO)
  | mlen (x : XO)
  | rngm (x : XO)
  | nextm (x : XO)
  | clr (k : Nat) (z : List AV) (x : XO)
  | entm (x : XO)
  | mks (x : XO)
  | cpy (k : Nat) (x y : XO)
  | bad
  deriving Inhabited
structure XOper where
  dst : Option Nat
  op : XOp
  guard : Option (Nat × Bool)
  deriving Inhabited
inductive DT where
  | done
  | one (o : XOper) (t : DT)
  | act (o : XOper) (again : List XOper) (t alt : DT)
  | stop
  deriving Inhabited
inductive XC where
  | skip
  | ops (l : List XOper)
  | draw (t : DT)
  | seq (j : Option (List Nat)) (a b : XC)
  | cond (c : XO) (a b : XC)
  | block (id : Nat) (a : XC)
  | loop (A : List Nat) (a : XC)
  | range (f : XO) (ps L : List Nat) (a b : XC)
  | tag (t : Nat) (a : XC)
  | exit (id : Nat)
  | ret
  | bad
  deriving Inhabited
inductive XExit where
  | normal
  | exit (id : Nat)
  | ret
  deriving Inhabited, DecidableEq
def XC.un : XC → XC
  | .tag _ x => x
  | x => x
structure Prg extends Program where
  glob : Nat → Option (List AV)
  rng : Nat → Option (Nat × XC)
instance : CoeOut Prg Program := ⟨Prg.toProgram⟩
def XOk (P : Prg) (N : Nat) : XC → Prop
  | .seq _ a b => XOk P N a ∧ XOk P N b
  | .cond _ a b => XOk P N a ∧ XOk P N b
  | .block _ a => XOk P N a
  | .loop _ a => XOk P N a
  | .range _ _ _ a b => XOk P N a ∧ XOk P N b
  | .tag t a => P.rng t = some (N, a) ∧ XOk P N a
  | _ => True
def tagsOf : XC → List (Nat × XC)
  | .seq _ a b => tagsOf a ++ tagsOf b
  | .cond _ a b => tagsOf a ++ tagsOf b
  | .block _ a => tagsOf a
  | .loop _ a => tagsOf a
  | .range _ _ _ a b => tagsOf a ++ tagsOf b
  | .tag t a => (t, a) :: tagsOf a
  | _ => []
theorem XOk.of {P : Prg} {N : Nat} : ∀ {x : XC}, (∀ p ∈ tagsOf x, P.rng p.1 = some (N, p.2)) → XOk P N x
  | .seq _ a b, h => by
    simp only [tagsOf, List.mem_append] at h
    exact ⟨XOk.of fun p hp => h p (.inl hp), XOk.of fun p hp => h p (.inr hp)⟩
  | .cond _ a b, h => by
    simp only [tagsOf, List.mem_append] at h
    exact ⟨XOk.of fun p hp => h p (.inl hp), XOk.of fun p hp => h p (.inr hp)⟩
  | .block _ a, h => by
    simp only [tagsOf] at h
    exact XOk.of (x := a) h
  | .loop _ a, h => by
    simp only [tagsOf] at h
    exact XOk.of (x := a) h
  | .range _ _ _ a b, h => by
    simp only [tagsOf, List.mem_append] at h
    exact ⟨XOk.of fun p hp => h p (.inl hp), XOk.of fun p hp => h p (.inr hp)⟩
  | .tag t a, h => by
    simp only [tagsOf, List.mem_cons] at h
    exact ⟨h (t, a) (.inl rfl), XOk.of fun p hp => h p (.inr hp)⟩
  | .skip, _ => trivial
  | .ops _, _ => trivial
  | .draw _, _ => trivial
  | .exit _, _ => trivial
  | .ret, _ => trivial
  | .bad, _ => trivial
theorem XOk.un {P : Prg} {N : Nat} {x : XC} (h : XOk P N x) : XOk P N x.un := by
  cases x <;> first | exact h | exact h.2
structure Env where
  f : Nat → AV
  d : List (Nat × Nat)
inductive Blk where
  | cells (st : Nat) (virt : Bool) (T fz : Nat) (cs : List AV)
  | loop (st : Nat) (state : LoopState) (pending : Option XExit) (N : Nat) (ρ : Nat → AV) (params : List Nat) (xa xb : XC) (dr ds : Nat)
  | dfr (st : Nat)
  | iter (st : Nat) (s : List Nat) (pos : Nat)
  | map (st ck : Nat) (es : List (AV × AV × Nat))
  | miter (st rm sm since last : Nat) (seen : List Nat)
  | miti (st ck : Nat) (bs : List Nat) (ks : List AV) (seen : List Nat)
def Blk.st : Blk → Nat
  | .cells st .. | .loop st .. | .dfr st | .iter st .. | .map st .. | .miter st .. | .miti st .. => st
def Blk.virt : Blk → Bool
  | .cells _ v .. => v
  | _ => false
abbrev Store := List (Option Blk)
def Store.at (σ : Store) (r st : Nat) : Option Blk :=
  match σ[r]? with
  | some (some b) => if b.st = st then some b else none
  | _ => none
structure Cx where
  w : World
  σ : Store
  loc : Nat → Nat × Nat
  nx : Nat
  n0 : Nat → Prop
def Cx.own (c : Cx) (b : Nat) : Prop := ∃ r blk, c.σ[r]? = some (some blk) ∧ blk.virt = false ∧ (c.loc r).1 = b
def bs (l : List Nat) : ByteArray := ⟨(l.map UInt8.ofNat).toArray⟩
def Emp (v : Value) : Prop := ∃ a : Option Addr, v = .slice a 0 0 ∧ ∀ x, a = some x → x.spot = none
mutual
def RepV (c : Cx) : AV → Value → Prop
  | .u, _ => True
  | .b x, v => v = .bool x
  | .i k n, v => v = .int k n
  | .s l, v => v = .string (bs l) ∧ ∀ x ∈ l, x < 256
  | .p r st k i o, v => (∃ a, v = .pointer a) ∧ st < c.nx ∧ ∀ blk, c.σ.at r st = some blk → blk.virt = false → v = .pointer (some ⟨(c.loc r).1, (c.loc r).2 + (i * k + o), none⟩)
  | .pe cs k i o, v => ∃ b off, v = .pointer (some ⟨b, off + (i * k + o), none⟩) ∧ (cs ≠ [] → c.n0 b) ∧ RepAt c b off cs
  | .np, v => v = .pointer none
  | .sl k n cs, v => cs.length = n * k ∧ ((cs = [] ∧ n = 0 ∧ v = .slice none 0 0) ∨
      ∃ b off cap, v = .slice (some ⟨b, off, none⟩) n cap ∧ n ≤ cap ∧ (cs ≠ [] → c.n0 b) ∧ RepAt c b off cs)
  | .ns, v => v = .slice none 0 0
  | .sz, v => Emp v
  | .gr r st i n k, v => (∃ a cap, v = .slice a n cap) ∧ st < c.nx ∧ ∀ blk, c.σ.at r st = some blk →
      (blk.virt = true → n = 0 ∧ Emp v) ∧
      (blk.virt = false → ∃ off cap arr T fz, v = .slice (some ⟨(c.loc r).1, off, none⟩) n cap ∧ n ≤ cap ∧ c.w.heap[(c.loc r).1]? = some (.cells arr T fz) ∧ (cap ≠ 0 → off = (c.loc r).2 + i * k ∧ (c.loc r).2 + (i + cap) * k ≤ arr.size))
  | .m r st, v => (∃ a, v = .map a) ∧ st < c.nx ∧ ∀ blk, c.σ.at r st = some blk → blk.virt = false → v = .map (some ((c.loc r).1))
  | .mi ck bs ks, v => ∃ b arr, v = .map (some b) ∧ c.n0 b ∧ c.w.heap[b]? = some (.map arr ck) ∧ arr.toList.map (·.born) = bs ∧ RepL c ks (arr.toList.map (·.key))
  | .nm, v => v = .map none
  | .it r st, v => (∃ a, v = .pointer a) ∧ st < c.nx ∧ ∀ blk, c.σ.at r st = some blk → blk.virt = false → v = .pointer (some ⟨(c.loc r).1, 0, none⟩)
  | .fn f first cap, v => ∃ f' c', v = .func f f' c' ∧ RepL c first f'.toList ∧ RepL c cap c'.toList
  | .fy r st, v => (∃ l, v = .func (.yield l) #[] #[]) ∧ st < c.nx ∧ ∀ blk, c.σ.at r st = some blk → blk.virt = false → v = .func (.yield ((c.loc r).1)) #[] #[]
  | .nf, v => v = .nilFunc
  | .ifc t x, v => ∃ y, v = .iface t y ∧ RepV c x y
  | .ni, v => v = .nilIface
  | .agg l, v => ∃ cs, v = .agg cs ∧ RepL c l cs.toList ∧ ∀ y ∈ cs.toList, y.oneCell' = true
  | .tup l, v => ∃ cs, v = .tuple cs ∧ RepL c l cs.toList
def RepL (c : Cx) : List AV → List Value → Prop
  | [], vs => vs = []
  | x :: xs, vs => ∃ y ys, vs = y :: ys ∧ RepV c x y ∧ RepL c xs ys
def RepAt (c : Cx) (b : Nat) (off : Nat) : List AV → Prop
  | [] => True
  | x :: xs => (∃ y, c.w.cell? ⟨b, off, none⟩ = some y ∧ y.oneCell' = true ∧ RepV c x y) ∧ RepAt c b (off + 1) xs
end
structure Ext (c c' : Cx) : Prop where
  keep : ∀ b, b < c.w.heap.size → ¬ c.own b → c'.w.heap[b]? = c.w.heap[b]?
  own : ∀ b, b < c.w.heap.size → c'.own b → c.own b
  size : c.w.heap.size ≤ c'.w.heap.size
  live : ∀ r blk', c'.σ[r]? = some (some blk') → blk'.st < c.nx → ∃ blk, c.σ[r]? = some (some blk) ∧ blk.st = blk'.st ∧ blk.virt = blk'.virt ∧ (blk.virt = false → c'.loc r = c.loc r)
  nx : c.nx ≤ c'.nx
  sz : ∀ (b : Nat) (arr : Array Value) (T : TypeId) (fz : Nat × Nat), c.w.heap[b]? = some (Obj.cells arr T fz) → ∃ (arr' : Array Value) (fz' : Nat × Nat), c'.w.heap[b]? = some (Obj.cells arr' T fz') ∧ arr'.size = arr.size
  os : c'.w.os = c.w.os
  tape : c'.w.tape = c.w.tape
  output : c'.w.output = c.w.output
  n0 : ∀ b, c.n0 b → c'.n0 b
  new0 : ∀ b, c'.n0 b → c.n0 b ∨ c.w.heap.size ≤ b
  keep0 : ∀ b, c.n0 b → c'.w.heap[b]? = c.w.heap[b]?
structure ExtW (c c' : Cx) : Prop where
  keep0 : ∀ b, c.n0 b → c'.w.heap[b]? = c.w.heap[b]?
  live : ∀ r blk', c'.σ[r]? = some (some blk') → blk'.st < c.nx → ∃ blk, c.σ[r]? = some (some blk) ∧ blk.st = blk'.st ∧ blk.virt = blk'.virt ∧ (blk.virt = false → c'.loc r = c.loc r)
  nx : c.nx ≤ c'.nx
  sz : ∀ (b : Nat) (arr : Array Value) (T : TypeId) (fz : Nat × Nat), c.w.heap[b]? = some (Obj.cells arr T fz) → ∃ (arr' : Array Value) (fz' : Nat × Nat), c'.w.heap[b]? = some (Obj.cells arr' T fz') ∧ arr'.size = arr.size
  n0 : ∀ b, c.n0 b → c'.n0 b
structure Ext0 (c c' : Cx) : Prop where
  keep0 : ∀ b, c.n0 b → c'.w.heap[b]? = c.w.heap[b]?
  live : ∀ r blk', c'.σ[r]? = some (some blk') → blk'.st < c.nx → ∃ blk, c.σ[r]? = some (some blk) ∧ blk.st = blk'.st ∧ blk.virt = blk'.virt ∧ (blk.virt = false → c'.loc r = c.loc r)
  nx : c.nx ≤ c'.nx
  sz : ∀ (b : Nat) (arr : Array Value) (T : TypeId) (fz : Nat × Nat), c.w.heap[b]? = some (Obj.cells arr T fz) → ∃ (arr' : Array Value) (fz' : Nat × Nat), c'.w.heap[b]? = some (Obj.cells arr' T fz') ∧ arr'.size = arr.size
  n0 : ∀ b, c.n0 b → c'.n0 b
theorem Ext0.toW {c c' : Cx} (h : Ext0 c c') : ExtW c c' := ⟨h.keep0, h.live, h.nx, h.sz, h.n0⟩
theorem Ext.to0 {c c' : Cx} (h : Ext c c') : Ext0 c c' := ⟨h.keep0, h.live, h.nx, h.sz, h.n0⟩
theorem Ext.refl (c : Cx) : Ext c c :=
  ⟨fun _ _ _ => rfl, fun _ _ h => h, Nat.le_refl _, fun _ blk h _ => ⟨blk, h, rfl, rfl, fun _ => rfl⟩, Nat.le_refl _, fun _ arr _ fz h => ⟨arr, fz, h, rfl⟩, rfl, rfl, rfl, fun _ h => h, fun _ h => .inl h, fun _ _ => rfl⟩
theorem Ext.trans {a b c : Cx} (h : Ext a b) (k : Ext b c) : Ext a c where
  keep x hx hn := (k.keep x (Nat.lt_of_lt_of_le hx h.size) (fun ho => hn (h.own x hx ho))).trans (h.keep x hx hn)
  own x hx ho := h.own x hx (k.own x (Nat.lt_of_lt_of_le hx h.size) ho)
  size := Nat.le_trans h.size k.size
  live r blk' hr hst := by
    obtain ⟨blk, h1, h2, h3, h4⟩ := k.live r blk' hr (Nat.lt_of_lt_of_le hst h.nx)
    obtain ⟨blk0, g1, g2, g3, g4⟩ := h.live r blk h1 (h2 ▸ hst)
    exact ⟨blk0, g1, g2.trans h2, g3.trans h3, fun hv => (h4 (g3 ▸ hv)).trans (g4 hv)⟩
  nx := Nat.le_trans h.nx k.nx
  sz x arr T fz hx := by
    obtain ⟨arr', fz', h1, h2⟩ := h.sz x arr T fz hx
    obtain ⟨arr'', fz'', k1, k2⟩ := k.sz x arr' T fz' h1
    exact ⟨arr'', fz'', k1, k2.trans h2⟩
  os := k.os.trans h.os
  tape := k.tape.trans h.tape
  output := k.output.trans h.output
  n0 x hx := k.n0 x (h.n0 x hx)
  new0 x hx := (k.new0 x hx).elim (fun h1 => h.new0 x h1) fun h1 => .inr (Nat.le_trans h.size h1)
  keep0 x hx := (k.keep0 x (h.n0 x hx)).trans (h.keep0 x hx)
theorem Store.at_some {σ : Store} {r st : Nat} {b : Blk} (h : σ.at r st = some b) : σ[r]? = some (some b) ∧ b.st = st := by
  unfold Store.at at h
  split at h
  · split at h
    · cases h; exact ⟨by assumption, by assumption⟩
    · cases h
  · cases h
theorem Store.at_of {σ : Store} {r st : Nat} {b : Blk} (h : σ[r]? = some (some b)) (hs : b.st = st) : σ.at r st = some b := by
  unfold Store.at; rw [h]; simp [hs]
theorem ExtW.at {c c' : Cx} (h : ExtW c c') {r st : Nat} {blk' : Blk} (hst : st < c.nx) (hb : c'.σ.at r st = some blk') :
    ∃ blk, c.σ.at r st = some blk ∧ blk.virt = blk'.virt ∧ (blk.virt = false → c'.loc r = c.loc r) := by
  obtain ⟨h1, h2⟩ := Store.at_some hb
  obtain ⟨blk, g1, g2, g3, g4⟩ := h.live r blk' h1 (h2 ▸ hst)
  exact ⟨blk, Store.at_of g1 (g2.trans h2), g3, g4⟩
theorem Ext0.at {c c' : Cx} (h : Ext0 c c') {r st : Nat} {blk' : Blk} (hst : st < c.nx) (hb : c'.σ.at r st = some blk') :
    ∃ blk, c.σ.at r st = some blk ∧ blk.virt = blk'.virt ∧ (blk.virt = false → c'.loc r = c.loc r) := h.toW.at hst hb
theorem Ext.at {c c' : Cx} (h : Ext c c') {r st : Nat} {blk' : Blk} (hst : st < c.nx) (hb : c'.σ.at r st = some blk') :
    ∃ blk, c.σ.at r st = some blk ∧ blk.virt = blk'.virt ∧ (blk.virt = false → c'.loc r = c.loc r) := h.to0.at hst hb
theorem cell?_heap {w w' : World} {a : Addr} (h : w'.heap[a.block]? = w.heap[a.block]?) : w'.cell? a = w.cell? a := by
  unfold World.cell?; rw [h]
theorem lt_of_cell? {w : World} {a : Addr} {v : Value} (h : w.cell? a = some v) : a.block < w.heap.size := World.block_lt_of_cell? w a h
mutual
theorem RepV.monoW {c c' : Cx} (h : ExtW c c') : ∀ (x : AV) (v : Value), RepV c x v → RepV c' x v
  | .u, _, hr => by simp only [RepV]
  | .b _, _, hr => by simpa only [RepV] using hr
  | .i _ _, _, hr => by simpa only [RepV] using hr
  | .s _, _, hr => by simpa only [RepV] using hr
  | .p r st k i o, v, hr => by
    simp only [RepV] at hr ⊢
    refine ⟨hr.1, Nat.lt_of_lt_of_le hr.2.1 h.nx, fun blk hb hv => ?_⟩
    obtain ⟨blk0, g1, g2, g3⟩ := h.at hr.2.1 hb
    rw [g3 (g2.trans hv)]
    exact hr.2.2 blk0 g1 (g2.trans hv)
  | .pe cs k i o, v, hr => by
    simp only [RepV] at hr ⊢
    obtain ⟨b, off, h1, h2, h3⟩ := hr
    exact ⟨b, off, h1, fun hn => h.n0 b (h2 hn), RepAt.monoW h b off cs h2 h3⟩
  | .np, _, hr => by simpa only [RepV] using hr
  | .sl k n cs, v, hr => by
    simp only [RepV] at hr ⊢
    obtain ⟨hl, hr⟩ := hr
    refine ⟨hl, ?_⟩
    rcases hr with hr | ⟨b, off, cap, h1, h1', h2, h3⟩
    · exact .inl hr
    · exact .inr ⟨b, off, cap, h1, h1', fun hn => h.n0 b (h2 hn), RepAt.monoW h b off cs h2 h3⟩
  | .ns, _, hr => by simpa only [RepV] using hr
  | .sz, _, hr => by simpa only [RepV] using hr
  | .gr r st i n k, v, hr => by
    simp only [RepV] at hr ⊢
    refine ⟨hr.1, Nat.lt_of_lt_of_le hr.2.1 h.nx, fun blk hb => ?_⟩
    obtain ⟨blk0, g1, g2, g3⟩ := h.at hr.2.1 hb
    obtain ⟨k1, k2⟩ := hr.2.2 blk0 g1
    refine ⟨fun hv => k1 (g2.trans hv), fun hv => ?_⟩
    obtain ⟨off, cap, arr, T, fz, e1, e2, e3, e4⟩ := k2 (g2.trans hv)
    obtain ⟨arr', fz', f1, f2⟩ := h.sz _ _ _ _ e3
    rw [g3 (g2.trans hv)]
    exact ⟨off, cap, arr', T, fz', e1, e2, f1, by rw [f2]; exact e4⟩
  | .m r st, v, hr => by
    simp only [RepV] at hr ⊢
    refine ⟨hr.1, Nat.lt_of_lt_of_le hr.2.1 h.nx, fun blk hb hv => ?_⟩
    obtain ⟨blk0, g1, g2, g3⟩ := h.at hr.2.1 hb
    rw [g3 (g2.trans hv)]
    exact hr.2.2 blk0 g1 (g2.trans hv)
  | .mi ck bs ks, v, hr => by
    simp only [RepV] at hr ⊢
    obtain ⟨b, arr, h1, h2, h3, h4, h5⟩ := hr
    exact ⟨b, arr, h1, h.n0 b h2, (h.keep0 b h2).trans h3, h4, RepL.monoW h ks _ h5⟩
  | .nm, _, hr => by simpa only [RepV] using hr
  | .it r st, v, hr => by
    simp only [RepV] at hr ⊢
    refine ⟨hr.1, Nat.lt_of_lt_of_le hr.2.1 h.nx, fun blk hb hv => ?_⟩
    obtain ⟨blk0, g1, g2, g3⟩ := h.at hr.2.1 hb
    rw [g3 (g2.trans hv)]
    exact hr.2.2 blk0 g1 (g2.trans hv)
  | .fn f first cap, v, hr => by
    simp only [RepV] at hr ⊢
    obtain ⟨f', c', h1, h2, h3⟩ := hr
    exact ⟨f', c', h1, RepL.monoW h first _ h2, RepL.monoW h cap _ h3⟩
  | .fy r st, v, hr => by
    simp only [RepV] at hr ⊢
    refine ⟨hr.1, Nat.lt_of_lt_of_le hr.2.1 h.nx, fun blk hb hv => ?_⟩
    obtain ⟨blk0, g1, g2, g3⟩ := h.at hr.2.1 hb
    rw [g3 (g2.trans hv)]
    exact hr.2.2 blk0 g1 (g2.trans hv)
  | .nf, _, hr => by simpa only [RepV] using hr
  | .ifc t x, v, hr => by
    simp only [RepV] at hr ⊢
    obtain ⟨y, h1, h2⟩ := hr
    exact ⟨y, h1, RepV.monoW h x y h2⟩
  | .ni, _, hr => by simpa only [RepV] using hr
  | .agg l, v, hr => by
    simp only [RepV] at hr ⊢
    obtain ⟨cs, h1, h2, h3⟩ := hr
    exact ⟨cs, h1, RepL.monoW h l _ h2, h3⟩
  | .tup l, v, hr => by
    simp only [RepV] at hr ⊢
    obtain ⟨cs, h1, h2⟩ := hr
    exact ⟨cs, h1, RepL.monoW h l _ h2⟩
theorem RepL.monoW {c c' : Cx} (h : ExtW c c') : ∀ (l : List AV) (vs : List Value), RepL c l vs → RepL c' l vs
  | [], _, hr => by simpa only [RepL] using hr
  | x :: xs, vs, hr => by
    simp only [RepL] at hr ⊢
    obtain ⟨y, ys, h1, h2, h3⟩ := hr
    exact ⟨y, ys, h1, RepV.monoW h x y h2, RepL.monoW h xs ys h3⟩
theorem RepAt.monoW {c c' : Cx} (h : ExtW c c') : ∀ (b off : Nat) (cs : List AV), (cs ≠ [] → c.n0 b) → RepAt c b off cs → RepAt c' b off cs
  | _, _, [], _, _ => by simp only [RepAt]
  | b, off, x :: xs, hn, hr => by
    simp only [RepAt] at hr ⊢
    obtain ⟨⟨y, h1, h1', h2⟩, h3⟩ := hr
    refine ⟨⟨y, ?_, h1', RepV.monoW h x y h2⟩, RepAt.monoW h b (off + 1) xs (fun _ => hn (by simp)) h3⟩
    rw [cell?_heap (a := ⟨b, off, none⟩) (h.keep0 b (hn (by simp)))]
    exact h1
end
theorem RepV.mono0 {c c' : Cx} (h : Ext0 c c') (x : AV) (v : Value) : RepV c x v → RepV c' x v := RepV.monoW h.toW x v
theorem RepL.mono0 {c c' : Cx} (h : Ext0 c c') (l : List AV) (vs : List Value) : RepL c l vs → RepL c' l vs := RepL.monoW h.toW l vs
theorem RepAt.mono0 {c c' : Cx} (h : Ext0 c c') (b off : Nat) (cs : List AV) : (cs ≠ [] → c.n0 b) → RepAt c b off cs → RepAt c' b off cs := RepAt.monoW h.toW b off cs
theorem RepV.mono {c c' : Cx} (h : Ext c c') (x : AV) (v : Value) (hr : RepV c x v) : RepV c' x v := RepV.mono0 h.to0 x v hr
theorem RepL.mono {c c' : Cx} (h : Ext c c') (l : List AV) (vs : List Value) (hr : RepL c l vs) : RepL c' l vs := RepL.mono0 h.to0 l vs hr
end Hb
end

section
set_option linter.unusedVariables false
set_option linter.unusedSimpArgs false
set_option linter.constructorNameAsVariable false
set_option autoImplicit false
namespace Hb
open Go
def litS : Value → Option AV
  | .bool b => some (.b b)
  | .int k n => some (.i k n)
  | .string s => some (.s (s.data.toList.map UInt8.toNat))
  | .pointer none => some .np
  | .slice none 0 0 => some .ns
  | .map none => some .nm
  | .nilFunc => some .nf
  | .nilIface => some .ni
  | _ => none
def litL : List Value → Option (List AV)
  | [] => some []
  | v :: vs => (litS v).bind fun a => (litL vs).map fun as => a :: as
def litV : Value → Option AV
  | .agg cs => (litL cs.toList).map .agg
  | .tuple cs => if cs.toList.isEmpty then some (.tup []) else none
  | v => litS v
section
variable (P : Prg)
def compO : Operand → Option XO
  | .tmp t => some (.t t)
  | .const v => (litV v).map .c
  | .func f => some (.f f)
  | .global g => some (.c (match P.glob g with | some cs => .pe cs cs.length 0 0 | none => .u))
def compOs : List Operand → Option (List XO)
  | [] => some []
  | x :: xs => (compO P x).bind fun a => (compOs xs).map fun as => a :: as
def compOpt : Option Operand → Option (Option XO)
  | none => some none
  | some x => (compO P x).map some
def tsz (t : TypeId) : Option Nat := (P.info? t).map (·.size)
def tagg (t : TypeId) : Option Bool :=
  match P.underlying t with
  | some (.struct _) | some (.array _ _) => some true
  | some _ => some false
  | none => none
def tzero (t : TypeId) : Option (List AV) :=
  match P.info? t with
  | some i => match i.zero with
    | some v => litL v.cells.toList
    | none => none
  | none => none
def tzv (t : TypeId) : Option AV := (P.info? t).bind fun i => i.zero.bind litV
def kstr (t : TypeId) : Option Bool :=
  match P.underlying t with
  | some (.int _) => some false
  | some .string => some true
  | _ => none
def compParts (places : Nat → Option (Nat × Nat)) : List (Nat × Operand) → Option (List (Nat × Nat × XO))
  | [] => some []
  | (i, x) :: ps => (places i).bind fun (o, s) => (compO P x).bind fun a => (compParts places ps).map fun as => (o, s, a) :: as
def fieldPlaces (fields : Array Field) (i : Nat) : Option (Nat × Nat) :=
  match fields[i]? with
  | some f => (tsz P f.type).map fun s => (f.offset, s)
  | none => none
def eqKind : Nat → TypeId → Option XEq
  | 0, _ => none
  | _ + 1, t =>
    match P.underlying t with
    | some (.int _) => some .int
    | some .string => some .str
    | some .bool => some .bool
    | _ => none
def isNum (t : TypeId) : Bool := match P.underlying t with | some (.int _) => true | _ => false
def intsOf (t : TypeId) : Option Nat :=
  match P.underlying t with
  | some (.struct fs) => if P.stoodInHeld t = false ∧ P.eqGuardType P.depth t = false ∧ fs.toList.map (·.offset) = List.range fs.size ∧ (fs.toList.all fun f => f.name != "_" && isNum P f.type) = true then some fs.size else none
  | some (.array n e) => if isNum P e = true ∧ P.eqGuardType P.depth t = false ∧ tsz P e = some 1 then some n else none
  | _ => none
def numTypes : List Nat := (List.range P.types.size).filter fun t => isNum P t && (match P.info? t with | some i => i.comparable | none => false)
def compBin (op : BinOp) (t : TypeId) (x y : XO) : Option XOp :=
  match op with
  | .eql | .neq =>
    match P.underlying t with
    | some (.int _) | some .string => some (.bin op x y)
    | some .bool => some (.eq .bool (op == .neq) x y)
    | some (.slice _) => some (.eq .slc (op == .neq) x y)
    | some (.map _ _) => some (.eq .map (op == .neq) x y)
    | some (.func _ _ _) => some (.eq .fun (op == .neq) x y)
    | some (.pointer e) => if (tsz P e).isSome then some (.eq .ptr (op == .neq) x y) else none
    | some (.interface _) => match y with
      | .c .ni => some (.eq .ifc (op == .neq) x y)
      | _ => some (.eq (.ifi (numTypes P)) (op == .neq) x y)
    | _ => (intsOf P t).map fun n => .eq (.ints n) (op == .neq) x y
  | _ => some (.bin op x y)
def compConv (src dst : TypeId) (x : XO) : Option XOp :=
  match P.underlying src, P.underlying dst with
  | some (.int _), some (.int k) => some (.conv (.int k) x)
  | some .string, some .string => some (.conv .same x)
  | some .string, some (.slice e) => match P.underlying e with
    | some (.int .u8) => some (.conv (.s2b e) x)
    | _ => none
  | some (.slice e), some .string => match P.underlying e with
    | some (.int .u8) => some (.conv .b2s x)
    | _ => none
  | some (.pointer t), some .unsafePointer => match tsz P t with
    | some (_ + 1) => some (.conv .tou x)
    | _ => none
  | some (.slice e), some (.slice _) => if src = dst then (match P.underlying e with
    | some (.int .u8) => some (.mks x)
    | _ => none) else none
  | some .unsafePointer, some (.pointer u) => match tsz P u with
    | some (n + 1) => some (.conv (.fru u (n + 1)) x)
    | _ => none
  | _, _ => none
def compCall (c : Call) : Option XOp :=
  match c.callee with
  | .value f => (compO P f).bind fun g => (compOs P c.args.toList).map fun as => .call g as
  | .builtin .len => match c.argTypes[0]? with
    | some t => match P.underlying t with
      | some .string => (compOs P c.args.toList).map fun as => .bi (.len true) as
      | some (.slice _) => (compOs P c.args.toList).map fun as => .bi (.len false) as
      | some (.map _ _) => match c.args.toList with
        | [x] => (compO P x).map .mlen
        | _ => none
      | _ => none
    | none => none
  | .builtin .min => (compOs P c.args.toList).map fun as => .bi .min as
  | .builtin .max => (compOs P c.args.toList).map fun as => .bi .max as
  | .builtin .append => match c.argTypes[0]?, c.argTypes[1]? with
    | some t, some u => match P.underlying t, P.underlying u with
      | some (.slice e), some (.slice _) | some (.slice e), some .string => match P.info? e, tzero P e with
        | some i, some z => if i.bytes ≤ 4096 ∧ z.length = i.size then (compOs P c.args.toList).map fun as => .bi (.append e i.size z) as else none
        | _, _ => none
      | some (.slice e), some (.int _) => match P.info? e, tzero P e with
        | some i, some z => if i.bytes ≤ 4096 ∧ z.length = i.size ∧ 0 < i.size then (compOs P c.args.toList).map fun as => .bi (.appz e i.size z) as else none
        | _, _ => none
      | _, _ => none
    | _, _ => none
  | .builtin .unsafeSliceData => match c.argTypes[0]? with
    | some t => match P.underlying t with
      | some (.slice e) => (tsz P e).bind fun k => (compOs P c.args.toList).map fun as => .bi (.sdat k) as
      | _ => none
    | none => none
  | .builtin .unsafeString => match c.argTypes.toList with
    | [t, _] => match P.underlying t with
      | some (.pointer e) => if tsz P e = some 1 then (compOs P c.args.toList).map fun as => .bi (.ustr e) as else none
      | _ => none
    | _ => none
  | .builtin .cap => match c.argTypes[0]? with
    | some t => match P.underlying t with
      | some (.slice _) => (compOs P c.args.toList).map fun as => .bi .cap as
      | _ => none
    | none => none
  | .builtin .copy => match c.argTypes.toList, c.args.toList with
    | [t, _], [x, y] => match P.underlying t with
      | some (.slice e) => (tsz P e).bind fun k => (compO P x).bind fun x => (compO P y).map fun y => .cpy k x y
      | _ => none
    | _, _ => none
  | .builtin .delete => match c.argTypes.toList, c.args.toList with
    | [t, _], [x, i] => match P.underlying t with
      | some (.map k _) => (kstr P k).bind fun s => (compO P x).bind fun x => (compO P i).map fun i => .mdel s x i
      | _ => none
    | _, _ => none
  | .builtin .clear => match c.argTypes.toList, c.args.toList with
    | [t], [x] => match P.underlying t with
      | some (.slice e) => (tsz P e).bind fun k => (tzero P e).bind fun z => if z.length = k ∧ 0 < k then (compO P x).map fun x => .clr k z x else none
      | _ => none
    | _, _ => none
  | _ => none
def compOp (o : Oper) : Option XOp :=
  match o.op with
  | .move x | .assign x => (compO P x).map .move
  | .pick c a b => (compO P c).bind fun c => (compO P a).bind fun a => (compO P b).map fun b => .pick c a b
  | .alloc e => (tzero P e).map fun z => .alloc e z
  | .box e x => (compO P x).map fun x => .box e 0 x
  | .build t ps => match P.underlying t with
    | some (.struct fs) => if fs.toList.all (fun f => (tsz P f.type).isSome) then (tzero P t).bind fun z => (compParts P (fieldPlaces P fs) ps.toList).map fun l => .build z l else none
    | some (.array _ e) => (tsz P e).bind fun k => (tzero P t).bind fun z => (compParts P (fun i => some (i * k, k)) ps.toList).map fun l => .build z l
    | _ => none
  | .buildSlice t n ps => match P.underlying t with
    | some (.slice e) => (tsz P e).bind fun k => (tzero P e).bind fun z =>
        if z.length = k ∧ 0 < k ∧ 0 < n ∧ n * k ≤ 4096 then (compParts P (fun i => some (i * k, k)) ps.toList).map fun l => .lit e k n ((List.range (n * k)).map fun j => (z[j % z.length]?).getD .u) l
        else if n = 0 ∧ ps = #[] then some (.lit e k 0 [] []) else none
    | _ => none
  | .load t a => (tagg P t).bind fun g => (tsz P t).bind fun n => (compO P a).map fun a => .load g n a
  | .store t a x => (tsz P t).bind fun n => (compO P a).bind fun a => (compO P x).map fun x => .store n a x
  | .nilCheck x => (compO P x).map .nilc
  | .binOp op t x y _ => (compO P x).bind fun x => (compO P y).bind fun y => compBin P op t x y
  | .unOp op _ x => (compO P x).map fun x => .un op x
  | .convert s d x => (compO P x).bind fun x => compConv P s d x
  | .makeInterface t x => match P.underlying t with
    | some (.interface _) | none => none
    | _ => (compO P x).map fun x => .mki t x
  | .typeAssert x _ asserted ok => match P.underlying asserted with
    | some (.interface _) | none => none
    | _ => (compO P x).map fun x => .conv (.tas asserted ok) x
  | .makeFunc f first cap => (compOs P first.toList).bind fun a => (compOs P cap.toList).map fun b => .mkf f a b
  | .slice t x lo hi mx => (compO P x).bind fun x => (compOpt P lo).bind fun lo => (compOpt P hi).bind fun hi => (compOpt P mx).bind fun mx =>
    match P.underlying t with
    | some .string => if mx.isNone then some (.ssl x lo hi) else none
    | some (.slice e) => (tsz P e).map fun k => .lsl k x lo hi mx
    | some (.array n e) => (tsz P e).bind fun k => if mx.isNone then some (.asl k n x lo hi) else none
    | _ => none
  | .fieldAddr s x f => (compO P x).bind fun x =>
    match P.underlying s with
    | some (.struct fs) => match fs[f]? with
      | some fd => (tsz P fd.type).bind fun n => if n = 0 then none else some (.fadr fd.offset x)
      | none => none
    | _ => none
  | .field t x f => (compO P x).bind fun x =>
    match P.underlying t with
    | some (.struct fs) => match fs[f]? with
      | some fd => (tagg P fd.type).bind fun g => (tsz P fd.type).map fun n => .fld g fd.offset n x
      | none => none
    | _ => none
  | .indexAddr t x i => (compO P x).bind fun x => (compO P i).bind fun i =>
    match P.underlying t with
    | some (.slice e) => (tsz P e).map fun k => .iadr k none x i
    | some (.array n e) => if n ≤ 1 then none else (tsz P e).map fun k => .iadr k (some n) x i
    | _ => none
  | .index t x i => (compO P x).bind fun x => (compO P i).bind fun i =>
    match P.underlying t with
    | some .string => some (.idxs x i)
    | some (.array n e) => (tagg P e).bind fun g => (tsz P e).map fun k => .idxa g k n x i
    | _ => none
  | .extract x n => (compO P x).map fun x => .ext x n
  | .call c => compCall P c
  | .makeSlice t l c => match P.underlying t with
    | some (.slice e) => match P.info? e, tzero P e with
      | some i, some z => if i.bytes ≤ 4096 ∧ z.length = i.size ∧ 0 < i.size then (compO P l).bind fun l => (compO P c).map fun c => .mksl e i.size z l c else none
      | _, _ => none
    | _ => none
  | .range t x => match P.underlying t with
    | some .string => (compO P x).map .rng
    | some (.map _ _) => (compO P x).map .rngm
    | _ => none
  | .next x true => (compO P x).map .next
  | .next x false => (compO P x).map .nextm
  | .entry x => (compO P x).map .entm
  | .makeMap _ none => some .mkm
  | .lookup t x i ok => match P.underlying t with
    | some (.map k e) => (kstr P k).bind fun s => (tzv P e).bind fun z => (compO P x).bind fun x => (compO P i).map fun i => .mget s z ok x i
    | _ => none
  | .mapUpdate t x i v | .insert t x i v => match P.underlying t with
    | some (.map k _) => (kstr P k).bind fun s => (compO P x).bind fun x => (compO P i).bind fun i => (compO P v).map fun v => .mset s x i v
    | _ => none
  | _ => none
def compOper (N : Nat) (ops : Array Oper) (o : Oper) : Option XOper :=
  if (o.dst.all fun d => decide (d < N)) then
    match o.guard with
    | none => some ⟨o.dst, (compOp P o).getD .bad, none⟩
    | some (j, want) => ((ops[j]?).bind (·.dst)).map fun d => ⟨o.dst, (compOp P o).getD .bad, some (d, want)⟩
  else none
def compList (N : Nat) (ops : Array Oper) : List Oper → Option (List XOper)
  | [] => some []
  | o :: os => (compOper P N ops o).bind fun x => (compList N ops os).map fun xs => x :: xs
def XOp.isAct : XOp → Bool
  | .alloc .. | .lit .. | .box .. | .store .. | .mksl .. | .call .. | .rng _ | .next _ | .mkm | .mset .. | .mdel .. | .rngm _ | .nextm _ | .clr .. | .mks _ | .cpy .. | .bad => true
  | .conv c _ => match c with | .s2b _ => true | _ => false
  | .bi b _ => match b with | .len _ | .min | .max => false | _ => true
  | _ => false
def XOp.reads : XOp → Bool
  | .nilc _ | .lsl .. | .fadr .. | .iadr .. | .load .. | .asl .. | .mget .. | .mlen _ | .entm _ => true
  | .conv c _ => match c with | .b2s | .tou | .fru .. => true | _ => false
  | .eq k _ _ _ => match k with | .ptr | .slc | .map => true | _ => false
  | _ => false
def XO.temps : XO → List Nat
  | .t n => [n]
  | _ => []
def oTemps : Option XO → List Nat
  | none => []
  | some x => x.temps
def XOp.temps : XOp → List Nat
  | .move x | .box _ _ x | .load _ _ x | .nilc x | .un _ x | .conv _ x | .mki _ x | .fadr _ x | .fld _ _ _ x | .ext x _ | .rng x | .next x | .mlen x | .rngm x | .nextm x | .clr _ _ x | .entm x | .mks x => x.temps
  | .pick c a b => c.temps ++ a.temps ++ b.temps
  | .alloc .. | .mkm | .bad => []
  | .asl _ _ x lo hi => x.temps ++ oTemps lo ++ oTemps hi
  | .mget _ _ _ x i | .mdel _ x i => x.temps ++ i.temps
  | .mset _ x i v => x.temps ++ i.temps ++ v.temps
  | .build _ ps | .lit _ _ _ _ ps => ps.flatMap fun p => p.2.2.temps
  | .store _ a x => a.temps ++ x.temps
  | .cpy _ x y | .bin _ x y | .eq _ _ x y | .iadr _ _ x y | .idxs x y | .idxa _ _ _ x y | .mksl _ _ _ x y => x.temps ++ y.temps
  | .mkf _ a b => a.flatMap XO.temps ++ b.flatMap XO.temps
  | .ssl x lo hi => x.temps ++ oTemps lo ++ oTemps hi
  | .lsl _ x lo hi mx => x.temps ++ oTemps lo ++ oTemps hi ++ oTemps mx
  | .call f as => f.temps ++ as.flatMap XO.temps
  | .bi _ as => as.flatMap XO.temps
def XOper.temps (o : XOper) : List Nat := (match o.guard with | some (t, _) => [t] | none => []) ++ o.op.temps
structure VE where
  i : Nat
  x : XOper
  m : Nat
  act : Bool
def afterOf (o : Oper) : List Nat := (o.after.toList.filter (Region.binds .any)).map (·.on)
def hasV (V : List VE) (k : Nat) : Bool := V.any fun e => e.i == k
def maskOf : List VE → Nat → Nat
  | [], _ => 0
  | e :: V, k => if e.i = k then e.m else maskOf V k
def clos (V : List VE) : List Nat → Nat
  | [] => 0
  | k :: ks => ((1 <<< k) ||| maskOf V k) ||| clos V ks
def readyV (ops : Array Oper) (V : List VE) : List Nat :=
  (List.range ops.size).filter fun i => !hasV V i && (match ops[i]? with | some o => (afterOf o).all (hasV V) | none => false)
def insOk (V : List VE) (x : XOper) (m : Nat) (act : Bool) : Bool :=
  (V.all fun e =>
    (match e.x.dst with | some d => !(x.temps.contains d) || m.testBit e.i | none => true) &&
    (match x.dst with | some d => (e.x.dst != some d) && (!(e.x.temps.contains d) || (act && m.testBit e.i)) | none => true)) &&
  (act || match x.dst with | some d => !x.temps.contains d | none => true)
def againOf (V : List VE) (m : Nat) : List XOper := (V.filter fun e => e.x.op.reads && !m.testBit e.i).map (·.x)
def closAt (ops : Array Oper) (V : List VE) (i : Nat) : Nat :=
  match ops[i]? with
  | some o => clos V (afterOf o)
  | none => 0
def eager (ops : Array Oper) (xs : List XOper) (V : List VE) (i : Nat) : Bool :=
  match xs[i]? with
  | some x => !x.op.isAct && insOk V x (closAt ops V i) false
  | none => false
def XO.isC : XO → Bool
  | .t _ => false
  | _ => true
def XOp.lateX : XOp → Option (Nat × List AV × Option (Nat × Nat))
  | .alloc T z => some (T, z, none)
  | .lit T k n z ps => if ps.all (fun p => p.2.2.isC) then (match fillA (fun _ => .u) z ps with
    | some cs => if cs.length = n * k ∧ 0 < n then some (T, cs, some (n, k)) else none
    | none => none) else none
  | _ => none
def XOp.isAlloc (x : XOp) : Bool := x.lateX.isSome
def isAllocAt (xs : List XOper) (i : Nat) : Bool :=
  match xs[i]? with
  | some x => x.op.isAlloc && x.guard.isNone && x.dst.isSome
  | none => false
def branchOf (xs : List XOper) (rs : List Nat) : List Nat :=
  if (rs.filter fun i => !isAllocAt xs i).isEmpty then rs.take 1 else rs.filter fun i => !isAllocAt xs i
def lateOf (xs : List XOper) (rs : List Nat) : List Nat := rs.filter fun i => isAllocAt xs i && !(branchOf xs rs).contains i
def lateOkE (xs : List XOper) (x : XOper) (k : Nat) : Bool :=
  match xs[k]? with
  | some y => (match y.dst with
    | some d => x.dst != some d && !(x.temps.contains d)
    | none => false)
  | none => false
def lateV (xs : List XOper) (V : List VE) (Z : List Nat) : Bool := Z.all fun k => V.all fun e => lateOkE xs e.x k
def lateFree (ops : Array Oper) (xs : List XOper) (V : List VE) (rs : List Nat) : Bool :=
  ((readyV ops ((lateOf xs rs).map (fun k => (⟨k, ⟨none, .bad, none⟩, 0, true⟩ : VE)) ++ V)).all fun j => rs.contains j) &&
  ((lateOf xs rs).all fun k => (lateOf xs rs).all fun j => decide (k = j) || (match xs[j]? with | some x => lateOkE xs x k | none => false))
def altsD (b : List VE → Option DT) (ops : Array Oper) (xs : List XOper) (V : List VE) (Z : List Nat) : List Nat → Option DT
  | [] => some .stop
  | j :: js => (altsD b ops xs V Z js).bind fun alt => (xs[j]?).bind fun x =>
    if insOk V x (closAt ops V j) true && Z.all (lateOkE xs x) then (b (⟨j, x, closAt ops V j, true⟩ :: V)).map fun t => .act x (againOf V (closAt ops V j)) t alt else none
def buildD (ops : Array Oper) (xs : List XOper) : Nat → List Nat → List VE → Option DT
  | 0, _, V => if (readyV ops V).isEmpty then some .done else none
  | f + 1, Z, V => if (readyV ops V).isEmpty then some .done else
    match (readyV ops V).find? (eager ops xs V) with
    | some i => (xs[i]?).bind fun x => if Z.all (lateOkE xs x) then (buildD ops xs f Z (⟨i, x, closAt ops V i, false⟩ :: V)).map fun t => .one x t else none
    | none => if lateFree ops xs V (readyV ops V) && lateV xs V (lateOf xs (readyV ops V)) then
        altsD (buildD ops xs f (lateOf xs (readyV ops V))) ops xs V (lateOf xs (readyV ops V)) (branchOf xs (readyV ops V)) else none
def hA : XC → XC
  | .seq _ a _ | .cond _ a _ | .block _ a | .loop _ a | .range _ _ _ a _ => a
  | x => x
def hB : XC → XC
  | .seq _ _ b | .cond _ _ b | .range _ _ _ _ b => b
  | x => x
def hJ : XC → Option (List Nat)
  | .seq j _ _ => j
  | _ => none
def hL : XC → List Nat
  | .loop A _ => A
  | .range _ _ L _ _ => L
  | _ => []
def reT : XC → XC → XC
  | .tag t _, x => .tag t x
  | _, x => x
def comp (N : Nat) : XC → Code → Option XC
  | _, .skip => some .skip
  | _, .region _ ops false => (compList P N ops ops.toList).map .ops
  | _, .region _ ops true => (compList P N ops ops.toList).bind fun xs =>
      (buildD ops xs ops.size [] []).map fun t => .draw t
  | h, .seq a b => (comp N (hA h) a).bind fun x => (comp N (hB h) b).map fun y => .seq (hJ h) x y
  | h, .cond c a b => (compO P c).bind fun c => (comp N (hA h) a).bind fun x => (comp N (hB h) b).map fun y => .cond c x y
  | h, .block id a => (comp N (hA h) a).map fun x => .block id x
  | h, .loop a => (comp N (hA h) a).map fun x => .loop (hL h) x
  | h, .rangeFunc f ps a b => (compO P f).bind fun f => (comp N (hA h).un a).bind fun x => (comp N (hB h).un b).map fun y =>
      .range f ps.toList (hL h) (reT (hA h) x) (reT (hB h) y)
  | _, .exit id => some (.exit id)
  | _, .ret => some .ret
  | _, _ => some .bad
end
end Hb
end

section
set_option linter.unusedVariables false
set_option linter.unusedSimpArgs false
set_option linter.constructorNameAsVariable false
set_option autoImplicit false
set_option linter.unusedSimpArgs false
set_option linter.unusedVariables false
namespace Hb
open Go
def fzOk (fz : Nat × Nat) (k d n : Nat) : Prop := (∀ j, d + k ≤ j + 1 → d ≤ j → j < n → ¬ (fz.1 ≤ j ∧ j < fz.2)) ∧ (k ≠ 1 → (fz.1 = fz.2 ∨ fz.2 + 1 ≤ k) ∧ d = 0)
def XExit.code : XExit → Option Code
  | .normal => none
  | .exit id => some (.exit id)
  | .ret => some .ret
def RepT (c : Cx) (N : Nat) (ρ : Nat → AV) (tmps : Array Value) : Prop := tmps.size = N ∧ ∀ t, RepV c (ρ t) (tmps.getD t undef)
def RepE (c : Cx) : List (AV × AV × Nat) → List MapEntry → Prop
  | [], l => l = []
  | (k, v, b) :: es, l => ∃ e l', l = e :: l' ∧ RepV c k e.key ∧ RepV c v e.val ∧ e.born = b ∧ RepE c es l'
def mkEs : List Nat → List AV → List (AV × AV × Nat)
  | b :: bs, k :: ks => (k, .u, b) :: mkEs bs ks
  | _, _ => []
def BlkRep (P : Prg) (c : Cx) (r : Nat) : Blk → Prop
  | .cells _ virt T fz cs => (virt = true → cs = []) ∧ (virt = false → ∃ arr fzr, c.w.heap[(c.loc r).1]? = some (.cells arr T fzr) ∧ fzOk fzr fz (c.loc r).2 arr.size ∧ (c.loc r).2 + cs.length ≤ arr.size ∧ RepAt c (c.loc r).1 (c.loc r).2 cs)
  | .loop _ state pending N ρ params xa xb dr ds => ∃ l : Loop, c.w.heap[(c.loc r).1]? = some (.loop l) ∧ l.state = state ∧ l.pending = pending.bind XExit.code ∧
      RepT c N ρ l.tmps ∧ l.params.toList = params ∧ (∃ h, comp P N h l.assign = some xa.un ∧ XOk P N xa) ∧ (∃ h, comp P N h l.body = some xb.un ∧ XOk P N xb) ∧ (∀ p ∈ params, p < N) ∧
      ds < c.nx ∧ (∀ b, c.σ.at dr ds = some b → b.virt = false → l.defers = (c.loc dr).1)
  | .dfr _ => c.w.heap[(c.loc r).1]? = some (.deferred (some []))
  | .iter _ s pos => c.w.heap[(c.loc r).1]? = some (.stringIter (bs s) pos) ∧ ∀ x ∈ s, x < 256
  | .map _ ck es => ∃ arr : Array MapEntry, c.w.heap[(c.loc r).1]? = some (.map arr ck) ∧ RepE c es arr.toList
  | .miter _ rm sm since last seen => ∃ m, c.w.heap[(c.loc r).1]? = some (.mapIter (some m) since seen.toArray last) ∧ sm < c.nx ∧ ∀ b, c.σ.at rm sm = some b → b.virt = false → m = (c.loc rm).1
  | .miti _ ck bs ks seen => ∃ m arr, c.w.heap[(c.loc r).1]? = some (.mapIter (some m) ck seen.toArray ck) ∧ c.n0 m ∧ c.w.heap[m]? = some (.map arr ck) ∧ arr.toList.map (·.born) = bs ∧ RepL c ks (arr.toList.map (·.key))
structure Sim (P : Prg) (c : Cx) : Prop where
  blk : ∀ r b, c.σ[r]? = some (some b) → BlkRep P c r b ∧ b.st < c.nx
  inj : ∀ r r' b b', c.σ[r]? = some (some b) → c.σ[r']? = some (some b') → b.virt = false → b'.virt = false → (c.loc r).1 = (c.loc r').1 → r = r'
  base : ∀ r b, c.σ[r]? = some (some b) → b.virt = false → ¬ c.n0 (c.loc r).1
  n0 : ∀ b, c.n0 b → b < c.w.heap.size
  glob : ∀ g cs, P.glob g = some cs → c.n0 g ∧ RepAt c g 0 cs
theorem bs_size (l : List Nat) : (bs l).size = l.length := by simp [bs, ByteArray.size]
theorem bs_append (l m : List Nat) : bs l ++ bs m = bs (l ++ m) := by
  apply ByteArray.ext
  simp [bs]
theorem ofNat_inj {a b : Nat} (ha : a < 256) (hb : b < 256) : UInt8.ofNat a = UInt8.ofNat b ↔ a = b := by
  constructor
  · intro h
    have := congrArg UInt8.toNat h
    simp at this
    omega
  · rintro rfl; rfl
theorem map_ofNat_inj : ∀ {l m : List Nat}, (∀ x ∈ l, x < 256) → (∀ x ∈ m, x < 256) → (l.map UInt8.ofNat = m.map UInt8.ofNat ↔ l = m)
  | [], [], _, _ => by simp
  | [], _ :: _, _, _ => by simp
  | _ :: _, [], _, _ => by simp
  | a :: l, b :: m, h1, h2 => by
    simp only [List.map_cons, List.cons.injEq]
    rw [ofNat_inj (h1 a (by simp)) (h2 b (by simp)), map_ofNat_inj (fun x hx => h1 x (by simp [hx])) (fun x hx => h2 x (by simp [hx]))]
def natLess : List Nat → List Nat → Bool
  | _, [] => false
  | [], _ :: _ => true
  | a :: x, b :: y => decide (a < b) || (a == b && natLess x y)
theorem natLess_eq : ∀ {l m : List Nat}, (∀ x ∈ l, x < 256) → (∀ x ∈ m, x < 256) → Op.bytesLess (l.map UInt8.ofNat) (m.map UInt8.ofNat) = natLess l m
  | [], [], _, _ => rfl
  | _ :: _, [], _, _ => rfl
  | [], _ :: _, _, _ => rfl
  | a :: l, b :: m, h1, h2 => by
    have ha := h1 a (by simp)
    have hb := h2 b (by simp)
    have e1 : (UInt8.ofNat a < UInt8.ofNat b) ↔ a < b := by
      rw [UInt8.lt_iff_toNat_lt]
      simp [Nat.mod_eq_of_lt ha, Nat.mod_eq_of_lt hb]
    have e2 : (UInt8.ofNat a == UInt8.ofNat b) = (a == b) := by
      rw [Bool.eq_iff_iff, beq_iff_eq, beq_iff_eq, ofNat_inj ha hb]
    have e3 := natLess_eq (l := l) (m := m) (fun x hx => h1 x (by simp [hx])) (fun x hx => h2 x (by simp [hx]))
    simp only [List.map_cons, Op.bytesLess, natLess, e2, e3]
    congr 1
    simp [e1]
theorem toNat_bs (s : ByteArray) : bs (s.data.toList.map UInt8.toNat) = s := by
  apply ByteArray.ext
  simp [bs, Function.comp_def]
theorem litS_rep {c : Cx} {v : Value} {a : AV} (h : litS v = some a) : RepV c a v := by
  unfold litS at h
  split at h <;> first
    | (cases h; simp only [RepV]; done)
    | (cases h; simp only [RepV, toNat_bs, true_and, List.mem_map]; rintro x ⟨y, _, rfl⟩; exact y.toNat_lt; done)
    | cases h
theorem litS_one {v : Value} {a : AV} (h : litS v = some a) : v.oneCell' = true := by
  unfold litS at h
  split at h <;> first | rfl | cases h
theorem litL_rep {c : Cx} : ∀ {vs : List Value} {as : List AV}, litL vs = some as → RepL c as vs ∧ ∀ v ∈ vs, v.oneCell' = true
  | [], as, h => by simp only [litL, Option.some.injEq] at h; subst h; simp [RepL]
  | v :: vs, as, h => by
    simp only [litL, Option.bind_eq_some_iff, Option.map_eq_some_iff] at h
    obtain ⟨a, ha, as', h', rfl⟩ := h
    obtain ⟨h1, h2⟩ := litL_rep (c := c) h'
    refine ⟨by simp only [RepL]; exact ⟨v, vs, rfl, litS_rep ha, h1⟩, fun x hx => ?_⟩
    rcases List.mem_cons.1 hx with rfl | hx
    · exact litS_one ha
    · exact h2 x hx
theorem litV_rep {c : Cx} {v : Value} {a : AV} (h : litV v = some a) : RepV c a v := by
  unfold litV at h
  split at h
  · simp only [Option.map_eq_some_iff] at h
    obtain ⟨as, ha, rfl⟩ := h
    simp only [RepV]
    exact ⟨_, rfl, litL_rep ha⟩
  · split at h
    · cases h
      rename_i cs he
      simp only [RepV, RepL]
      exact ⟨_, rfl, by simpa using he⟩
    · cases h
  · exact litS_rep h
theorem compO_rep {P : Prg} {c : Cx} {N : Nat} {ρ : Nat → AV} {a : Act} {o : Operand} {x : XO} (hs : Sim P c) (ht : RepT c N ρ a.tmps) (h : compO P o = some x) : RepV c (x.ev ρ) (a.eval o) := by
  cases o with
  | tmp t => simp only [compO, Option.some.injEq] at h; subst h; exact ht.2 t
  | const v =>
    simp only [compO, Option.map_eq_some_iff] at h
    obtain ⟨av, hv, rfl⟩ := h
    exact litV_rep hv
  | global g =>
    simp only [compO, Option.some.injEq] at h
    subst h
    cases hg : P.glob g with
    | none => simp [XO.ev, RepV]
    | some cs =>
      obtain ⟨h1, h2⟩ := hs.glob g cs hg
      simp only [XO.ev, RepV, Act.eval]
      exact ⟨g, 0, by simp, fun _ => h1, h2⟩
  | func f => simp only [compO, Option.some.injEq] at h; subst h; simp [XO.ev, RepV, RepL, Act.eval]
theorem compOs_rep {P : Prg} {c : Cx} {N : Nat} {ρ : Nat → AV} {a : Act} (hs : Sim P c) (ht : RepT c N ρ a.tmps) : ∀ {l : List Operand} {xs : List XO}, compOs P l = some xs → RepL c (xs.map (XO.ev ρ)) (l.map a.eval)
  | [], xs, h => by simp only [compOs, Option.some.injEq] at h; subst h; simp [RepL]
  | o :: os, xs, h => by
    simp only [compOs, Option.bind_eq_some_iff, Option.map_eq_some_iff] at h
    obtain ⟨x, hx, xs', h', rfl⟩ := h
    simp only [List.map_cons, RepL]
    exact ⟨_, _, rfl, compO_rep hs ht hx, compOs_rep hs ht h'⟩
def elemAt (cs : List AV) (k i : Nat) : Option (List AV) := if (i + 1) * k ≤ cs.length then some ((cs.drop (i * k)).take k) else none
def loadN (cs : List AV) (k i o n : Nat) : Option (List AV) :=
  (elemAt cs k i).bind fun e => if o + n ≤ e.length then some ((e.drop o).take n) else none
def packV (g : Bool) (cs : List AV) : Option AV :=
  if g then some (.agg cs) else match cs with
    | [x] => some x
    | _ => none
def xint (op : BinOp) (k : IntKind) (a b : Int) : Option AV :=
  match op with
  | .add => some (.i k (k.wrap (a + b)))
  | .sub => some (.i k (k.wrap (a - b)))
  | .mul => some (.i k (k.wrap (a * b)))
  | .quo => if b = 0 then none else some (.i k (k.wrap (a.tdiv b)))
  | .rem => if b = 0 then none else some (.i k (a.tmod b))
  | .and => some (.i k (k.wrap (BitVec.ofInt k.bits a &&& BitVec.ofInt k.bits b).toNat))
  | .or => some (.i k (k.wrap (BitVec.ofInt k.bits a ||| BitVec.ofInt k.bits b).toNat))
  | .xor => some (.i k (k.wrap (BitVec.ofInt k.bits a ^^^ BitVec.ofInt k.bits b).toNat))
  | .andNot => some (.i k (k.wrap (BitVec.ofInt k.bits a &&& ~~~ BitVec.ofInt k.bits b).toNat))
  | .eql => some (.b (a == b))
  | .neq => some (.b (a != b))
  | .lss => some (.b (decide (a < b)))
  | .leq => some (.b (decide (a ≤ b)))
  | .gtr => some (.b (decide (a > b)))
  | .geq => some (.b (decide (a ≥ b)))
  | _ => none
def xshift (op : BinOp) (k : IntKind) (a b : Int) : Option AV :=
  match op with
  | .shl => if b < 0 then none else some (.i k (k.wrap (a * 2 ^ (min b.toNat k.bits))))
  | .shr => if b < 0 then none else some (.i k (a.fdiv (2 ^ (min b.toNat k.bits))))
  | _ => none
def xstr (op : BinOp) (a b : List Nat) : Option AV :=
  match op with
  | .add => if a.length + b.length < 4611686018427387904 then some (.s (a ++ b)) else none
  | .eql => some (.b (a == b))
  | .neq => some (.b (!(a == b)))
  | .lss => some (.b (natLess a b))
  | .leq => some (.b (natLess a b || a == b))
  | .gtr => some (.b (!(natLess a b || a == b)))
  | .geq => some (.b (!(natLess a b)))
  | _ => none
def xbin (op : BinOp) : AV → AV → Option AV
  | .i k a, .i k' b => match op with
    | .shl | .shr => xshift op k a b
    | _ => if k = k' then xint op k a b else none
  | .s a, .s b => xstr op a b
  | _, _ => none
def xeq : XEq → AV → AV → Option Bool
  | .bool, .b x, .b y => some (x == y)
  | .slc, .ns, .ns => some true
  | .slc, .sl _ n _, .ns => if n = 0 then none else some false
  | .slc, .ns, .sl _ n _ => if n = 0 then none else some false
  | .map, .nm, .nm => some true
  | .fun, .nf, .nf => some true
  | .fun, .fn _ _ _, .nf => some false
  | .fun, .nf, .fn _ _ _ => some false
  | .ptr, .np, .np => some true
  | .ptr, .pe _ _ _ _, .np => some false
  | .ptr, .np, .pe _ _ _ _ => some false
  | .ifc, .ni, .ni => some true
  | .ifc, .ifc _ _, .ni => some false
  | _, _, _ => none
def xidx : AV → Option Int
  | .i _ n => some n
  | _ => none
def Store.live (σ : Store) (r st : Nat) : Bool :=
  match σ.at r st with
  | some b => !b.virt
  | none => false
def Store.cells (σ : Store) (r st : Nat) : Option (List AV) :=
  match σ.at r st with
  | some (.cells _ false _ _ cs) => some cs
  | _ => none
def bytesOf : List AV → Option (List Nat)
  | [] => some []
  | .i .u8 n :: xs => (bytesOf xs).map fun l => n.toNat % 256 :: l
  | _ => none
def xbounds (ρ : Nat → AV) (len : Nat) (lo hi : Option XO) : Option (Nat × Nat) :=
  (match hi with
   | none => some len
   | some x => (xidx (x.ev ρ)).bind fun n => if 0 ≤ n ∧ n ≤ len then some n.toNat else none).bind fun h =>
  (match lo with
   | none => some 0
   | some x => (xidx (x.ev ρ)).bind fun n => if 0 ≤ n ∧ n ≤ h then some n.toNat else none).map fun l => (l, h)
def xlsl (σ : Store) (ρ : Nat → AV) (k : Nat) (lo hi mx : Option XO) : AV → Option AV
  | .sl k' n cs => if k' = k then (match mx with
      | none => (xbounds ρ n lo hi).map fun (l, h) => .sl k (h - l) ((cs.drop (l * k)).take ((h - l) * k))
      | some m => match lo, hi.map (XO.ev ρ), m.ev ρ with
        | none, some (.i _ 0), .i _ 0 => some .sz
        | _, _, _ => none) else none
  | .gr r st i n k' => if k' = k ∧ σ.live r st then (match mx with
      | none => (xbounds ρ n lo hi).map fun (l, h) => .gr r st (i + l) (h - l) k
      | some m => match lo, hi.map (XO.ev ρ), m.ev ρ with
        | none, some (.i _ 0), .i _ 0 => some .sz
        | _, _, _ => none) else none
  | .ns => match mx with
      | none => (xbounds ρ 0 lo hi).map fun _ => .ns
      | some m => match lo, hi.map (XO.ev ρ), m.ev ρ with
        | none, some (.i _ 0), .i _ 0 => some .sz
        | _, _, _ => none
  | _ => none
def xfold (f : Int → Int → Int) (k : IntKind) (a : Int) : List AV → Option AV
  | [] => some (.i k a)
  | .i k' b :: xs => if k' = k then xfold f k (f a b) xs else none
  | _ => none
def xconv (σ : Store) : XConv → AV → Option AV
  | .int k, v => match v with
    | .i _ n => some (.i k (k.wrap n))
    | _ => none
  | .same, v => match v with
    | .s l => some (.s l)
    | _ => none
  | .b2s, v => match v with
    | .sl k n cs => if k = 1 then (bytesOf cs).map .s else none
    | .ns => some (.s [])
    | .gr r st i n k => if k = 1 then (σ.cells r st).bind fun cs => if i + n ≤ cs.length then (bytesOf ((cs.drop i).take n)).map .s else none else none
    | _ => none
  | .s2b _, _ => none
  | .tou, v => match v with
    | .p r st k i o => (σ.cells r st).bind fun cs => if i * k + o < cs.length then some (.p r st k i o) else none
    | _ => none
  | .fru u n, v => match v with
    | .p r st k i o => match σ.at r st with
      | some (.cells _ false T fz cs) => if T = u ∧ i * k + o = 0 ∧ n ≤ cs.length ∧ fz ≠ 1 then some (.p r st k i o) else none
      | _ => none
    | _ => none
  | .tas t ok, v => match v with
    | .ifc t' y => if t' = t then some (cond ok (.tup [y, .b true]) y) else none
    | _ => none
def eqIfi (L : List Nat) (t : Nat) (x : AV) (t' : Nat) (y : AV) : Option Bool :=
  if t = t' then (match x, y with
    | .i k a, .i k' b => if L.contains t = true ∧ k = k' then some (decide (a = b)) else none
    | _, _ => none) else some false
def eqInts : List AV → List AV → Option Bool
  | [], [] => some true
  | .i k a :: xs, .i k' b :: ys => if k = k' then (if a = b then eqInts xs ys else some false) else none
  | _, _ => none
def xeqS (σ : Store) (k : XEq) (x y : AV) : Option Bool :=
  match k, x, y with
  | .ptr, .p r st _ _ _, .np => if σ.live r st then some false else none
  | .ptr, .np, .p r st _ _ _ => if σ.live r st then some false else none
  | .ptr, .p r st kk i o, .p r' st' kk' i' o' => if σ.live r st = true ∧ r = r' ∧ st = st' ∧ i * kk + o = i' * kk' + o' then some true else none
  | .slc, .gr r st _ _ _, .ns => if σ.live r st then some false else none
  | .map, .m r st, .nm => if σ.live r st then some false else none
  | .ifi L, .ifc t x, .ifc t' y => eqIfi L t x t' y
  | .ints n, .agg xs, .agg ys => if xs.length = n then eqInts xs ys else none
  | k, x, y => xeq k x y
def keyEq : AV → AV → Option Bool
  | .i k a, .i k' b => if k = k' then some (a == b) else none
  | .s a, .s b => some (a == b)
  | _, _ => none
def keyIs (str : Bool) : AV → Bool
  | .i _ _ => !str
  | .s _ => str
  | _ => false
def mgetL (k : AV) : List (AV × AV × Nat) → Option (Option AV)
  | [] => some none
  | e :: es => (keyEq k e.1).bind fun t => cond t (some (some e.2.1)) (mgetL k es)
def mputL (k v : AV) (ck : Nat) : List (AV × AV × Nat) → Option (List (AV × AV × Nat) × Bool)
  | [] => some ([(k, v, ck)], true)
  | e :: es => (keyEq k e.1).bind fun t => cond t (some ((k, v, e.2.2) :: es, false)) ((mputL k v ck es).map fun p => (e :: p.1, p.2))
def mdelL (k : AV) : List (AV × AV × Nat) → Option (List (AV × AV × Nat))
  | [] => some []
  | e :: es => (keyEq k e.1).bind fun t => cond t (some es) ((mdelL k es).map fun l => e :: l)
def mapEs (σ : Store) : AV → Option (List (AV × AV × Nat))
  | .nm => some []
  | .m r st => match σ.at r st with
    | some (.map _ _ es) => some es
    | _ => none
  | _ => none
def xmget (σ : Store) (str : Bool) (z : AV) (ok : Bool) (x i : AV) : Option AV :=
  if keyIs str i then (mapEs σ x).bind fun es => (mgetL i es).map fun o => match o with
    | some v => cond ok (.tup [v, .b true]) v
    | none => cond ok (.tup [z, .b false]) z
  else none
def xasl (σ : Store) (ρ : Nat → AV) (k n : Nat) (lo hi : Option XO) : AV → Option AV
  | .p r st kk i o => (σ.cells r st).bind fun cs => if i * kk + o = 0 ∧ n * k ≤ cs.length then (xbounds ρ n lo hi).map fun (l, h) => .gr r st l (h - l) k else none
  | _ => none
def xent (σ : Store) : AV → Option AV
  | .it r st => match σ.at r st with
    | some (.miter _ rm sm _ last seen) => match seen.getLast?, σ.at rm sm with
      | some b, some (.map _ ck es) => if ck = last then (es.find? fun e => e.2.2 == b).map fun e => .tup [e.1, e.2.1] else none
      | _, _ => none
    | some (.miti _ ck bs ks seen) => match seen.getLast? with
      | some b => ((mkEs bs ks).find? fun e => e.2.2 == b).map fun e => .tup [e.1, .u]
      | none => none
    | _ => none
  | _ => none
def xpure (σ : Store) (ρ : Nat → AV) : XOp → Option AV
  | .move x => some (x.ev ρ)
  | .pick c a b => match c.ev ρ with
    | .b t => some (cond t (a.ev ρ) (b.ev ρ))
    | _ => none
  | .build z ps => (fillA ρ z ps).map .agg
  | .nilc x => match x.ev ρ with
    | .p r st k i o => if σ.live r st then some (.p r st k i o) else none
    | .pe cs k i o => some (.pe cs k i o)
    | .fn (.func f) a b => some (.fn (.func f) a b)
    | .ifc t v => some (.ifc t v)
    | _ => none
  | .bin op x y => xbin op (x.ev ρ) (y.ev ρ)
  | .eq k neg x y => (xeqS σ k (x.ev ρ) (y.ev ρ)).map fun b => .b (if neg then !b else b)
  | .un op x => match op, x.ev ρ with
    | .neg, .i k n => some (.i k (k.wrap (0 - n)))
    | .not, .b b => some (.b (!b))
    | .xor, .i k n => xbin .xor (.i k (if k.signed then -1 else k.max)) (.i k n)
    | _, _ => none
  | .conv k x => xconv σ k (x.ev ρ)
  | .mki t x => some (.ifc t (x.ev ρ))
  | .mkf f a b => some (.fn f (a.map (XO.ev ρ)) (b.map (XO.ev ρ)))
  | .ssl x lo hi => match x.ev ρ with
    | .s l => (xbounds ρ l.length lo hi).map fun (a, h) => .s ((l.take h).drop a)
    | _ => none
  | .lsl k x lo hi mx => xlsl σ ρ k lo hi mx (x.ev ρ)
  | .asl k n x lo hi => xasl σ ρ k n lo hi (x.ev ρ)
  | .mget str z ok x i => xmget σ str z ok (x.ev ρ) (i.ev ρ)
  | .entm x => xent σ (x.ev ρ)
  | .mlen x => (mapEs σ (x.ev ρ)).map fun es => .i .i64 es.length
  | .fadr off x => match x.ev ρ with
    | .p r st k i o => if σ.live r st then some (.p r st k i (o + off)) else none
    | .pe cs k i o => some (.pe cs k i (o + off))
    | _ => none
  | .fld g off n x => match x.ev ρ with
    | .agg l => if off + n ≤ l.length then packV g ((l.drop off).take n) else none
    | _ => none
  | .iadr k arr x i => (xidx (i.ev ρ)).bind fun j =>
    match arr, x.ev ρ with
    | none, .sl k' n cs => if k' = k ∧ 0 ≤ j ∧ j < n then some (.pe cs k j.toNat 0) else none
    | none, .gr r st i n k' => if k' = k ∧ 0 ≤ j ∧ j < n ∧ σ.live r st then some (.p r st k (i + j.toNat) 0) else none
    | some len, .p r st k' i o => if 0 ≤ j ∧ j < len ∧ σ.live r st then some (.p r st k' i (o + j.toNat * k)) else none
    | some len, .pe cs k' i o => if 0 ≤ j ∧ j < len then some (.pe cs k' i (o + j.toNat * k)) else none
    | _, _ => none
  | .idxs x i => (xidx (i.ev ρ)).bind fun j =>
    match x.ev ρ with
    | .s l => if 0 ≤ j then (l[j.toNat]?).map fun (c : Nat) => .i .u8 c else none
    | _ => none
  | .idxa g k len x i => (xidx (i.ev ρ)).bind fun j =>
    match x.ev ρ with
    | .agg l => if 0 ≤ j ∧ j < len ∧ (j.toNat + 1) * k ≤ l.length then packV g ((l.drop (j.toNat * k)).take k) else none
    | _ => none
  | .ext x n => match x.ev ρ with
    | .tup l => l[n]?
    | _ => none
  | .load g n x => match x.ev ρ with
    | .p r st k i o => (σ.cells r st).bind fun cs => (loadN cs k i o n).bind fun l => packV g l
    | .pe cs k i o => (loadN cs k i o n).bind fun l => packV g l
    | _ => none
  | .bi (.len str) [x] => match str, x.ev ρ with
    | true, .s l => some (.i .i64 l.length)
    | false, .sl _ n _ => some (.i .i64 n)
    | false, .ns => some (.i .i64 0)
    | false, .sz => some (.i .i64 0)
    | false, .gr _ _ _ n _ => some (.i .i64 n)
    | _, _ => none
  | .bi (.sdat k) [x] => match x.ev ρ with
    | .ns => some .np
    | .gr r st i n k' => if k' = k ∧ 0 < n then (σ.cells r st).map fun _ => .p r st k i 0 else none
    | _ => none
  | .bi .cap [x] => match x.ev ρ with
    | .ns => some (.i .i64 0)
    | .sz => some (.i .i64 0)
    | _ => none
  | .bi (.copy _) [x, y] => match x.ev ρ, y.ev ρ with
    | .gr _ _ _ _ _, .ns => some (.i .i64 0)
    | .ns, .ns => some (.i .i64 0)
    | _, _ => none
  | .bi .min (x :: xs) => match x.ev ρ with
    | .i k a => xfold (fun a b => if b < a then b else a) k a (xs.map (XO.ev ρ))
    | _ => none
  | .bi .max (x :: xs) => match x.ev ρ with
    | .i k a => xfold (fun a b => if b > a then b else a) k a (xs.map (XO.ev ρ))
    | _ => none
  | _ => none
end Hb
end

section
set_option linter.unusedVariables false
set_option linter.unusedSimpArgs false
set_option linter.constructorNameAsVariable false
set_option autoImplicit false
set_option linter.unusedSimpArgs false
set_option linter.unusedVariables false
namespace Hb
open Go
section
variable {P : Prg}
theorem run_und {t : TypeId} {d : TypeDesc} (h : P.underlying t = some d) (w : World) : (underlying t).run P w = .ok d w := run_underlying h w
theorem run_tinfo {t : TypeId} {i : TypeInfo} (h : P.info? t = some i) (w : World) : (typeInfo t).run P w = .ok i w := by
  simp [typeInfo, h]
theorem run_tsz {t : TypeId} {n : Nat} (h : tsz P t = some n) (w : World) : (Go.sizeOf t).run P w = .ok n w := by
  unfold tsz at h
  simp only [Option.map_eq_some_iff] at h
  obtain ⟨i, hi, rfl⟩ := h
  simp [Go.sizeOf, run_tinfo hi]
theorem run_tagg {t : TypeId} {g : Bool} (h : tagg P t = some g) (w : World) : (isAgg t).run P w = .ok g w := by
  unfold tagg at h
  cases hu : P.underlying t with
  | none => rw [hu] at h; cases h
  | some d =>
    rw [hu] at h
    cases d <;> simp at h <;> subst h <;> simp [isAgg, run_und hu]
theorem run_tzero {t : TypeId} {z : List AV} (h : tzero P t = some z) (w : World) :
    ∃ v, (zeroValue t).run P w = .ok v w ∧ litL v.cells.toList = some z := by
  unfold tzero at h
  cases hi : P.info? t with
  | none => rw [hi] at h; cases h
  | some i =>
    rw [hi] at h
    cases hz : i.zero with
    | none => simp only [hz] at h; cases h
    | some v =>
      simp only [hz] at h
      exact ⟨v, by simp [zeroValue, run_tinfo hi, hz], h⟩
theorem RepL.length {c : Cx} : ∀ {l : List AV} {vs : List Value}, RepL c l vs → l.length = vs.length
  | [], vs, h => by simp only [RepL] at h; subst h; rfl
  | x :: xs, vs, h => by
    simp only [RepL] at h
    obtain ⟨y, ys, rfl, _, h⟩ := h
    simp [RepL.length h]
theorem RepL.get {c : Cx} : ∀ {l : List AV} {vs : List Value}, RepL c l vs → ∀ {j : Nat} {x : AV}, l[j]? = some x → ∃ y, vs[j]? = some y ∧ RepV c x y
  | [], vs, h, j, x, hj => by simp at hj
  | a :: as, vs, h, j, x, hj => by
    simp only [RepL] at h
    obtain ⟨y, ys, rfl, h1, h2⟩ := h
    cases j with
    | zero => simp at hj; subst hj; exact ⟨y, by simp, h1⟩
    | succ j => simp at hj ⊢; exact RepL.get h2 hj
theorem RepL.of_get {c : Cx} : ∀ {l : List AV} {vs : List Value}, l.length = vs.length → (∀ (j : Nat) (x : AV), l[j]? = some x → ∃ y, vs[j]? = some y ∧ RepV c x y) → RepL c l vs
  | [], vs, hl, h => by simp at hl; simp only [RepL]; exact List.eq_nil_of_length_eq_zero hl.symm
  | a :: as, [], hl, h => by simp at hl
  | a :: as, v :: vs, hl, h => by
    simp only [RepL]
    obtain ⟨y, hy, hr⟩ := h 0 a (by simp)
    simp at hy
    subst hy
    exact ⟨v, vs, rfl, hr, RepL.of_get (by simpa using hl) (fun j x hj => by
      obtain ⟨y, hy, hr⟩ := h (j + 1) x (by simpa using hj)
      exact ⟨y, by simpa using hy, hr⟩)⟩
theorem RepL.append {c : Cx} {l l' : List AV} {vs vs' : List Value} (h : RepL c l vs) (h' : RepL c l' vs') : RepL c (l ++ l') (vs ++ vs') := by
  induction l generalizing vs with
  | nil => simp only [RepL] at h; subst h; simpa using h'
  | cons x xs ih =>
    simp only [RepL] at h
    obtain ⟨y, ys, rfl, h1, h2⟩ := h
    simp only [List.cons_append, RepL]
    exact ⟨y, ys ++ vs', rfl, h1, ih h2⟩
theorem RepL.take {c : Cx} {l : List AV} {vs : List Value} (h : RepL c l vs) (n : Nat) : RepL c (l.take n) (vs.take n) := by
  refine RepL.of_get (by simp [h.length]) fun j x hj => ?_
  rw [List.getElem?_take] at hj ⊢
  split at hj
  · rename_i hlt; obtain ⟨y, hy, hr⟩ := h.get hj; exact ⟨y, by simp [hlt, hy], hr⟩
  · cases hj
theorem RepL.drop {c : Cx} {l : List AV} {vs : List Value} (h : RepL c l vs) (n : Nat) : RepL c (l.drop n) (vs.drop n) := by
  refine RepL.of_get (by simp [h.length]) fun j x hj => ?_
  rw [List.getElem?_drop] at hj ⊢
  exact h.get hj
theorem RepV.cells {c : Cx} {x : AV} {v : Value} {l : List AV} (hx : x.cells = some l) (h : RepV c x v) : RepL c l v.cells.toList ∧ ∀ y ∈ v.cells.toList, y.oneCell' = true := by
  have one : ∀ {x : AV} {v : Value}, RepV c x v → v.oneCell' = true → v.cells = #[v] → RepL c [x] v.cells.toList ∧ ∀ y ∈ v.cells.toList, y.oneCell' = true := by
    intro x v h h1 h2
    rw [h2]
    exact ⟨by simp only [RepL]; exact ⟨v, [], rfl, h, rfl⟩, fun y hy => by simp at hy; subst hy; exact h1⟩
  cases x with
  | u => cases hx
  | tup _ => cases hx
  | agg cs =>
    simp only [AV.cells, Option.some.injEq] at hx
    subst hx
    simp only [RepV] at h
    obtain ⟨vs, rfl, h1, h2⟩ := h
    exact ⟨h1, h2⟩
  | _ =>
    simp only [AV.cells, Option.some.injEq] at hx
    subst hx
    refine one h ?_ ?_ <;> simp only [RepV] at h <;> first
      | (obtain ⟨_, rfl, _⟩ := h; rfl)
      | (subst h; rfl)
      | (obtain ⟨⟨a, rfl⟩, _⟩ := h; rfl)
      | (obtain ⟨⟨a, cap, rfl⟩, _⟩ := h; rfl)
      | (obtain ⟨b, off, rfl, _⟩ := h; rfl)
      | (obtain ⟨_, h⟩ := h; rcases h with ⟨_, _, rfl⟩ | ⟨b, off, cap, rfl, _⟩ <;> rfl)
      | (obtain ⟨a, rfl⟩ := h; rfl)
      | (obtain ⟨a, b, rfl, _⟩ := h; rfl)
      | (obtain ⟨y, rfl, _⟩ := h; rfl)
end
end Hb
end

section
set_option linter.unusedVariables false
set_option linter.unusedSimpArgs false
set_option linter.constructorNameAsVariable false
set_option autoImplicit false
set_option linter.unusedSimpArgs false
set_option linter.unusedVariables false
namespace Hb
open Go
section
variable {P : Prg}
theorem add_none (b off n : Nat) : (⟨b, off, none⟩ : Addr).add n = ⟨b, off + n, none⟩ := by
  unfold Addr.add
  split
  · rename_i h; subst h; rfl
  · rfl
theorem RepAt.vals {c : Cx} {b : Nat} : ∀ {cs : List AV} {off : Nat}, RepAt c b off cs →
    ∃ ys : List Value, ys.length = cs.length ∧ (∀ (j : Nat) (y : Value), ys[j]? = some y → c.w.cell? ⟨b, off + j, none⟩ = some y) ∧ RepL c cs ys ∧ ∀ y ∈ ys, y.oneCell' = true
  | [], off, h => ⟨[], rfl, fun j y hj => by simp at hj, by simp [RepL], fun y hy => by simp at hy⟩
  | x :: xs, off, h => by
    simp only [RepAt] at h
    obtain ⟨⟨y, h1, h2, h3⟩, h4⟩ := h
    obtain ⟨ys, k1, k2, k3, k4⟩ := RepAt.vals h4
    refine ⟨y :: ys, by simp [k1], fun j z hj => ?_, by simp only [RepL]; exact ⟨y, ys, rfl, h3, k3⟩, fun z hz => ?_⟩
    · cases j with
      | zero => simp at hj; subst hj; exact h1
      | succ j => simp at hj; have := k2 j z hj; rw [show off + (j + 1) = off + 1 + j from by omega]; exact this
    · rcases List.mem_cons.1 hz with rfl | hz
      · exact h2
      · exact k4 z hz
theorem RepAt.of_vals {c : Cx} {b : Nat} : ∀ {cs : List AV} {off : Nat} {ys : List Value}, RepL c cs ys → (∀ (j : Nat) (y : Value), ys[j]? = some y → c.w.cell? ⟨b, off + j, none⟩ = some y) →
    (∀ y ∈ ys, y.oneCell' = true) → RepAt c b off cs
  | [], off, ys, h1, h2, h3 => by simp only [RepAt]
  | x :: xs, off, ys, h1, h2, h3 => by
    simp only [RepL] at h1
    obtain ⟨y, ys, rfl, h4, h5⟩ := h1
    simp only [RepAt]
    refine ⟨⟨y, by simpa using h2 0 y (by simp), h3 y (by simp), h4⟩, RepAt.of_vals h5 (fun j z hj => ?_) (fun z hz => h3 z (by simp [hz]))⟩
    have := h2 (j + 1) z (by simpa using hj)
    rw [show off + 1 + j = off + (j + 1) from by omega]; exact this
theorem RepAt.drop {c : Cx} {b : Nat} {cs : List AV} {off : Nat} (h : RepAt c b off cs) (n : Nat) : RepAt c b (off + n) (cs.drop n) := by
  obtain ⟨ys, h1, h2, h3, h4⟩ := h.vals
  refine RepAt.of_vals (h3.drop n) (fun j y hj => ?_) (fun y hy => h4 y (List.mem_of_mem_drop hy))
  rw [List.getElem?_drop] at hj
  have := h2 _ y hj
  rw [Nat.add_assoc]; exact this
theorem RepAt.take {c : Cx} {b : Nat} {cs : List AV} {off : Nat} (h : RepAt c b off cs) (n : Nat) : RepAt c b off (cs.take n) := by
  obtain ⟨ys, h1, h2, h3, h4⟩ := h.vals
  refine RepAt.of_vals (h3.take n) (fun j y hj => ?_) (fun y hy => h4 y (List.mem_of_mem_take hy))
  rw [List.getElem?_take] at hj
  split at hj
  · exact h2 j y hj
  · cases hj
theorem run_loadRep {c : Cx} {b off : Nat} {cs : List AV} (h : RepAt c b off cs) :
    ∃ ys : List Value, (loadCells ⟨b, off, none⟩ cs.length).run P c.w = .ok ys.toArray c.w ∧ RepL c cs ys ∧ ∀ y ∈ ys, y.oneCell' = true := by
  obtain ⟨ys, h1, h2, h3, h4⟩ := h.vals
  refine ⟨ys, ?_, h3, h4⟩
  rw [← h1]
  exact run_loadCells_list c.w ⟨b, off, none⟩ ys fun j v hj => by rw [add_none]; exact h2 j v hj
theorem packV_rep {c : Cx} {g : Bool} {cs : List AV} {v : AV} {ys : List Value} (hp : packV g cs = some v) (h : RepL c cs ys) (h1 : ∀ y ∈ ys, y.oneCell' = true) :
    (g = true → RepV c v (.agg ys.toArray)) ∧ (g = false → ∃ y, ys = [y] ∧ RepV c v y) := by
  unfold packV at hp
  cases g with
  | true =>
    simp at hp; subst hp
    exact ⟨fun _ => by simp only [RepV]; exact ⟨_, rfl, by simpa using h, by simpa using h1⟩, fun h => by cases h⟩
  | false =>
    refine ⟨fun h => (by cases h), fun _ => ?_⟩
    simp at hp
    split at hp
    · cases hp
      simp only [RepL] at h
      obtain ⟨y, ys', rfl, h2, rfl⟩ := h
      exact ⟨y, rfl, h2⟩
    · cases hp
theorem loadN_at {c : Cx} {b off : Nat} {cs l : List AV} {k i o n : Nat} (h : RepAt c b off cs) (hl : loadN cs k i o n = some l) :
    RepAt c b (off + (i * k + o)) l ∧ l.length = n := by
  unfold loadN elemAt at hl
  simp only [Option.bind_eq_some_iff] at hl
  obtain ⟨e, he, hl⟩ := hl
  split at he
  · rename_i hle
    cases he
    split at hl
    · rename_i hlt
      cases hl
      simp only [List.length_take, List.length_drop] at hlt
      have hk : (i + 1) * k = i * k + k := by rw [Nat.add_mul]; simp
      refine ⟨?_, by simp [List.length_take, List.length_drop]; omega⟩
      have := (((h.drop (i * k)).take k).drop o).take n
      rw [← Nat.add_assoc]
      exact this
    · cases hl
  · cases he
theorem run_load_of {c : Cx} {t : TypeId} {g : Bool} {n b off : Nat} {l : List AV} {v : AV} (hg : tagg P t = some g) (hn : tsz P t = some n) (h : RepAt c b off l) (hl : l.length = n)
    (hp : packV g l = some v) : ∃ u, (loadVar t ⟨b, off, none⟩).run P c.w = .ok u c.w ∧ RepV c v u := by
  obtain ⟨ys, h1, h2, h3⟩ := run_loadRep (P := P) h
  obtain ⟨p1, p2⟩ := packV_rep hp h2 h3
  cases g with
  | true =>
    refine ⟨_, ?_, p1 rfl⟩
    rw [hl] at h1
    simp [loadVar, run_tagg hg, run_tsz hn, h1]
  | false =>
    simp [packV] at hp
    split at hp
    · cases hp
      simp only [RepAt] at h
      obtain ⟨⟨z, hz, hz1, hz2⟩, _⟩ := h
      exact ⟨z, by simp [loadVar, run_tagg hg, hz], hz2⟩
    · cases hp
theorem fold_set (off : Nat) : ∀ (l : List Value) (k : Nat) (arr : Array Value), off + k + l.length ≤ arr.size →
    ((l.zipIdx k).foldl (fun (cs : Array Value) (x : Value × Nat) => cs.setIfInBounds (off + x.2) x.1) arr).toList = arr.toList.take (off + k) ++ (l ++ arr.toList.drop (off + k + l.length))
  | [], k, arr, h => by simp
  | v :: vs, k, arr, h => by
    simp only [List.length_cons] at h
    simp only [List.zipIdx_cons, List.foldl_cons]
    rw [fold_set off vs (k + 1) _ (by simp; omega)]
    simp only [Array.toList_setIfInBounds]
    apply List.ext_getElem?
    intro j
    simp only [List.getElem?_append, List.getElem?_take, List.getElem?_drop, List.getElem?_set, List.length_take, List.length_set, List.length_cons, Array.length_toList, List.cons_append]
    by_cases h1 : j < off + k
    · simp [h1, show j < off + (k + 1) from by omega, show j < arr.size from by omega, show min (off + (k+1)) arr.size = off + (k + 1) from by omega, show min (off + k) arr.size = off + k from by omega, show ¬ off + k = j from by omega]
    · by_cases h2 : j = off + k
      · subst h2
        simp [show off + k < off + (k + 1) from by omega, show off + k < arr.size from by omega, show min (off + (k+1)) arr.size = off + (k + 1) from by omega, show min (off + k) arr.size = off + k from by omega]
      · have e1 : min (off + (k + 1)) arr.size = off + (k + 1) := by omega
        have e2 : min (off + k) arr.size = off + k := by omega
        rw [e1, e2]
        simp only [show ¬ j < off + (k + 1) from by omega, h1, if_false]
        obtain ⟨m, rfl⟩ : ∃ m, j = off + k + 1 + m := ⟨j - (off + k + 1), by omega⟩
        simp only [show off + k + 1 + m - (off + (k + 1)) = m from by omega, show off + k + 1 + m - (off + k) = m + 1 from by omega, List.getElem?_cons_succ, List.getElem?_append]
        by_cases h3 : m < vs.length
        · simp [h3]
        · simp only [h3, if_false, List.getElem?_drop, List.getElem?_set]
          simp [show ¬ off + k = off + (k + 1) + vs.length + (m - vs.length) from by omega]
          congr 1; omega
theorem fill_rep {c : Cx} {N : Nat} {ρ : Nat → AV} {a : Act} (hs : Sim P c) (ht : RepT c N ρ a.tmps) (places : Nat → Option (Nat × Nat)) :
    ∀ {ps : List (Nat × Operand)} {xs : List (Nat × Nat × XO)} {z cs : List AV} {arr : Array Value}, compParts P places ps = some xs → fillA ρ z xs = some cs →
      RepL c z arr.toList → (∀ y ∈ arr.toList, y.oneCell' = true) →
      ∃ arr', Instr.fill places arr (ps.map fun (i, x) => (i, a.eval x)) = some arr' ∧ RepL c cs arr'.toList ∧ ∀ y ∈ arr'.toList, y.oneCell' = true
  | [], xs, z, cs, arr, hc, hf, hz, h1 => by
    simp only [compParts, Option.some.injEq] at hc
    subst hc
    simp only [fillA, Option.some.injEq] at hf
    subst hf
    exact ⟨arr, rfl, hz, h1⟩
  | (i, x) :: ps, xs, z, cs, arr, hc, hf, hz, h1 => by
    simp only [compParts, Option.bind_eq_some_iff, Option.map_eq_some_iff] at hc
    obtain ⟨⟨o, s⟩, hp, ax, hx, as, has, rfl⟩ := hc
    simp only [fillA, Option.bind_eq_some_iff] at hf
    obtain ⟨cl, hcl, hf⟩ := hf
    split at hf
    · rename_i hle
      obtain ⟨r1, r2⟩ := RepV.cells hcl (compO_rep hs ht hx)
      have hlen := r1.length
      have hzl := hz.length
      have e1 : (a.eval x).cells.size = s := by rw [← Array.length_toList, ← hlen]; exact hle.1
      have e2 : o + (a.eval x).cells.size ≤ arr.size := by rw [e1, ← Array.length_toList, ← hzl]; exact hle.2
      have e3 := fold_set o (a.eval x).cells.toList 0 arr (by simpa using e2)
      simp only [Nat.add_zero, Array.length_toList] at e3
      have hfill : Instr.fill places arr (((i, x) :: ps).map fun (i, x) => (i, a.eval x)) =
          Instr.fill places ((a.eval x).cells.toList.zipIdx.foldl (fun (cs : Array Value) (x : Value × Nat) => cs.setIfInBounds (o + x.2) x.1) arr) (ps.map fun (i, x) => (i, a.eval x)) := by
        simp only [List.map_cons, Instr.fill, hp]
        have : ¬ ((a.eval x).cells.size ≠ s ∨ o + (a.eval x).cells.size > arr.size) := by omega
        simp only [Bool.or_eq_true, decide_eq_true_eq, this, if_false]
        rw [← Array.foldl_toList, Array.toList_zipIdx]
      rw [hfill]
      refine fill_rep hs ht places has hf ?_ ?_
      · rw [e3]
        unfold replaceAt
        rw [hlen, Array.length_toList]
        exact (hz.take o).append (r1.append (hz.drop _))
      · intro y hy
        rw [e3] at hy
        rcases List.mem_append.1 hy with hy | hy
        · exact h1 y (List.mem_of_mem_take hy)
        · rcases List.mem_append.1 hy with hy | hy
          · exact r2 y hy
          · exact h1 y (List.mem_of_mem_drop hy)
    · cases hf
end
end Hb
end

section
set_option linter.unusedVariables false
set_option linter.unusedSimpArgs false
set_option linter.constructorNameAsVariable false
set_option autoImplicit false
set_option linter.unusedSimpArgs false
set_option linter.unusedVariables false
namespace Hb
open Go
section
variable {P : Prg} {c : Cx} {N : Nat} {ρ : Nat → AV} {a : Act}
theorem run_places (w : World) : ∀ (l : List Field), l.all (fun f => (tsz P f.type).isSome) = true →
    ∃ ps : List (Nat × Nat), (l.mapM fun f => do pure (f.offset, ← Go.sizeOf f.type) : Sem (List (Nat × Nat))).run P w = .ok ps w ∧ ∀ i : Nat, ps[i]? = (match l[i]? with | some f => (tsz P f.type).map fun s => (f.offset, s) | none => none)
  | [], _ => ⟨[], by simp, fun i => by simp⟩
  | f :: fs, h => by
    simp only [List.all_cons, Bool.and_eq_true] at h
    obtain ⟨h1, h2⟩ := h
    obtain ⟨n, hn⟩ := Option.isSome_iff_exists.1 h1
    obtain ⟨ps, hp, hi⟩ := run_places w fs h2
    refine ⟨(f.offset, n) :: ps, by simp only [List.mapM_cons, Sem.run_bind, run_tsz hn, Result.andThen_ok, Sem.run_pure, hp], fun i => ?_⟩
    cases i with
    | zero => simp [hn]
    | succ i => simp [hi]
theorem live_of {σ : Store} {r st : Nat} (h : σ.live r st = true) : ∃ b, σ.at r st = some b ∧ b.virt = false := by
  unfold Store.live at h
  split at h
  · rename_i b hb; exact ⟨b, hb, by simpa using h⟩
  · cases h
theorem cells_of {σ : Store} {r st : Nat} {cs : List AV} (h : σ.cells r st = some cs) : ∃ st' T fz, σ.at r st = some (.cells st' false T fz cs) := by
  unfold Store.cells at h
  split at h
  · rename_i b T fz cs' hb; cases h; exact ⟨_, _, _, hb⟩
  · cases h
theorem Sim.cells {r st : Nat} {cs : List AV} (hs : Sim P c) (h : c.σ.cells r st = some cs) :
    ∃ arr T fzr fz, c.w.heap[(c.loc r).1]? = some (.cells arr T fzr) ∧ fzOk fzr fz (c.loc r).2 arr.size ∧ (c.loc r).2 + cs.length ≤ arr.size ∧ RepAt c (c.loc r).1 (c.loc r).2 cs ∧ ∃ st', c.σ.at r st = some (.cells st' false T fz cs) := by
  obtain ⟨st', T, fz, hat⟩ := cells_of h
  obtain ⟨h1, h2⟩ := Store.at_some hat
  obtain ⟨k1, k2⟩ := hs.blk r _ h1
  simp only [BlkRep] at k1
  obtain ⟨arr, fzr, e1, e2, e3, e4⟩ := k1.2 trivial
  exact ⟨arr, T, fzr, fz, e1, e2, e3, e4, st', hat⟩
theorem int_of {x : AV} {v : Value} {n : Int} (h : RepV c x v) (hx : xidx x = some n) : ∃ k, v = .int k n := by
  unfold xidx at hx
  split at hx
  · cases hx; simp only [RepV] at h; exact ⟨_, h⟩
  · cases hx
abbrev Yields1 (P : Prg) (c : Cx) (s : Sem Value) (v : AV) : Prop := ∃ u, s.run P c.w = .ok u c.w ∧ RepV c v u
theorem bytesOf_rep : ∀ {cs : List AV} {l : List Nat} {ys : List Value}, bytesOf cs = some l → RepL c cs ys → ∃ ns : List Int, ys = ns.map (fun n => Value.int .u8 n) ∧ l = ns.map fun n => n.toNat % 256
  | [], l, ys, h, hr => by simp only [bytesOf, Option.some.injEq] at h; subst h; simp only [RepL] at hr; subst hr; exact ⟨[], rfl, rfl⟩
  | x :: xs, l, ys, h, hr => by
    simp only [RepL] at hr
    obtain ⟨y, ys', rfl, h1, h2⟩ := hr
    unfold bytesOf at h
    split at h
    · rename_i heq; cases heq
    · rename_i n xs' heq
      cases heq
      simp only [Option.map_eq_some_iff] at h
      obtain ⟨l', hl', rfl⟩ := h
      obtain ⟨ns, rfl, rfl⟩ := bytesOf_rep hl' h2
      simp only [RepV] at h1
      subst h1
      exact ⟨n :: ns, rfl, rfl⟩
    · cases h
theorem xint_sound {op : BinOp} {k : IntKind} {p q : Int} {v : AV} (h : xint op k p q = some v) (t : TypeId) : Yields1 P c (binOp op t (.int k p) (.int k q)) v := by
  cases op <;> simp only [xint] at h <;> (try split at h) <;> (try cases h) <;>
    simp_all [Yields1, binOp, Op.intArith, Op.intDiv, Op.intBits, Op.intCmp, RepV]
theorem xshift_sound {op : BinOp} {k k' : IntKind} {p q : Int} {v : AV} (h : xshift op k p q = some v) (t : TypeId) : Yields1 P c (binOp op t (.int k p) (.int k' q)) v := by
  cases op <;> simp only [xshift] at h <;> (try split at h) <;> (try cases h) <;>
    simp_all [Yields1, binOp, Op.shift, RepV] <;> (intro; omega)
theorem bs_toList (l : List Nat) : (bs l).toList = l.map UInt8.ofNat := by
  rw [ByteArray.toList_eq]; rfl
theorem xstr_sound {op : BinOp} {p q : List Nat} {v : AV} (h : xstr op p q = some v) (hp : ∀ x ∈ p, x < 256) (hq : ∀ x ∈ q, x < 256) (t : TypeId) : Yields1 P c (binOp op t (.string (bs p)) (.string (bs q))) v := by
  have e1 : (p.map UInt8.ofNat == q.map UInt8.ofNat) = (p == q) := by rw [Bool.eq_iff_iff, beq_iff_eq, beq_iff_eq, map_ofNat_inj hp hq]
  have e2 := natLess_eq hp hq
  cases op <;> simp only [xstr] at h <;> (try split at h) <;> (try cases h) <;>
    simp_all [Yields1, binOp, Op.stringOp, RepV, bs_toList, bs_size, e1, e2]
  · rw [if_neg (by omega)]
    refine ⟨_, rfl, by rw [bs_append], fun x hx => ?_⟩
    rcases hx with hx | hx
    · exact hp x hx
    · exact hq x hx
theorem xbin_sound {op : BinOp} {x y v : AV} {u z : Value} (h : xbin op x y = some v) (hx : RepV c x u) (hy : RepV c y z) (t : TypeId) : Yields1 P c (binOp op t u z) v := by
  unfold xbin at h
  split at h
  · simp only [RepV] at hx hy
    subst hx hy
    split at h
    · exact xshift_sound h t
    · exact xshift_sound h t
    · split at h
      · rename_i hk; subst hk; exact xint_sound h t
      · cases h
  · simp only [RepV] at hx hy
    obtain ⟨rfl, hx⟩ := hx
    obtain ⟨rfl, hy⟩ := hy
    exact xstr_sound h hx hy t
  · cases h
def plainV : Value → Bool
  | .nilIface | .agg _ => false
  | _ => true
theorem eqGuard_ok (op : BinOp) (t : TypeId) (x y : Operand) {u : Value} (z : Value) (h : plainV u = true) (w : World) : (eqGuard op t x y u z).run P w = .ok () w := by
  unfold eqGuard
  cases op <;> cases u <;> first
    | (simp [plainV] at h; done)
    | (simp; done)
def eqType (P : Prg) (t : TypeId) : XEq → Prop
  | .bool => P.underlying t = some .bool
  | .slc => ∃ e, P.underlying t = some (.slice e)
  | .map => ∃ k e, P.underlying t = some (.map k e)
  | .fun => ∃ p r v, P.underlying t = some (.func p r v)
  | .ptr => ∃ e n, P.underlying t = some (.pointer e) ∧ tsz P e = some n
  | .ifi L => (∃ ms, P.underlying t = some (.interface ms)) ∧ ∀ x ∈ L, isNum P x = true ∧ ∃ i, P.info? x = some i ∧ i.comparable = true
  | _ => False
theorem equal_of1 {t : TypeId} {u z : Value} {b : Bool} {w : World} (he : (Op.equal t u z).run P w = .ok b w)
    (hi : ∀ k n k' n', ¬ (u = .int k n ∧ z = .int k' n')) (hp : plainV u = true) (hs : ∀ s s', ¬ (u = .string s ∧ z = .string s')) (hf : ∀ k n, u ≠ .float k n) (hc : ∀ k n m, u ≠ .complex k n m) :
    plainV u = true ∧ (binOp .eql t u z).run P w = .ok (.bool b) w ∧ (binOp .neq t u z).run P w = .ok (.bool (!b)) w := by
  have e1 : binOp .eql t u z = ((Op.equal t u z) >>= fun b => pure (Value.bool b)) := by
    cases u <;> cases z <;> first
      | rfl
      | (exact absurd ⟨rfl, rfl⟩ (hi _ _ _ _))
      | (exact absurd ⟨rfl, rfl⟩ (hs _ _))
      | (exact absurd rfl (hf _ _))
      | (exact absurd rfl (hc _ _ _))
  have e2 : binOp .neq t u z = ((Op.equal t u z) >>= fun b => pure (Value.bool (!b))) := by
    cases u <;> cases z <;> first
      | rfl
      | (exact absurd ⟨rfl, rfl⟩ (hi _ _ _ _))
      | (exact absurd ⟨rfl, rfl⟩ (hs _ _))
      | (exact absurd rfl (hf _ _))
      | (exact absurd rfl (hc _ _ _))
  refine ⟨hp, ?_, ?_⟩
  · rw [e1]; simp [he]
  · rw [e2]; simp [he]
theorem equal_of {t : TypeId} {u z : Value} {b : Bool} {w : World} (h : ∀ d, (Op.equalIn (d + 1) t u z).run P w = .ok b w)
    (hi : ∀ k n k' n', ¬ (u = .int k n ∧ z = .int k' n')) (hp : plainV u = true) (hs : ∀ s s', ¬ (u = .string s ∧ z = .string s')) (hf : ∀ k n, u ≠ .float k n) (hc : ∀ k n m, u ≠ .complex k n m) :
    plainV u = true ∧ (binOp .eql t u z).run P w = .ok (.bool b) w ∧ (binOp .neq t u z).run P w = .ok (.bool (!b)) w := equal_of1 (h 9999) hi hp hs hf hc
theorem numTypes_ok : ∀ x ∈ numTypes P, isNum P x = true ∧ ∃ i, P.info? x = some i ∧ i.comparable = true := by
  intro x hx
  simp only [numTypes, List.mem_filter, Bool.and_eq_true] at hx
  obtain ⟨_, h1, h2⟩ := hx
  split at h2
  · rename_i i hi; exact ⟨h1, i, hi, h2⟩
  · cases h2
theorem xeq_sound {k : XEq} {x y : AV} {b : Bool} {u z : Value} {t : TypeId} (h : xeq k x y = some b) (hx : RepV c x u) (hy : RepV c y z) (ht : eqType P t k) (w : World) :
    plainV u = true ∧ (binOp .eql t u z).run P w = .ok (.bool b) w ∧ (binOp .neq t u z).run P w = .ok (.bool (!b)) w := by
  unfold xeq at h
  split at h <;> (try split at h) <;> (try cases h) <;> simp only [RepV] at hx hy <;> simp only [eqType] at ht
  · subst hx hy; refine equal_of (fun d => by simp [Op.equalIn, run_und ht]) (by simp) rfl (by simp) (by simp) (by simp)
  · subst hx hy; obtain ⟨e, ht⟩ := ht; refine equal_of (fun d => by simp [Op.equalIn, run_und ht]) (by simp) rfl (by simp) (by simp) (by simp)
  · subst hy; obtain ⟨e, ht⟩ := ht; obtain ⟨hl, h | ⟨b, off, cap, rfl, _⟩⟩ := hx
    · exact absurd h.2.1 ‹_›
    · refine equal_of (fun d => by simp [Op.equalIn, run_und ht]) (by simp) rfl (by simp) (by simp) (by simp)
  · subst hx; obtain ⟨e, ht⟩ := ht; obtain ⟨hl, h | ⟨b, off, cap, rfl, _⟩⟩ := hy
    · exact absurd h.2.1 ‹_›
    · refine equal_of (fun d => by simp [Op.equalIn, run_und ht]) (by simp) rfl (by simp) (by simp) (by simp)
  · subst hx hy; obtain ⟨_, _, ht⟩ := ht; refine equal_of (fun d => by simp [Op.equalIn, run_und ht]) (by simp) rfl (by simp) (by simp) (by simp)
  · subst hx hy; obtain ⟨_, _, _, ht⟩ := ht; refine equal_of (fun d => by simp [Op.equalIn, run_und ht]) (by simp) rfl (by simp) (by simp) (by simp)
  · subst hy; obtain ⟨_, _, rfl, _⟩ := hx; obtain ⟨_, _, _, ht⟩ := ht; refine equal_of (fun d => by simp [Op.equalIn, run_und ht]) (by simp) rfl (by simp) (by simp) (by simp)
  · subst hx; obtain ⟨_, _, rfl, _⟩ := hy; obtain ⟨_, _, _, ht⟩ := ht; refine equal_of (fun d => by simp [Op.equalIn, run_und ht]) (by simp) rfl (by simp) (by simp) (by simp)
  · subst hx hy; obtain ⟨_, _, ht, _⟩ := ht; refine equal_of (fun d => by simp [Op.equalIn, run_und ht]) (by simp) rfl (by simp) (by simp) (by simp)
  · subst hy; obtain ⟨_, _, rfl, _⟩ := hx; obtain ⟨_, _, ht, _⟩ := ht; refine equal_of (fun d => by simp [Op.equalIn, run_und ht]) (by simp) rfl (by simp) (by simp) (by simp)
  · subst hx; obtain ⟨_, _, rfl, _⟩ := hy; obtain ⟨_, _, ht, _⟩ := ht; refine equal_of (fun d => by simp [Op.equalIn, run_und ht]) (by simp) rfl (by simp) (by simp) (by simp)
theorem run_part_int {e : TypeId} {κ : IntKind} (hu : P.underlying e = some (.int κ)) {cs : Array Value} {j : Nat} {v : Value} (h : cs[j]? = some v) (w : World) : (part e cs j).run P w = .ok v w := by
  have hg : tagg P e = some false := by simp [tagg, hu]
  simp [part, run_tagg hg, h]
theorem isInt_und {e : TypeId} (h : isNum P e = true) : ∃ κ, P.underlying e = some (.int κ) := by
  unfold isNum at h
  split at h
  · exact ⟨_, by assumption⟩
  · cases h
theorem drop_cons {α : Type} {l : List α} {j : Nat} {v : α} {tl : List α} (h : l.drop j = v :: tl) : l[j]? = some v ∧ l.drop (j + 1) = tl := by
  constructor
  · have := congrArg (fun l => l[0]?) h
    simpa using this
  · have := congrArg List.tail h
    simpa [List.tail_drop] using this
theorem eqItems_ints {e : TypeId} (hi : isNum P e = true) {xs ys : Array Value} (d : Nat) (w : World) : ∀ (as bs : List AV) (j : Nat) {b : Bool}, eqInts as bs = some b → RepL c as (xs.toList.drop j) → RepL c bs (ys.toList.drop j) →
    (Op.eqItems (d + 1) e 1 xs ys (List.range' j as.length)).run P w = .ok b w
  | [], [], j, b, h, _, _ => by cases h; simp [Op.eqItems]
  | [], _ :: _, j, b, h, _, _ => by simp [eqInts] at h
  | a :: as, bs, j, b, h, hx, hy => by
    unfold eqInts at h
    split at h
    · rename_i h1; first | (exact absurd h1 (by simp)) | (simp_all; done)
    · rename_i k n xs' k' n' ys' heq
      cases heq
      simp only [RepL] at hx hy
      obtain ⟨v, tl, e1, rfl, hx'⟩ := hx
      obtain ⟨v', tl', e2, rfl, hy'⟩ := hy
      obtain ⟨g1, g2⟩ := drop_cons e1
      obtain ⟨g1', g2'⟩ := drop_cons e2
      obtain ⟨κ, hu⟩ := isInt_und hi
      split at h
      · rename_i hk
        subst hk
        have ih := fun b h => eqItems_ints hi (xs := xs) (ys := ys) d w as ys' (j + 1) (b := b) h (by rw [g2]; exact hx') (by rw [g2']; exact hy')
        rw [List.length_cons, List.range'_succ]
        simp only [Op.eqItems, Nat.mul_one, Sem.run_bind, run_part_int hu (by simpa using g1), run_part_int hu (by simpa using g1'), Result.andThen_ok, run_equalIn_int w d e k κ n n' hu, Sem.run_ite]
        split at h
        · rename_i hn
          subst hn
          simp only [BEq.rfl, Bool.not_true, Bool.false_eq_true, if_false]
          exact ih b h
        · rename_i hn
          cases h
          have : (n == n') = false := by simpa using hn
          simp [this]
      · cases h
    · cases h
theorem eqFields_ints {xs ys : Array Value} (d : Nat) (w : World) : ∀ (as bs : List AV) (j : Nat) (fs : List Field) {b : Bool}, eqInts as bs = some b → RepL c as (xs.toList.drop j) → RepL c bs (ys.toList.drop j) →
    fs.map (·.offset) = List.range' j as.length → (fs.all fun f => f.name != "_" && isNum P f.type) = true → (Op.eqFields (d + 1) xs ys fs).run P w = .ok b w
  | [], [], j, fs, b, h, _, _, hf, _ => by
    cases h
    have : fs = [] := by simpa using hf
    subst this
    simp [Op.eqFields]
  | [], _ :: _, j, fs, b, h, _, _, _, _ => by simp [eqInts] at h
  | a :: as, bs, j, fs, b, h, hx, hy, hf, ha => by
    unfold eqInts at h
    split at h
    · rename_i h1; first | (exact absurd h1 (by simp)) | (simp_all; done)
    · rename_i k n xs' k' n' ys' heq
      cases heq
      simp only [RepL] at hx hy
      obtain ⟨v, tl, e1, rfl, hx'⟩ := hx
      obtain ⟨v', tl', e2, rfl, hy'⟩ := hy
      obtain ⟨g1, g2⟩ := drop_cons e1
      obtain ⟨g1', g2'⟩ := drop_cons e2
      rw [List.length_cons, List.range'_succ] at hf
      obtain _ | ⟨f, fs⟩ := fs
      · cases hf
      simp only [List.map_cons, List.cons.injEq] at hf
      simp only [List.all_cons, Bool.and_eq_true, bne_iff_ne] at ha
      obtain ⟨κ, hu⟩ := isInt_und ha.1.2
      split at h
      · rename_i hk
        subst hk
        have ih := fun b h => eqFields_ints (xs := xs) (ys := ys) d w as ys' (j + 1) fs (b := b) h (by rw [g2]; exact hx') (by rw [g2']; exact hy') hf.2 ha.2
        rw [Op.eqFields, if_pos ha.1.1, hf.1]
        simp only [Sem.run_bind, run_part_int hu (show xs[j]? = _ by simpa using g1), run_part_int hu (show ys[j]? = _ by simpa using g1'), Result.andThen_ok, run_equalIn_int w d f.type k κ n n' hu, Sem.run_ite]
        split at h
        · rename_i hn
          subst hn
          simp only [BEq.rfl, Bool.not_true, Bool.false_eq_true, if_false]
          exact ih b h
        · rename_i hn
          cases h
          have : (n == n') = false := by simpa using hn
          simp [this]
      · cases h
    · cases h
theorem ints_sound {t : TypeId} {m : Nat} {as bs : List AV} {b : Bool} {u z : Value} (hn : intsOf P t = some m) (hl : as.length = m) (h : eqInts as bs = some b) (hx : RepV c (.agg as) u) (hy : RepV c (.agg bs) z) (w : World) :
    (∀ op x y, (eqGuard op t x y u z).run P w = .ok () w) ∧ (binOp .eql t u z).run P w = .ok (.bool b) w ∧ (binOp .neq t u z).run P w = .ok (.bool (!b)) w := by
  simp only [RepV] at hx hy
  obtain ⟨xs, rfl, hx, _⟩ := hx
  obtain ⟨ys, rfl, hy, _⟩ := hy
  have key : P.eqGuardType P.depth t = false ∧ (Op.equalIn 10000 t (.agg xs) (.agg ys)).run P w = .ok b w := by
    unfold intsOf at hn
    split at hn
    · rename_i fs hu
      split at hn
      · rename_i hc
        obtain ⟨q1, q2, q3, q4⟩ := hc
        cases hn
        refine ⟨q2, ?_⟩
        have hfo : P.fieldsOf t = fs := by simp [Program.fieldsOf, hu]
        rw [run_equalIn_struct w 9999 t xs ys (by rw [hfo]; exact hu) q1, hfo]
        exact eqFields_ints 9998 w as bs 0 fs.toList h (by simpa using hx) (by simpa using hy) (by rw [q3, hl, List.range_eq_range']) q4
      · cases hn
    · rename_i n e hu
      split at hn
      · rename_i hc
        obtain ⟨q1, q2, q3⟩ := hc
        cases hn
        refine ⟨q2, ?_⟩
        unfold tsz at q3
        simp only [Option.map_eq_some_iff] at q3
        obtain ⟨i, hi, hsz⟩ := q3
        have hco : P.cellsOf e = 1 := by simp [Program.cellsOf, hi, hsz]
        rw [run_equalIn_array w 9999 xs ys hu hi, hco, List.range_eq_range', ← hl]
        exact eqItems_ints q1 9998 w as bs 0 h (by simpa using hx) (by simpa using hy)
      · cases hn
    · cases hn
  refine ⟨fun op x y => run_eqGuard_agg w op t x y xs ys key.1, ?_, ?_⟩
  · rw [run_eql_struct, key.2]; rfl
  · rw [run_neq_struct, key.2]; rfl
theorem ifc_nil {x : AV} {b : Bool} {u : Value} {t : TypeId} {ms : Array (String × TypeId)} {y : Operand} {v : Value} (h : xeq .ifc x .ni = some b) (hx : RepV c x u) (ht : P.underlying t = some (.interface ms)) (w : World) :
    (binOp .eql t u .nilIface).run P w = .ok (.bool b) w ∧ (binOp .neq t u .nilIface).run P w = .ok (.bool (!b)) w ∧
    (eqGuard .eql t y (.const v) u .nilIface).run P w = .ok () w ∧ (eqGuard .neq t y (.const v) u .nilIface).run P w = .ok () w := by
  unfold xeq at h
  cases x <;> simp only at h <;> try (cases h; done)
  case ni =>
    cases h
    simp only [RepV] at hx
    subst hx
    have he0 : ∀ d, (Op.equalIn (d + 1) t .nilIface .nilIface).run P w = .ok true w := fun d => by simp [Op.equalIn, run_und ht]
    have he : (Op.equal t .nilIface .nilIface).run P w = .ok true w := he0 9999
    have e1 : binOp .eql t .nilIface .nilIface = ((Op.equal t .nilIface .nilIface) >>= fun b => pure (Value.bool b)) := rfl
    have e2 : binOp .neq t .nilIface .nilIface = ((Op.equal t .nilIface .nilIface) >>= fun b => pure (Value.bool (!b))) := rfl
    refine ⟨by rw [e1]; simp [he], by rw [e2]; simp [he], by simp [eqGuard], by simp [eqGuard]⟩
  case ifc tt vv =>
    cases h
    simp only [RepV] at hx
    obtain ⟨z, rfl, _⟩ := hx
    have he0 : ∀ d, (Op.equalIn (d + 1) t (.iface tt z) .nilIface).run P w = .ok false w := fun d => by simp [Op.equalIn, run_und ht]
    have he : (Op.equal t (.iface tt z) .nilIface).run P w = .ok false w := he0 9999
    have e1 : binOp .eql t (.iface tt z) .nilIface = ((Op.equal t (.iface tt z) .nilIface) >>= fun b => pure (Value.bool b)) := rfl
    have e2 : binOp .neq t (.iface tt z) .nilIface = ((Op.equal t (.iface tt z) .nilIface) >>= fun b => pure (Value.bool (!b))) := rfl
    refine ⟨by rw [e1]; simp [he], by rw [e2]; simp [he], by simp [eqGuard], by simp [eqGuard]⟩
theorem xbin_plain {op : BinOp} {x y v : AV} {u : Value} (h : xbin op x y = some v) (hx : RepV c x u) : plainV u = true := by
  unfold xbin at h
  split at h
  · simp only [RepV] at hx; subst hx; rfl
  · simp only [RepV] at hx; rw [hx.1]; rfl
  · cases h
end
end Hb
end
