/- The law BreaksBare of hornbooklaw17: proved, for every input: the call returns true and the arguments read as before. Conditions: those of its row and card (the listed package variables start as the program's text lays them). -/
import Derived.Test.YtkmpehlhplhnhaaGreatDoorQ3
import Derived.Test.YtkmpehlhplhnhaaGreatDoorF3c
import Derived.Test.YtkmpehlhplhnhaaGreatDoorF3d
import Derived.Test.YtkmpehlhplhnhaaGreatDoorG3
import Derived.Test.YtkmpehlhplhnhaaGreatDoorH15
import Derived.Test.YtkmpehlhplhnhaaGreatDoorHZI
import Derived.Test.YtkmpehlhplhnhaaGreatDoorCards
import Derived.Test.YtkmpehlhplhnhaaGreatDoorTie
import Derived.ProofKit
import Derived.OpenShut
import Derived.LaidMore
import Derived.Lay
import Derived.SevenTiedAt
import Derived.Stop.Joined
namespace Go.Proofs.YtkmpehlhplhnhaaGreatDoor.breaksBare
open Go.ChangeShapes Go.WideShapes Go.ChangeAt Go.RowKit Hb
set_option linter.unusedVariables false

/-- Of the program's own knob. -/
theorem own : ownKnob Tryz.prog.godebug = none := by kernel_rfl

theorem law (l : List Int) (hl : ∀ n ∈ l, (Lit.int .u8 n).wf = true) (W : World) (v : Value) (hv : RepV ⟨W, [], fun _ => (0, 0), 0, fun b => b < W.heap.size⟩ (.sl 1 l.length (l.map (AV.i .u8))) v) (b : Bool) (hg : GlobOk Tb.prg W) :
    Calls Tryz.prog 3 #[v, .bool b] W fun e w' => e = .returned (.bool true) ∧ ∀ may, W.keptBut w' may :=
  ACall.callsW (P := Tb.prg) hg (vs := [v, .bool b]) (Tb.law_bare (decI_sl .u8 l) (fun x hx => byte_wf (hl x hx)) b) ⟨_, _, rfl, hv, _, _, rfl, rfl, rfl⟩

set_option maxHeartbeats 0 in
set_option maxRecDepth 100000 in
theorem lifted (os : Os) (started : os.Started) (H : Type) (enc : TypeId × Value → H) :
    ReturnsInHanded {} Tryz.checked os 3 .any (fun w args => (Rows.breaksBareSpec.pre enc Tryz.prog Tryz.f3 Rows.breaksBareRow.domain false w args ∧ laidMetH Tryz.prog Rows.breaksBareRow.laid w) ∧ sizedMet enc Tryz.prog Tryz.f3 (OpenSpec.ofChange Rows.breaksBareSpec) false w args)
      (Rows.breaksBareSpec.post enc Tryz.prog Tryz.f3 false true false false) := by
  refine returnsInHanded_of_change_and (C := Tryz.checked) (X := fun w _ => laidMetH Tryz.prog Rows.breaksBareRow.laid w) (fun _ _ _ hh h => h.of_heap hh) own started (by kernel_rfl) Tryz.func3
    (ChangeSpec.witness_shaped (enc := enc) (C := Tryz.checked) (os := os) (X := fun w _ => laidMetH Tryz.prog Rows.breaksBareRow.laid w) false (World.laidAll Tryz.prog os Rows.breaksBareRow.laid) #[.slice none 0 0, .bool false] 9 (World.laidAll_os _ _ _)
      (World.shaped_of_ZipB (by kernel_rfl) (by kernel_rfl)) (by kernel_rfl) (by kernel_rfl) (by kernel_rfl)
      (by rw [MakeChecks.laidMetH_plain _ _ _ (by kernel_rfl)]; exact laidMet_laidAll _ (by kernel_rfl) (by kernel_rfl))) ?_
  intro W base args ds gs before hval0 hW hcnd _ hL0 _
  have hL : laidMetH Tryz.prog Rows.breaksBareRow.laid W := hL0
  rw [MakeChecks.laidMetH_plain _ _ _ (by kernel_rfl)] at hL
  obtain ⟨lps, hLv, _⟩ := hL
  have hval : ∀ (j : Nat) t v, Tryz.f3.params[j]? = some t → args[j]? = some v → Value.okWide Tryz.prog W .any base t v := hval0
  have hW' := hW
  obtain ⟨p, q, hA0, hV, rfl, hfz, hnd⟩ := hW
  have hA : DataW.TrodAll enc Tryz.prog W 0 (fun _ => true) true Tryz.f3.params.toList args.toList ds p := hA0
  rw [Tryz.params3] at hA hval
  obtain ⟨v0, vs0, d0, ds0, p0, q0, hargs, rfl, rfl, h0, r0⟩ := trodAll_cons hA
  obtain ⟨v1, vs1, d1, ds1, p1, q1, rfl, rfl, rfl, h1, r1⟩ := trodAll_cons r0
  obtain ⟨rfl, rfl, rfl⟩ := trodAll_nil r1
  obtain rfl : args = #[v0, v1] := by cases args; simp_all
  obtain ⟨rfl, rfl⟩ := trodVars_none hV
  obtain ⟨l0, g0, w0, s0⟩ := ints_arg Tryz.underlying22 Tryz.underlying5 (by kernel_rfl) (hval 0 22 v0 rfl rfl) h0
  obtain ⟨a1, rfl, rfl, rfl⟩ := open_bool Tryz.underlying4 (hval 1 4 v1 rfl rfl) h1
  clear hA0 hval0
  simp only [List.append_nil] at hW'
  refine (law l0 w0 W v0 g0 a1 (Tb.glob_ok3 hLv)).mono fun e W' ⟨he, hg⟩ => ?_
  subst he
  exact ⟨_, rfl, _, _, _, [], _, [], hW', (trodAll_cons_mk (shut_bool Tryz.underlying4 _) trodAll_mk0), (trodAll_cons_mk (s0 W' hg) (trodAll_cons_mk (shut_bool Tryz.underlying4 _) trodAll_mk0)), rfl, hg _, fun h => by cases h⟩

set_option maxHeartbeats 0 in
theorem holds : Rows.BreaksBareSaid :=
  OpenClaim.holds_of_wide 3 Tryz.f3 rfl rfl rfl rfl rfl rfl rfl ⟨rfl, rfl, rfl, rfl, rfl⟩ rfl rfl rfl rfl rfl (by kernel_rfl) Tryz.func3 closed
    (of_decide_eq_true (by kernel_rfl)) (by unfold Func.isWrapper; first | (rw [if_pos (by decide +kernel)]; kernel_rfl) | (rw [if_neg (by decide +kernel)]; exact ⟨rfl, rfl⟩))
    (fun os started H enc _ => lifted os started H enc)

set_option maxHeartbeats 0 in
theorem card_holds : Rows.BreaksBareCardSaid :=
  Claim7.holds_tied_plain_at .later [] [.data, .data, .data, .data, .sentinel, .sentinel, .pinned, .pinned] true (true, "12ef3060d12ca1782797be079326d6db910240f0b5c218e465cb80ff89f0a06e") true holds (fun _ h => by cases h) (by as_aux_lemma => kernel_rfl) (fun _ h => by cases h) breaksBare_row_tie rfl ⟨rfl, rfl⟩ (by as_aux_lemma => kernel_rfl) rfl
    (fun f fn hf hfn => by
      obtain rfl : f = 3 := Option.some.inj ((show Tryz.prog.funcNamed "hornbook/hornbooklaw17.BreaksBare" = some 3 by as_aux_lemma => kernel_rfl).symm.trans hf) |>.symm
      obtain rfl : fn = Tryz.f3 := (Option.some.inj (Tryz.func3.symm.trans hfn)).symm
      exact ⟨(by as_aux_lemma => kernel_rfl), fun j t ht => by
        rw [Tryz.params3] at ht
        have hm : t ∈ [22, 4] := by simpa using Array.mem_of_getElem? ht
        have hall : ([22, 4].all fun u => !Tryz.prog.wantsStandIn u) = true := by as_aux_lemma => kernel_rfl
        exact (show Tryz.prog.wantsStandIn t = false by simpa using List.all_eq_true.1 hall t hm)⟩)
    goes
#print axioms card_holds
end Go.Proofs.YtkmpehlhplhnhaaGreatDoor.breaksBare
