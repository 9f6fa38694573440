/- The law BreaksCut of hornbooklaw17: proved, for every input: the call returns true and the arguments read as before. Conditions: those of its row and card (the listed package variables start as the program's text lays them). -/
import Derived.Test.YtmjcgaaeejpkgaaGreatDoorQ3
import Derived.Test.YtmjcgaaeejpkgaaGreatDoorF4c
import Derived.Test.YtmjcgaaeejpkgaaGreatDoorF4d
import Derived.Test.YtmjcgaaeejpkgaaGreatDoorG4
import Derived.Test.YtmjcgaaeejpkgaaGreatDoorH15
import Derived.Test.YtmjcgaaeejpkgaaGreatDoorHZI
import Derived.Test.YtmjcgaaeejpkgaaGreatDoorCards
import Derived.Test.YtmjcgaaeejpkgaaGreatDoorTie
import Derived.ProofKit
import Derived.OpenShut
import Derived.LaidMore
import Derived.Lay
import Derived.SevenTiedAt
import Derived.Stop.Joined
namespace Go.Proofs.YtmjcgaaeejpkgaaGreatDoor.breaksCut
open Go.ChangeShapes Go.WideShapes Go.ChangeAt Go.RowKit Hb
set_option linter.unusedVariables false

/-- Of the program's own knob. -/
theorem own : ownKnob Tryz.prog.godebug = none := by kernel_rfl

theorem law (l : List Int) (hl : ∀ n ∈ l, (Lit.int .u8 n).wf = true) (W : World) (v : Value) (hv : RepV ⟨W, [], fun _ => (0, 0), 0, fun b => b < W.heap.size⟩ (.sl 1 l.length (l.map (AV.i .u8))) v) (z : Int) (hz : (Lit.int .u8 z).wf = true) (hg : GlobOk Tb.prg W) :
    Calls Tryz.prog 4 #[v, .int .u8 z] W fun e w' => e = .returned (.bool true) ∧ ∀ may, W.keptBut w' may :=
  ACall.callsW (P := Tb.prg) hg (vs := [v, .int .u8 z]) (Tb.law_cut (decI_sl .u8 l) (fun x hx => byte_wf (hl x hx)) (byte_wf hz)) ⟨_, _, rfl, hv, _, _, rfl, rfl, rfl⟩

set_option maxHeartbeats 0 in
set_option maxRecDepth 100000 in
theorem lifted (os : Os) (started : os.Started) (H : Type) (enc : TypeId × Value → H) :
    ReturnsInHanded {} Tryz.checked os 4 .any (fun w args => (Rows.breaksCutSpec.pre enc Tryz.prog Tryz.f4 Rows.breaksCutRow.domain false w args ∧ laidMetH Tryz.prog Rows.breaksCutRow.laid w) ∧ sizedMet enc Tryz.prog Tryz.f4 (OpenSpec.ofChange Rows.breaksCutSpec) false w args)
      (Rows.breaksCutSpec.post enc Tryz.prog Tryz.f4 false true false false) := by
  refine returnsInHanded_of_change_and (C := Tryz.checked) (X := fun w _ => laidMetH Tryz.prog Rows.breaksCutRow.laid w) (fun _ _ _ hh h => h.of_heap hh) own started (by kernel_rfl) Tryz.func4
    (ChangeSpec.witness_shaped (enc := enc) (C := Tryz.checked) (os := os) (X := fun w _ => laidMetH Tryz.prog Rows.breaksCutRow.laid w) false (World.laidAll Tryz.prog os Rows.breaksCutRow.laid) #[.slice none 0 0, .int .u8 0] 9 (World.laidAll_os _ _ _)
      (World.shaped_of_ZipB (by kernel_rfl) (by kernel_rfl)) (by kernel_rfl) (by kernel_rfl) (by kernel_rfl)
      (by rw [MakeChecks.laidMetH_plain _ _ _ (by kernel_rfl)]; exact laidMet_laidAll _ (by kernel_rfl) (by kernel_rfl))) ?_
  intro W base args ds gs before hval0 hW hcnd _ hL0 _
  have hL : laidMetH Tryz.prog Rows.breaksCutRow.laid W := hL0
  rw [MakeChecks.laidMetH_plain _ _ _ (by kernel_rfl)] at hL
  obtain ⟨lps, hLv, _⟩ := hL
  have hval : ∀ (j : Nat) t v, Tryz.f4.params[j]? = some t → args[j]? = some v → Value.okWide Tryz.prog W .any base t v := hval0
  have hW' := hW
  obtain ⟨p, q, hA0, hV, rfl, hfz, hnd⟩ := hW
  have hA : DataW.TrodAll enc Tryz.prog W 0 (fun _ => true) true Tryz.f4.params.toList args.toList ds p := hA0
  rw [Tryz.params4] at hA hval
  obtain ⟨v0, vs0, d0, ds0, p0, q0, hargs, rfl, rfl, h0, r0⟩ := trodAll_cons hA
  obtain ⟨v1, vs1, d1, ds1, p1, q1, rfl, rfl, rfl, h1, r1⟩ := trodAll_cons r0
  obtain ⟨rfl, rfl, rfl⟩ := trodAll_nil r1
  obtain rfl : args = #[v0, v1] := by cases args; simp_all
  obtain ⟨rfl, rfl⟩ := trodVars_none hV
  obtain ⟨l0, g0, w0, s0⟩ := ints_arg Tryz.underlying22 Tryz.underlying5 (by kernel_rfl) (hval 0 22 v0 rfl rfl) h0
  obtain ⟨a1, rfl, rfl, rfl, w1⟩ := open_int Tryz.underlying5 (hval 1 5 v1 rfl rfl) h1
  clear hA0 hval0
  simp only [List.append_nil] at hW'
  refine (law l0 w0 W v0 g0 a1 w1 (Tb.glob_ok4 hLv)).mono fun e W' ⟨he, hg⟩ => ?_
  subst he
  exact ⟨_, rfl, _, _, _, [], _, [], hW', (trodAll_cons_mk (shut_bool Tryz.underlying4 _) trodAll_mk0), (trodAll_cons_mk (s0 W' hg) (trodAll_cons_mk (shut_int Tryz.underlying5 w1) trodAll_mk0)), rfl, hg _, fun h => by cases h⟩

set_option maxHeartbeats 0 in
theorem holds : Rows.BreaksCutSaid :=
  OpenClaim.holds_of_wide 4 Tryz.f4 rfl rfl rfl rfl rfl rfl rfl ⟨rfl, rfl, rfl, rfl, rfl⟩ rfl rfl rfl rfl rfl (by kernel_rfl) Tryz.func4 closed
    (of_decide_eq_true (by kernel_rfl)) (by unfold Func.isWrapper; first | (rw [if_pos (by decide +kernel)]; kernel_rfl) | (rw [if_neg (by decide +kernel)]; exact ⟨rfl, rfl⟩))
    (fun os started H enc _ => lifted os started H enc)

set_option maxHeartbeats 0 in
theorem card_holds : Rows.BreaksCutCardSaid :=
  Claim7.holds_tied_plain_at .later [] [.data, .data, .data, .data, .sentinel, .sentinel, .pinned, .pinned] true (true, "32976a9e80f3bf378a0cea27ecefa5494142a6a4514794f8d830c152d790c2dd") true holds (fun _ h => by cases h) (by as_aux_lemma => kernel_rfl) (fun _ h => by cases h) breaksCut_row_tie rfl ⟨rfl, rfl⟩ (by as_aux_lemma => kernel_rfl) rfl
    (fun f fn hf hfn => by
      obtain rfl : f = 4 := Option.some.inj ((show Tryz.prog.funcNamed "hornbook/hornbooklaw17.BreaksCut" = some 4 by as_aux_lemma => kernel_rfl).symm.trans hf) |>.symm
      obtain rfl : fn = Tryz.f4 := (Option.some.inj (Tryz.func4.symm.trans hfn)).symm
      exact ⟨(by as_aux_lemma => kernel_rfl), fun j t ht => by
        rw [Tryz.params4] at ht
        have hm : t ∈ [22, 5] := by simpa using Array.mem_of_getElem? ht
        have hall : ([22, 5].all fun u => !Tryz.prog.wantsStandIn u) = true := by as_aux_lemma => kernel_rfl
        exact (show Tryz.prog.wantsStandIn t = false by simpa using List.all_eq_true.1 hall t hm)⟩)
    goes
#print axioms card_holds
end Go.Proofs.YtmjcgaaeejpkgaaGreatDoor.breaksCut
