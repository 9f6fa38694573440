/- The law BookStates of hornbooklaw18: proved, for every input: the call returns true and the arguments read as before. Conditions: those of its row and card (the listed package variables start as the program's text lays them). -/
import Derived.Test.YtceefpkgodkpmaaGreatDoorM4
import Derived.Test.YtceefpkgodkpmaaGreatDoorR3
import Derived.Test.YtceefpkgodkpmaaGreatDoorF3c
import Derived.Test.YtceefpkgodkpmaaGreatDoorF3d
import Derived.Test.YtceefpkgodkpmaaGreatDoorG3
import Derived.Test.YtceefpkgodkpmaaGreatDoorHZI
import Derived.Test.YtceefpkgodkpmaaGreatDoorCards
import Derived.Test.YtceefpkgodkpmaaGreatDoorTie
import Derived.ProofKit
import Derived.OpenShut
import Derived.LaidMore
import Derived.Lay
import Derived.SevenTiedAt
import Derived.Stop.Joined
namespace Go.Proofs.YtceefpkgodkpmaaGreatDoor.bookStates
open Go.ChangeShapes Go.WideShapes Go.ChangeAt Go.RowKit Hb
set_option linter.unusedVariables false

/-- Of the program's own knob. -/
theorem own : ownKnob Tryz.prog.godebug = none := by kernel_rfl

theorem byte_of {a : Int} (h : (Lit.int .u8 a).wf = true) : ∃ n : Nat, a = .ofNat n := by
  unfold Lit.wf at h
  rw [Bool.and_eq_true, decide_eq_true_eq] at h
  have : (0 : Int) ≤ a := h.1
  exact ⟨a.toNat, (Int.toNat_of_nonneg this).symm⟩

theorem law (m : Nat) (b : Bool) (W : World) (hg : GlobOk Tb.prg W) : Calls Tryz.prog 3 #[.int .u8 (.ofNat m), .bool b] W fun e w' => e = .returned (.bool true) ∧ ∀ may, W.keptBut w' may := by
  obtain ⟨R, hR, h⟩ := Tb.all b (m % 10) (Nat.mod_lt _ (by decide))
  rw [← Tb.red3] at h
  obtain ⟨a, e1, e2⟩ := isBool_some h
  have hc := Tb.s3 _ hR _ _ _ e1
  exact ACall.calls (P := Tb.prg) hg (vs := [.int .u8 (.ofNat m), .bool b]) (hc.mono fun v' σ' hk => (e2 v' σ' hk).1)
    (fun c => ⟨_, _, rfl, rfl, _, _, rfl, rfl, rfl⟩)

set_option maxHeartbeats 0 in
set_option maxRecDepth 100000 in
theorem lifted (os : Os) (started : os.Started) (H : Type) (enc : TypeId × Value → H) :
    ReturnsInHanded {} Tryz.checked os 3 .any (fun w args => (Rows.bookStatesSpec.pre enc Tryz.prog Tryz.f3 Rows.bookStatesRow.domain false w args ∧ laidMetH Tryz.prog Rows.bookStatesRow.laid w) ∧ sizedMet enc Tryz.prog Tryz.f3 (OpenSpec.ofChange Rows.bookStatesSpec) false w args)
      (Rows.bookStatesSpec.post enc Tryz.prog Tryz.f3 false true false false) := by
  refine returnsInHanded_of_change_and (C := Tryz.checked) (X := fun w _ => laidMetH Tryz.prog Rows.bookStatesRow.laid w) (fun _ _ _ hh h => h.of_heap hh) own started (by kernel_rfl) Tryz.func3
    (ChangeSpec.witness_shaped (enc := enc) (C := Tryz.checked) (os := os) (X := fun w _ => laidMetH Tryz.prog Rows.bookStatesRow.laid w) false (World.laidAll Tryz.prog os Rows.bookStatesRow.laid) #[.int .u8 0, .bool false] 9 (World.laidAll_os _ _ _)
      (World.shaped_of_ZipB (by kernel_rfl) (by kernel_rfl)) (by kernel_rfl) (by kernel_rfl) (by kernel_rfl)
      (by rw [MakeChecks.laidMetH_plain _ _ _ (by kernel_rfl)]; exact laidMet_laidAll _ (by kernel_rfl) (by kernel_rfl))) ?_
  intro W base args ds gs before hval0 hW hcnd _ hL0 _
  have hL : laidMetH Tryz.prog Rows.bookStatesRow.laid W := hL0
  rw [MakeChecks.laidMetH_plain _ _ _ (by kernel_rfl)] at hL
  obtain ⟨lps, hLv, _⟩ := hL
  have hval : ∀ (j : Nat) t v, Tryz.f3.params[j]? = some t → args[j]? = some v → Value.okWide Tryz.prog W .any base t v := hval0
  have hW' := hW
  obtain ⟨p, q, hA0, hV, rfl, hfz, hnd⟩ := hW
  have hA : DataW.TrodAll enc Tryz.prog W 0 (fun _ => true) true Tryz.f3.params.toList args.toList ds p := hA0
  rw [Tryz.params3] at hA hval
  obtain ⟨v0, vs0, d0, ds0, p0, q0, hargs, rfl, rfl, h0, r0⟩ := trodAll_cons hA
  obtain ⟨v1, vs1, d1, ds1, p1, q1, rfl, rfl, rfl, h1, r1⟩ := trodAll_cons r0
  obtain ⟨rfl, rfl, rfl⟩ := trodAll_nil r1
  obtain rfl : args = #[v0, v1] := by cases args; simp_all
  obtain ⟨rfl, rfl⟩ := trodVars_none hV
  obtain ⟨a0, rfl, rfl, rfl, w0⟩ := open_int Tryz.underlying5 (hval 0 5 v0 rfl rfl) h0
  obtain ⟨b, rfl, rfl, rfl⟩ := open_bool Tryz.underlying4 (hval 1 4 v1 rfl rfl) h1
  clear hA0 hval0
  simp only [List.append_nil] at hW'
  obtain ⟨m, rfl⟩ := byte_of w0
  refine (law m b W (Tb.glob_ok hLv)).mono fun e W' ⟨he, hg⟩ => ?_
  subst he
  exact ⟨_, rfl, _, _, _, [], [], [], hW', (trodAll_cons_mk (shut_bool Tryz.underlying4 _) trodAll_mk0), (trodAll_cons_mk (shut_int Tryz.underlying5 w0) (trodAll_cons_mk (shut_bool Tryz.underlying4 _) trodAll_mk0)), rfl, hg _, fun h => by cases h⟩

set_option maxHeartbeats 0 in
theorem holds : Rows.BookStatesSaid :=
  OpenClaim.holds_of_wide 3 Tryz.f3 rfl rfl rfl rfl rfl rfl rfl ⟨rfl, rfl, rfl, rfl, rfl⟩ rfl rfl rfl rfl rfl (by kernel_rfl) Tryz.func3 closed
    (of_decide_eq_true (by kernel_rfl)) (by unfold Func.isWrapper; first | (rw [if_pos (by decide +kernel)]; kernel_rfl) | (rw [if_neg (by decide +kernel)]; exact ⟨rfl, rfl⟩))
    (fun os started H enc _ => lifted os started H enc)

set_option maxHeartbeats 0 in
theorem card_holds : Rows.BookStatesCardSaid :=
  Claim7.holds_tied_plain_at .later [] [.data, .data, .data, .data, .sentinel, .sentinel, .pinned, .pinned] true (true, "b3170d757955b553fcbcde90a7fa0a8bf7e4784f4cb3ab6bc90dd4a224282537") true holds (fun _ h => by cases h) (by as_aux_lemma => kernel_rfl) (fun _ h => by cases h) bookStates_row_tie rfl ⟨rfl, rfl⟩ (by as_aux_lemma => kernel_rfl) rfl
    (fun f fn hf hfn => by
      obtain rfl : f = 3 := Option.some.inj ((show Tryz.prog.funcNamed "hornbook/hornbooklaw18.BookStates" = some 3 by as_aux_lemma => kernel_rfl).symm.trans hf) |>.symm
      obtain rfl : fn = Tryz.f3 := (Option.some.inj (Tryz.func3.symm.trans hfn)).symm
      exact ⟨(by as_aux_lemma => kernel_rfl), fun j t ht => by
        rw [Tryz.params3] at ht
        have hm : t ∈ [5, 4] := by simpa using Array.mem_of_getElem? ht
        have hall : ([5, 4].all fun u => !Tryz.prog.wantsStandIn u) = true := by as_aux_lemma => kernel_rfl
        exact (show Tryz.prog.wantsStandIn t = false by simpa using List.all_eq_true.1 hall t hm)⟩)
    goes
#print axioms card_holds
end Go.Proofs.YtceefpkgodkpmaaGreatDoor.bookStates
