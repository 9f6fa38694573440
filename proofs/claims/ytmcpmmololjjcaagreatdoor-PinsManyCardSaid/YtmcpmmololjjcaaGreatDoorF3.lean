/- The law PinsMany of hornbooklaw26: proved, for every input: the call returns true and the arguments read as before. Conditions: those of its row and card (the listed package variables start as the program's text lays them). -/
import Derived.Test.YtmcpmmololjjcaaGreatDoorM13
import Derived.Test.YtmcpmmololjjcaaGreatDoorR3
import Derived.Test.YtmcpmmololjjcaaGreatDoorF3c
import Derived.Test.YtmcpmmololjjcaaGreatDoorF3d
import Derived.Test.YtmcpmmololjjcaaGreatDoorG3
import Derived.Test.YtmcpmmololjjcaaGreatDoorHZI
import Derived.Test.YtmcpmmololjjcaaGreatDoorCards
import Derived.Test.YtmcpmmololjjcaaGreatDoorTie
import Derived.ProofKit
import Derived.OpenShut
import Derived.LaidMore
import Derived.Lay
import Derived.SevenTiedAt
import Derived.Stop.Joined
namespace Go.Proofs.YtmcpmmololjjcaaGreatDoor.pinsMany
open Go.ChangeShapes Go.WideShapes Go.ChangeAt Go.RowKit Hb
set_option linter.unusedVariables false

/-- Of the program's own knob. -/
theorem own : ownKnob Tryz.prog.godebug = none := by kernel_rfl

theorem byte_of {a : Int} (h : (Lit.int .u8 a).wf = true) : ∃ n : Nat, a = .ofNat n ∧ n ≤ 255 := by
  unfold Lit.wf at h
  rw [Bool.and_eq_true, decide_eq_true_eq, decide_eq_true_eq] at h
  have h1 : (0 : Int) ≤ a := h.1
  have h2 : a ≤ 255 := h.2
  exact ⟨a.toNat, (Int.toNat_of_nonneg h1).symm, by omega⟩

theorem law (n : Nat) (hn : n ≤ 255) (d : Nat) (hd : d ≤ 255) (W : World) (hg : GlobOk Tb.prg W) : Calls Tryz.prog 3 #[.int .u8 (.ofNat n), .int .u8 (.ofNat d)] W fun e w' => e = .returned (.bool true) ∧ ∀ may, W.keptBut w' may := by
  have h := Tb.all3 (n % 14) (d % min (n % 14) 8) (Nat.mod_lt _ (by decide)) (fun hp => Nat.mod_lt _ (by omega))
  unfold Tb.okp at h
  rw [← Tb.red3 _ n d _ hn hd] at h
  obtain ⟨a, e1, e2⟩ := isBool_some h
  have hc := Tb.s3 _ Tb.RS_ok _ _ _ e1
  exact ACall.calls (P := Tb.prg) hg (vs := [.int .u8 (.ofNat n), .int .u8 (.ofNat d)]) (hc.mono fun v' σ' hk => (e2 v' σ' hk).1)
    (fun c => ⟨_, _, rfl, rfl, _, _, rfl, rfl, rfl⟩)

set_option maxHeartbeats 0 in
set_option maxRecDepth 100000 in
theorem lifted (os : Os) (started : os.Started) (H : Type) (enc : TypeId × Value → H) :
    ReturnsInHanded {} Tryz.checked os 3 .any (fun w args => (Rows.pinsManySpec.pre enc Tryz.prog Tryz.f3 Rows.pinsManyRow.domain false w args ∧ laidMetH Tryz.prog Rows.pinsManyRow.laid w) ∧ sizedMet enc Tryz.prog Tryz.f3 (OpenSpec.ofChange Rows.pinsManySpec) false w args)
      (Rows.pinsManySpec.post enc Tryz.prog Tryz.f3 false true false false) := by
  refine returnsInHanded_of_change_and (C := Tryz.checked) (X := fun w _ => laidMetH Tryz.prog Rows.pinsManyRow.laid w) (fun _ _ _ hh h => h.of_heap hh) own started (by kernel_rfl) Tryz.func3
    (ChangeSpec.witness_shaped (enc := enc) (C := Tryz.checked) (os := os) (X := fun w _ => laidMetH Tryz.prog Rows.pinsManyRow.laid w) false (World.laidAll Tryz.prog os Rows.pinsManyRow.laid) #[.int .u8 0, .int .u8 0] 9 (World.laidAll_os _ _ _)
      (World.shaped_of_ZipB (by kernel_rfl) (by kernel_rfl)) (by kernel_rfl) (by kernel_rfl) (by kernel_rfl)
      (by rw [MakeChecks.laidMetH_plain _ _ _ (by kernel_rfl)]; exact laidMet_laidAll _ (by kernel_rfl) (by kernel_rfl))) ?_
  intro W base args ds gs before hval0 hW hcnd _ hL0 _
  have hL : laidMetH Tryz.prog Rows.pinsManyRow.laid W := hL0
  rw [MakeChecks.laidMetH_plain _ _ _ (by kernel_rfl)] at hL
  obtain ⟨lps, hLv, _⟩ := hL
  have hval : ∀ (j : Nat) t v, Tryz.f3.params[j]? = some t → args[j]? = some v → Value.okWide Tryz.prog W .any base t v := hval0
  have hW' := hW
  obtain ⟨p, q, hA0, hV, rfl, hfz, hnd⟩ := hW
  have hA : DataW.TrodAll enc Tryz.prog W 0 (fun _ => true) true Tryz.f3.params.toList args.toList ds p := hA0
  rw [Tryz.params3] at hA hval
  obtain ⟨v0, vs0, d0, ds0, p0, q0, hargs, rfl, rfl, h0, r0⟩ := trodAll_cons hA
  obtain ⟨v1, vs1, d1, ds1, p1, q1, rfl, rfl, rfl, h1, r1⟩ := trodAll_cons r0
  obtain ⟨rfl, rfl, rfl⟩ := trodAll_nil r1
  obtain rfl : args = #[v0, v1] := by cases args; simp_all
  obtain ⟨rfl, rfl⟩ := trodVars_none hV
  obtain ⟨a0, rfl, rfl, rfl, w0⟩ := open_int Tryz.underlying5 (hval 0 5 v0 rfl rfl) h0
  obtain ⟨a1, rfl, rfl, rfl, w1⟩ := open_int Tryz.underlying5 (hval 1 5 v1 rfl rfl) h1
  clear hA0 hval0
  simp only [List.append_nil] at hW'
  obtain ⟨m0, rfl, b0⟩ := byte_of w0
  obtain ⟨m1, rfl, b1⟩ := byte_of w1
  refine (law m0 b0 m1 b1 W (Tb.glob_ok hLv)).mono fun e W' ⟨he, hg⟩ => ?_
  subst he
  exact ⟨_, rfl, _, _, _, [], [], [], hW', (trodAll_cons_mk (shut_bool Tryz.underlying4 _) trodAll_mk0), (trodAll_cons_mk (shut_int Tryz.underlying5 w0) (trodAll_cons_mk (shut_int Tryz.underlying5 w1) trodAll_mk0)), rfl, hg _, fun h => by cases h⟩

set_option maxHeartbeats 0 in
theorem holds : Rows.PinsManySaid :=
  OpenClaim.holds_of_wide 3 Tryz.f3 rfl rfl rfl rfl rfl rfl rfl ⟨rfl, rfl, rfl, rfl, rfl⟩ rfl rfl rfl rfl rfl (by kernel_rfl) Tryz.func3 closed
    (of_decide_eq_true (by kernel_rfl)) (by unfold Func.isWrapper; first | (rw [if_pos (by decide +kernel)]; kernel_rfl) | (rw [if_neg (by decide +kernel)]; exact ⟨rfl, rfl⟩))
    (fun os started H enc _ => lifted os started H enc)

set_option maxHeartbeats 0 in
theorem card_holds : Rows.PinsManyCardSaid :=
  Claim7.holds_tied_plain_at .later [] [.data, .data, .data, .data, .sentinel, .sentinel, .pinned, .pinned] true (true, "716827332d91f4885d4a542d166ca32291368a682b72edfbe8db7644a084a2e9") true holds (fun _ h => by cases h) (by as_aux_lemma => kernel_rfl) (fun _ h => by cases h) pinsMany_row_tie rfl ⟨rfl, rfl⟩ (by as_aux_lemma => kernel_rfl) rfl
    (fun f fn hf hfn => by
      obtain rfl : f = 3 := Option.some.inj ((show Tryz.prog.funcNamed "hornbook/hornbooklaw26.PinsMany" = some 3 by as_aux_lemma => kernel_rfl).symm.trans hf) |>.symm
      obtain rfl : fn = Tryz.f3 := (Option.some.inj (Tryz.func3.symm.trans hfn)).symm
      exact ⟨(by as_aux_lemma => kernel_rfl), fun j t ht => by
        rw [Tryz.params3] at ht
        have hm : t ∈ [5, 5] := by simpa using Array.mem_of_getElem? ht
        have hall : ([5, 5].all fun u => !Tryz.prog.wantsStandIn u) = true := by as_aux_lemma => kernel_rfl
        exact (show Tryz.prog.wantsStandIn t = false by simpa using List.all_eq_true.1 hall t hm)⟩)
    goes
#print axioms card_holds
end Go.Proofs.YtmcpmmololjjcaaGreatDoor.pinsMany
