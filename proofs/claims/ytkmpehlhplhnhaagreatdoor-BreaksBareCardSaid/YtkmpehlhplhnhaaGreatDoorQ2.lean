import Derived.Test.YtkmpehlhplhnhaaGreatDoorQ1
set_option autoImplicit false
set_option maxRecDepth 100000
set_option linter.unusedVariables false
namespace Tb
open Go Hb
theorem w_right : SOk prg 187 (flatOv rightF) := flatOv_ok hG g_right (run_ok (T := .e) (U := .e) trivial trivial 0) (right_c I _)
noncomputable def T_Has1 : Tab := (.n 187 (.fn (flatOv rightF)) .e .e)
noncomputable def U_Has1 : TTab := .e
theorem hR_Has1 (n : Nat) : RecOk prg (run T_Has1 U_Has1 n) := run_ok (show TabOk prg T_Has1 from ⟨w_right,trivial,trivial⟩) (show TTabOk prg U_Has1 from trivial) n
theorem w_Has1 : SOk prg 248 (flatOv has1F) := flatOv_ok hG g_Has1 (hR_Has1 1) (has1_c I _ (fun _ _ => rfl))
noncomputable def T_Has : Tab := (.n 247 (.fn (B_CFR I)) .e (.n 248 (.fn (flatOv has1F)) .e (.n 267 (.fn (B_IFR I)) .e .e)))
noncomputable def U_Has : TTab := .e
theorem hR_Has (n : Nat) : RecOk prg (run T_Has U_Has n) := run_ok (show TabOk prg T_Has from ⟨g_CFR,trivial,⟨w_Has1,trivial,⟨g_IFR,trivial,trivial⟩⟩⟩) (show TTabOk prg U_Has from trivial) n
theorem w_Has : SOk prg 210 (flatOv hasF) := flatOv_ok hG g_Has (hR_Has 3) (has_c I _ (run T_Has U_Has 2) (run T_Has U_Has 1) (fun _ _ => rfl) (fun _ _ => rfl) (fun _ _ => rfl))
noncomputable def T_mstep : Tab := .e
noncomputable def U_mstep : TTab := .e
theorem hR_mstep (n : Nat) : RecOk prg (run T_mstep U_mstep n) := run_ok (show TabOk prg T_mstep from trivial) (show TTabOk prg U_mstep from trivial) n
theorem w_mstep : SOk prg 209 (flatOv stepF) := flatOv_ok hG g_mstep (hR_mstep 0) (step_c I _)
noncomputable def T_mnone : Tab := .e
noncomputable def U_mnone : TTab := .e
theorem hR_mnone (n : Nat) : RecOk prg (run T_mnone U_mnone n) := run_ok (show TabOk prg T_mnone from trivial) (show TTabOk prg U_mnone from trivial) n
theorem w_mnone : SOk prg 118 (rowOv (noneF I)) := rowOv_ok hG g_mnone (hR_mnone 0) (none_c I _)
noncomputable def T_mone : Tab := (.n 118 (.fn (rowOv (noneF I))) .e (.n 120 (.fn (B_mall I)) .e (.n 162 (.fn (B_mall1 I)) .e (.n 209 (.fn (flatOv stepF)) .e (.n 210 (.fn (flatOv hasF)) .e .e)))))
noncomputable def U_mone : TTab := (.n 16 34 (C0_mone I) .e (.n 17 34 (C1_mone I) .e .e))
theorem hR_mone (n : Nat) : RecOk prg (run T_mone U_mone n) := run_ok (show TabOk prg T_mone from ⟨w_mnone,trivial,⟨g_mall,trivial,⟨g_mall1,trivial,⟨w_mstep,trivial,⟨w_Has,trivial,trivial⟩⟩⟩⟩⟩) (show TTabOk prg U_mone from ⟨gc0_mone,trivial,⟨gc1_mone,trivial,trivial⟩⟩) n
theorem w_mone : SOk prg 159 (rowOv (oneF I)) := rowOv_ok hG g_mone (hR_mone 3) (one_c I _ (run T_mone U_mone 2) (run T_mone U_mone 1) (fun _ _ => rfl) (fun _ _ => rfl) (fun _ _ => rfl) (fun _ _ => rfl) (fun _ _ => rfl) (fun _ _ => rfl) (fun _ _ => rfl))
noncomputable def T_collA : Tab := (.n 39 (.fn (B_AppSeqI I)) .e (.n 162 (.fn (B_mall1 I)) .e .e))
noncomputable def U_collA : TTab := (.n 8 13 (C0_AppSeqI I) .e (.n 9 13 (C1_AppSeqI I) .e .e))
theorem hR_collA (n : Nat) : RecOk prg (run T_collA U_collA n) := run_ok (show TabOk prg T_collA from ⟨g_AppSeqI,trivial,⟨g_mall1,trivial,trivial⟩⟩) (show TTabOk prg U_collA from ⟨gc0_AppSeqI,trivial,⟨gc1_AppSeqI,trivial,trivial⟩⟩) n
theorem w_collA : SOk prg 18 (rowOv (collF I (allG I))) := rowOv_ok hG g_CollectI (hR_collA 4) (coll_c I (R := (run T_collA U_collA 4)) (R1 := (run T_collA U_collA 3)) (R2 := (run T_collA U_collA 2)) (R3 := (run T_collA U_collA 1)) (fun _ _ => rfl) (fun _ _ => rfl) (fun _ _ => rfl) (allG_ok I (fun _ _ => rfl)))
noncomputable def T_leads : Tab := (.n 18 (.fn (rowOv (collF I (allG I)))) .e (.n 117 (.fn (constOv L_is)) .e (.n 118 (.fn (rowOv (noneF I))) .e (.n 119 (.fn (B_mwalk I)) .e (.n 120 (.fn (B_mall I)) .e (.n 159 (.fn (rowOv (oneF I))) .e .e))))))
noncomputable def U_leads : TTab := .e
theorem hR_leads (n : Nat) : RecOk prg (run T_leads U_leads n) := run_ok (show TabOk prg T_leads from ⟨w_collA,trivial,⟨o_is,trivial,⟨w_mnone,trivial,⟨g_mwalk,trivial,⟨g_mall,trivial,⟨w_mone,trivial,trivial⟩⟩⟩⟩⟩⟩) (show TTabOk prg U_leads from trivial) n
theorem w_leads : SOk prg 69 (rowOv (leadsF I (isC L_is))) := rowOv_ok hG g_leads (hR_leads 2) (leads_c I (R1 := (run T_leads U_leads 1)) (fun e h s => isC_c (R := run T_leads U_leads 1) h s) (fun _ _ => rfl) (fun _ _ => rfl) (fun _ _ => rfl) (fun _ _ => rfl) (fun _ _ h => h) (fun _ _ => rfl))
noncomputable def T_Begins : Tab := (.n 69 (.fn (rowOv (leadsF I (isC L_is)))) .e .e)
noncomputable def U_Begins : TTab := .e
theorem hR_Begins (n : Nat) : RecOk prg (run T_Begins U_Begins n) := run_ok (show TabOk prg T_Begins from ⟨w_leads,trivial,trivial⟩) (show TTabOk prg U_Begins from trivial) n
theorem w_Begins : SOk prg 37 (rowOv (begF I (isC L_is) true)) := rowOv_ok hG g_Begins (hR_Begins 1) (Begins_c I (isC L_is) (fun _ _ => rfl))
noncomputable def T_Ends : Tab := (.n 69 (.fn (rowOv (leadsF I (isC L_is)))) .e .e)
noncomputable def U_Ends : TTab := .e
theorem hR_Ends (n : Nat) : RecOk prg (run T_Ends U_Ends n) := run_ok (show TabOk prg T_Ends from ⟨w_leads,trivial,trivial⟩) (show TTabOk prg U_Ends from trivial) n
theorem w_Ends : SOk prg 38 (rowOv (begF I (isC L_is) false)) := rowOv_ok hG g_Ends (hR_Ends 1) (Ends_c I (isC L_is) (fun _ _ => rfl))
noncomputable def T_why : Tab := (.n 37 (.fn (rowOv (begF I (isC L_is) true))) .e (.n 38 (.fn (rowOv (begF I (isC L_is) false))) .e .e))
noncomputable def U_why : TTab := .e
theorem hR_why (n : Nat) : RecOk prg (run T_why U_why n) := run_ok (show TabOk prg T_why from ⟨w_Begins,trivial,⟨w_Ends,trivial,trivial⟩⟩) (show TTabOk prg U_why from trivial) n
theorem w_why : SOk prg 17 (flatOv (whyF (isC L_is))) := flatOv_ok hG g_why (hR_why 1) (why_c I (isC L_is) (fun _ _ => rfl) (fun _ _ => rfl))
noncomputable def T_Skipped : Tab := (.n 70 (.fn (B_CFS I)) .e (.n 121 (.fn (B_IFS I)) .e .e))
noncomputable def U_Skipped : TTab := .e
theorem hR_Skipped (n : Nat) : RecOk prg (run T_Skipped U_Skipped n) := run_ok (show TabOk prg T_Skipped from ⟨g_CFS,trivial,⟨g_IFS,trivial,trivial⟩⟩) (show TTabOk prg U_Skipped from trivial) n
theorem w_Skipped : SOk prg 41 (flatOv skipF) := flatOv_ok hG g_Skipped (hR_Skipped 2) (skip_c I (R1 := (run T_Skipped U_Skipped 1)) (R2 := (run T_Skipped U_Skipped 0)) (fun _ _ => rfl) (fun _ _ => rfl))
noncomputable def T_collC : Tab := (.n 17 (.fn (flatOv (whyF (isC L_is)))) .e (.n 39 (.fn (B_AppSeqI I)) .e (.n 40 (.fn (B_cuts1 I)) .e (.n 41 (.fn (flatOv skipF)) .e .e))))
noncomputable def U_collC : TTab := (.n 8 13 (C0_AppSeqI I) .e (.n 9 13 (C1_AppSeqI I) .e .e))
theorem hR_collC (n : Nat) : RecOk prg (run T_collC U_collC n) := run_ok (show TabOk prg T_collC from ⟨w_why,trivial,⟨g_AppSeqI,trivial,⟨g_cuts1,trivial,⟨w_Skipped,trivial,trivial⟩⟩⟩⟩) (show TTabOk prg U_collC from ⟨gc0_AppSeqI,trivial,⟨gc1_AppSeqI,trivial,trivial⟩⟩) n
theorem w_collC : SOk prg 18 (rowOv (collF I (cutsG I (isC L_is)))) := rowOv_ok hG g_CollectI (hR_collC 4) (coll_c I (R := (run T_collC U_collC 4)) (R1 := (run T_collC U_collC 3)) (R2 := (run T_collC U_collC 2)) (R3 := (run T_collC U_collC 1)) (fun _ _ => rfl) (fun _ _ => rfl) (fun _ _ => rfl) (cutsG_ok I (isC L_is) (R2 := (run T_collC U_collC 2)) (fun _ _ => rfl) (fun _ _ => rfl) (fun _ _ => rfl)))
noncomputable def T_Cuts : Tab := (.n 16 (.fn (constOv L_mi)) .e (.n 18 (.fn (rowOv (collF I (cutsG I (isC L_is))))) .e (.n 19 (.fn (B_cuts I)) .e .e)))
noncomputable def U_Cuts : TTab := .e
theorem hR_Cuts (n : Nat) : RecOk prg (run T_Cuts U_Cuts n) := run_ok (show TabOk prg T_Cuts from ⟨o_mi,trivial,⟨w_collC,trivial,⟨g_cuts,trivial,trivial⟩⟩⟩) (show TTabOk prg U_Cuts from trivial) n
theorem w_Cuts : SOk prg 10 (rowOv (CutsF I (isC L_is) (isC L_mi))) := rowOv_ok hG g_Cuts (hR_Cuts 2) (Cuts_c I (isC L_is) (isC L_mi) (fun e h s => isC_c (R := run T_Cuts U_Cuts 1) h s) (fun _ _ => rfl) (fun _ _ h => h) (fun _ _ => rfl))
noncomputable def T_DecSlow : Tab := .e
noncomputable def U_DecSlow : TTab := .e
theorem hR_DecSlow (n : Nat) : RecOk prg (run T_DecSlow U_DecSlow n) := run_ok (show TabOk prg T_DecSlow from trivial) (show TTabOk prg U_DecSlow from trivial) n
theorem w_DecSlow : SOk prg 114 (flatOv decSlowF) := flatOv_ok hG g_DecSlow (hR_DecSlow 0) (decSlow_c hT _)
noncomputable def T_DecRune : Tab := (.n 114 (.fn (flatOv decSlowF)) .e .e)
noncomputable def U_DecRune : TTab := .e
theorem hR_DecRune (n : Nat) : RecOk prg (run T_DecRune U_DecRune n) := run_ok (show TabOk prg T_DecRune from ⟨w_DecSlow,trivial,trivial⟩) (show TTabOk prg U_DecRune from trivial) n
theorem w_DecRune : SOk prg 64 (flatOv decF) := flatOv_ok hG g_DecRune (hR_DecRune 1) (decRune_c (I := I) (fun _ _ => rfl))
noncomputable def T_Runes : Tab := (.n 28 (.fn (B_steps I)) .e (.n 63 (.fn (B_steps1 I)) .e (.n 64 (.fn (flatOv decF)) .e .e)))
noncomputable def U_Runes : TTab := (.n 4 22 (C0_Runes I) .e (.n 5 22 (C1_Runes I) .e .e))
theorem hR_Runes (n : Nat) : RecOk prg (run T_Runes U_Runes n) := run_ok (show TabOk prg T_Runes from ⟨g_steps,trivial,⟨g_steps1,trivial,⟨w_DecRune,trivial,trivial⟩⟩⟩) (show TTabOk prg U_Runes from ⟨gc0_Runes,trivial,⟨gc1_Runes,trivial,trivial⟩⟩) n
theorem w_Runes : SOk prg 14 (cloOv runesF) := cloOv_ok hG g_Runes (hR_Runes 3) (runes_c (I := I) (R := (run T_Runes U_Runes 3)) (R1 := (run T_Runes U_Runes 2)) (R2 := (run T_Runes U_Runes 2)) (R3 := (run T_Runes U_Runes 1)) (fun _ _ => rfl) (fun _ _ => rfl) (fun _ _ => rfl) (fun _ _ => rfl) (fun _ _ => rfl))
noncomputable def T_rone : Tab := .e
noncomputable def U_rone : TTab := .e
theorem hR_rone (n : Nat) : RecOk prg (run T_rone U_rone n) := run_ok (show TabOk prg T_rone from trivial) (show TTabOk prg U_rone from trivial) n
theorem w_rone : SOk prg 13 (flatOv roneF) := flatOv_ok hG g_rone (hR_rone 0) (rone_c (I := I) _)
noncomputable def T_rRunes : Tab := (.n 13 (.fn (flatOv roneF)) .e .e)
noncomputable def U_rRunes : TTab := .e
theorem hR_rRunes (n : Nat) : RecOk prg (run T_rRunes U_rRunes n) := run_ok (show TabOk prg T_rRunes from ⟨w_rone,trivial,trivial⟩) (show TTabOk prg U_rRunes from trivial) n
theorem w_rRunes : SOk prg 6 (cloOv rRunesF) := cloOv_ok hG g_rRunes (hR_rRunes 1) (rRunes_c (I := I) (fun _ _ => rfl))
noncomputable def T_At : Tab := .e
noncomputable def U_At : TTab := .e
theorem hR_At (n : Nat) : RecOk prg (run T_At U_At n) := run_ok (show TabOk prg T_At from trivial) (show TTabOk prg U_At from trivial) n
theorem w_At : SOk prg 15 (flatOv atF) := flatOv_ok hG g_At (hR_At 0) (at_c (I := I) _)
noncomputable def T_Bytes17 : Tab := (.n 10 (.fn (rowOv (CutsF I (isC L_is) (isC L_mi)))) .e (.n 14 (.fn (cloOv runesF)) .e (.n 15 (.fn (flatOv atF)) .e .e)))
noncomputable def U_Bytes17 : TTab := .e
theorem hR_Bytes17 (n : Nat) : RecOk prg (run T_Bytes17 U_Bytes17 n) := run_ok (show TabOk prg T_Bytes17 from ⟨w_Cuts,trivial,⟨w_Runes,trivial,⟨w_At,trivial,trivial⟩⟩⟩) (show TTabOk prg U_Bytes17 from trivial) n
theorem w_Bytes17 : SOk prg 7 (cloOv (bytesF (isC L_is) (isC L_mi))) := cloOv_ok hG g_Bytes17 (hR_Bytes17 1) (bytes_c I (isC L_is) (isC L_mi) (fun _ _ => rfl) (fun _ _ => rfl) (fun _ _ => rfl))
noncomputable def T_law : Tab := (.n 4 (.fn (constOv L_known)) .e (.n 5 (.fn (constOv L_book)) .e (.n 6 (.fn (cloOv rRunesF)) .e (.n 7 (.fn (cloOv (bytesF (isC L_is) (isC L_mi)))) .e .e))))
noncomputable def U_law : TTab := .e
theorem hR_law (n : Nat) : RecOk prg (run T_law U_law n) := run_ok (show TabOk prg T_law from ⟨o_known,trivial,⟨o_book,trivial,⟨w_rRunes,trivial,⟨w_Bytes17,trivial,trivial⟩⟩⟩⟩) (show TTabOk prg U_law from trivial) n
end Tb
