/- A part of the proof: R2M1. -/
import Derived.Test.YtodbllcfofohdaaGreatDoorJB
set_option linter.unusedSimpArgs false
set_option linter.unusedVariables false
/- The second law: its contract. -/
namespace Go.Proofs.YtodbllcfofohdaaGreatDoor
open Go Go.ChangeShapes Go.WideShapes Go.ChangeAt Go.WideMaps Go.WideElems Go.RowKit
set_option maxRecDepth 100000
abbrev wArgs4 : Array Value := #[.agg #[.int .i64 0, .int .i64 0, .slice none 0 0], .agg #[.int .i64 0, .int .i64 0, .slice none 0 0]]
theorem wit_ok4 (os : Os) : Input.okWideB Tryz.prog ((World.doorLaid Tryz.prog 38 os).forCall (fun _ _ => 0) ⟨#[], wArgs4, []⟩) 4 ⟨#[], wArgs4, []⟩ = true := by kernel_rfl
theorem wit_pre4 (os : Os) (H : Type) (enc : TypeId × Value → H) : Rows.tableDifferentSpec.preB enc Tryz.prog Tryz.f4 [] false ((World.doorLaid Tryz.prog 38 os).forCall (fun _ _ => 0) ⟨#[], wArgs4, []⟩).memory wArgs4 8 = true := by kernel_rfl
theorem wit_sized4 (os : Os) (H : Type) (enc : TypeId × Value → H) : Rows.tableDifferentSpec.sizedB enc Tryz.prog Tryz.f4 false ((World.doorLaid Tryz.prog 38 os).forCall (fun _ _ => 0) ⟨#[], wArgs4, []⟩).memory wArgs4 8 = true := by kernel_rfl
theorem noInit4 : Tryz.prog.inits.idxOf? 4 = none := by kernel_rfl
theorem contract4 (H : Type) (enc : TypeId × Value → H) (W : World) (base : Nat) (args : Array Value) (ds gs : List (DataW H)) (before : List MemPlace)
    (hval : ∀ (j : Nat) t v, Tryz.f4.params[j]? = some t → args[j]? = some v → Value.okWide Tryz.prog W .any base t v)
    (hW' : DataW.Whole enc Tryz.prog Tryz.f4.params.toList Rows.tableDifferentSpec.vars false W args.toList ds gs before) (hL : laidMetH Tryz.prog laidR W) :
    Calls Tryz.prog 4 args W fun e W' => ∃ v, e = .returned v ∧ Rows.tableDifferentSpec.post enc Tryz.prog Tryz.f4 false true false false W args v W' := by
  have hW := hW'
  obtain ⟨p, q, hA, hV, rfl, hfz, hnd⟩ := hW
  rw [Tryz.params4] at hA hval
  obtain ⟨v0, v1, d0, d1, p0, p1, rfl, rfl, rfl, h0, h1⟩ := trodAll_two hA
  obtain ⟨rfl, rfl⟩ := trodVars_none hV
  obtain ⟨t, ht⟩ := table_arg (hval 0 24 v0 rfl rfl) h0
  obtain ⟨u, hu⟩ := table_arg (hval 1 24 v1 rfl rfl) h1
  rw [MakeChecks.laidMetH_plain _ _ _ plainLaid] at hL
  have hc := (Go.Ev.law4 t u).2 (fun b => b < W.heap.size) W #[v0, v1] (fun _ h => h) (gok hL) (prs2 ht hu)
  refine hc.mono fun e W' he => ?_
  obtain ⟨rfl, hB⟩ := post_true he
  have hlt0 : ∀ x ∈ p0, x.block < W.heap.size := fun x hx => hW'.lt x (by simp [hx])
  have hlt1 : ∀ x ∈ p1, x.block < W.heap.size := fun x hx => hW'.lt x (by simp [hx])
  refine ⟨_, rfl, _, _, _, [], p0 ++ p1, [], hW', ?_, ?_, ?_, hB.frame _, fun h => by cases h⟩
  · exact trodAll_mk1 (shut_bool Tryz.underlying4 true)
  · rw [Tryz.params4]; exact trodAll_mk2 (Below.trod laidOut rec24 row24 h0 hB hlt0) (Below.trod laidOut rec24 row24 h1 hB hlt1)
  · rfl
theorem lifted_gen4 (C : Checked) (hC : C.prog = Tryz.prog) (os : Os) (started : os.Started) (H : Type) (enc : TypeId × Value → H) :
    ReturnsInHanded {} C os 4 .any (fun w args => (Rows.tableDifferentSpec.pre enc C.prog Tryz.f4 [] false w args ∧ laidMetH C.prog laidR w) ∧ sizedMet enc C.prog Tryz.f4 (OpenSpec.ofChange Rows.tableDifferentSpec) false w args)
      (Rows.tableDifferentSpec.post enc C.prog Tryz.f4 false true false false) :=
  returnsInHanded_of_change_and (C := C) (X := fun w _ => laidMetH C.prog laidR w) (fun _ _ _ hh h => h.of_heap hh) (hC.symm ▸ own) started (hC.symm ▸ noInit4) (hC.symm ▸ Tryz.func4)
    (ChangeSpec.witness_shaped (enc := enc) (C := C) (os := os) (X := fun w _ => laidMetH C.prog laidR w) false (World.doorLaid Tryz.prog 38 os) wArgs4 8 rfl (by rw [hC]; exact wit_shaped os _) (by rw [hC]; exact wit_ok4 os) (by rw [hC]; exact wit_pre4 os H enc) (by rw [hC]; exact wit_sized4 os H enc) (by rw [hC]; exact door_met os _))
    (fun W base args ds gs before hval hW _ _ hL _ => by
      rw [hC] at hval hW hL ⊢
      exact contract4 H enc W base args ds gs before hval hW hL)
theorem lifted4 (os : Os) (started : os.Started) (H : Type) (enc : TypeId × Value → H) :
    ReturnsInHanded {} Tryz.checked os 4 .any (fun w args => (Rows.tableDifferentSpec.pre enc Tryz.prog Tryz.f4 [] false w args ∧ laidMetH Tryz.prog laidR w) ∧ sizedMet enc Tryz.prog Tryz.f4 (OpenSpec.ofChange Rows.tableDifferentSpec) false w args)
      (Rows.tableDifferentSpec.post enc Tryz.prog Tryz.f4 false true false false) := by
  have h := lifted_gen4 Tryz.checked progEq os started H enc
  rw [progEq] at h
  exact h
end Go.Proofs.YtodbllcfofohdaaGreatDoor
