/- A part of the proof: R2J1. -/
import Derived.Test.YtodbllcfofohdaaGreatDoorRL
import Derived.Test.YtodbllcfofohdaaGreatDoorRC
import Derived.Test.YtodbllcfofohdaaGreatDoorEvD
import Derived.Test.YtodbllcfofohdaaGreatDoorTie
import Derived.Test.YtodbllcfofohdaaGreatDoorCards
import Derived.ProofKit
import Derived.LaidMore
import Derived.OpenShut
import Derived.Carry
import Derived.MakeChecks
import Derived.LaidLaws
import Derived.SevenTiedAt
set_option linter.unusedSimpArgs false
set_option linter.unusedVariables false
/- Both laws, as the cards state them. -/
namespace Go.Proofs.YtodbllcfofohdaaGreatDoor
open Go Go.ChangeShapes Go.WideShapes Go.ChangeAt Go.WideMaps Go.WideElems Go.RowKit
set_option maxRecDepth 100000

def laidR : List (String × DataW Unit) := [("math/bits.deBruijn32tab", Rows.laid_math_bits_deBruijn32tab), ("math/bits.deBruijn64tab", Rows.laid_math_bits_deBruijn64tab), ("internal/strconv.uint64pow10", Rows.laid_internal_strconv_uint64pow10), ("assize/typing.spans", Rows.laid_assize_typing_spans), ("assize/table.names", Rows.laid_assize_table_names)]

theorem own : ownKnob Tryz.prog.godebug = none := by kernel_rfl
theorem laidOut : laidOutB Tryz.prog = true := by kernel_rfl

theorem door_met (os : Os) (args : Array Value) : laidMetH Tryz.prog laidR ((World.doorLaid Tryz.prog 38 os).forCall (fun _ _ => 0) ⟨#[], args, []⟩).memory :=
  laidMetH_of_parts3 (fuel := 8) (laidMet_of_run' 8 (by kernel_rfl) (by kernel_rfl)) (by kernel_rfl) (by kernel_rfl)

theorem gok {w : World} (h : laidMet Tryz.prog laidR w) : Go.Ev.GOk Go.Ev.globs' (fun b => b < w.heap.size) w := by
  intro g cells hg
  unfold Go.Ev.globs' at hg
  split at hg
  · obtain rfl := Option.some.inj hg
    exact Go.Ev.laid_gok (fun _ h => h) h (n := "assize/table.names") (d := Rows.laid_assize_table_names) (.tail _ (.tail _ (.tail _ (.tail _ (.head _))))) (t := 61) (k := 6) (by kernel_rfl) (by kernel_rfl) (by kernel_rfl) (by kernel_rfl) (by intro e; cases e)
  · obtain rfl := Option.some.inj hg
    exact Go.Ev.laid_gok (fun _ h => h) h (n := "assize/typing.spans") (d := Rows.laid_assize_typing_spans) (.tail _ (.tail _ (.tail _ (.head _)))) (t := 276) (k := 6) (by kernel_rfl) (by kernel_rfl) (by kernel_rfl) (by kernel_rfl) (by intro e; cases e)
  · obtain rfl := Option.some.inj hg
    exact Go.Ev.laid_gok (fun _ h => h) h (n := "internal/strconv.uint64pow10") (d := Rows.laid_internal_strconv_uint64pow10) (.tail _ (.tail _ (.head _))) (t := 382) (k := 6) (by kernel_rfl) (by kernel_rfl) (by kernel_rfl) (by kernel_rfl) (by intro e; cases e)
  · obtain rfl := Option.some.inj hg
    exact Go.Ev.laid_gok (fun _ h => h) h (n := "math/bits.deBruijn32tab") (d := Rows.laid_math_bits_deBruijn32tab) (.head _) (t := 150) (k := 6) (by kernel_rfl) (by kernel_rfl) (by kernel_rfl) (by kernel_rfl) (by intro e; cases e)
  · obtain rfl := Option.some.inj hg
    exact Go.Ev.laid_gok (fun _ h => h) h (n := "math/bits.deBruijn64tab") (d := Rows.laid_math_bits_deBruijn64tab) (.tail _ (.head _)) (t := 430) (k := 6) (by kernel_rfl) (by kernel_rfl) (by kernel_rfl) (by kernel_rfl) (by intro e; cases e)
  · cases hg

/-- What a call that answers true leaves: below the heap's old size nothing has turned. -/
theorem post_true {F : Nat → Prop} {w : World} {e : Ending} {w' : World} (h : Go.Ev.PostP F w (.bool true) e w') : e = .returned (.bool true) ∧ Below w.heap.size w w' := by
  unfold Go.Ev.PostP at h
  split at h
  · obtain ⟨F', _, _, _, h1, h2, h3, h4, h5, h6⟩ := h
    cases h6
    exact ⟨rfl, h3, h4, h5, h2, h1⟩
  · cases h
  · cases h

theorem prs1 {F : Nat → Prop} {w : World} {a : Go.Ev.EV} {v : Value} (h : Go.Ev.PR F w a v) : Go.Ev.PRs F w [a] #[v] := by
  refine ⟨rfl, fun i h1 h2 => ?_⟩
  have : i = 0 := by simpa using h1
  subst this
  exact h
theorem prs2 {F : Nat → Prop} {w : World} {a b : Go.Ev.EV} {v u : Value} (h : Go.Ev.PR F w a v) (g : Go.Ev.PR F w b u) : Go.Ev.PRs F w [a, b] #[v, u] := by
  refine ⟨rfl, fun i h1 h2 => ?_⟩
  have h1 : i < 2 := h1
  match i, h1 with
  | 0, _ => exact h
  | 1, _ => exact g

/-- An argument of the tables' type is a table. -/
theorem table_arg {H : Type} {enc : TypeId × Value → H} {W : World} {base : Nat} {v : Value} {d : DataW H} {p : List MemPlace} (hval : Value.okWide Tryz.prog W .any base 24 v) (hd : DataW.Trod enc Tryz.prog W 0 (fun _ => true) true 24 v d p) :
    ∃ t : Go.Ev.TableD, Go.Ev.PR (fun b => b < W.heap.size) W t.ev v := by
  obtain ⟨vs, h1, h2⟩ := Go.Ev.arg_pure (F := fun b => b < W.heap.size) (n := 6) (fun _ h => h) Tryz.underlying24 hval (by kernel_rfl) hd
  obtain ⟨t, ht⟩ := Go.Ev.typed_table h2
  exact ⟨t, ht _ _ _ h1⟩

abbrev wArgs3 : Array Value := #[.agg #[.int .i64 0, .int .i64 0, .slice none 0 0]]
theorem wit_shaped (os : Os) (args : Array Value) : ((World.doorLaid Tryz.prog 38 os).forCall (fun _ _ => 0) ⟨#[], args, []⟩).Shaped Tryz.prog := World.shaped_of_RefB (by kernel_rfl) (by kernel_rfl)
theorem wit_ok3 (os : Os) : Input.okWideB Tryz.prog ((World.doorLaid Tryz.prog 38 os).forCall (fun _ _ => 0) ⟨#[], wArgs3, []⟩) 3 ⟨#[], wArgs3, []⟩ = true := by kernel_rfl
theorem wit_pre3 (os : Os) (H : Type) (enc : TypeId × Value → H) : Rows.tableEncodeSpecSpec.preB enc Tryz.prog Tryz.f3 [] false ((World.doorLaid Tryz.prog 38 os).forCall (fun _ _ => 0) ⟨#[], wArgs3, []⟩).memory wArgs3 8 = true := by kernel_rfl
theorem wit_sized3 (os : Os) (H : Type) (enc : TypeId × Value → H) : Rows.tableEncodeSpecSpec.sizedB enc Tryz.prog Tryz.f3 false ((World.doorLaid Tryz.prog 38 os).forCall (fun _ _ => 0) ⟨#[], wArgs3, []⟩).memory wArgs3 8 = true := by kernel_rfl
theorem noInit3 : Tryz.prog.inits.idxOf? 3 = none := by kernel_rfl
theorem plainLaid : (laidR.all fun x => x.2.handleName?.isNone) = true := by kernel_rfl
theorem rec24 : Tryz.prog.readableRec 24 = true := by kernel_rfl
theorem row24 : 24 < Tryz.prog.types.size := of_decide_eq_true (by kernel_rfl)
theorem contract3 (H : Type) (enc : TypeId × Value → H) (W : World) (base : Nat) (args : Array Value) (ds gs : List (DataW H)) (before : List MemPlace)
    (hval : ∀ (j : Nat) t v, Tryz.f3.params[j]? = some t → args[j]? = some v → Value.okWide Tryz.prog W .any base t v)
    (hW' : DataW.Whole enc Tryz.prog Tryz.f3.params.toList Rows.tableEncodeSpecSpec.vars false W args.toList ds gs before) (hL : laidMetH Tryz.prog laidR W) :
    Calls Tryz.prog 3 args W fun e W' => ∃ v, e = .returned v ∧ Rows.tableEncodeSpecSpec.post enc Tryz.prog Tryz.f3 false true false false W args v W' := by
  have hW := hW'
  obtain ⟨p, q, hA, hV, rfl, hfz, hnd⟩ := hW
  rw [Tryz.params3] at hA hval
  obtain ⟨v0, d0, rfl, rfl, h0⟩ := trodAll_one hA
  obtain ⟨rfl, rfl⟩ := trodVars_none hV
  obtain ⟨t, ht⟩ := table_arg (hval 0 24 v0 rfl rfl) h0
  rw [MakeChecks.laidMetH_plain _ _ _ plainLaid] at hL
  have hc := (Go.Ev.law3 t).2 (fun b => b < W.heap.size) W #[v0] (fun _ h => h) (gok hL) (prs1 ht)
  refine hc.mono fun e W' he => ?_
  obtain ⟨rfl, hB⟩ := post_true he
  have hlt : ∀ x ∈ p, x.block < W.heap.size := fun x hx => hW'.lt x (by simpa using hx)
  refine ⟨_, rfl, _, _, _, [], p, [], hW', ?_, ?_, ?_, hB.frame _, fun h => by cases h⟩
  · exact trodAll_mk1 (shut_bool Tryz.underlying4 true)
  · rw [Tryz.params3]; exact trodAll_mk1 (Below.trod laidOut rec24 row24 h0 hB hlt)
  · rfl

end Go.Proofs.YtodbllcfofohdaaGreatDoor
