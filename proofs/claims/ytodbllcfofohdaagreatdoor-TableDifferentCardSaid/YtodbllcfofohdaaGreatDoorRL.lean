/- A part of the proof: R2L3, R2D1, R2D2, R2D3, R2L4. -/
import Derived.Test.YtodbllcfofohdaaGreatDoorRG
import Derived.Test.YtodbllcfofohdaaGreatDoorRE
import Derived.Test.YtodbllcfofohdaaGreatDoorRS
set_option linter.unusedSimpArgs false
set_option linter.unusedVariables false
namespace Go.Ev
open Go.Proofs.Tryz (prog)
set_option maxRecDepth 100000
set_option maxHeartbeats 0
theorem law3L (t : TableD) (is : SemP prog globs' 5 [] (EV.bool true)) (hl : (Decidable.decide ((t.len : Int) > 30)) = true) : SemP prog globs' 3 [EV.agg [EV.int IntKind.i64 t.season, EV.int IntKind.i64 t.comp, EV.isl t.nn 14 t.len fun (i : Nat) => (t.ps i).cells]] (EV.bool true) :=
  semP_fork (modes := pures) (news := news) (n := 60) (fuel := 100000) (F := []) (s := (.mk [(1, .dec true)] [] [some (EV.bool true)] [] [])) (ow := [(Decidable.decide ((↑t.len : Int) > 30)) = true, SemP prog globs' 5 [] (EV.bool true)]) hMixed KOk.nil (by kernel_rfl) (by kernel_rfl) (by kernel_rfl) (.cons (by assumption) (.cons is .nil))
theorem law3A (t : TableD) (is : SemP prog globs' 5 [] (EV.bool true)) (X : List UInt8) (hl : (Decidable.decide ((t.len : Int) > 30)) = false) (hx : X.length ≤ 40000) (i6 : SemP prog globs' 6 [t.ev] (EV.tuple [bSl X, EV.int .i64 0])) (i7 : SemP prog globs' 7 [t.ev] (EV.tuple [bSl X, EV.int .i64 0])) (i8 : SemP prog globs' 8 [t.ev] (EV.int .i64 0)) (i9 : SemP prog globs' 9 [t.ev] (EV.int .i64 0)) : SemP prog globs' 3 [EV.agg [EV.int IntKind.i64 t.season, EV.int IntKind.i64 t.comp, EV.isl t.nn 14 t.len fun (i : Nat) => (t.ps i).cells]] (EV.bool true) :=
  semP_fork (modes := pures) (news := news) (n := 60) (fuel := 100000) (F := []) (s := (.mk [(1, .dec false), (2, .dec true), (2, .dec true), (2, .dec true), (0, .dec true), (0, .dec true), (0, .dec true)] [] [some (EV.bool true), some (EV.tuple [EV.isl true 1 X.length fun (i : Nat) => [EV.int IntKind.u8 (↑(X.getD i 0).toNat : Int)], EV.int IntKind.i64 0]), some (EV.tuple [EV.isl true 1 X.length fun (i : Nat) => [EV.int IntKind.u8 (↑(X.getD i 0).toNat : Int)], EV.int IntKind.i64 0]), some (EV.int IntKind.i64 0), some (EV.int IntKind.i64 0)] [] [])) (ow := [((ByteArray.mk
        (List.map
            (fun (i : Nat) =>
              match (fun (i : Nat) => [EV.int IntKind.u8 (↑(X.getD i 0).toNat : Int)]) i with
              | [EV.int IntKind.u8 n] => UInt8.ofNat n.toNat
              | x => 0)
            (List.range X.length)).toArray).data.toList ==
  (ByteArray.mk
        (List.map
            (fun (i : Nat) =>
              match (fun (i : Nat) => [EV.int IntKind.u8 (↑(X.getD i 0).toNat : Int)]) i with
              | [EV.int IntKind.u8 n] => UInt8.ofNat n.toNat
              | x => 0)
            (List.range X.length)).toArray).data.toList) = true, ((ByteArray.mk
        (List.map
            (fun (i : Nat) =>
              match (fun (i : Nat) => [EV.int IntKind.u8 (↑(X.getD i 0).toNat : Int)]) i with
              | [EV.int IntKind.u8 n] => UInt8.ofNat n.toNat
              | x => 0)
            (List.range X.length)).toArray).data.toList ==
  (ByteArray.mk
        (List.map
            (fun (i : Nat) =>
              match (fun (i : Nat) => [EV.int IntKind.u8 (↑(X.getD i 0).toNat : Int)]) i with
              | [EV.int IntKind.u8 n] => UInt8.ofNat n.toNat
              | x => 0)
            (List.range X.length)).toArray).data.toList) = true, ((ByteArray.mk
        (List.map
            (fun (i : Nat) =>
              match (fun (i : Nat) => [EV.int IntKind.u8 (↑(X.getD i 0).toNat : Int)]) i with
              | [EV.int IntKind.u8 n] => UInt8.ofNat n.toNat
              | x => 0)
            (List.range X.length)).toArray).data.toList ==
  (ByteArray.mk
        (List.map
            (fun (i : Nat) =>
              match (fun (i : Nat) => [EV.int IntKind.u8 (↑(X.getD i 0).toNat : Int)]) i with
              | [EV.int IntKind.u8 n] => UInt8.ofNat n.toNat
              | x => 0)
            (List.range X.length)).toArray).data.toList) = true, ((ByteArray.mk
        (List.map
            (fun (i : Nat) =>
              match (fun (i : Nat) => [EV.int IntKind.u8 (↑(X.getD i 0).toNat : Int)]) i with
              | [EV.int IntKind.u8 n] => UInt8.ofNat n.toNat
              | x => 0)
            (List.range X.length)).toArray).data.toList ==
  (ByteArray.mk
        (List.map
            (fun (i : Nat) =>
              match (fun (i : Nat) => [EV.int IntKind.u8 (↑(X.getD i 0).toNat : Int)]) i with
              | [EV.int IntKind.u8 n] => UInt8.ofNat n.toNat
              | x => 0)
            (List.range X.length)).toArray).data.toList) = true, ((List.range X.length).all fun (i : Nat) =>
  match (fun (i : Nat) => [EV.int IntKind.u8 (↑(X.getD i 0).toNat : Int)]) i with
  | [EV.int IntKind.u8 n] => true
  | x => false) = true, ((List.range X.length).all fun (i : Nat) =>
  match (fun (i : Nat) => [EV.int IntKind.u8 (↑(X.getD i 0).toNat : Int)]) i with
  | [EV.int IntKind.u8 n] => true
  | x => false) = true, SemP prog globs' 9 [EV.agg [EV.int IntKind.i64 t.season, EV.int IntKind.i64 t.comp, EV.isl t.nn 14 t.len fun (i : Nat) => (t.ps i).cells]] (EV.int IntKind.i64 0), SemP prog globs' 8 [EV.agg [EV.int IntKind.i64 t.season, EV.int IntKind.i64 t.comp, EV.isl t.nn 14 t.len fun (i : Nat) => (t.ps i).cells]] (EV.int IntKind.i64 0), SemP prog globs' 7 [EV.agg [EV.int IntKind.i64 t.season, EV.int IntKind.i64 t.comp, EV.isl t.nn 14 t.len fun (i : Nat) => (t.ps i).cells]] (EV.tuple [EV.isl true 1 X.length fun (i : Nat) => [EV.int IntKind.u8 (↑(X.getD i 0).toNat : Int)], EV.int IntKind.i64 0]), SemP prog globs' 6 [EV.agg [EV.int IntKind.i64 t.season, EV.int IntKind.i64 t.comp, EV.isl t.nn 14 t.len fun (i : Nat) => (t.ps i).cells]] (EV.tuple [EV.isl true 1 X.length fun (i : Nat) => [EV.int IntKind.u8 (↑(X.getD i 0).toNat : Int)], EV.int IntKind.i64 0]), (Decidable.decide ((↑t.len : Int) > 30)) = false, SemP prog globs' 5 [] (EV.bool true)]) hMixed KOk.nil (by kernel_rfl) (by kernel_rfl) (by kernel_rfl) (.cons (by simp_all; done) (.cons (by simp_all; done) (.cons (by simp_all; done) (.cons (by simp_all; done) (.cons (by simp_all; done) (.cons (by simp_all; done) (.cons i9 (.cons i8 (.cons i7 (.cons i6 (.cons (by assumption) (.cons is .nil))))))))))))
theorem law3B (t : TableD) (is : SemP prog globs' 5 [] (EV.bool true)) (hl : (Decidable.decide ((t.len : Int) > 30)) = false) (i6 : SemP prog globs' 6 [t.ev] (EV.tuple [EV.isl false 0 0 fun _ => [], EV.int .i64 1])) (i7 : SemP prog globs' 7 [t.ev] (EV.tuple [EV.isl false 0 0 fun _ => [], EV.int .i64 1])) (i8 : SemP prog globs' 8 [t.ev] (EV.int .i64 1)) (i9 : SemP prog globs' 9 [t.ev] (EV.int .i64 1)) : SemP prog globs' 3 [EV.agg [EV.int IntKind.i64 t.season, EV.int IntKind.i64 t.comp, EV.isl t.nn 14 t.len fun (i : Nat) => (t.ps i).cells]] (EV.bool true) :=
  semP_fork (modes := pures) (news := news) (n := 60) (fuel := 100000) (F := []) (s := (.mk [(1, .dec false)] [] [some (EV.bool true), some (EV.tuple [EV.isl false 0 0 fun (i : Nat) => [], EV.int IntKind.i64 1]), some (EV.tuple [EV.isl false 0 0 fun (i : Nat) => [], EV.int IntKind.i64 1]), some (EV.int IntKind.i64 1), some (EV.int IntKind.i64 1)] [] [])) (ow := [SemP prog globs' 9 [EV.agg [EV.int IntKind.i64 t.season, EV.int IntKind.i64 t.comp, EV.isl t.nn 14 t.len fun (i : Nat) => (t.ps i).cells]] (EV.int IntKind.i64 1), SemP prog globs' 8 [EV.agg [EV.int IntKind.i64 t.season, EV.int IntKind.i64 t.comp, EV.isl t.nn 14 t.len fun (i : Nat) => (t.ps i).cells]] (EV.int IntKind.i64 1), SemP prog globs' 7 [EV.agg [EV.int IntKind.i64 t.season, EV.int IntKind.i64 t.comp, EV.isl t.nn 14 t.len fun (i : Nat) => (t.ps i).cells]] (EV.tuple [EV.isl false 0 0 fun (i : Nat) => [], EV.int IntKind.i64 1]), SemP prog globs' 6 [EV.agg [EV.int IntKind.i64 t.season, EV.int IntKind.i64 t.comp, EV.isl t.nn 14 t.len fun (i : Nat) => (t.ps i).cells]] (EV.tuple [EV.isl false 0 0 fun (i : Nat) => [], EV.int IntKind.i64 1]), (Decidable.decide ((↑t.len : Int) > 30)) = false, SemP prog globs' 5 [] (EV.bool true)]) hMixed KOk.nil (by kernel_rfl) (by kernel_rfl) (by kernel_rfl) (.cons i9 (.cons i8 (.cons i7 (.cons i6 (.cons (by assumption) (.cons is .nil))))))
end Go.Ev
namespace Go.Ev
open Go.Proofs.Tryz (prog)
noncomputable def smT (i : Int) : List EV := frame 45 [(2, .ptr 0 0), (3, .ptr 1 0), (4, .bool false), (5, .int .i64 i)]
def smH (t u : TableD) : Heap := [t.obj, u.obj]
end Go.Ev
namespace Go.Ev
open Go.Proofs.Tryz (prog)
set_option maxRecDepth 100000
set_option maxHeartbeats 0
theorem smB_0 (t u : TableD) (i : Int) (h0 : 0 ≤ i) (h3 : t.len ≤ 24) (h6 : u.len = t.len) (q0 : (Decidable.decide (i < (↑t.len : Int))) = true) (q1 : (!((t.ps i.toNat).rank == (u.ps i.toNat).rank && ((t.ps i.toNat).by' == (u.ps i.toNat).by' && ((t.ps i.toNat).zone == (u.ps i.toNat).zone && ((t.ps i.toNat).row.club == (u.ps i.toNat).row.club && ((t.ps i.toNat).row.played == (u.ps i.toNat).row.played && ((t.ps i.toNat).row.won == (u.ps i.toNat).row.won && ((t.ps i.toNat).row.drawn == (u.ps i.toNat).row.drawn && ((t.ps i.toNat).row.lost == (u.ps i.toNat).row.lost && ((t.ps i.toNat).row.for' == (u.ps i.toNat).row.for' && ((t.ps i.toNat).row.against == (u.ps i.toNat).row.against && ((t.ps i.toNat).row.awayFor == (u.ps i.toNat).row.awayFor && ((t.ps i.toNat).row.awayWon == (u.ps i.toNat).row.awayWon && ((t.ps i.toNat).row.cards == (u.ps i.toNat).row.cards && ((t.ps i.toNat).row.points == (u.ps i.toNat).row.points && true)))))))))) && true))))) = true) : SemC prog globs' false (cB (cB (cR (cL (cR (cR (bodyOf prog 10))))))) (smT i) (smH t u) (EX.ret, (frame 45 [(2, EV.ptr 0 0), (3, EV.ptr 1 0), (4, EV.bool false)]), [EObj.var false true [EV.int IntKind.i64 t.season, EV.int IntKind.i64 t.comp, EV.isl t.nn 14 t.len fun (i : Nat) => (t.ps i).cells], EObj.var false true [EV.int IntKind.i64 u.season, EV.int IntKind.i64 u.comp, EV.isl u.nn 14 u.len fun (i : Nat) => (u.ps i).cells]]) :=
  semC_cut (modes := pures) (news := news) (n := 60) (fuel := 100000) (F := [[(Decidable.decide (i < (↑t.len : Int)), true), (!((t.ps i.toNat).rank == (u.ps i.toNat).rank && ((t.ps i.toNat).by' == (u.ps i.toNat).by' && ((t.ps i.toNat).zone == (u.ps i.toNat).zone && ((t.ps i.toNat).row.club == (u.ps i.toNat).row.club && ((t.ps i.toNat).row.played == (u.ps i.toNat).row.played && ((t.ps i.toNat).row.won == (u.ps i.toNat).row.won && ((t.ps i.toNat).row.drawn == (u.ps i.toNat).row.drawn && ((t.ps i.toNat).row.lost == (u.ps i.toNat).row.lost && ((t.ps i.toNat).row.for' == (u.ps i.toNat).row.for' && ((t.ps i.toNat).row.against == (u.ps i.toNat).row.against && ((t.ps i.toNat).row.awayFor == (u.ps i.toNat).row.awayFor && ((t.ps i.toNat).row.awayWon == (u.ps i.toNat).row.awayWon && ((t.ps i.toNat).row.cards == (u.ps i.toNat).row.cards && ((t.ps i.toNat).row.points == (u.ps i.toNat).row.points && true)))))))))) && true)))), true)]]) (s := (.mk [(0, .kn 0 0), (0, .dec true), (0, .dec true), (0, .kn 0 1)] [] [] [] [])) (ow := [(inB i u.len) = true, (inB i t.len) = true]) 28 3 2 hMixed (KOk.one (kCons q0 (kCons q1 kNil))) (by kernel_rfl) (by kernel_rfl) (by kernel_rfl) (.cons (by simp_all [inB] <;> omega) (.cons (by simp_all [inB] <;> omega) .nil))
theorem smB_1 (t u : TableD) (i : Int) (h0 : 0 ≤ i) (h3 : t.len ≤ 24) (h6 : u.len = t.len) (q0 : (Decidable.decide (i < (↑t.len : Int))) = true) (q1 : (!((t.ps i.toNat).rank == (u.ps i.toNat).rank && ((t.ps i.toNat).by' == (u.ps i.toNat).by' && ((t.ps i.toNat).zone == (u.ps i.toNat).zone && ((t.ps i.toNat).row.club == (u.ps i.toNat).row.club && ((t.ps i.toNat).row.played == (u.ps i.toNat).row.played && ((t.ps i.toNat).row.won == (u.ps i.toNat).row.won && ((t.ps i.toNat).row.drawn == (u.ps i.toNat).row.drawn && ((t.ps i.toNat).row.lost == (u.ps i.toNat).row.lost && ((t.ps i.toNat).row.for' == (u.ps i.toNat).row.for' && ((t.ps i.toNat).row.against == (u.ps i.toNat).row.against && ((t.ps i.toNat).row.awayFor == (u.ps i.toNat).row.awayFor && ((t.ps i.toNat).row.awayWon == (u.ps i.toNat).row.awayWon && ((t.ps i.toNat).row.cards == (u.ps i.toNat).row.cards && ((t.ps i.toNat).row.points == (u.ps i.toNat).row.points && true)))))))))) && true))))) = false) : SemC prog globs' false (cB (cB (cR (cL (cR (cR (bodyOf prog 10))))))) (smT i) (smH t u) (EX.normal, (frame 45 [(2, EV.ptr 0 0), (3, EV.ptr 1 0), (4, EV.bool false), (5, EV.int IntKind.i64 (i + 1))]), [EObj.var false true [EV.int IntKind.i64 t.season, EV.int IntKind.i64 t.comp, EV.isl t.nn 14 t.len fun (i : Nat) => (t.ps i).cells], EObj.var false true [EV.int IntKind.i64 u.season, EV.int IntKind.i64 u.comp, EV.isl u.nn 14 u.len fun (i : Nat) => (u.ps i).cells]]) :=
  semC_cut (modes := pures) (news := news) (n := 60) (fuel := 100000) (F := [[(Decidable.decide (i < (↑t.len : Int)), true), (!((t.ps i.toNat).rank == (u.ps i.toNat).rank && ((t.ps i.toNat).by' == (u.ps i.toNat).by' && ((t.ps i.toNat).zone == (u.ps i.toNat).zone && ((t.ps i.toNat).row.club == (u.ps i.toNat).row.club && ((t.ps i.toNat).row.played == (u.ps i.toNat).row.played && ((t.ps i.toNat).row.won == (u.ps i.toNat).row.won && ((t.ps i.toNat).row.drawn == (u.ps i.toNat).row.drawn && ((t.ps i.toNat).row.lost == (u.ps i.toNat).row.lost && ((t.ps i.toNat).row.for' == (u.ps i.toNat).row.for' && ((t.ps i.toNat).row.against == (u.ps i.toNat).row.against && ((t.ps i.toNat).row.awayFor == (u.ps i.toNat).row.awayFor && ((t.ps i.toNat).row.awayWon == (u.ps i.toNat).row.awayWon && ((t.ps i.toNat).row.cards == (u.ps i.toNat).row.cards && ((t.ps i.toNat).row.points == (u.ps i.toNat).row.points && true)))))))))) && true)))), false)]]) (s := (.mk [(0, .kn 0 0), (0, .dec true), (0, .dec true), (0, .kn 0 1), (0, .dec true)] [] [] [] [])) (ow := [(inR IntKind.i64 (i + 1)) = true, (inB i u.len) = true, (inB i t.len) = true]) 60 3 2 hMixed (KOk.one (kCons q0 (kCons q1 kNil))) (by kernel_rfl) (by kernel_rfl) (by kernel_rfl) (.cons (by (simp only [inB, inR_i64, inR_i32, inR_u8, inR_u16, inR_u32, inR_u64, Bool.cond_true_left, Bool.cond_false_left, Bool.cond_true_right, Bool.cond_false_right, Bool.not_not, Bool.not_and, Bool.not_or, Bool.and_eq_true, Bool.or_eq_true, Bool.and_eq_false_imp, Bool.or_eq_false_iff, Bool.not_eq_true', Bool.not_eq_false', decide_eq_true_eq, decide_eq_false_iff_not, beq_iff_eq, bne_iff_ne, beq_eq_false_iff_ne, ne_eq, Decidable.not_not, Int.toNat_natCast] at * <;> omega)) (.cons (by simp_all [inB] <;> omega) (.cons (by simp_all [inB] <;> omega) .nil)))
theorem smB_2 (t u : TableD) (i : Int) (h0 : 0 ≤ i) (h3 : t.len ≤ 24) (h6 : u.len = t.len) (q0 : (Decidable.decide (i < (↑t.len : Int))) = false) : SemC prog globs' false (cB (cB (cR (cL (cR (cR (bodyOf prog 10))))))) (smT i) (smH t u) (EX.leave 0, (frame 45 [(2, EV.ptr 0 0), (3, EV.ptr 1 0), (4, EV.bool false)]), [EObj.var false true [EV.int IntKind.i64 t.season, EV.int IntKind.i64 t.comp, EV.isl t.nn 14 t.len fun (i : Nat) => (t.ps i).cells], EObj.var false true [EV.int IntKind.i64 u.season, EV.int IntKind.i64 u.comp, EV.isl u.nn 14 u.len fun (i : Nat) => (u.ps i).cells]]) :=
  semC_cut (modes := pures) (news := news) (n := 60) (fuel := 100000) (F := [[(Decidable.decide (i < (↑t.len : Int)), false)]]) (s := (.mk [(0, .kn 0 0)] [] [] [] [])) (ow := []) 28 3 2 hMixed (KOk.one (kCons q0 kNil)) (by kernel_rfl) (by kernel_rfl) (by kernel_rfl) .nil
end Go.Ev
namespace Go.Ev
open Go.Proofs.Tryz (prog)
def eqPl (p q : PlaceD) : Bool := (p.rank == q.rank && (p.by' == q.by' && (p.zone == q.zone && (p.row.club == q.row.club && (p.row.played == q.row.played && (p.row.won == q.row.won && (p.row.drawn == q.row.drawn && (p.row.lost == q.row.lost && (p.row.for' == q.row.for' && (p.row.against == q.row.against && (p.row.awayFor == q.row.awayFor && (p.row.awayWon == q.row.awayWon && (p.row.cards == q.row.cards && (p.row.points == q.row.points && true)))))))))) && true))))
def smFrom (t u : TableD) : Nat → Nat → Bool
  | _, 0 => true
  | n, k + 1 => bif !eqPl (t.ps n) (u.ps n) then false else smFrom t u (n + 1) k
noncomputable abbrev smEnd (t u : TableD) (b : Bool) : RC := bif b then (EX.leave 0, frame 45 [(2, EV.ptr 0 0), (3, EV.ptr 1 0), (4, EV.bool false)], smH t u) else (EX.ret, frame 45 [(2, EV.ptr 0 0), (3, EV.ptr 1 0), (4, EV.bool false)], smH t u)
theorem smL (t u : TableD) (h1 : t.len ≤ 24) (h6 : u.len = t.len) : ∀ (k n : Nat), n + k = t.len → SemL prog globs' false (cB (cB (cR (cL (cR (cR (bodyOf prog 10))))))) (smT n) (smH t u) (smEnd t u (smFrom t u n k))
  | 0, n, h => by
    have := smB_2 t u n (by omega) h1 h6 (by simp; omega)
    exact SemL.last this (by intro h; cases h)
  | k + 1, n, h => by
    cases hb : eqPl (t.ps n) (u.ps n) with
    | false =>
      have := smB_0 t u n (by omega) h1 h6 (by simp; omega) (by rw [Int.toNat_natCast]; show (!eqPl (t.ps n) (u.ps n)) = true; rw [hb]; rfl)
      have e : smFrom t u n (k + 1) = false := by simp [smFrom, hb]
      rw [e]
      exact SemL.last this (by intro h; cases h)
    | true =>
      have := smB_1 t u n (by omega) h1 h6 (by simp; omega) (by rw [Int.toNat_natCast]; show (!eqPl (t.ps n) (u.ps n)) = false; rw [hb]; rfl)
      have e : smFrom t u n (k + 1) = smFrom t u (n + 1) k := by simp [smFrom, hb]
      rw [e]
      exact SemL.step this (smL t u h1 h6 k (n + 1) (by omega))
theorem smC (t u : TableD) (h1 : t.len ≤ 24) (h6 : u.len = t.len) : SemCL prog globs' false (cB (cR (cL (cR (cR (bodyOf prog 10)))))) (smT 0) (smH t u) (smEnd t u (smFrom t u 0 t.len)) :=
  SemL.toCL (smL t u h1 h6 t.len 0 (by omega)) (by kernel_rfl)
end Go.Ev
namespace Go.Ev
open Go.Proofs.Tryz (prog)
set_option maxRecDepth 100000
set_option maxHeartbeats 0
theorem sameX_ (t u : TableD) (hq : (bif t.season != u.season then true else bif t.comp != u.comp then true else (t.len : Int) != (u.len : Int)) = true) : SemP prog globs' 10 [EV.agg [EV.int IntKind.i64 t.season, EV.int IntKind.i64 t.comp, EV.isl t.nn 14 t.len fun (i : Nat) => (t.ps i).cells], EV.agg [EV.int IntKind.i64 u.season, EV.int IntKind.i64 u.comp, EV.isl u.nn 14 u.len fun (i : Nat) => (u.ps i).cells]] (EV.bool false) :=
  semP_fork (modes := pures) (news := news) (n := 60) (fuel := 100000) (F := []) (s := (.mk [(0, .dec true)] [(4, .fork true (t.season != u.season) 67108864 31 0 3 (.mk [(0, .kn 0 0), (0, .kn 0 0), (0, .kn 0 0), (0, .kn 0 0), (0, .kn 0 0), (0, .kn 0 0)] [] [] [] []) (.mk [] [(0, .fork false (t.comp != u.comp) 67108864 31 0 3 (.mk [(0, .kn 0 0), (0, .kn 0 0), (0, .kn 0 0), (0, .kn 0 0), (0, .kn 0 0), (0, .kn 0 0), (0, .kn 0 1), (0, .kn 0 1), (0, .kn 0 1), (0, .kn 0 1), (0, .kn 0 1), (0, .kn 0 1), (0, .kn 0 1), (0, .kn 0 1)] [] [] [] []) (.mk [(0, .kn 0 0), (0, .kn 0 0), (0, .kn 0 0), (0, .kn 0 0), (0, .kn 0 0), (0, .kn 0 0), (0, .kn 0 1), (0, .kn 0 1), (0, .kn 0 1), (0, .kn 0 1), (0, .kn 0 1), (0, .kn 0 1), (0, .kn 0 1), (0, .kn 0 1)] [] [] [] []))] [] [] []))] [] [] [])) (ow := [(bif t.season != u.season then true else bif t.comp != u.comp then true else (↑t.len : Int) != (↑u.len : Int)) = true]) hMixed KOk.nil (by kernel_rfl) (by kernel_rfl) (by kernel_rfl) (.cons (by assumption) .nil)
theorem sameT_ (t u : TableD) (hq : (bif t.season != u.season then true else bif t.comp != u.comp then true else (t.len : Int) != (u.len : Int)) = false) (ih : SemCL prog globs' false (cB (cR (cL (cR (cR (bodyOf prog 10)))))) (smT 0) (smH t u) ((EX.leave 0, frame 45 [(2, EV.ptr 0 0), (3, EV.ptr 1 0), (4, EV.bool false)], smH t u) : RC)) : SemP prog globs' 10 [EV.agg [EV.int IntKind.i64 t.season, EV.int IntKind.i64 t.comp, EV.isl t.nn 14 t.len fun (i : Nat) => (t.ps i).cells], EV.agg [EV.int IntKind.i64 u.season, EV.int IntKind.i64 u.comp, EV.isl u.nn 14 u.len fun (i : Nat) => (u.ps i).cells]] (EV.bool true) :=
  semP_fork (modes := pures) (news := news) (n := 60) (fuel := 100000) (F := []) (s := (.mk [(0, .dec false), (0, .dec false), (0, .dec false), (0, .dec false), (0, .dec false), (0, .dec false), (0, .dec false), (0, .dec false), (0, .dec false), (0, .dec false), (0, .dec false), (0, .dec false), (0, .dec false), (0, .dec false), (0, .dec false)] [(11, .is 60 3 (EX.leave 0, (frame 45 [(2, EV.ptr 0 0), (3, EV.ptr 1 0), (4, EV.bool false)]), [EObj.var false true [EV.int IntKind.i64 t.season, EV.int IntKind.i64 t.comp, EV.isl t.nn 14 t.len fun (i : Nat) => (t.ps i).cells], EObj.var false true [EV.int IntKind.i64 u.season, EV.int IntKind.i64 u.comp, EV.isl u.nn 14 u.len fun (i : Nat) => (u.ps i).cells]]))] [] [] [])) (ow := [SemCL prog globs' false (cB (cR (cL (cR (cR (bodyOf prog 10)))))) (frame 45 [(2, EV.ptr 0 0), (3, EV.ptr 1 0), (4, EV.bool false), (5, EV.int IntKind.i64 0)]) [EObj.var false true [EV.int IntKind.i64 t.season, EV.int IntKind.i64 t.comp, EV.isl t.nn 14 t.len fun (i : Nat) => (t.ps i).cells], EObj.var false true [EV.int IntKind.i64 u.season, EV.int IntKind.i64 u.comp, EV.isl u.nn 14 u.len fun (i : Nat) => (u.ps i).cells]] (EX.leave 0, (frame 45 [(2, EV.ptr 0 0), (3, EV.ptr 1 0), (4, EV.bool false)]), [EObj.var false true [EV.int IntKind.i64 t.season, EV.int IntKind.i64 t.comp, EV.isl t.nn 14 t.len fun (i : Nat) => (t.ps i).cells], EObj.var false true [EV.int IntKind.i64 u.season, EV.int IntKind.i64 u.comp, EV.isl u.nn 14 u.len fun (i : Nat) => (u.ps i).cells]]), ((↑t.len : Int) != (↑u.len : Int)) = false, (t.comp != u.comp) = false, (t.comp != u.comp) = false, (t.comp != u.comp) = false, (t.comp != u.comp) = false, (t.comp != u.comp) = false, (t.comp != u.comp) = false, (t.comp != u.comp) = false, (t.comp != u.comp) = false, (t.season != u.season) = false, (t.season != u.season) = false, (t.season != u.season) = false, (t.season != u.season) = false, (t.season != u.season) = false, (t.season != u.season) = false]) hMixed KOk.nil (by kernel_rfl) (by kernel_rfl) (by kernel_rfl) (.cons ih (.cons (by simp_all; done) (.cons (by simp_all; done) (.cons (by simp_all; done) (.cons (by simp_all; done) (.cons (by simp_all; done) (.cons (by simp_all; done) (.cons (by simp_all; done) (.cons (by simp_all; done) (.cons (by simp_all; done) (.cons (by simp_all; done) (.cons (by simp_all; done) (.cons (by simp_all; done) (.cons (by simp_all; done) (.cons (by simp_all; done) (.cons (by simp_all; done) .nil))))))))))))))))
theorem sameF_ (t u : TableD) (hq : (bif t.season != u.season then true else bif t.comp != u.comp then true else (t.len : Int) != (u.len : Int)) = false) (ih : SemCL prog globs' false (cB (cR (cL (cR (cR (bodyOf prog 10)))))) (smT 0) (smH t u) ((EX.ret, frame 45 [(2, EV.ptr 0 0), (3, EV.ptr 1 0), (4, EV.bool false)], smH t u) : RC)) : SemP prog globs' 10 [EV.agg [EV.int IntKind.i64 t.season, EV.int IntKind.i64 t.comp, EV.isl t.nn 14 t.len fun (i : Nat) => (t.ps i).cells], EV.agg [EV.int IntKind.i64 u.season, EV.int IntKind.i64 u.comp, EV.isl u.nn 14 u.len fun (i : Nat) => (u.ps i).cells]] (EV.bool false) :=
  semP_fork (modes := pures) (news := news) (n := 60) (fuel := 100000) (F := []) (s := (.mk [(0, .dec false), (0, .dec false), (0, .dec false), (0, .dec false), (0, .dec false), (0, .dec false), (0, .dec false), (0, .dec false), (0, .dec false), (0, .dec false), (0, .dec false), (0, .dec false), (0, .dec false), (0, .dec false), (0, .dec false)] [(11, .is 60 3 (EX.ret, (frame 45 [(2, EV.ptr 0 0), (3, EV.ptr 1 0), (4, EV.bool false)]), [EObj.var false true [EV.int IntKind.i64 t.season, EV.int IntKind.i64 t.comp, EV.isl t.nn 14 t.len fun (i : Nat) => (t.ps i).cells], EObj.var false true [EV.int IntKind.i64 u.season, EV.int IntKind.i64 u.comp, EV.isl u.nn 14 u.len fun (i : Nat) => (u.ps i).cells]]))] [] [] [])) (ow := [SemCL prog globs' false (cB (cR (cL (cR (cR (bodyOf prog 10)))))) (frame 45 [(2, EV.ptr 0 0), (3, EV.ptr 1 0), (4, EV.bool false), (5, EV.int IntKind.i64 0)]) [EObj.var false true [EV.int IntKind.i64 t.season, EV.int IntKind.i64 t.comp, EV.isl t.nn 14 t.len fun (i : Nat) => (t.ps i).cells], EObj.var false true [EV.int IntKind.i64 u.season, EV.int IntKind.i64 u.comp, EV.isl u.nn 14 u.len fun (i : Nat) => (u.ps i).cells]] (EX.ret, (frame 45 [(2, EV.ptr 0 0), (3, EV.ptr 1 0), (4, EV.bool false)]), [EObj.var false true [EV.int IntKind.i64 t.season, EV.int IntKind.i64 t.comp, EV.isl t.nn 14 t.len fun (i : Nat) => (t.ps i).cells], EObj.var false true [EV.int IntKind.i64 u.season, EV.int IntKind.i64 u.comp, EV.isl u.nn 14 u.len fun (i : Nat) => (u.ps i).cells]]), ((↑t.len : Int) != (↑u.len : Int)) = false, (t.comp != u.comp) = false, (t.comp != u.comp) = false, (t.comp != u.comp) = false, (t.comp != u.comp) = false, (t.comp != u.comp) = false, (t.comp != u.comp) = false, (t.comp != u.comp) = false, (t.comp != u.comp) = false, (t.season != u.season) = false, (t.season != u.season) = false, (t.season != u.season) = false, (t.season != u.season) = false, (t.season != u.season) = false, (t.season != u.season) = false]) hMixed KOk.nil (by kernel_rfl) (by kernel_rfl) (by kernel_rfl) (.cons ih (.cons (by simp_all; done) (.cons (by simp_all; done) (.cons (by simp_all; done) (.cons (by simp_all; done) (.cons (by simp_all; done) (.cons (by simp_all; done) (.cons (by simp_all; done) (.cons (by simp_all; done) (.cons (by simp_all; done) (.cons (by simp_all; done) (.cons (by simp_all; done) (.cons (by simp_all; done) (.cons (by simp_all; done) (.cons (by simp_all; done) (.cons (by simp_all; done) .nil))))))))))))))))
def sameB (t u : TableD) : Bool := bif (bif t.season != u.season then true else bif t.comp != u.comp then true else (t.len : Int) != (u.len : Int)) then false else smFrom t u 0 t.len
theorem lenEq {t u : TableD} (h : (bif t.season != u.season then true else bif t.comp != u.comp then true else (t.len : Int) != (u.len : Int)) = false) : t.season = u.season ∧ t.comp = u.comp ∧ u.len = t.len := by
  simp only [b1, Bool.or_eq_false_iff, bne_eq_false_iff_eq] at h
  exact ⟨h.1, h.2.1, by omega⟩
theorem sameSem (t u : TableD) (h1 : t.len ≤ 24) : SemP prog globs' 10 [t.ev, u.ev] (.bool (sameB t u)) := by
  unfold sameB
  cases hq : (bif t.season != u.season then true else bif t.comp != u.comp then true else (t.len : Int) != (u.len : Int)) with
  | true => exact sameX_ t u hq
  | false =>
    have ih := smC t u h1 (lenEq hq).2.2
    show SemP prog globs' 10 [t.ev, u.ev] (.bool (smFrom t u 0 t.len))
    cases hs : smFrom t u 0 t.len with
    | true => rw [hs] at ih; exact sameT_ t u hq ih
    | false => rw [hs] at ih; exact sameF_ t u hq ih
theorem zone_beq {a b : ByteArray} : (a == b) = true ↔ a = b := by
  obtain ⟨x⟩ := a
  obtain ⟨y⟩ := b
  show (x == y) = true ↔ _
  rw [beq_iff_eq]
  constructor
  · intro h; rw [h]
  · intro h; injection h
theorem eqPl_iff {p q : PlaceD} : eqPl p q = true ↔ p = q := by
  constructor
  · intro h
    unfold eqPl at h
    simp only [Bool.and_true, Bool.and_eq_true, beq_iff_eq, zone_beq] at h
    obtain ⟨a1, a2, a3, ⟨b1, b2, b3, b4, b5, b6, b7, b8, b9, b10, b11⟩⟩ := p
    obtain ⟨c1, c2, c3, ⟨d1, d2, d3, d4, d5, d6, d7, d8, d9, d10, d11⟩⟩ := q
    simp only at h
    obtain ⟨rfl, rfl, rfl, rfl, rfl, rfl, rfl, rfl, rfl, rfl, rfl, rfl, rfl, rfl⟩ := h
    rfl
  · rintro rfl
    have h : (p.zone == p.zone) = true := zone_beq.2 rfl
    simp [eqPl, h]
theorem smFrom_iff {t u : TableD} : ∀ (k n : Nat), smFrom t u n k = true ↔ ∀ i, n ≤ i → i < n + k → t.ps i = u.ps i
  | 0, n => by simp [smFrom]; omega
  | k + 1, n => by
    unfold smFrom
    cases h : eqPl (t.ps n) (u.ps n) with
    | true =>
      have e := eqPl_iff.1 h
      simp only [Bool.not_true, cond_false]
      rw [smFrom_iff k (n + 1)]
      constructor
      · intro g i h1 h2
        by_cases a : i = n
        · rw [a]; exact e
        · exact g i (by omega) (by omega)
      · exact fun g i h1 h2 => g i (by omega) (by omega)
    | false =>
      simp only [Bool.not_false, cond_true]
      constructor
      · intro g; cases g
      · intro g
        have := eqPl_iff.2 (g n (by omega) (by omega))
        rw [h] at this; cases this
theorem sameB_iff {t u : TableD} : sameB t u = true ↔ SameT t u := by
  unfold sameB
  cases hq : (bif t.season != u.season then true else bif t.comp != u.comp then true else (t.len : Int) != (u.len : Int)) with
  | true =>
    constructor
    · intro h; cases h
    · intro ⟨h1, h2, h3, _⟩
      rw [h1, h2, h3] at hq
      simp at hq
  | false =>
    obtain ⟨h1, h2, h3⟩ := lenEq hq
    show smFrom t u 0 t.len = true ↔ _
    rw [smFrom_iff]
    constructor
    · intro g; exact ⟨h1, h2, h3.symm, fun i hi => g i (by omega) (by omega)⟩
    · intro ⟨_, _, _, g⟩ i _ hi
      exact g i (by omega)
theorem sameB_enc {t u : TableD} (ht : t.ok) (hu : u.ok) : sameB t u = (encT t == encT u) := by
  rw [Bool.eq_iff_iff, sameB_iff, beq_iff_eq]
  exact ⟨encT_same, encT_inj ht hu⟩
end Go.Ev
namespace Go.Ev
open Go.Proofs.Tryz (prog)
set_option maxRecDepth 100000
set_option maxHeartbeats 0
theorem law4L3 (t u : TableD) (is : SemP prog globs' 5 [] (EV.bool true)) (h1 : (Decidable.decide ((t.len : Int) > 24)) = true) (h2 : (Decidable.decide ((u.len : Int) > 24)) = true) : SemP prog globs' 4 [EV.agg [EV.int IntKind.i64 t.season, EV.int IntKind.i64 t.comp, EV.isl t.nn 14 t.len fun (i : Nat) => (t.ps i).cells], EV.agg [EV.int IntKind.i64 u.season, EV.int IntKind.i64 u.comp, EV.isl u.nn 14 u.len fun (i : Nat) => (u.ps i).cells]] (EV.bool true) :=
  semP_fork (modes := pures) (news := news) (n := 60) (fuel := 100000) (F := []) (s := (.mk [(1, .dec true), (0, .dec true), (0, .dec true), (0, .dec true), (0, .dec true)] [] [some (EV.bool true)] [] [])) (ow := [(Decidable.decide ((↑t.len : Int) > 24)) = true, (Decidable.decide ((↑t.len : Int) > 24)) = true, (Decidable.decide ((↑t.len : Int) > 24)) = true, (Decidable.decide ((↑t.len : Int) > 24)) = true, (Decidable.decide ((↑t.len : Int) > 24)) = true, SemP prog globs' 5 [] (EV.bool true)]) hMixed KOk.nil (by kernel_rfl) (by kernel_rfl) (by kernel_rfl) (.cons (by assumption) (.cons (by assumption) (.cons (by assumption) (.cons (by assumption) (.cons (by assumption) (.cons is .nil))))))
theorem law4L1 (t u : TableD) (is : SemP prog globs' 5 [] (EV.bool true)) (h1 : (Decidable.decide ((t.len : Int) > 24)) = true) (h2 : (Decidable.decide ((u.len : Int) > 24)) = false) : SemP prog globs' 4 [EV.agg [EV.int IntKind.i64 t.season, EV.int IntKind.i64 t.comp, EV.isl t.nn 14 t.len fun (i : Nat) => (t.ps i).cells], EV.agg [EV.int IntKind.i64 u.season, EV.int IntKind.i64 u.comp, EV.isl u.nn 14 u.len fun (i : Nat) => (u.ps i).cells]] (EV.bool true) :=
  semP_fork (modes := pures) (news := news) (n := 60) (fuel := 100000) (F := []) (s := (.mk [(1, .dec true), (0, .dec true), (0, .dec true), (0, .dec true), (0, .dec true)] [] [some (EV.bool true)] [] [])) (ow := [(Decidable.decide ((↑t.len : Int) > 24)) = true, (Decidable.decide ((↑t.len : Int) > 24)) = true, (Decidable.decide ((↑t.len : Int) > 24)) = true, (Decidable.decide ((↑t.len : Int) > 24)) = true, (Decidable.decide ((↑t.len : Int) > 24)) = true, SemP prog globs' 5 [] (EV.bool true)]) hMixed KOk.nil (by kernel_rfl) (by kernel_rfl) (by kernel_rfl) (.cons (by assumption) (.cons (by assumption) (.cons (by assumption) (.cons (by assumption) (.cons (by assumption) (.cons is .nil))))))
theorem law4L2 (t u : TableD) (is : SemP prog globs' 5 [] (EV.bool true)) (h1 : (Decidable.decide ((t.len : Int) > 24)) = false) (h2 : (Decidable.decide ((u.len : Int) > 24)) = true) : SemP prog globs' 4 [EV.agg [EV.int IntKind.i64 t.season, EV.int IntKind.i64 t.comp, EV.isl t.nn 14 t.len fun (i : Nat) => (t.ps i).cells], EV.agg [EV.int IntKind.i64 u.season, EV.int IntKind.i64 u.comp, EV.isl u.nn 14 u.len fun (i : Nat) => (u.ps i).cells]] (EV.bool true) :=
  semP_fork (modes := pures) (news := news) (n := 60) (fuel := 100000) (F := []) (s := (.mk [(1, .dec false), (0, .dec false), (0, .dec false), (0, .dec false), (0, .dec false), (0, .dec true)] [] [some (EV.bool true)] [] [])) (ow := [(Decidable.decide ((↑u.len : Int) > 24)) = true, (Decidable.decide ((↑t.len : Int) > 24)) = false, (Decidable.decide ((↑t.len : Int) > 24)) = false, (Decidable.decide ((↑t.len : Int) > 24)) = false, (Decidable.decide ((↑t.len : Int) > 24)) = false, (Decidable.decide ((↑t.len : Int) > 24)) = false, SemP prog globs' 5 [] (EV.bool true)]) hMixed KOk.nil (by kernel_rfl) (by kernel_rfl) (by kernel_rfl) (.cons (by assumption) (.cons (by assumption) (.cons (by assumption) (.cons (by assumption) (.cons (by assumption) (.cons (by assumption) (.cons is .nil)))))))
theorem law4AA (t u : TableD) (is : SemP prog globs' 5 [] (EV.bool true)) (X Y : List UInt8) (b : Bool) (h1 : (Decidable.decide ((t.len : Int) > 24)) = false) (h2 : (Decidable.decide ((u.len : Int) > 24)) = false) (i6 : SemP prog globs' 6 [t.ev] (EV.tuple [bSl X, EV.int .i64 0])) (j6 : SemP prog globs' 6 [u.ev] (EV.tuple [bSl Y, EV.int .i64 0])) (iss : SemP prog globs' 10 [t.ev, u.ev] (EV.bool b)) : SemP prog globs' 4 [EV.agg [EV.int IntKind.i64 t.season, EV.int IntKind.i64 t.comp, EV.isl t.nn 14 t.len fun (i : Nat) => (t.ps i).cells], EV.agg [EV.int IntKind.i64 u.season, EV.int IntKind.i64 u.comp, EV.isl u.nn 14 u.len fun (i : Nat) => (u.ps i).cells]] (EV.bool
  (b ==
    ((ByteArray.mk
            (List.map
                (fun (i : Nat) =>
                  match (fun (i : Nat) => [EV.int IntKind.u8 (↑(X.getD i 0).toNat : Int)]) i with
                  | [EV.int IntKind.u8 n] => UInt8.ofNat n.toNat
                  | x => 0)
                (List.range X.length)).toArray).data.toList ==
      (ByteArray.mk
            (List.map
                (fun (i : Nat) =>
                  match (fun (i : Nat) => [EV.int IntKind.u8 (↑(Y.getD i 0).toNat : Int)]) i with
                  | [EV.int IntKind.u8 n] => UInt8.ofNat n.toNat
                  | x => 0)
                (List.range Y.length)).toArray).data.toList))) :=
  semP_fork (modes := pures) (news := news) (n := 60) (fuel := 100000) (F := []) (s := (.mk [(1, .dec false), (0, .dec false), (0, .dec false), (0, .dec false), (0, .dec false), (0, .dec false), (4, .dec true), (0, .dec true)] [] [some (EV.bool true), some (EV.tuple [EV.isl true 1 X.length fun (i : Nat) => [EV.int IntKind.u8 (↑(X.getD i 0).toNat : Int)], EV.int IntKind.i64 0]), some (EV.tuple [EV.isl true 1 Y.length fun (i : Nat) => [EV.int IntKind.u8 (↑(Y.getD i 0).toNat : Int)], EV.int IntKind.i64 0]), some (EV.bool b)] [] [])) (ow := [((List.range Y.length).all fun (i : Nat) =>
  match (fun (i : Nat) => [EV.int IntKind.u8 (↑(Y.getD i 0).toNat : Int)]) i with
  | [EV.int IntKind.u8 n] => true
  | x => false) = true, ((List.range X.length).all fun (i : Nat) =>
  match (fun (i : Nat) => [EV.int IntKind.u8 (↑(X.getD i 0).toNat : Int)]) i with
  | [EV.int IntKind.u8 n] => true
  | x => false) = true, SemP prog globs' 10 [EV.agg [EV.int IntKind.i64 t.season, EV.int IntKind.i64 t.comp, EV.isl t.nn 14 t.len fun (i : Nat) => (t.ps i).cells], EV.agg [EV.int IntKind.i64 u.season, EV.int IntKind.i64 u.comp, EV.isl u.nn 14 u.len fun (i : Nat) => (u.ps i).cells]] (EV.bool b), SemP prog globs' 6 [EV.agg [EV.int IntKind.i64 u.season, EV.int IntKind.i64 u.comp, EV.isl u.nn 14 u.len fun (i : Nat) => (u.ps i).cells]] (EV.tuple [EV.isl true 1 Y.length fun (i : Nat) => [EV.int IntKind.u8 (↑(Y.getD i 0).toNat : Int)], EV.int IntKind.i64 0]), SemP prog globs' 6 [EV.agg [EV.int IntKind.i64 t.season, EV.int IntKind.i64 t.comp, EV.isl t.nn 14 t.len fun (i : Nat) => (t.ps i).cells]] (EV.tuple [EV.isl true 1 X.length fun (i : Nat) => [EV.int IntKind.u8 (↑(X.getD i 0).toNat : Int)], EV.int IntKind.i64 0]), (Decidable.decide ((↑u.len : Int) > 24)) = false, (Decidable.decide ((↑t.len : Int) > 24)) = false, (Decidable.decide ((↑t.len : Int) > 24)) = false, (Decidable.decide ((↑t.len : Int) > 24)) = false, (Decidable.decide ((↑t.len : Int) > 24)) = false, (Decidable.decide ((↑t.len : Int) > 24)) = false, SemP prog globs' 5 [] (EV.bool true)]) hMixed KOk.nil (by kernel_rfl) (by kernel_rfl) (by kernel_rfl) (.cons (by simp_all; done) (.cons (by simp_all; done) (.cons iss (.cons j6 (.cons i6 (.cons (by assumption) (.cons (by assumption) (.cons (by assumption) (.cons (by assumption) (.cons (by assumption) (.cons (by assumption) (.cons is .nil))))))))))))
theorem law4AB (t u : TableD) (is : SemP prog globs' 5 [] (EV.bool true)) (X Y : List UInt8) (b : Bool) (h1 : (Decidable.decide ((t.len : Int) > 24)) = false) (h2 : (Decidable.decide ((u.len : Int) > 24)) = false) (i6 : SemP prog globs' 6 [t.ev] (EV.tuple [bSl X, EV.int .i64 0])) (j6 : SemP prog globs' 6 [u.ev] (EV.tuple [EV.isl false 0 0 fun _ => [], EV.int .i64 1])) (iss : SemP prog globs' 10 [t.ev, u.ev] (EV.bool b)) : SemP prog globs' 4 [EV.agg [EV.int IntKind.i64 t.season, EV.int IntKind.i64 t.comp, EV.isl t.nn 14 t.len fun (i : Nat) => (t.ps i).cells], EV.agg [EV.int IntKind.i64 u.season, EV.int IntKind.i64 u.comp, EV.isl u.nn 14 u.len fun (i : Nat) => (u.ps i).cells]] (EV.bool true) :=
  semP_fork (modes := pures) (news := news) (n := 60) (fuel := 100000) (F := []) (s := (.mk [(1, .dec false), (0, .dec false), (0, .dec false), (0, .dec false), (0, .dec false), (0, .dec false)] [] [some (EV.bool true), some (EV.tuple [EV.isl true 1 X.length fun (i : Nat) => [EV.int IntKind.u8 (↑(X.getD i 0).toNat : Int)], EV.int IntKind.i64 0]), some (EV.tuple [EV.isl false 0 0 fun (i : Nat) => [], EV.int IntKind.i64 1])] [] [])) (ow := [SemP prog globs' 6 [EV.agg [EV.int IntKind.i64 u.season, EV.int IntKind.i64 u.comp, EV.isl u.nn 14 u.len fun (i : Nat) => (u.ps i).cells]] (EV.tuple [EV.isl false 0 0 fun (i : Nat) => [], EV.int IntKind.i64 1]), SemP prog globs' 6 [EV.agg [EV.int IntKind.i64 t.season, EV.int IntKind.i64 t.comp, EV.isl t.nn 14 t.len fun (i : Nat) => (t.ps i).cells]] (EV.tuple [EV.isl true 1 X.length fun (i : Nat) => [EV.int IntKind.u8 (↑(X.getD i 0).toNat : Int)], EV.int IntKind.i64 0]), (Decidable.decide ((↑u.len : Int) > 24)) = false, (Decidable.decide ((↑t.len : Int) > 24)) = false, (Decidable.decide ((↑t.len : Int) > 24)) = false, (Decidable.decide ((↑t.len : Int) > 24)) = false, (Decidable.decide ((↑t.len : Int) > 24)) = false, (Decidable.decide ((↑t.len : Int) > 24)) = false, SemP prog globs' 5 [] (EV.bool true)]) hMixed KOk.nil (by kernel_rfl) (by kernel_rfl) (by kernel_rfl) (.cons j6 (.cons i6 (.cons (by assumption) (.cons (by assumption) (.cons (by assumption) (.cons (by assumption) (.cons (by assumption) (.cons (by assumption) (.cons is .nil)))))))))
theorem law4BA (t u : TableD) (is : SemP prog globs' 5 [] (EV.bool true)) (X Y : List UInt8) (b : Bool) (h1 : (Decidable.decide ((t.len : Int) > 24)) = false) (h2 : (Decidable.decide ((u.len : Int) > 24)) = false) (i6 : SemP prog globs' 6 [t.ev] (EV.tuple [EV.isl false 0 0 fun _ => [], EV.int .i64 1])) (j6 : SemP prog globs' 6 [u.ev] (EV.tuple [bSl Y, EV.int .i64 0])) (iss : SemP prog globs' 10 [t.ev, u.ev] (EV.bool b)) : SemP prog globs' 4 [EV.agg [EV.int IntKind.i64 t.season, EV.int IntKind.i64 t.comp, EV.isl t.nn 14 t.len fun (i : Nat) => (t.ps i).cells], EV.agg [EV.int IntKind.i64 u.season, EV.int IntKind.i64 u.comp, EV.isl u.nn 14 u.len fun (i : Nat) => (u.ps i).cells]] (EV.bool true) :=
  semP_fork (modes := pures) (news := news) (n := 60) (fuel := 100000) (F := []) (s := (.mk [(1, .dec false), (0, .dec false), (0, .dec false), (0, .dec false), (0, .dec false), (0, .dec false)] [] [some (EV.bool true), some (EV.tuple [EV.isl false 0 0 fun (i : Nat) => [], EV.int IntKind.i64 1]), some (EV.tuple [EV.isl true 1 Y.length fun (i : Nat) => [EV.int IntKind.u8 (↑(Y.getD i 0).toNat : Int)], EV.int IntKind.i64 0])] [] [])) (ow := [SemP prog globs' 6 [EV.agg [EV.int IntKind.i64 u.season, EV.int IntKind.i64 u.comp, EV.isl u.nn 14 u.len fun (i : Nat) => (u.ps i).cells]] (EV.tuple [EV.isl true 1 Y.length fun (i : Nat) => [EV.int IntKind.u8 (↑(Y.getD i 0).toNat : Int)], EV.int IntKind.i64 0]), SemP prog globs' 6 [EV.agg [EV.int IntKind.i64 t.season, EV.int IntKind.i64 t.comp, EV.isl t.nn 14 t.len fun (i : Nat) => (t.ps i).cells]] (EV.tuple [EV.isl false 0 0 fun (i : Nat) => [], EV.int IntKind.i64 1]), (Decidable.decide ((↑u.len : Int) > 24)) = false, (Decidable.decide ((↑t.len : Int) > 24)) = false, (Decidable.decide ((↑t.len : Int) > 24)) = false, (Decidable.decide ((↑t.len : Int) > 24)) = false, (Decidable.decide ((↑t.len : Int) > 24)) = false, (Decidable.decide ((↑t.len : Int) > 24)) = false, SemP prog globs' 5 [] (EV.bool true)]) hMixed KOk.nil (by kernel_rfl) (by kernel_rfl) (by kernel_rfl) (.cons j6 (.cons i6 (.cons (by assumption) (.cons (by assumption) (.cons (by assumption) (.cons (by assumption) (.cons (by assumption) (.cons (by assumption) (.cons is .nil)))))))))
theorem law4BB (t u : TableD) (is : SemP prog globs' 5 [] (EV.bool true)) (X Y : List UInt8) (b : Bool) (h1 : (Decidable.decide ((t.len : Int) > 24)) = false) (h2 : (Decidable.decide ((u.len : Int) > 24)) = false) (i6 : SemP prog globs' 6 [t.ev] (EV.tuple [EV.isl false 0 0 fun _ => [], EV.int .i64 1])) (j6 : SemP prog globs' 6 [u.ev] (EV.tuple [EV.isl false 0 0 fun _ => [], EV.int .i64 1])) (iss : SemP prog globs' 10 [t.ev, u.ev] (EV.bool b)) : SemP prog globs' 4 [EV.agg [EV.int IntKind.i64 t.season, EV.int IntKind.i64 t.comp, EV.isl t.nn 14 t.len fun (i : Nat) => (t.ps i).cells], EV.agg [EV.int IntKind.i64 u.season, EV.int IntKind.i64 u.comp, EV.isl u.nn 14 u.len fun (i : Nat) => (u.ps i).cells]] (EV.bool true) :=
  semP_fork (modes := pures) (news := news) (n := 60) (fuel := 100000) (F := []) (s := (.mk [(1, .dec false), (0, .dec false), (0, .dec false), (0, .dec false), (0, .dec false), (0, .dec false)] [] [some (EV.bool true), some (EV.tuple [EV.isl false 0 0 fun (i : Nat) => [], EV.int IntKind.i64 1]), some (EV.tuple [EV.isl false 0 0 fun (i : Nat) => [], EV.int IntKind.i64 1])] [] [])) (ow := [SemP prog globs' 6 [EV.agg [EV.int IntKind.i64 u.season, EV.int IntKind.i64 u.comp, EV.isl u.nn 14 u.len fun (i : Nat) => (u.ps i).cells]] (EV.tuple [EV.isl false 0 0 fun (i : Nat) => [], EV.int IntKind.i64 1]), SemP prog globs' 6 [EV.agg [EV.int IntKind.i64 t.season, EV.int IntKind.i64 t.comp, EV.isl t.nn 14 t.len fun (i : Nat) => (t.ps i).cells]] (EV.tuple [EV.isl false 0 0 fun (i : Nat) => [], EV.int IntKind.i64 1]), (Decidable.decide ((↑u.len : Int) > 24)) = false, (Decidable.decide ((↑t.len : Int) > 24)) = false, (Decidable.decide ((↑t.len : Int) > 24)) = false, (Decidable.decide ((↑t.len : Int) > 24)) = false, (Decidable.decide ((↑t.len : Int) > 24)) = false, (Decidable.decide ((↑t.len : Int) > 24)) = false, SemP prog globs' 5 [] (EV.bool true)]) hMixed KOk.nil (by kernel_rfl) (by kernel_rfl) (by kernel_rfl) (.cons j6 (.cons i6 (.cons (by assumption) (.cons (by assumption) (.cons (by assumption) (.cons (by assumption) (.cons (by assumption) (.cons (by assumption) (.cons is .nil)))))))))
def bk (X : List UInt8) : List UInt8 := (ByteArray.mk (List.map (fun (i : Nat) => match (fun (i : Nat) => [EV.int IntKind.u8 (↑(X.getD i 0).toNat : Int)]) i with | [EV.int IntKind.u8 n] => UInt8.ofNat n.toNat | x => 0) (List.range X.length)).toArray).data.toList
theorem bk_eq (X : List UInt8) : bk X = X := by
  show (List.map _ (List.range X.length)).toArray.toList = X
  apply List.ext_getElem
  · simp
  · intro i h1 h2
    simp only [List.getElem_map, List.getElem_range]
    show UInt8.ofNat ((X.getD i 0).toNat : Int).toNat = X[i]
    rw [Int.toNat_natCast, UInt8.ofNat_toNat, List.getD_eq_getElem?_getD, List.getElem?_eq_getElem h2, Option.getD_some]
theorem tEnc1 (t : TableD) (hk : t.okT = true) : SemP prog globs' 6 [t.ev] (.tuple [bSl (encT t), .int .i64 0]) := tableEncode1 t (okT_ok hk) hk
theorem tEnc0 (t : TableD) (hk : t.okT = false) : SemP prog globs' 6 [t.ev] (.tuple [.isl false 0 0 fun _ => [], .int .i64 1]) := tableEncode0 t hk
theorem encT_len {t : TableD} (h : t.ok) : (encT t).length ≤ 40000 := by
  unfold encT
  rw [List.length_append]
  exact Nat.le_trans (Nat.add_le_add_right (top6_len h) 1) (by decide)
theorem law3 (t : TableD) : SemP prog globs' 3 [t.ev] (.bool true) := by
  by_cases hl : (t.len : Int) > 30
  · exact law3L t fact11 (decide_eq_true hl)
  · cases hk : t.okT with
    | true => exact law3A t fact11 (encT t) (decide_eq_false hl) (encT_len (okT_ok hk)) (tEnc1 t hk) (refEnc1 t hk) (check_ok t hk) (rcheck_ok t hk)
    | false => exact law3B t fact11 (decide_eq_false hl) (tEnc0 t hk) (refEnc0 t hk) (check_bad t hk) (rcheck_bad t hk)
theorem law4ok (t u : TableD) (h1 : ¬ (t.len : Int) > 24) (h2 : ¬ (u.len : Int) > 24) (ht : t.okT = true) (hu : u.okT = true) : SemP prog globs' 4 [t.ev, u.ev] (.bool true) := by
  have := law4AA t u fact11 (encT t) (encT u) (sameB t u) (decide_eq_false h1) (decide_eq_false h2) (tEnc1 t ht) (tEnc1 u hu) (sameSem t u (by omega))
  refine SemP.res this (PLe.eq ?_)
  show EV.bool (sameB t u == (bk (encT t) == bk (encT u))) = .bool true
  rw [bk_eq, bk_eq, sameB_enc (okT_ok ht) (okT_ok hu), beq_self_eq_true]
theorem law4 (t u : TableD) : SemP prog globs' 4 [t.ev, u.ev] (.bool true) := by
  by_cases h1 : (t.len : Int) > 24
  · by_cases h2 : (u.len : Int) > 24
    · exact law4L3 t u fact11 (decide_eq_true h1) (decide_eq_true h2)
    · exact law4L1 t u fact11 (decide_eq_true h1) (decide_eq_false h2)
  · by_cases h2 : (u.len : Int) > 24
    · exact law4L2 t u fact11 (decide_eq_false h1) (decide_eq_true h2)
    · have hs := sameSem t u (by omega)
      cases ht : t.okT with
      | true =>
        cases hu : u.okT with
        | true => exact law4ok t u h1 h2 ht hu
        | false => exact law4AB t u fact11 (encT t) [] _ (decide_eq_false h1) (decide_eq_false h2) (tEnc1 t ht) (tEnc0 u hu) hs
      | false =>
        cases hu : u.okT with
        | true => exact law4BA t u fact11 [] (encT u) _ (decide_eq_false h1) (decide_eq_false h2) (tEnc0 t ht) (tEnc1 u hu) hs
        | false => exact law4BB t u fact11 [] [] _ (decide_eq_false h1) (decide_eq_false h2) (tEnc0 t ht) (tEnc0 u hu) hs
end Go.Ev
