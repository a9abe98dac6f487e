/- A part of the proof: R2W2, R2W3, R2W4, R2W5, R2W6, R2W7, R2Inj, R2Law2. -/
import Derived.Test.YtodbllcfofohdaaGreatDoorRD
import Derived.Test.YtodbllcfofohdaaGreatDoorRC
import Derived.Test.YtodbllcfofohdaaGreatDoorRA
import Derived.Test.YtodbllcfofohdaaGreatDoorRB
set_option linter.unusedSimpArgs false
set_option linter.unusedVariables false
namespace Go.Ev
open Go.Proofs.Tryz (prog)
set_option maxRecDepth 100000
set_option maxHeartbeats 0
theorem wPlace_ (p : PlaceD) (m : Nat) (w : Nat → List EV) (h1 : m ≤ 50000) (h2 : (encPart p 14).length ≤ 1000) (hp : p.fine) : SemF prog globs' 74 [EV.ms 0 1 0 m none, EV.agg [EV.int IntKind.i64 4, EV.int IntKind.i64 0, EV.str (ByteArray.mk #[]), EV.isl true 5 14 (placeRow p), EV.isl true 1 14 keyRow], EV.ptr 1 0] (wHeap m w) (EV.ms 3 1 0 (m + (encPart p 14).length + 1) none) [EObj.dead, EObj.var false false [EV.ptr 2 0], EObj.var false false [EV.nilf, EV.func (Fn.func 69) [] [], EV.func (Fn.func 71) [] [], EV.func (Fn.func 73) [] [EV.ptr 1 0], EV.func (Fn.func 74) [] [EV.ptr 1 0]], EObj.arr false true 1 false (m + (encPart p 14).length + 1) (catRow (m + (encPart p 14).length) (fun (i : Nat) => catRow m (fun (i : Nat) => w (0 + i)) (fun (i : Nat) => [EV.int IntKind.u8 (↑((encPart p 14).getD (0 + i) 0).toNat : Int)]) (0 + i)) fun (i : Nat) => [[EV.int IntKind.u8 101]].getD (0 + i) [])] :=
  semF_ren (modes := pures4) (news := news4) (n := 60) (fuel := 100000) (F := []) (s := (.mk [(0, .dec true), (126, .dec true)] [] [] [some ((EV.ms 1 1 0 (m + (encKey p 0).length) none, [EObj.dead, EObj.arr false true 1 false (m + (encKey p 0).length) (catRow m (fun (i : Nat) => w (0 + i)) fun (i : Nat) => [EV.int IntKind.u8 (↑((encKey p 0).getD (0 + i) 0).toNat : Int)])])), some ((EV.ms 1 1 0 (m + (encPart p 1).length) none, [EObj.dead, EObj.arr false true 1 false (m + (encPart p 1).length) (catRow m (fun (i : Nat) => w (0 + i)) fun (i : Nat) => [EV.int IntKind.u8 (↑((encPart p 1).getD (0 + i) 0).toNat : Int)])])), some ((EV.ms 1 1 0 (m + (encKey p 1).length) none, [EObj.dead, EObj.arr false true 1 false (m + (encKey p 1).length) (catRow m (fun (i : Nat) => w (0 + i)) fun (i : Nat) => [EV.int IntKind.u8 (↑((encKey p 1).getD (0 + i) 0).toNat : Int)])])), some ((EV.ms 1 1 0 (m + (encPart p 2).length) none, [EObj.dead, EObj.arr false true 1 false (m + (encPart p 2).length) (catRow m (fun (i : Nat) => w (0 + i)) fun (i : Nat) => [EV.int IntKind.u8 (↑((encPart p 2).getD (0 + i) 0).toNat : Int)])])), some ((EV.ms 1 1 0 (m + (encKey p 2).length) none, [EObj.dead, EObj.arr false true 1 false (m + (encKey p 2).length) (catRow m (fun (i : Nat) => w (0 + i)) fun (i : Nat) => [EV.int IntKind.u8 (↑((encKey p 2).getD (0 + i) 0).toNat : Int)])])), some ((EV.ms 1 1 0 (m + (encPart p 3).length) none, [EObj.dead, EObj.arr false true 1 false (m + (encPart p 3).length) (catRow m (fun (i : Nat) => w (0 + i)) fun (i : Nat) => [EV.int IntKind.u8 (↑((encPart p 3).getD (0 + i) 0).toNat : Int)])])), some ((EV.ms 1 1 0 (m + (encKey p 3).length) none, [EObj.dead, EObj.arr false true 1 false (m + (encKey p 3).length) (catRow m (fun (i : Nat) => w (0 + i)) fun (i : Nat) => [EV.int IntKind.u8 (↑((encKey p 3).getD (0 + i) 0).toNat : Int)])])), some ((EV.ms 1 1 0 (m + (encPart p 4).length) none, [EObj.dead, EObj.arr false true 1 false (m + (encPart p 4).length) (catRow m (fun (i : Nat) => w (0 + i)) fun (i : Nat) => [EV.int IntKind.u8 (↑((encPart p 4).getD (0 + i) 0).toNat : Int)])])), some ((EV.ms 1 1 0 (m + (encKey p 4).length) none, [EObj.dead, EObj.arr false true 1 false (m + (encKey p 4).length) (catRow m (fun (i : Nat) => w (0 + i)) fun (i : Nat) => [EV.int IntKind.u8 (↑((encKey p 4).getD (0 + i) 0).toNat : Int)])])), some ((EV.ms 1 1 0 (m + (encPart p 5).length) none, [EObj.dead, EObj.arr false true 1 false (m + (encPart p 5).length) (catRow m (fun (i : Nat) => w (0 + i)) fun (i : Nat) => [EV.int IntKind.u8 (↑((encPart p 5).getD (0 + i) 0).toNat : Int)])])), some ((EV.ms 1 1 0 (m + (encKey p 5).length) none, [EObj.dead, EObj.arr false true 1 false (m + (encKey p 5).length) (catRow m (fun (i : Nat) => w (0 + i)) fun (i : Nat) => [EV.int IntKind.u8 (↑((encKey p 5).getD (0 + i) 0).toNat : Int)])])), some ((EV.ms 1 1 0 (m + (encPart p 6).length) none, [EObj.dead, EObj.arr false true 1 false (m + (encPart p 6).length) (catRow m (fun (i : Nat) => w (0 + i)) fun (i : Nat) => [EV.int IntKind.u8 (↑((encPart p 6).getD (0 + i) 0).toNat : Int)])])), some ((EV.ms 1 1 0 (m + (encKey p 6).length) none, [EObj.dead, EObj.arr false true 1 false (m + (encKey p 6).length) (catRow m (fun (i : Nat) => w (0 + i)) fun (i : Nat) => [EV.int IntKind.u8 (↑((encKey p 6).getD (0 + i) 0).toNat : Int)])])), some ((EV.ms 1 1 0 (m + (encPart p 7).length) none, [EObj.dead, EObj.arr false true 1 false (m + (encPart p 7).length) (catRow m (fun (i : Nat) => w (0 + i)) fun (i : Nat) => [EV.int IntKind.u8 (↑((encPart p 7).getD (0 + i) 0).toNat : Int)])])), some ((EV.ms 1 1 0 (m + (encKey p 7).length) none, [EObj.dead, EObj.arr false true 1 false (m + (encKey p 7).length) (catRow m (fun (i : Nat) => w (0 + i)) fun (i : Nat) => [EV.int IntKind.u8 (↑((encKey p 7).getD (0 + i) 0).toNat : Int)])])), some ((EV.ms 1 1 0 (m + (encPart p 8).length) none, [EObj.dead, EObj.arr false true 1 false (m + (encPart p 8).length) (catRow m (fun (i : Nat) => w (0 + i)) fun (i : Nat) => [EV.int IntKind.u8 (↑((encPart p 8).getD (0 + i) 0).toNat : Int)])])), some ((EV.ms 1 1 0 (m + (encKey p 8).length) none, [EObj.dead, EObj.arr false true 1 false (m + (encKey p 8).length) (catRow m (fun (i : Nat) => w (0 + i)) fun (i : Nat) => [EV.int IntKind.u8 (↑((encKey p 8).getD (0 + i) 0).toNat : Int)])])), some ((EV.ms 1 1 0 (m + (encPart p 9).length) none, [EObj.dead, EObj.arr false true 1 false (m + (encPart p 9).length) (catRow m (fun (i : Nat) => w (0 + i)) fun (i : Nat) => [EV.int IntKind.u8 (↑((encPart p 9).getD (0 + i) 0).toNat : Int)])])), some ((EV.ms 1 1 0 (m + (encKey p 9).length) none, [EObj.dead, EObj.arr false true 1 false (m + (encKey p 9).length) (catRow m (fun (i : Nat) => w (0 + i)) fun (i : Nat) => [EV.int IntKind.u8 (↑((encKey p 9).getD (0 + i) 0).toNat : Int)])])), some ((EV.ms 1 1 0 (m + (encPart p 10).length) none, [EObj.dead, EObj.arr false true 1 false (m + (encPart p 10).length) (catRow m (fun (i : Nat) => w (0 + i)) fun (i : Nat) => [EV.int IntKind.u8 (↑((encPart p 10).getD (0 + i) 0).toNat : Int)])])), some ((EV.ms 1 1 0 (m + (encKey p 10).length) none, [EObj.dead, EObj.arr false true 1 false (m + (encKey p 10).length) (catRow m (fun (i : Nat) => w (0 + i)) fun (i : Nat) => [EV.int IntKind.u8 (↑((encKey p 10).getD (0 + i) 0).toNat : Int)])])), some ((EV.ms 1 1 0 (m + (encPart p 11).length) none, [EObj.dead, EObj.arr false true 1 false (m + (encPart p 11).length) (catRow m (fun (i : Nat) => w (0 + i)) fun (i : Nat) => [EV.int IntKind.u8 (↑((encPart p 11).getD (0 + i) 0).toNat : Int)])])), some ((EV.ms 1 1 0 (m + (encKey p 11).length) none, [EObj.dead, EObj.arr false true 1 false (m + (encKey p 11).length) (catRow m (fun (i : Nat) => w (0 + i)) fun (i : Nat) => [EV.int IntKind.u8 (↑((encKey p 11).getD (0 + i) 0).toNat : Int)])])), some ((EV.ms 1 1 0 (m + (encPart p 12).length) none, [EObj.dead, EObj.arr false true 1 false (m + (encPart p 12).length) (catRow m (fun (i : Nat) => w (0 + i)) fun (i : Nat) => [EV.int IntKind.u8 (↑((encPart p 12).getD (0 + i) 0).toNat : Int)])])), some ((EV.ms 1 1 0 (m + (encKey p 12).length) none, [EObj.dead, EObj.arr false true 1 false (m + (encKey p 12).length) (catRow m (fun (i : Nat) => w (0 + i)) fun (i : Nat) => [EV.int IntKind.u8 (↑((encKey p 12).getD (0 + i) 0).toNat : Int)])])), some ((EV.ms 1 1 0 (m + (encPart p 13).length) none, [EObj.dead, EObj.arr false true 1 false (m + (encPart p 13).length) (catRow m (fun (i : Nat) => w (0 + i)) fun (i : Nat) => [EV.int IntKind.u8 (↑((encPart p 13).getD (0 + i) 0).toNat : Int)])])), some ((EV.ms 1 1 0 (m + (encKey p 13).length) none, [EObj.dead, EObj.arr false true 1 false (m + (encKey p 13).length) (catRow m (fun (i : Nat) => w (0 + i)) fun (i : Nat) => [EV.int IntKind.u8 (↑((encKey p 13).getD (0 + i) 0).toNat : Int)])])), some ((EV.ms 1 1 0 (m + (encPart p 14).length) none, [EObj.dead, EObj.arr false true 1 false (m + (encPart p 14).length) (catRow m (fun (i : Nat) => w (0 + i)) fun (i : Nat) => [EV.int IntKind.u8 (↑((encPart p 14).getD (0 + i) 0).toNat : Int)])]))] [])) (ow := [(Decidable.decide ((m + (encPart p 14).length + 1) * 1 ≤ 70368744177664) && Decidable.decide (m + (encPart p 14).length + 1 < 4611686018427387904)) = true, SemF prog globs' 71 [EV.ms 0 1 0 (m + (encKey p 13).length) none, EV.agg [EV.int IntKind.i64 2, EV.int IntKind.i64 0, EV.str p.zone, EV.isl false 0 0 fun (i : Nat) => [], EV.isl false 0 0 fun (i : Nat) => []]] [EObj.arr false true 1 false (m + (encKey p 13).length) (catRow m (fun (i : Nat) => w (0 + i)) fun (i : Nat) => [EV.int IntKind.u8 (↑((encKey p 13).getD (0 + i) 0).toNat : Int)])] (EV.ms 1 1 0 (m + (encPart p 14).length) none) [EObj.dead, EObj.arr false true 1 false (m + (encPart p 14).length) (catRow m (fun (i : Nat) => w (0 + i)) fun (i : Nat) => [EV.int IntKind.u8 (↑((encPart p 14).getD (0 + i) 0).toNat : Int)])], SemF prog globs' 72 [EV.ms 0 1 0 (m + (encPart p 13).length) none, EV.str (ByteArray.mk #[122, 111, 110, 101])] [EObj.arr false true 1 false (m + (encPart p 13).length) (catRow m (fun (i : Nat) => w (0 + i)) fun (i : Nat) => [EV.int IntKind.u8 (↑((encPart p 13).getD (0 + i) 0).toNat : Int)])] (EV.ms 1 1 0 (m + (encKey p 13).length) none) [EObj.dead, EObj.arr false true 1 false (m + (encKey p 13).length) (catRow m (fun (i : Nat) => w (0 + i)) fun (i : Nat) => [EV.int IntKind.u8 (↑((encKey p 13).getD (0 + i) 0).toNat : Int)])], SemF prog globs' 69 [EV.ms 0 1 0 (m + (encKey p 12).length) none, EV.agg [EV.int IntKind.i64 1, EV.int IntKind.i64 p.row.won, EV.str (ByteArray.mk #[]), EV.isl false 0 0 fun (i : Nat) => [], EV.isl false 0 0 fun (i : Nat) => []]] [EObj.arr false true 1 false (m + (encKey p 12).length) (catRow m (fun (i : Nat) => w (0 + i)) fun (i : Nat) => [EV.int IntKind.u8 (↑((encKey p 12).getD (0 + i) 0).toNat : Int)])] (EV.ms 1 1 0 (m + (encPart p 13).length) none) [EObj.dead, EObj.arr false true 1 false (m + (encPart p 13).length) (catRow m (fun (i : Nat) => w (0 + i)) fun (i : Nat) => [EV.int IntKind.u8 (↑((encPart p 13).getD (0 + i) 0).toNat : Int)])], SemF prog globs' 72 [EV.ms 0 1 0 (m + (encPart p 12).length) none, EV.str (ByteArray.mk #[119, 111, 110])] [EObj.arr false true 1 false (m + (encPart p 12).length) (catRow m (fun (i : Nat) => w (0 + i)) fun (i : Nat) => [EV.int IntKind.u8 (↑((encPart p 12).getD (0 + i) 0).toNat : Int)])] (EV.ms 1 1 0 (m + (encKey p 12).length) none) [EObj.dead, EObj.arr false true 1 false (m + (encKey p 12).length) (catRow m (fun (i : Nat) => w (0 + i)) fun (i : Nat) => [EV.int IntKind.u8 (↑((encKey p 12).getD (0 + i) 0).toNat : Int)])], SemF prog globs' 69 [EV.ms 0 1 0 (m + (encKey p 11).length) none, EV.agg [EV.int IntKind.i64 1, EV.int IntKind.i64 p.rank, EV.str (ByteArray.mk #[]), EV.isl false 0 0 fun (i : Nat) => [], EV.isl false 0 0 fun (i : Nat) => []]] [EObj.arr false true 1 false (m + (encKey p 11).length) (catRow m (fun (i : Nat) => w (0 + i)) fun (i : Nat) => [EV.int IntKind.u8 (↑((encKey p 11).getD (0 + i) 0).toNat : Int)])] (EV.ms 1 1 0 (m + (encPart p 12).length) none) [EObj.dead, EObj.arr false true 1 false (m + (encPart p 12).length) (catRow m (fun (i : Nat) => w (0 + i)) fun (i : Nat) => [EV.int IntKind.u8 (↑((encPart p 12).getD (0 + i) 0).toNat : Int)])], SemF prog globs' 72 [EV.ms 0 1 0 (m + (encPart p 11).length) none, EV.str (ByteArray.mk #[114, 97, 110, 107])] [EObj.arr false true 1 false (m + (encPart p 11).length) (catRow m (fun (i : Nat) => w (0 + i)) fun (i : Nat) => [EV.int IntKind.u8 (↑((encPart p 11).getD (0 + i) 0).toNat : Int)])] (EV.ms 1 1 0 (m + (encKey p 11).length) none) [EObj.dead, EObj.arr false true 1 false (m + (encKey p 11).length) (catRow m (fun (i : Nat) => w (0 + i)) fun (i : Nat) => [EV.int IntKind.u8 (↑((encKey p 11).getD (0 + i) 0).toNat : Int)])], SemF prog globs' 69 [EV.ms 0 1 0 (m + (encKey p 10).length) none, EV.agg [EV.int IntKind.i64 1, EV.int IntKind.i64 p.row.points, EV.str (ByteArray.mk #[]), EV.isl false 0 0 fun (i : Nat) => [], EV.isl false 0 0 fun (i : Nat) => []]] [EObj.arr false true 1 false (m + (encKey p 10).length) (catRow m (fun (i : Nat) => w (0 + i)) fun (i : Nat) => [EV.int IntKind.u8 (↑((encKey p 10).getD (0 + i) 0).toNat : Int)])] (EV.ms 1 1 0 (m + (encPart p 11).length) none) [EObj.dead, EObj.arr false true 1 false (m + (encPart p 11).length) (catRow m (fun (i : Nat) => w (0 + i)) fun (i : Nat) => [EV.int IntKind.u8 (↑((encPart p 11).getD (0 + i) 0).toNat : Int)])], SemF prog globs' 72 [EV.ms 0 1 0 (m + (encPart p 10).length) none, EV.str (ByteArray.mk #[112, 111, 105, 110, 116, 115])] [EObj.arr false true 1 false (m + (encPart p 10).length) (catRow m (fun (i : Nat) => w (0 + i)) fun (i : Nat) => [EV.int IntKind.u8 (↑((encPart p 10).getD (0 + i) 0).toNat : Int)])] (EV.ms 1 1 0 (m + (encKey p 10).length) none) [EObj.dead, EObj.arr false true 1 false (m + (encKey p 10).length) (catRow m (fun (i : Nat) => w (0 + i)) fun (i : Nat) => [EV.int IntKind.u8 (↑((encKey p 10).getD (0 + i) 0).toNat : Int)])], SemF prog globs' 69 [EV.ms 0 1 0 (m + (encKey p 9).length) none, EV.agg [EV.int IntKind.i64 1, EV.int IntKind.i64 p.row.played, EV.str (ByteArray.mk #[]), EV.isl false 0 0 fun (i : Nat) => [], EV.isl false 0 0 fun (i : Nat) => []]] [EObj.arr false true 1 false (m + (encKey p 9).length) (catRow m (fun (i : Nat) => w (0 + i)) fun (i : Nat) => [EV.int IntKind.u8 (↑((encKey p 9).getD (0 + i) 0).toNat : Int)])] (EV.ms 1 1 0 (m + (encPart p 10).length) none) [EObj.dead, EObj.arr false true 1 false (m + (encPart p 10).length) (catRow m (fun (i : Nat) => w (0 + i)) fun (i : Nat) => [EV.int IntKind.u8 (↑((encPart p 10).getD (0 + i) 0).toNat : Int)])], SemF prog globs' 72 [EV.ms 0 1 0 (m + (encPart p 9).length) none, EV.str (ByteArray.mk #[112, 108, 97, 121, 101, 100])] [EObj.arr false true 1 false (m + (encPart p 9).length) (catRow m (fun (i : Nat) => w (0 + i)) fun (i : Nat) => [EV.int IntKind.u8 (↑((encPart p 9).getD (0 + i) 0).toNat : Int)])] (EV.ms 1 1 0 (m + (encKey p 9).length) none) [EObj.dead, EObj.arr false true 1 false (m + (encKey p 9).length) (catRow m (fun (i : Nat) => w (0 + i)) fun (i : Nat) => [EV.int IntKind.u8 (↑((encKey p 9).getD (0 + i) 0).toNat : Int)])], SemF prog globs' 69 [EV.ms 0 1 0 (m + (encKey p 8).length) none, EV.agg [EV.int IntKind.i64 1, EV.int IntKind.i64 p.row.lost, EV.str (ByteArray.mk #[]), EV.isl false 0 0 fun (i : Nat) => [], EV.isl false 0 0 fun (i : Nat) => []]] [EObj.arr false true 1 false (m + (encKey p 8).length) (catRow m (fun (i : Nat) => w (0 + i)) fun (i : Nat) => [EV.int IntKind.u8 (↑((encKey p 8).getD (0 + i) 0).toNat : Int)])] (EV.ms 1 1 0 (m + (encPart p 9).length) none) [EObj.dead, EObj.arr false true 1 false (m + (encPart p 9).length) (catRow m (fun (i : Nat) => w (0 + i)) fun (i : Nat) => [EV.int IntKind.u8 (↑((encPart p 9).getD (0 + i) 0).toNat : Int)])], SemF prog globs' 72 [EV.ms 0 1 0 (m + (encPart p 8).length) none, EV.str (ByteArray.mk #[108, 111, 115, 116])] [EObj.arr false true 1 false (m + (encPart p 8).length) (catRow m (fun (i : Nat) => w (0 + i)) fun (i : Nat) => [EV.int IntKind.u8 (↑((encPart p 8).getD (0 + i) 0).toNat : Int)])] (EV.ms 1 1 0 (m + (encKey p 8).length) none) [EObj.dead, EObj.arr false true 1 false (m + (encKey p 8).length) (catRow m (fun (i : Nat) => w (0 + i)) fun (i : Nat) => [EV.int IntKind.u8 (↑((encKey p 8).getD (0 + i) 0).toNat : Int)])], SemF prog globs' 69 [EV.ms 0 1 0 (m + (encKey p 7).length) none, EV.agg [EV.int IntKind.i64 1, EV.int IntKind.i64 p.row.for', EV.str (ByteArray.mk #[]), EV.isl false 0 0 fun (i : Nat) => [], EV.isl false 0 0 fun (i : Nat) => []]] [EObj.arr false true 1 false (m + (encKey p 7).length) (catRow m (fun (i : Nat) => w (0 + i)) fun (i : Nat) => [EV.int IntKind.u8 (↑((encKey p 7).getD (0 + i) 0).toNat : Int)])] (EV.ms 1 1 0 (m + (encPart p 8).length) none) [EObj.dead, EObj.arr false true 1 false (m + (encPart p 8).length) (catRow m (fun (i : Nat) => w (0 + i)) fun (i : Nat) => [EV.int IntKind.u8 (↑((encPart p 8).getD (0 + i) 0).toNat : Int)])], SemF prog globs' 72 [EV.ms 0 1 0 (m + (encPart p 7).length) none, EV.str (ByteArray.mk #[102, 111, 114])] [EObj.arr false true 1 false (m + (encPart p 7).length) (catRow m (fun (i : Nat) => w (0 + i)) fun (i : Nat) => [EV.int IntKind.u8 (↑((encPart p 7).getD (0 + i) 0).toNat : Int)])] (EV.ms 1 1 0 (m + (encKey p 7).length) none) [EObj.dead, EObj.arr false true 1 false (m + (encKey p 7).length) (catRow m (fun (i : Nat) => w (0 + i)) fun (i : Nat) => [EV.int IntKind.u8 (↑((encKey p 7).getD (0 + i) 0).toNat : Int)])], SemF prog globs' 69 [EV.ms 0 1 0 (m + (encKey p 6).length) none, EV.agg [EV.int IntKind.i64 1, EV.int IntKind.i64 p.row.drawn, EV.str (ByteArray.mk #[]), EV.isl false 0 0 fun (i : Nat) => [], EV.isl false 0 0 fun (i : Nat) => []]] [EObj.arr false true 1 false (m + (encKey p 6).length) (catRow m (fun (i : Nat) => w (0 + i)) fun (i : Nat) => [EV.int IntKind.u8 (↑((encKey p 6).getD (0 + i) 0).toNat : Int)])] (EV.ms 1 1 0 (m + (encPart p 7).length) none) [EObj.dead, EObj.arr false true 1 false (m + (encPart p 7).length) (catRow m (fun (i : Nat) => w (0 + i)) fun (i : Nat) => [EV.int IntKind.u8 (↑((encPart p 7).getD (0 + i) 0).toNat : Int)])], SemF prog globs' 72 [EV.ms 0 1 0 (m + (encPart p 6).length) none, EV.str (ByteArray.mk #[100, 114, 97, 119, 110])] [EObj.arr false true 1 false (m + (encPart p 6).length) (catRow m (fun (i : Nat) => w (0 + i)) fun (i : Nat) => [EV.int IntKind.u8 (↑((encPart p 6).getD (0 + i) 0).toNat : Int)])] (EV.ms 1 1 0 (m + (encKey p 6).length) none) [EObj.dead, EObj.arr false true 1 false (m + (encKey p 6).length) (catRow m (fun (i : Nat) => w (0 + i)) fun (i : Nat) => [EV.int IntKind.u8 (↑((encKey p 6).getD (0 + i) 0).toNat : Int)])], SemF prog globs' 69 [EV.ms 0 1 0 (m + (encKey p 5).length) none, EV.agg [EV.int IntKind.i64 1, EV.int IntKind.i64 p.row.club, EV.str (ByteArray.mk #[]), EV.isl false 0 0 fun (i : Nat) => [], EV.isl false 0 0 fun (i : Nat) => []]] [EObj.arr false true 1 false (m + (encKey p 5).length) (catRow m (fun (i : Nat) => w (0 + i)) fun (i : Nat) => [EV.int IntKind.u8 (↑((encKey p 5).getD (0 + i) 0).toNat : Int)])] (EV.ms 1 1 0 (m + (encPart p 6).length) none) [EObj.dead, EObj.arr false true 1 false (m + (encPart p 6).length) (catRow m (fun (i : Nat) => w (0 + i)) fun (i : Nat) => [EV.int IntKind.u8 (↑((encPart p 6).getD (0 + i) 0).toNat : Int)])], SemF prog globs' 72 [EV.ms 0 1 0 (m + (encPart p 5).length) none, EV.str (ByteArray.mk #[99, 108, 117, 98])] [EObj.arr false true 1 false (m + (encPart p 5).length) (catRow m (fun (i : Nat) => w (0 + i)) fun (i : Nat) => [EV.int IntKind.u8 (↑((encPart p 5).getD (0 + i) 0).toNat : Int)])] (EV.ms 1 1 0 (m + (encKey p 5).length) none) [EObj.dead, EObj.arr false true 1 false (m + (encKey p 5).length) (catRow m (fun (i : Nat) => w (0 + i)) fun (i : Nat) => [EV.int IntKind.u8 (↑((encKey p 5).getD (0 + i) 0).toNat : Int)])], SemF prog globs' 69 [EV.ms 0 1 0 (m + (encKey p 4).length) none, EV.agg [EV.int IntKind.i64 1, EV.int IntKind.i64 p.row.cards, EV.str (ByteArray.mk #[]), EV.isl false 0 0 fun (i : Nat) => [], EV.isl false 0 0 fun (i : Nat) => []]] [EObj.arr false true 1 false (m + (encKey p 4).length) (catRow m (fun (i : Nat) => w (0 + i)) fun (i : Nat) => [EV.int IntKind.u8 (↑((encKey p 4).getD (0 + i) 0).toNat : Int)])] (EV.ms 1 1 0 (m + (encPart p 5).length) none) [EObj.dead, EObj.arr false true 1 false (m + (encPart p 5).length) (catRow m (fun (i : Nat) => w (0 + i)) fun (i : Nat) => [EV.int IntKind.u8 (↑((encPart p 5).getD (0 + i) 0).toNat : Int)])], SemF prog globs' 72 [EV.ms 0 1 0 (m + (encPart p 4).length) none, EV.str (ByteArray.mk #[99, 97, 114, 100, 115])] [EObj.arr false true 1 false (m + (encPart p 4).length) (catRow m (fun (i : Nat) => w (0 + i)) fun (i : Nat) => [EV.int IntKind.u8 (↑((encPart p 4).getD (0 + i) 0).toNat : Int)])] (EV.ms 1 1 0 (m + (encKey p 4).length) none) [EObj.dead, EObj.arr false true 1 false (m + (encKey p 4).length) (catRow m (fun (i : Nat) => w (0 + i)) fun (i : Nat) => [EV.int IntKind.u8 (↑((encKey p 4).getD (0 + i) 0).toNat : Int)])], SemF prog globs' 69 [EV.ms 0 1 0 (m + (encKey p 3).length) none, EV.agg [EV.int IntKind.i64 1, EV.int IntKind.i64 p.by', EV.str (ByteArray.mk #[]), EV.isl false 0 0 fun (i : Nat) => [], EV.isl false 0 0 fun (i : Nat) => []]] [EObj.arr false true 1 false (m + (encKey p 3).length) (catRow m (fun (i : Nat) => w (0 + i)) fun (i : Nat) => [EV.int IntKind.u8 (↑((encKey p 3).getD (0 + i) 0).toNat : Int)])] (EV.ms 1 1 0 (m + (encPart p 4).length) none) [EObj.dead, EObj.arr false true 1 false (m + (encPart p 4).length) (catRow m (fun (i : Nat) => w (0 + i)) fun (i : Nat) => [EV.int IntKind.u8 (↑((encPart p 4).getD (0 + i) 0).toNat : Int)])], SemF prog globs' 72 [EV.ms 0 1 0 (m + (encPart p 3).length) none, EV.str (ByteArray.mk #[98, 121])] [EObj.arr false true 1 false (m + (encPart p 3).length) (catRow m (fun (i : Nat) => w (0 + i)) fun (i : Nat) => [EV.int IntKind.u8 (↑((encPart p 3).getD (0 + i) 0).toNat : Int)])] (EV.ms 1 1 0 (m + (encKey p 3).length) none) [EObj.dead, EObj.arr false true 1 false (m + (encKey p 3).length) (catRow m (fun (i : Nat) => w (0 + i)) fun (i : Nat) => [EV.int IntKind.u8 (↑((encKey p 3).getD (0 + i) 0).toNat : Int)])], SemF prog globs' 69 [EV.ms 0 1 0 (m + (encKey p 2).length) none, EV.agg [EV.int IntKind.i64 1, EV.int IntKind.i64 p.row.awayWon, EV.str (ByteArray.mk #[]), EV.isl false 0 0 fun (i : Nat) => [], EV.isl false 0 0 fun (i : Nat) => []]] [EObj.arr false true 1 false (m + (encKey p 2).length) (catRow m (fun (i : Nat) => w (0 + i)) fun (i : Nat) => [EV.int IntKind.u8 (↑((encKey p 2).getD (0 + i) 0).toNat : Int)])] (EV.ms 1 1 0 (m + (encPart p 3).length) none) [EObj.dead, EObj.arr false true 1 false (m + (encPart p 3).length) (catRow m (fun (i : Nat) => w (0 + i)) fun (i : Nat) => [EV.int IntKind.u8 (↑((encPart p 3).getD (0 + i) 0).toNat : Int)])], SemF prog globs' 72 [EV.ms 0 1 0 (m + (encPart p 2).length) none, EV.str (ByteArray.mk #[97, 119, 97, 121, 119, 111, 110])] [EObj.arr false true 1 false (m + (encPart p 2).length) (catRow m (fun (i : Nat) => w (0 + i)) fun (i : Nat) => [EV.int IntKind.u8 (↑((encPart p 2).getD (0 + i) 0).toNat : Int)])] (EV.ms 1 1 0 (m + (encKey p 2).length) none) [EObj.dead, EObj.arr false true 1 false (m + (encKey p 2).length) (catRow m (fun (i : Nat) => w (0 + i)) fun (i : Nat) => [EV.int IntKind.u8 (↑((encKey p 2).getD (0 + i) 0).toNat : Int)])], SemF prog globs' 69 [EV.ms 0 1 0 (m + (encKey p 1).length) none, EV.agg [EV.int IntKind.i64 1, EV.int IntKind.i64 p.row.awayFor, EV.str (ByteArray.mk #[]), EV.isl false 0 0 fun (i : Nat) => [], EV.isl false 0 0 fun (i : Nat) => []]] [EObj.arr false true 1 false (m + (encKey p 1).length) (catRow m (fun (i : Nat) => w (0 + i)) fun (i : Nat) => [EV.int IntKind.u8 (↑((encKey p 1).getD (0 + i) 0).toNat : Int)])] (EV.ms 1 1 0 (m + (encPart p 2).length) none) [EObj.dead, EObj.arr false true 1 false (m + (encPart p 2).length) (catRow m (fun (i : Nat) => w (0 + i)) fun (i : Nat) => [EV.int IntKind.u8 (↑((encPart p 2).getD (0 + i) 0).toNat : Int)])], SemF prog globs' 72 [EV.ms 0 1 0 (m + (encPart p 1).length) none, EV.str (ByteArray.mk #[97, 119, 97, 121, 102, 111, 114])] [EObj.arr false true 1 false (m + (encPart p 1).length) (catRow m (fun (i : Nat) => w (0 + i)) fun (i : Nat) => [EV.int IntKind.u8 (↑((encPart p 1).getD (0 + i) 0).toNat : Int)])] (EV.ms 1 1 0 (m + (encKey p 1).length) none) [EObj.dead, EObj.arr false true 1 false (m + (encKey p 1).length) (catRow m (fun (i : Nat) => w (0 + i)) fun (i : Nat) => [EV.int IntKind.u8 (↑((encKey p 1).getD (0 + i) 0).toNat : Int)])], SemF prog globs' 69 [EV.ms 0 1 0 (m + (encKey p 0).length) none, EV.agg [EV.int IntKind.i64 1, EV.int IntKind.i64 p.row.against, EV.str (ByteArray.mk #[]), EV.isl false 0 0 fun (i : Nat) => [], EV.isl false 0 0 fun (i : Nat) => []]] [EObj.arr false true 1 false (m + (encKey p 0).length) (catRow m (fun (i : Nat) => w (0 + i)) fun (i : Nat) => [EV.int IntKind.u8 (↑((encKey p 0).getD (0 + i) 0).toNat : Int)])] (EV.ms 1 1 0 (m + (encPart p 1).length) none) [EObj.dead, EObj.arr false true 1 false (m + (encPart p 1).length) (catRow m (fun (i : Nat) => w (0 + i)) fun (i : Nat) => [EV.int IntKind.u8 (↑((encPart p 1).getD (0 + i) 0).toNat : Int)])], SemF prog globs' 72 [EV.ms 0 1 0 (m + 1) none, EV.str (ByteArray.mk #[97, 103, 97, 105, 110, 115, 116])] [EObj.arr false true 1 false (m + 1) (catRow m (fun (i : Nat) => w (0 + i)) fun (i : Nat) => [[EV.int IntKind.u8 100]].getD (0 + i) [])] (EV.ms 1 1 0 (m + (encKey p 0).length) none) [EObj.dead, EObj.arr false true 1 false (m + (encKey p 0).length) (catRow m (fun (i : Nat) => w (0 + i)) fun (i : Nat) => [EV.int IntKind.u8 (↑((encKey p 0).getD (0 + i) 0).toNat : Int)])], (Decidable.decide ((m + 1) * 1 ≤ 70368744177664) && Decidable.decide (m + 1 < 4611686018427387904)) = true]) 14 [0, 1, 2, 105] hMixed KOk.nil (by kernel_rfl) (by kernel_rfl) (by kernel_rfl) (by kernel_rfl) (.cons (by simp_all [inB] <;> omega) (.cons (Appends.on (X := encKey p 13) (wText p.zone _ _ (by have := encKey_len hp 13; omega) hp.2) rowSame) (.cons (Appends.on (X := encPart p 13) (text72 (keyB 13) _ _ (by have := encPart_len hp 13; omega) (key_len 13)) rowSame) (.cons (Appends.on (X := encKey p 12) (wInt (p.nums.getD 12 0) _ _ (hp.1 12).1 (hp.1 12).2 (by have := encKey_len hp 12; omega)) rowSame) (.cons (Appends.on (X := encPart p 12) (text72 (keyB 12) _ _ (by have := encPart_len hp 12; omega) (key_len 12)) rowSame) (.cons (Appends.on (X := encKey p 11) (wInt (p.nums.getD 11 0) _ _ (hp.1 11).1 (hp.1 11).2 (by have := encKey_len hp 11; omega)) rowSame) (.cons (Appends.on (X := encPart p 11) (text72 (keyB 11) _ _ (by have := encPart_len hp 11; omega) (key_len 11)) rowSame) (.cons (Appends.on (X := encKey p 10) (wInt (p.nums.getD 10 0) _ _ (hp.1 10).1 (hp.1 10).2 (by have := encKey_len hp 10; omega)) rowSame) (.cons (Appends.on (X := encPart p 10) (text72 (keyB 10) _ _ (by have := encPart_len hp 10; omega) (key_len 10)) rowSame) (.cons (Appends.on (X := encKey p 9) (wInt (p.nums.getD 9 0) _ _ (hp.1 9).1 (hp.1 9).2 (by have := encKey_len hp 9; omega)) rowSame) (.cons (Appends.on (X := encPart p 9) (text72 (keyB 9) _ _ (by have := encPart_len hp 9; omega) (key_len 9)) rowSame) (.cons (Appends.on (X := encKey p 8) (wInt (p.nums.getD 8 0) _ _ (hp.1 8).1 (hp.1 8).2 (by have := encKey_len hp 8; omega)) rowSame) (.cons (Appends.on (X := encPart p 8) (text72 (keyB 8) _ _ (by have := encPart_len hp 8; omega) (key_len 8)) rowSame) (.cons (Appends.on (X := encKey p 7) (wInt (p.nums.getD 7 0) _ _ (hp.1 7).1 (hp.1 7).2 (by have := encKey_len hp 7; omega)) rowSame) (.cons (Appends.on (X := encPart p 7) (text72 (keyB 7) _ _ (by have := encPart_len hp 7; omega) (key_len 7)) rowSame) (.cons (Appends.on (X := encKey p 6) (wInt (p.nums.getD 6 0) _ _ (hp.1 6).1 (hp.1 6).2 (by have := encKey_len hp 6; omega)) rowSame) (.cons (Appends.on (X := encPart p 6) (text72 (keyB 6) _ _ (by have := encPart_len hp 6; omega) (key_len 6)) rowSame) (.cons (Appends.on (X := encKey p 5) (wInt (p.nums.getD 5 0) _ _ (hp.1 5).1 (hp.1 5).2 (by have := encKey_len hp 5; omega)) rowSame) (.cons (Appends.on (X := encPart p 5) (text72 (keyB 5) _ _ (by have := encPart_len hp 5; omega) (key_len 5)) rowSame) (.cons (Appends.on (X := encKey p 4) (wInt (p.nums.getD 4 0) _ _ (hp.1 4).1 (hp.1 4).2 (by have := encKey_len hp 4; omega)) rowSame) (.cons (Appends.on (X := encPart p 4) (text72 (keyB 4) _ _ (by have := encPart_len hp 4; omega) (key_len 4)) rowSame) (.cons (Appends.on (X := encKey p 3) (wInt (p.nums.getD 3 0) _ _ (hp.1 3).1 (hp.1 3).2 (by have := encKey_len hp 3; omega)) rowSame) (.cons (Appends.on (X := encPart p 3) (text72 (keyB 3) _ _ (by have := encPart_len hp 3; omega) (key_len 3)) rowSame) (.cons (Appends.on (X := encKey p 2) (wInt (p.nums.getD 2 0) _ _ (hp.1 2).1 (hp.1 2).2 (by have := encKey_len hp 2; omega)) rowSame) (.cons (Appends.on (X := encPart p 2) (text72 (keyB 2) _ _ (by have := encPart_len hp 2; omega) (key_len 2)) rowSame) (.cons (Appends.on (X := encKey p 1) (wInt (p.nums.getD 1 0) _ _ (hp.1 1).1 (hp.1 1).2 (by have := encKey_len hp 1; omega)) rowSame) (.cons (Appends.on (X := encPart p 1) (text72 (keyB 1) _ _ (by have := encPart_len hp 1; omega) (key_len 1)) rowSame) (.cons (Appends.on (X := encKey p 0) (wInt (p.nums.getD 0 0) _ _ (hp.1 0).1 (hp.1 0).2 (by have := encKey_len hp 0; omega)) rowSame) (.cons (Appends.on (X := encPart p 0) (text72 (keyB 0) _ _ (by have := encPart_len hp 0; omega) (key_len 0)) (rowApp (X := []) rowBase rfl (oneB 100))) (.cons (by simp_all [inB] <;> omega) .nil))))))))))))))))))))))))))))))
end Go.Ev
namespace Go.Ev
open Go.Proofs.Tryz (prog)
def encPl (p : PlaceD) : List UInt8 := encPart p 14 ++ [101]
theorem wPlace (p : PlaceD) (m : Nat) (w : Nat → List EV) (h1 : m ≤ 50000) (hp : p.fine) : SemF prog globs' 74 [EV.ms 0 1 0 m none, EV.agg p.val, EV.ptr 1 0] (wHeap m w) (EV.ms 3 1 0 (m + (encPl p).length) none) (wEnd m w (encPl p)) := by
  have this := wPlace_ p m w h1 (Nat.le_trans (encPart_len hp 14) (by decide)) hp
  have e : ∀ X : List UInt8, m + X.length + 1 = m + (X ++ [101]).length := fun X => by rw [List.length_append]; rfl
  rw [e (encPart p 14)] at this
  refine SemF.weaken (VLes.refl _) (HLe.refl _) this (VLe.refl _) (.cons OLe.dead (.cons (OLe.refl _) (.cons (OLe.refl _) (.cons (OLe.arr fun j hj => ?_) .nil))))
  exact rowApp (X := encPart p 14) (b := [101]) (r := catRow m (fun i => w (0 + i)) (fun i => bRow (encPart p 14) (0 + i))) (fun _ _ => rfl) rfl (oneB 101) j hj
theorem encPl_len {p : PlaceD} (hp : p.fine) : (encPl p).length ≤ 900 := by
  unfold encPl
  rw [List.length_append]
  exact Nat.le_trans (Nat.add_le_add_right (encPart_len hp 14) 1) (by decide)
end Go.Ev
namespace Go.Ev
theorem lt_of_dec {i : Int} {n : Nat} (h0 : 0 ≤ i) (h : decide (i < (n : Int)) = true) : i.toNat < n := by
  have := of_decide_eq_true h; omega
end Go.Ev
namespace Go.Ev
noncomputable def wlT (t : TableD) (k L : Nat) (i : Int) : List EV := frame 32 [(0, .ms k 1 0 L none), (2, .ptr 1 0), (12, .isl true 5 t.len t.row), (13, .int .i64 t.len), (14, .int .i64 i)]
def wArr (m : Nat) (w : Nat → List EV) (X : List UInt8) : EObj := .arr false true 1 false (m + X.length) (catRow m (fun i => w (0 + i)) (fun i => bRow X (0 + i)))
def wlH0 (m : Nat) (w : Nat → List EV) (X : List UInt8) : Heap := [.dead, .var false false [EV.ptr 2 0], .var false false wCells, .dead, .dead, wArr m w X]
def wlH1 (m : Nat) (w : Nat → List EV) (X : List UInt8) : Heap := [.dead, .var false false [EV.ptr 2 0], .var false false wCells, .dead, .dead, .dead, wArr m w X]
end Go.Ev
namespace Go.Ev
open Go.Proofs.Tryz (prog)
theorem wOn {f : FuncId} {v : EV} {m : Nat} {w : Nat → List EV} {X Y : List UInt8} (h : SemF prog globs' f [EV.ms 0 1 0 (m + X.length) none, v, EV.ptr 1 0] (wHeap (m + X.length) (catRow m (fun i => w (0 + i)) (fun i => bRow X (0 + i)))) (EV.ms 3 1 0 (m + X.length + Y.length) none) (wEnd (m + X.length) (catRow m (fun i => w (0 + i)) (fun i => bRow X (0 + i))) Y)) :
    SemF prog globs' f [EV.ms 0 1 0 (m + X.length) none, v, EV.ptr 1 0] [wArr m w X, EObj.var false false [EV.ptr 2 0], EObj.var false false wCells] (EV.ms 3 1 0 (m + (X ++ Y).length) none) [EObj.dead, EObj.var false false [EV.ptr 2 0], EObj.var false false wCells, wArr m w (X ++ Y)] := by
  have e : m + X.length + Y.length = m + (X ++ Y).length := by rw [List.length_append]; omega
  unfold wEnd at h
  rw [e] at h
  exact SemF.weaken (VLes.refl _) (HLe.refl _) h (VLe.refl _) (.cons OLe.dead (.cons (OLe.refl _) (.cons (OLe.refl _) (.cons (OLe.arr fun j hj => rowApp rowSame rfl (fun k hk => by show bRow Y (0 + k) = _; rw [Nat.zero_add]) j hj) .nil))))
theorem wPlaceOn (p : PlaceD) (m : Nat) (w : Nat → List EV) (X : List UInt8) (h1 : m + X.length ≤ 50000) (hp : p.fine) :
    SemF prog globs' 74 [EV.ms 0 1 0 (m + X.length) none, EV.agg p.val, EV.ptr 1 0] [wArr m w X, EObj.var false false [EV.ptr 2 0], EObj.var false false wCells] (EV.ms 3 1 0 (m + (X ++ encPl p).length) none) [EObj.dead, EObj.var false false [EV.ptr 2 0], EObj.var false false wCells, wArr m w (X ++ encPl p)] :=
  wOn (wPlace p (m + X.length) _ h1 hp)
end Go.Ev
namespace Go.Ev
open Go.Proofs.Tryz (prog)
set_option maxRecDepth 100000
set_option maxHeartbeats 0
theorem wlA_0 (t : TableD) (m : Nat) (w : Nat → List EV) (X : List UInt8) (i : Int) (h1 : m ≤ 1000) (h2 : X.length ≤ 40000) (hp : ∀ j, j < t.len → (t.ps j).fine) (h0 : 0 ≤ i) (h3 : t.len ≤ 24) (q0 : (Decidable.decide (i < (↑t.len : Int))) = true) : SemC prog globs' false (cB (cB (cR (cL (cR (cR (bodyOf prog 73))))))) (wlT t 5 (m + X.length) i) (wlH0 m w X) (EX.normal, (frame 32 [(0, EV.ms 7 1 0 (m + (X ++ encPl (t.ps i.toNat)).length) none), (2, EV.ptr 1 0), (12, EV.isl true 5 t.len fun (i : Nat) => [EV.int IntKind.i64 4, EV.int IntKind.i64 0, EV.str (ByteArray.mk #[]), EV.isl true 5 14 (placeRow (t.ps i)), EV.isl true 1 14 keyRow]), (13, EV.int IntKind.i64 (↑t.len : Int)), (14, EV.int IntKind.i64 (i + 1))]), [EObj.dead, EObj.var false false [EV.ptr 2 0], EObj.var false false [EV.nilf, EV.func (Fn.func 69) [] [], EV.func (Fn.func 71) [] [], EV.func (Fn.func 73) [] [EV.ptr 1 0], EV.func (Fn.func 74) [] [EV.ptr 1 0]], EObj.dead, EObj.dead, EObj.dead, EObj.dead, EObj.arr false true 1 false (m + (X ++ encPl (t.ps i.toNat)).length) (catRow m (fun (i : Nat) => w (0 + i)) fun (i_1 : Nat) => [EV.int IntKind.u8 (↑((X ++ encPl (t.ps i.toNat)).getD (0 + i_1) 0).toNat : Int)])]) :=
  semC_cut (modes := pures4) (news := news4) (n := 60) (fuel := 100000) (F := [[(Decidable.decide (i < (↑t.len : Int)), true)]]) (s := (.mk [(0, .kn 0 0), (0, .dec true), (2, .dec true)] [] [] [some ((EV.ms 3 1 0 (m + (X ++ encPl (t.ps i.toNat)).length) none, [EObj.dead, EObj.var false false [EV.ptr 2 0], EObj.var false false [EV.nilf, EV.func (Fn.func 69) [] [], EV.func (Fn.func 71) [] [], EV.func (Fn.func 73) [] [EV.ptr 1 0], EV.func (Fn.func 74) [] [EV.ptr 1 0]], EObj.arr false true 1 false (m + (X ++ encPl (t.ps i.toNat)).length) (catRow m (fun (i : Nat) => w (0 + i)) fun (i_1 : Nat) => [EV.int IntKind.u8 (↑((X ++ encPl (t.ps i.toNat)).getD (0 + i_1) 0).toNat : Int)])]))] [])) (ow := [(inR IntKind.i64 (i + 1)) = true, SemF prog globs' 74 [EV.ms 0 1 0 (m + X.length) none, EV.agg [EV.int IntKind.i64 4, EV.int IntKind.i64 0, EV.str (ByteArray.mk #[]), EV.isl true 5 14 (placeRow (t.ps i.toNat)), EV.isl true 1 14 keyRow], EV.ptr 1 0] [EObj.arr false true 1 false (m + X.length) (catRow m (fun (i : Nat) => w (0 + i)) fun (i : Nat) => [EV.int IntKind.u8 (↑(X.getD (0 + i) 0).toNat : Int)]), EObj.var false false [EV.ptr 2 0], EObj.var false false [EV.nilf, EV.func (Fn.func 69) [] [], EV.func (Fn.func 71) [] [], EV.func (Fn.func 73) [] [EV.ptr 1 0], EV.func (Fn.func 74) [] [EV.ptr 1 0]]] (EV.ms 3 1 0 (m + (X ++ encPl (t.ps i.toNat)).length) none) [EObj.dead, EObj.var false false [EV.ptr 2 0], EObj.var false false [EV.nilf, EV.func (Fn.func 69) [] [], EV.func (Fn.func 71) [] [], EV.func (Fn.func 73) [] [EV.ptr 1 0], EV.func (Fn.func 74) [] [EV.ptr 1 0]], EObj.arr false true 1 false (m + (X ++ encPl (t.ps i.toNat)).length) (catRow m (fun (i : Nat) => w (0 + i)) fun (i_1 : Nat) => [EV.int IntKind.u8 (↑((X ++ encPl (t.ps i.toNat)).getD (0 + i_1) 0).toNat : Int)])], (inB i t.len) = true]) 28677 134 8 hMixed (KOk.one (kCons q0 kNil)) (by kernel_rfl) (by kernel_rfl) (by kernel_rfl) (.cons (by (simp only [inB, inR_i64, inR_i32, inR_u8, inR_u16, inR_u32, inR_u64, Bool.cond_true_left, Bool.cond_false_left, Bool.cond_true_right, Bool.cond_false_right, Bool.not_not, Bool.not_and, Bool.not_or, Bool.and_eq_true, Bool.or_eq_true, Bool.and_eq_false_imp, Bool.or_eq_false_iff, Bool.not_eq_true', Bool.not_eq_false', decide_eq_true_eq, decide_eq_false_iff_not, beq_iff_eq, bne_iff_ne, beq_eq_false_iff_ne, ne_eq, Decidable.not_not, Int.toNat_natCast] at * <;> omega)) (.cons (wPlaceOn (t.ps i.toNat) m w X (by omega) (hp i.toNat (lt_of_dec h0 (by assumption)))) (.cons (by simp_all [inB] <;> omega) .nil)))
theorem wlB_0 (t : TableD) (m : Nat) (w : Nat → List EV) (X : List UInt8) (i : Int) (h1 : m ≤ 1000) (h2 : X.length ≤ 40000) (hp : ∀ j, j < t.len → (t.ps j).fine) (h0 : 0 ≤ i) (h3 : t.len ≤ 24) (q0 : (Decidable.decide (i < (↑t.len : Int))) = true) : SemC prog globs' false (cB (cB (cR (cL (cR (cR (bodyOf prog 73))))))) (wlT t 6 (m + X.length) i) (wlH1 m w X) (EX.normal, (frame 32 [(0, EV.ms 8 1 0 (m + (X ++ encPl (t.ps i.toNat)).length) none), (2, EV.ptr 1 0), (12, EV.isl true 5 t.len fun (i : Nat) => [EV.int IntKind.i64 4, EV.int IntKind.i64 0, EV.str (ByteArray.mk #[]), EV.isl true 5 14 (placeRow (t.ps i)), EV.isl true 1 14 keyRow]), (13, EV.int IntKind.i64 (↑t.len : Int)), (14, EV.int IntKind.i64 (i + 1))]), [EObj.dead, EObj.var false false [EV.ptr 2 0], EObj.var false false [EV.nilf, EV.func (Fn.func 69) [] [], EV.func (Fn.func 71) [] [], EV.func (Fn.func 73) [] [EV.ptr 1 0], EV.func (Fn.func 74) [] [EV.ptr 1 0]], EObj.dead, EObj.dead, EObj.dead, EObj.dead, EObj.dead, EObj.arr false true 1 false (m + (X ++ encPl (t.ps i.toNat)).length) (catRow m (fun (i : Nat) => w (0 + i)) fun (i_1 : Nat) => [EV.int IntKind.u8 (↑((X ++ encPl (t.ps i.toNat)).getD (0 + i_1) 0).toNat : Int)])]) :=
  semC_cut (modes := pures4) (news := news4) (n := 60) (fuel := 100000) (F := [[(Decidable.decide (i < (↑t.len : Int)), true)]]) (s := (.mk [(0, .kn 0 0), (0, .dec true), (2, .dec true)] [] [] [some ((EV.ms 3 1 0 (m + (X ++ encPl (t.ps i.toNat)).length) none, [EObj.dead, EObj.var false false [EV.ptr 2 0], EObj.var false false [EV.nilf, EV.func (Fn.func 69) [] [], EV.func (Fn.func 71) [] [], EV.func (Fn.func 73) [] [EV.ptr 1 0], EV.func (Fn.func 74) [] [EV.ptr 1 0]], EObj.arr false true 1 false (m + (X ++ encPl (t.ps i.toNat)).length) (catRow m (fun (i : Nat) => w (0 + i)) fun (i_1 : Nat) => [EV.int IntKind.u8 (↑((X ++ encPl (t.ps i.toNat)).getD (0 + i_1) 0).toNat : Int)])]))] [])) (ow := [(inR IntKind.i64 (i + 1)) = true, SemF prog globs' 74 [EV.ms 0 1 0 (m + X.length) none, EV.agg [EV.int IntKind.i64 4, EV.int IntKind.i64 0, EV.str (ByteArray.mk #[]), EV.isl true 5 14 (placeRow (t.ps i.toNat)), EV.isl true 1 14 keyRow], EV.ptr 1 0] [EObj.arr false true 1 false (m + X.length) (catRow m (fun (i : Nat) => w (0 + i)) fun (i : Nat) => [EV.int IntKind.u8 (↑(X.getD (0 + i) 0).toNat : Int)]), EObj.var false false [EV.ptr 2 0], EObj.var false false [EV.nilf, EV.func (Fn.func 69) [] [], EV.func (Fn.func 71) [] [], EV.func (Fn.func 73) [] [EV.ptr 1 0], EV.func (Fn.func 74) [] [EV.ptr 1 0]]] (EV.ms 3 1 0 (m + (X ++ encPl (t.ps i.toNat)).length) none) [EObj.dead, EObj.var false false [EV.ptr 2 0], EObj.var false false [EV.nilf, EV.func (Fn.func 69) [] [], EV.func (Fn.func 71) [] [], EV.func (Fn.func 73) [] [EV.ptr 1 0], EV.func (Fn.func 74) [] [EV.ptr 1 0]], EObj.arr false true 1 false (m + (X ++ encPl (t.ps i.toNat)).length) (catRow m (fun (i : Nat) => w (0 + i)) fun (i_1 : Nat) => [EV.int IntKind.u8 (↑((X ++ encPl (t.ps i.toNat)).getD (0 + i_1) 0).toNat : Int)])], (inB i t.len) = true]) 28677 262 9 hMixed (KOk.one (kCons q0 kNil)) (by kernel_rfl) (by kernel_rfl) (by kernel_rfl) (.cons (by (simp only [inB, inR_i64, inR_i32, inR_u8, inR_u16, inR_u32, inR_u64, Bool.cond_true_left, Bool.cond_false_left, Bool.cond_true_right, Bool.cond_false_right, Bool.not_not, Bool.not_and, Bool.not_or, Bool.and_eq_true, Bool.or_eq_true, Bool.and_eq_false_imp, Bool.or_eq_false_iff, Bool.not_eq_true', Bool.not_eq_false', decide_eq_true_eq, decide_eq_false_iff_not, beq_iff_eq, bne_iff_ne, beq_eq_false_iff_ne, ne_eq, Decidable.not_not, Int.toNat_natCast] at * <;> omega)) (.cons (wPlaceOn (t.ps i.toNat) m w X (by omega) (hp i.toNat (lt_of_dec h0 (by assumption)))) (.cons (by simp_all [inB] <;> omega) .nil)))
theorem wlB_1 (t : TableD) (m : Nat) (w : Nat → List EV) (X : List UInt8) (i : Int) (h1 : m ≤ 1000) (h2 : X.length ≤ 40000) (hp : ∀ j, j < t.len → (t.ps j).fine) (h0 : 0 ≤ i) (h3 : t.len ≤ 24) (q0 : (Decidable.decide (i < (↑t.len : Int))) = false) : SemC prog globs' false (cB (cB (cR (cL (cR (cR (bodyOf prog 73))))))) (wlT t 6 (m + X.length) i) (wlH1 m w X) (EX.leave 0, (frame 32 [(0, EV.ms 6 1 0 (m + X.length) none)]), [EObj.dead, EObj.var false false [EV.ptr 2 0], EObj.var false false [EV.nilf, EV.func (Fn.func 69) [] [], EV.func (Fn.func 71) [] [], EV.func (Fn.func 73) [] [EV.ptr 1 0], EV.func (Fn.func 74) [] [EV.ptr 1 0]], EObj.dead, EObj.dead, EObj.dead, EObj.arr false true 1 false (m + X.length) (catRow m (fun (i : Nat) => w (0 + i)) fun (i : Nat) => [EV.int IntKind.u8 (↑(X.getD (0 + i) 0).toNat : Int)])]) :=
  semC_cut (modes := pures4) (news := news4) (n := 60) (fuel := 100000) (F := [[(Decidable.decide (i < (↑t.len : Int)), false)]]) (s := (.mk [(0, .kn 0 0)] [] [] [] [])) (ow := []) 1 70 7 hMixed (KOk.one (kCons q0 kNil)) (by kernel_rfl) (by kernel_rfl) (by kernel_rfl) .nil
end Go.Ev
namespace Go.Ev
open Go.Proofs.Tryz (prog)
def encLs (t : TableD) : Nat → List UInt8
  | 0 => [108]
  | j + 1 => encLs t j ++ encPl (t.ps j)
theorem encLs_len {t : TableD} (hp : ∀ j, j < t.len → (t.ps j).fine) : ∀ j, j ≤ t.len → (encLs t j).length ≤ 1 + 900 * j
  | 0, _ => by simp [encLs]
  | j + 1, h => by
    have h1 := encLs_len hp j (by omega)
    have h2 := encPl_len (hp j (by omega))
    have e : (encLs t (j + 1)).length = (encLs t j).length + (encPl (t.ps j)).length := List.length_append
    rw [e]
    generalize (encLs t j).length = a at *
    generalize (encPl (t.ps j)).length = b at *
    omega
theorem bnd {n : Nat} (h : n ≤ 24) : 1 + 900 * n ≤ 40000 := by omega
noncomputable def wlEnd (t : TableD) (m : Nat) (w : Nat → List EV) : RC := (EX.leave 0, frame 32 [(0, EV.ms 6 1 0 (m + (encLs t t.len).length) none)], wlH1 m w (encLs t t.len))
theorem encLs_succ (t : TableD) (n : Nat) : encLs t (n + 1) = encLs t n ++ encPl (t.ps n) := rfl
theorem wlLast (t : TableD) (m : Nat) (w : Nat → List EV) (h1 : m ≤ 1000) (hp : ∀ j, j < t.len → (t.ps j).fine) (h3 : t.len ≤ 24) (X : List UInt8) (hX : X.length ≤ 40000) (n : Nat) (hn : n = t.len) :
    SemLR prog globs' false 6 (cB (cB (cR (cL (cR (cR (bodyOf prog 73))))))) (wlT t 6 (m + X.length) n) (wlH1 m w X) (EX.leave 0, frame 32 [(0, EV.ms 6 1 0 (m + X.length) none)], wlH1 m w X) := by
  have := wlB_1 t m w X n h1 hX hp (by omega) h3 (by simp; omega)
  exact SemLR.last (t1 := frame 32 [(0, EV.ms 6 1 0 (m + X.length) none)]) [0, 1, 2, 3, 4, 5, 6] this (by intro h; cases h) (by kernel_rfl) (s2 := wlH1 m w X) (by kernel_rfl) (VLes.refl _) (HLe.refl _)
theorem wlNext (t : TableD) (m : Nat) (w : Nat → List EV) (h1 : m ≤ 1000) (hp : ∀ j, j < t.len → (t.ps j).fine) (h3 : t.len ≤ 24) (X : List UInt8) (hX : X.length ≤ 40000) (n : Nat) (hn : n < t.len) {r : RC}
    (h : SemLR prog globs' false 6 (cB (cB (cR (cL (cR (cR (bodyOf prog 73))))))) (wlT t 6 (m + (X ++ encPl (t.ps n)).length) ((n : Int) + 1)) (wlH1 m w (X ++ encPl (t.ps n))) r) :
    SemLR prog globs' false 6 (cB (cB (cR (cL (cR (cR (bodyOf prog 73))))))) (wlT t 6 (m + X.length) n) (wlH1 m w X) r := by
  have := wlB_0 t m w X n h1 hX hp (by omega) h3 (by simp; omega)
  rw [Int.toNat_natCast] at this
  exact SemLR.step [0, 1, 2, 3, 4, 5, 8] this (by kernel_rfl) (s2 := wlH1 m w (X ++ encPl (t.ps n))) (by kernel_rfl) (VLes.refl _) (HLe.refl _) h
theorem wlFirst (t : TableD) (m : Nat) (w : Nat → List EV) (h1 : m ≤ 1000) (hp : ∀ j, j < t.len → (t.ps j).fine) (h3 : t.len ≤ 24) (X : List UInt8) (hX : X.length ≤ 40000) (hn : 0 < t.len) {r : RC}
    (h : SemLR prog globs' false 6 (cB (cB (cR (cL (cR (cR (bodyOf prog 73))))))) (wlT t 6 (m + (X ++ encPl (t.ps 0)).length) 1) (wlH1 m w (X ++ encPl (t.ps 0))) r) :
    SemLR prog globs' false 6 (cB (cB (cR (cL (cR (cR (bodyOf prog 73))))))) (wlT t 5 (m + X.length) 0) (wlH0 m w X) r := by
  have := wlA_0 t m w X 0 h1 hX hp (by omega) h3 (by simp; omega)
  exact SemLR.step [0, 1, 2, 3, 4, 5, 7] this (by kernel_rfl) (s2 := wlH1 m w (X ++ encPl (t.ps 0))) (by kernel_rfl) (VLes.refl _) (HLe.refl _) h
theorem wlS (t : TableD) (m : Nat) (w : Nat → List EV) (h1 : m ≤ 1000) (hp : ∀ j, j < t.len → (t.ps j).fine) (h3 : t.len ≤ 24) : ∀ (k n : Nat), n + k = t.len →
    SemLR prog globs' false 6 (cB (cB (cR (cL (cR (cR (bodyOf prog 73))))))) (wlT t 6 (m + (encLs t n).length) n) (wlH1 m w (encLs t n)) (wlEnd t m w)
  | 0, n, h => by
    have hn : n = t.len := h
    subst hn
    exact wlLast t m w h1 hp h3 (encLs t t.len) (Nat.le_trans (encLs_len hp t.len (Nat.le_refl _)) (bnd h3)) t.len rfl
  | k + 1, n, h => by
    have hn : n < t.len := by omega
    have hn' : n ≤ 24 := by omega
    have ih := wlS t m w h1 hp h3 k (n + 1) (by omega)
    rw [encLs_succ, Int.natCast_add] at ih
    exact wlNext t m w h1 hp h3 (encLs t n) (Nat.le_trans (encLs_len hp n (Nat.le_of_lt hn)) (bnd hn')) n hn ih
theorem wlC (t : TableD) (m : Nat) (w : Nat → List EV) (h1 : m ≤ 1000) (hp : ∀ j, j < t.len → (t.ps j).fine) (h3 : t.len ≤ 24) (h4 : 2 ≤ t.len) :
    SemCL prog globs' false (cB (cR (cL (cR (cR (bodyOf prog 73)))))) (wlT t 5 (m + 1) 0) [.dead, .var false false [EV.ptr 2 0], .var false false wCells, .dead, .dead, .arr false true 1 false (m + 1) (catRow m (fun (i : Nat) => w (0 + i)) fun (i : Nat) => [[EV.int IntKind.u8 108]].getD (0 + i) [])] (wlEnd t m w) := by
  have ih := wlS t m w h1 hp h3 (t.len - 1) 1 (by omega)
  have h0 := wlFirst t m w h1 hp h3 [108] (by decide) (by omega) ih
  have h := SemL.toCL (SemLR.toL h0 (by kernel_rfl)) (path := cB (cR (cL (cR (cR (bodyOf prog 73)))))) (by kernel_rfl)
  exact h.weaken (VLes.refl _) (.cons OLe.dead (.cons (OLe.refl _) (.cons (OLe.refl _) (.cons OLe.dead (.cons OLe.dead (.cons (OLe.arr (rowApp (X := []) rowBase rfl (oneB 108))) .nil)))))) (VLes.refl _) (HLe.refl _)
end Go.Ev
namespace Go.Ev
open Go.Proofs.Tryz (prog)
set_option maxRecDepth 100000
set_option maxHeartbeats 0
theorem wList_ (t : TableD) (m : Nat) (w : Nat → List EV) (h1 : m ≤ 1000) (hp : ∀ j, j < t.len → (t.ps j).fine) (h3 : t.len ≤ 24) (h4 : 2 ≤ t.len) (h5 : (encLs t t.len).length ≤ 40000) : SemF prog globs' 73 [EV.ms 0 1 0 m none, EV.agg [EV.int IntKind.i64 3, EV.int IntKind.i64 0, EV.str (ByteArray.mk #[]), EV.isl true 5 t.len fun (i : Nat) => [EV.int IntKind.i64 4, EV.int IntKind.i64 0, EV.str (ByteArray.mk #[]), EV.isl true 5 14 (placeRow (t.ps i)), EV.isl true 1 14 keyRow], EV.isl false 0 0 fun (i : Nat) => []], EV.ptr 1 0] (wHeap m w) (EV.ms 3 1 0 (m + (encLs t t.len).length + 1) none) [EObj.dead, EObj.var false false [EV.ptr 2 0], EObj.var false false [EV.nilf, EV.func (Fn.func 69) [] [], EV.func (Fn.func 71) [] [], EV.func (Fn.func 73) [] [EV.ptr 1 0], EV.func (Fn.func 74) [] [EV.ptr 1 0]], EObj.arr false true 1 false (m + (encLs t t.len).length + 1) (catRow (m + (encLs t t.len).length) (fun (i : Nat) => catRow m (fun (i : Nat) => w (0 + i)) (fun (i : Nat) => [EV.int IntKind.u8 (↑((encLs t t.len).getD (0 + i) 0).toNat : Int)]) (0 + i)) fun (i : Nat) => [[EV.int IntKind.u8 101]].getD (0 + i) [])] :=
  semF_ren (modes := pures4) (news := news4) (n := 60) (fuel := 100000) (F := []) (s := (.mk [(0, .dec true), (0, .dec true)] [(8, .is 28677 38 (EX.leave 0, (frame 32 [(0, EV.ms 6 1 0 (m + (encLs t t.len).length) none)]), [EObj.dead, EObj.var false false [EV.ptr 2 0], EObj.var false false [EV.nilf, EV.func (Fn.func 69) [] [], EV.func (Fn.func 71) [] [], EV.func (Fn.func 73) [] [EV.ptr 1 0], EV.func (Fn.func 74) [] [EV.ptr 1 0]], EObj.dead, EObj.dead, EObj.dead, EObj.arr false true 1 false (m + (encLs t t.len).length) (catRow m (fun (i : Nat) => w (0 + i)) fun (i : Nat) => [EV.int IntKind.u8 (↑((encLs t t.len).getD (0 + i) 0).toNat : Int)])]))] [] [] [])) (ow := [(Decidable.decide ((m + (encLs t t.len).length + 1) * 1 ≤ 70368744177664) && Decidable.decide (m + (encLs t t.len).length + 1 < 4611686018427387904)) = true, SemCL prog globs' false (cB (cR (cL (cR (cR (bodyOf prog 73)))))) (frame 32 [(0, EV.ms 5 1 0 (m + 1) none), (2, EV.ptr 1 0), (12, EV.isl true 5 t.len fun (i : Nat) => [EV.int IntKind.i64 4, EV.int IntKind.i64 0, EV.str (ByteArray.mk #[]), EV.isl true 5 14 (placeRow (t.ps i)), EV.isl true 1 14 keyRow]), (13, EV.int IntKind.i64 (↑t.len : Int)), (14, EV.int IntKind.i64 0)]) [EObj.dead, EObj.var false false [EV.ptr 2 0], EObj.var false false [EV.nilf, EV.func (Fn.func 69) [] [], EV.func (Fn.func 71) [] [], EV.func (Fn.func 73) [] [EV.ptr 1 0], EV.func (Fn.func 74) [] [EV.ptr 1 0]], EObj.dead, EObj.dead, EObj.arr false true 1 false (m + 1) (catRow m (fun (i : Nat) => w (0 + i)) fun (i : Nat) => [[EV.int IntKind.u8 108]].getD (0 + i) [])] (EX.leave 0, (frame 32 [(0, EV.ms 6 1 0 (m + (encLs t t.len).length) none)]), [EObj.dead, EObj.var false false [EV.ptr 2 0], EObj.var false false [EV.nilf, EV.func (Fn.func 69) [] [], EV.func (Fn.func 71) [] [], EV.func (Fn.func 73) [] [EV.ptr 1 0], EV.func (Fn.func 74) [] [EV.ptr 1 0]], EObj.dead, EObj.dead, EObj.dead, EObj.arr false true 1 false (m + (encLs t t.len).length) (catRow m (fun (i : Nat) => w (0 + i)) fun (i : Nat) => [EV.int IntKind.u8 (↑((encLs t t.len).getD (0 + i) 0).toNat : Int)])]), (Decidable.decide ((m + 1) * 1 ≤ 70368744177664) && Decidable.decide (m + 1 < 4611686018427387904)) = true]) 14 [0, 1, 2, 8] hMixed KOk.nil (by kernel_rfl) (by kernel_rfl) (by kernel_rfl) (by kernel_rfl) (.cons (by simp_all [inB] <;> omega) (.cons (wlC t m w h1 hp h3 h4) (.cons (by simp_all [inB] <;> omega) .nil)))
end Go.Ev
namespace Go.Ev
open Go.Proofs.Tryz (prog)
def encLi (t : TableD) : List UInt8 := encLs t t.len ++ [101]
theorem app1 (m : Nat) (X : List UInt8) : m + X.length + 1 = m + (X ++ [101]).length := by rw [List.length_append]; rfl
theorem wList (t : TableD) (m : Nat) (w : Nat → List EV) (h1 : m ≤ 1000) (hp : ∀ j, j < t.len → (t.ps j).fine) (h3 : t.len ≤ 24) (h4 : 2 ≤ t.len) :
    SemF prog globs' 73 [EV.ms 0 1 0 m none, EV.agg t.listVal, EV.ptr 1 0] (wHeap m w) (EV.ms 3 1 0 (m + (encLi t).length) none) (wEnd m w (encLi t)) := by
  have := wList_ t m w h1 hp h3 h4 (Nat.le_trans (encLs_len hp t.len (Nat.le_refl _)) (bnd h3))
  rw [app1 m (encLs t t.len)] at this
  refine SemF.weaken (VLes.refl _) (HLe.refl _) this (VLe.refl _) (.cons OLe.dead (.cons (OLe.refl _) (.cons (OLe.refl _) (.cons (OLe.arr fun j hj => ?_) .nil))))
  exact rowApp (X := encLs t t.len) (b := [101]) (r := catRow m (fun i => w (0 + i)) (fun i => bRow (encLs t t.len) (0 + i))) (fun _ _ => rfl) rfl (oneB 101) j hj
theorem b22 {n : Nat} (h : n ≤ 24) : 1 + 900 * n + 1 ≤ 22000 := by omega
theorem encLi_len {t : TableD} (hp : ∀ j, j < t.len → (t.ps j).fine) (h3 : t.len ≤ 24) : (encLi t).length ≤ 22000 := by
  unfold encLi
  rw [List.length_append]
  have := encLs_len hp t.len (Nat.le_refl _)
  exact Nat.le_trans (Nat.add_le_add_right this 1) (b22 h3)
theorem wListOn (t : TableD) (m : Nat) (w : Nat → List EV) (X : List UInt8) (h1 : m + X.length ≤ 1000) (hp : ∀ j, j < t.len → (t.ps j).fine) (h3 : t.len ≤ 24) (h4 : 2 ≤ t.len) :
    SemF prog globs' 73 [EV.ms 0 1 0 (m + X.length) none, EV.agg t.listVal, EV.ptr 1 0] [wArr m w X, EObj.var false false [EV.ptr 2 0], EObj.var false false wCells] (EV.ms 3 1 0 (m + (X ++ encLi t).length) none) [EObj.dead, EObj.var false false [EV.ptr 2 0], EObj.var false false wCells, wArr m w (X ++ encLi t)] :=
  wOn (wList t (m + X.length) _ h1 hp h3 h4)
def top0 (_ : TableD) : List UInt8 := [100]
def top1 (t : TableD) : List UInt8 := top0 t ++ txt (topB 0)
def top2 (t : TableD) : List UInt8 := top1 t ++ encInt t.comp
def top3 (t : TableD) : List UInt8 := top2 t ++ txt (topB 1)
def top4 (t : TableD) : List UInt8 := top3 t ++ encLi t
def top5 (t : TableD) : List UInt8 := top4 t ++ txt (topB 2)
def top6 (t : TableD) : List UInt8 := top5 t ++ encInt t.season
def encT (t : TableD) : List UInt8 := top6 t ++ [101]
theorem topB_len (j : Nat) : (topB j).size ≤ 24 := by
  match j with
  | 0 | 1 | 2 => decide
  | j + 3 => exact Nat.zero_le 24
theorem len_app {a b : List UInt8} {m n k : Nat} (h : a.length ≤ m) (g : b.length ≤ n) (e : m + n ≤ k) : (a ++ b).length ≤ k := by
  rw [List.length_append]; omega
structure TableD.ok (t : TableD) : Prop where
  places : ∀ j, j < t.len → (t.ps j).fine
  most : t.len ≤ 24
  least : 2 ≤ t.len
  comp : 0 ≤ t.comp ∧ t.comp ≤ 15
  season : 0 ≤ t.season ∧ t.season ≤ 63
theorem top1_len (t : TableD) : (top1 t).length ≤ 32 := len_app (m := 1) (n := 31) (Nat.le_refl 1) (txt_len (topB_len 0)) (by decide)
theorem top2_len {t : TableD} (h : t.ok) : (top2 t).length ≤ 40 := len_app (top1_len t) (encInt_len (by have := h.comp; omega) (by have := h.comp; omega)) (by decide)
theorem top3_len {t : TableD} (h : t.ok) : (top3 t).length ≤ 71 := len_app (top2_len h) (txt_len (topB_len 1)) (by decide)
theorem top4_len {t : TableD} (h : t.ok) : (top4 t).length ≤ 22071 := len_app (top3_len h) (encLi_len h.places h.most) (by decide)
theorem top5_len {t : TableD} (h : t.ok) : (top5 t).length ≤ 22102 := len_app (top4_len h) (txt_len (topB_len 2)) (by decide)
theorem top6_len {t : TableD} (h : t.ok) : (top6 t).length ≤ 22110 := len_app (top5_len h) (encInt_len (by have := h.season; omega) (by have := h.season; omega)) (by decide)
theorem addb {m a b c : Nat} (h1 : m ≤ b) (h : a ≤ c) (e : b + c ≤ 60000) : m + a ≤ 60000 := by omega
theorem addc {m a b c k : Nat} (h1 : m ≤ b) (h : a ≤ c) (e : b + c ≤ k) : m + a ≤ k := by omega
end Go.Ev
namespace Go.Ev
def vCells : List EV := [EV.nilf, EV.func (.func 69) [] [], EV.func (.func 71) [] [], EV.func (.func 73) [] [EV.ptr 0 0], EV.func (.func 74) [] [EV.ptr 0 0]]
def vHeap : Heap := [EObj.var false false [EV.ptr 1 0], EObj.var false false vCells]
def noRow (_ : Nat) : List EV := []
end Go.Ev
namespace Go.Ev
open Go.Proofs.Tryz (prog)
set_option maxRecDepth 100000
set_option maxHeartbeats 0
theorem newWriter_  : SemF prog globs' 41 [] [] (EV.ptr 0 0) [EObj.var false false [EV.nilf, EV.func (Fn.func 69) [] [], EV.func (Fn.func 71) [] [], EV.func (Fn.func 73) [] [EV.ptr 1 0], EV.func (Fn.func 74) [] [EV.ptr 1 0]], EObj.var false false [EV.ptr 0 0]] :=
  semF_ren (modes := pures) (news := news) (n := 60) (fuel := 100000) (F := []) (s := (.mk [] [] [] [] [])) (ow := []) 3 [0, 1] hMixed KOk.nil (by kernel_rfl) (by kernel_rfl) (by kernel_rfl) (by kernel_rfl) .nil
theorem wTop0_ (t : TableD) (h1 : (0 : Nat) ≤ 100) (h2 : (top6 t).length ≤ 22110) (ht : t.ok) : SemF prog globs' 74 [EV.isl false 0 0 fun (i : Nat) => [], EV.agg [EV.int IntKind.i64 4, EV.int IntKind.i64 0, EV.str (ByteArray.mk #[]), EV.isl true 5 3 t.topRow, EV.isl true 1 3 topKey], EV.ptr 0 0] vHeap (EV.ms 2 1 0 (0 + (top6 t).length + 1) none) [EObj.var false false [EV.ptr 1 0], EObj.var false false [EV.nilf, EV.func (Fn.func 69) [] [], EV.func (Fn.func 71) [] [], EV.func (Fn.func 73) [] [EV.ptr 0 0], EV.func (Fn.func 74) [] [EV.ptr 0 0]], EObj.arr false true 1 false (0 + (top6 t).length + 1) (catRow (0 + (top6 t).length) (fun (i : Nat) => [EV.int IntKind.u8 (↑((top6 t).getD (0 + (0 + i - 0)) 0).toNat : Int)]) fun (i : Nat) => [[EV.int IntKind.u8 101]].getD (0 + i) [])] :=
  semF_ren (modes := pures4) (news := news4) (n := 60) (fuel := 100000) (F := []) (s := (.mk [(28, .dec true)] [] [] [some ((EV.ms 1 1 0 7 none, [EObj.dead, EObj.arr false true 1 false 7 (catRow 0 (fun (i : Nat) => []) fun (i : Nat) => [EV.int IntKind.u8 (↑((top1 t).getD (0 + i) 0).toNat : Int)])])), some ((EV.ms 1 1 0 (0 + (top2 t).length) none, [EObj.dead, EObj.arr false true 1 false (0 + (top2 t).length) (catRow 0 (fun (i : Nat) => []) fun (i : Nat) => [EV.int IntKind.u8 (↑((top2 t).getD (0 + i) 0).toNat : Int)])])), some ((EV.ms 1 1 0 (0 + (top3 t).length) none, [EObj.dead, EObj.arr false true 1 false (0 + (top3 t).length) (catRow 0 (fun (i : Nat) => []) fun (i : Nat) => [EV.int IntKind.u8 (↑((top3 t).getD (0 + i) 0).toNat : Int)])])), some ((EV.ms 3 1 0 (0 + (top4 t).length) none, [EObj.dead, EObj.var false false [EV.ptr 2 0], EObj.var false false [EV.nilf, EV.func (Fn.func 69) [] [], EV.func (Fn.func 71) [] [], EV.func (Fn.func 73) [] [EV.ptr 1 0], EV.func (Fn.func 74) [] [EV.ptr 1 0]], EObj.arr false true 1 false (0 + (top4 t).length) (catRow 0 (fun (i : Nat) => []) fun (i : Nat) => [EV.int IntKind.u8 (↑((top4 t).getD (0 + i) 0).toNat : Int)])])), some ((EV.ms 1 1 0 (0 + (top5 t).length) none, [EObj.dead, EObj.arr false true 1 false (0 + (top5 t).length) (catRow 0 (fun (i : Nat) => []) fun (i : Nat) => [EV.int IntKind.u8 (↑((top5 t).getD (0 + i) 0).toNat : Int)])])), some ((EV.ms 1 1 0 (0 + (top6 t).length) none, [EObj.dead, EObj.arr false true 1 false (0 + (top6 t).length) (catRow 0 (fun (i : Nat) => []) fun (i : Nat) => [EV.int IntKind.u8 (↑((top6 t).getD (0 + i) 0).toNat : Int)])]))] [])) (ow := [(Decidable.decide ((0 + (top6 t).length + 1) * 1 ≤ 70368744177664) && Decidable.decide (0 + (top6 t).length + 1 < 4611686018427387904)) = true, SemF prog globs' 69 [EV.ms 0 1 0 (0 + (top5 t).length) none, EV.agg [EV.int IntKind.i64 1, EV.int IntKind.i64 t.season, EV.str (ByteArray.mk #[]), EV.isl false 0 0 fun (i : Nat) => [], EV.isl false 0 0 fun (i : Nat) => []]] [EObj.arr false true 1 false (0 + (top5 t).length) (catRow 0 (fun (i : Nat) => []) fun (i : Nat) => [EV.int IntKind.u8 (↑((top5 t).getD (0 + i) 0).toNat : Int)])] (EV.ms 1 1 0 (0 + (top6 t).length) none) [EObj.dead, EObj.arr false true 1 false (0 + (top6 t).length) (catRow 0 (fun (i : Nat) => []) fun (i : Nat) => [EV.int IntKind.u8 (↑((top6 t).getD (0 + i) 0).toNat : Int)])], SemF prog globs' 72 [EV.ms 0 1 0 (0 + (top4 t).length) none, EV.str (ByteArray.mk #[115, 101, 97, 115, 111, 110])] [EObj.arr false true 1 false (0 + (top4 t).length) (catRow 0 (fun (i : Nat) => []) fun (i : Nat) => [EV.int IntKind.u8 (↑((top4 t).getD (0 + i) 0).toNat : Int)])] (EV.ms 1 1 0 (0 + (top5 t).length) none) [EObj.dead, EObj.arr false true 1 false (0 + (top5 t).length) (catRow 0 (fun (i : Nat) => []) fun (i : Nat) => [EV.int IntKind.u8 (↑((top5 t).getD (0 + i) 0).toNat : Int)])], SemF prog globs' 73 [EV.ms 0 1 0 (0 + (top3 t).length) none, EV.agg [EV.int IntKind.i64 3, EV.int IntKind.i64 0, EV.str (ByteArray.mk #[]), EV.isl true 5 t.len fun (i : Nat) => [EV.int IntKind.i64 4, EV.int IntKind.i64 0, EV.str (ByteArray.mk #[]), EV.isl true 5 14 (placeRow (t.ps i)), EV.isl true 1 14 keyRow], EV.isl false 0 0 fun (i : Nat) => []], EV.ptr 1 0] [EObj.arr false true 1 false (0 + (top3 t).length) (catRow 0 (fun (i : Nat) => []) fun (i : Nat) => [EV.int IntKind.u8 (↑((top3 t).getD (0 + i) 0).toNat : Int)]), EObj.var false false [EV.ptr 2 0], EObj.var false false [EV.nilf, EV.func (Fn.func 69) [] [], EV.func (Fn.func 71) [] [], EV.func (Fn.func 73) [] [EV.ptr 1 0], EV.func (Fn.func 74) [] [EV.ptr 1 0]]] (EV.ms 3 1 0 (0 + (top4 t).length) none) [EObj.dead, EObj.var false false [EV.ptr 2 0], EObj.var false false [EV.nilf, EV.func (Fn.func 69) [] [], EV.func (Fn.func 71) [] [], EV.func (Fn.func 73) [] [EV.ptr 1 0], EV.func (Fn.func 74) [] [EV.ptr 1 0]], EObj.arr false true 1 false (0 + (top4 t).length) (catRow 0 (fun (i : Nat) => []) fun (i : Nat) => [EV.int IntKind.u8 (↑((top4 t).getD (0 + i) 0).toNat : Int)])], SemF prog globs' 72 [EV.ms 0 1 0 (0 + (top2 t).length) none, EV.str (ByteArray.mk #[112, 108, 97, 99, 101, 115])] [EObj.arr false true 1 false (0 + (top2 t).length) (catRow 0 (fun (i : Nat) => []) fun (i : Nat) => [EV.int IntKind.u8 (↑((top2 t).getD (0 + i) 0).toNat : Int)])] (EV.ms 1 1 0 (0 + (top3 t).length) none) [EObj.dead, EObj.arr false true 1 false (0 + (top3 t).length) (catRow 0 (fun (i : Nat) => []) fun (i : Nat) => [EV.int IntKind.u8 (↑((top3 t).getD (0 + i) 0).toNat : Int)])], SemF prog globs' 69 [EV.ms 0 1 0 7 none, EV.agg [EV.int IntKind.i64 1, EV.int IntKind.i64 t.comp, EV.str (ByteArray.mk #[]), EV.isl false 0 0 fun (i : Nat) => [], EV.isl false 0 0 fun (i : Nat) => []]] [EObj.arr false true 1 false 7 (catRow 0 (fun (i : Nat) => []) fun (i : Nat) => [EV.int IntKind.u8 (↑((top1 t).getD (0 + i) 0).toNat : Int)])] (EV.ms 1 1 0 (0 + (top2 t).length) none) [EObj.dead, EObj.arr false true 1 false (0 + (top2 t).length) (catRow 0 (fun (i : Nat) => []) fun (i : Nat) => [EV.int IntKind.u8 (↑((top2 t).getD (0 + i) 0).toNat : Int)])], SemF prog globs' 72 [EV.ms 0 1 0 1 none, EV.str (ByteArray.mk #[99, 111, 109, 112])] [EObj.arr false true 1 false 1 fun (i : Nat) => [[EV.int IntKind.u8 100]].getD (0 + i) []] (EV.ms 1 1 0 7 none) [EObj.dead, EObj.arr false true 1 false 7 (catRow 0 (fun (i : Nat) => []) fun (i : Nat) => [EV.int IntKind.u8 (↑((top1 t).getD (0 + i) 0).toNat : Int)])]]) 7 [0, 1, 27] hMixed KOk.nil (by kernel_rfl) (by kernel_rfl) (by kernel_rfl) (by kernel_rfl) (.cons (by simp_all [inB] <;> omega) (.cons (Appends.on (w := noRow) (X := top5 t) (wInt t.season _ _ (by have := ht.season; omega) (by have := ht.season; omega) (addc h1 (top5_len ht) (by decide))) rowSame) (.cons (Appends.on (w := noRow) (X := top4 t) (text72 (topB 2) _ _ (addc h1 (top4_len ht) (by decide)) (topB_len 2)) rowSame) (.cons (wListOn t 0 noRow (top3 t) (addc h1 (top3_len ht) (by decide)) ht.places ht.most ht.least) (.cons (Appends.on (w := noRow) (X := top2 t) (text72 (topB 1) _ _ (addc h1 (top2_len ht) (by decide)) (topB_len 1)) rowSame) (.cons (Appends.on (w := noRow) (X := top1 t) (wInt t.comp _ _ (by have := ht.comp; omega) (by have := ht.comp; omega) (addc h1 (top1_len t) (by decide))) rowSame) (.cons (Appends.on (w := noRow) (X := top0 t) (text72 (topB 0) _ _ (addc h1 (Nat.le_refl 1) (by decide)) (topB_len 0)) (rowApp (X := []) rowBase rfl (oneB 100))) .nil)))))))
end Go.Ev
namespace Go.Ev
open Go.Proofs.Tryz (prog)
theorem app0 (X : List UInt8) : 0 + X.length + 1 = (X ++ [101]).length := by rw [List.length_append, Nat.zero_add]; rfl
theorem wTop0 (t : TableD) (ht : t.ok) : SemF prog globs' 74 [EV.isl false 0 0 fun _ => [], EV.agg t.val, EV.ptr 0 0] vHeap (EV.ms 2 1 0 (encT t).length none) [EObj.var false false [EV.ptr 1 0], EObj.var false false vCells, bObj (encT t)] := by
  have := wTop0_ t (by decide) (top6_len ht) ht
  rw [app0 (top6 t)] at this
  refine SemF.weaken (VLes.refl _) (HLe.refl _) this (VLe.refl _) (.cons (OLe.refl _) (.cons (OLe.refl _) (.cons (OLe.arr fun j hj => ?_) .nil)))
  show (if j < 0 + (top6 t).length then [EV.int IntKind.u8 (((top6 t).getD (0 + (0 + j - 0)) 0).toNat : Int)] else [[EV.int IntKind.u8 101]].getD (0 + (j - (0 + (top6 t).length))) []) = bRow (top6 t ++ [101]) j
  unfold bRow
  by_cases h : j < (top6 t).length
  · rw [if_pos (by omega)]
    rw [show 0 + (0 + j - 0) = j from by omega, List.getD_eq_getElem?_getD, List.getD_eq_getElem?_getD, List.getElem?_append_left h]
  · have e : (top6 t ++ [101]).length = (top6 t).length + 1 := by rw [List.length_append]; rfl
    have hj' : j < (top6 t).length + 1 := by rw [← e]; exact hj
    rw [if_neg (by omega)]
    generalize (top6 t) = X at *
    obtain rfl : j = X.length := by omega
    rw [Nat.zero_add, Nat.zero_add, Nat.sub_self, List.getD_eq_getElem?_getD, List.getD_eq_getElem?_getD, List.getElem?_append_right (Nat.le_refl _), Nat.sub_self]
    rfl
end Go.Ev
namespace Go.Ev
open Go.Proofs.Tryz (prog)
set_option maxRecDepth 100000
set_option maxHeartbeats 0
theorem codecEncode (t : TableD) (ht : t.ok) : SemP prog globs' 19 [EV.agg [EV.int IntKind.i64 4, EV.int IntKind.i64 0, EV.str (ByteArray.mk #[]), EV.isl true 5 3 t.topRow, EV.isl true 1 3 topKey]] (EV.tuple [EV.isl true 1 (encT t).length fun (i : Nat) => [EV.int IntKind.u8 (↑((encT t).getD (0 + i) 0).toNat : Int)], EV.int IntKind.i64 0]) :=
  semP_fork (modes := pures4) (news := news4) (n := 60) (fuel := 100000) (F := []) (s := (.mk [] [] [some (EV.int IntKind.i64 0)] [some ((EV.ptr 0 0, [EObj.var false false [EV.nilf, EV.func (Fn.func 69) [] [], EV.func (Fn.func 71) [] [], EV.func (Fn.func 73) [] [EV.ptr 1 0], EV.func (Fn.func 74) [] [EV.ptr 1 0]], EObj.var false false [EV.ptr 0 0]])), some ((EV.ms 2 1 0 (encT t).length none, [EObj.var false false [EV.ptr 1 0], EObj.var false false [EV.nilf, EV.func (Fn.func 69) [] [], EV.func (Fn.func 71) [] [], EV.func (Fn.func 73) [] [EV.ptr 0 0], EV.func (Fn.func 74) [] [EV.ptr 0 0]], EObj.arr false true 1 false (encT t).length fun (i : Nat) => [EV.int IntKind.u8 (↑((encT t).getD i 0).toNat : Int)]]))] [])) (ow := [SemF prog globs' 74 [EV.isl false 0 0 fun (i : Nat) => [], EV.agg [EV.int IntKind.i64 4, EV.int IntKind.i64 0, EV.str (ByteArray.mk #[]), EV.isl true 5 3 t.topRow, EV.isl true 1 3 topKey], EV.ptr 0 0] [EObj.var false false [EV.ptr 1 0], EObj.var false false [EV.nilf, EV.func (Fn.func 69) [] [], EV.func (Fn.func 71) [] [], EV.func (Fn.func 73) [] [EV.ptr 0 0], EV.func (Fn.func 74) [] [EV.ptr 0 0]]] (EV.ms 2 1 0 (encT t).length none) [EObj.var false false [EV.ptr 1 0], EObj.var false false [EV.nilf, EV.func (Fn.func 69) [] [], EV.func (Fn.func 71) [] [], EV.func (Fn.func 73) [] [EV.ptr 0 0], EV.func (Fn.func 74) [] [EV.ptr 0 0]], EObj.arr false true 1 false (encT t).length fun (i : Nat) => [EV.int IntKind.u8 (↑((encT t).getD i 0).toNat : Int)]], SemF prog globs' 41 [] [] (EV.ptr 0 0) [EObj.var false false [EV.nilf, EV.func (Fn.func 69) [] [], EV.func (Fn.func 71) [] [], EV.func (Fn.func 73) [] [EV.ptr 1 0], EV.func (Fn.func 74) [] [EV.ptr 1 0]], EObj.var false false [EV.ptr 0 0]], SemP prog globs' 40 [EV.agg [EV.int IntKind.i64 4, EV.int IntKind.i64 0, EV.str (ByteArray.mk #[]), EV.isl true 5 3 t.topRow, EV.isl true 1 3 topKey]] (EV.int IntKind.i64 0)]) hMixed KOk.nil (by kernel_rfl) (by kernel_rfl) (by kernel_rfl) (.cons (wTop0 t ht) (.cons newWriter_ (.cons (check40 t ht.most ht.least) .nil)))
end Go.Ev
namespace Go.Ev
open Go.Proofs.Tryz (prog)
theorem codecEnc (t : TableD) (ht : t.ok) : SemP prog globs' 19 [EV.agg t.val] (EV.tuple [EV.isl true 1 (encT t).length (bRow (encT t)), EV.int IntKind.i64 0]) := by
  refine (codecEncode t ht).res (BLe.tuple (xs := [EV.isl true 1 (encT t).length (fun (i : Nat) => [EV.int IntKind.u8 (((encT t).getD (0 + i) 0).toNat : Int)]), EV.int IntKind.i64 0]) (ys := [EV.isl true 1 (encT t).length (bRow (encT t)), EV.int IntKind.i64 0]) rfl fun i h1 h2 => ?_).p
  match i, h1 with
  | 0, _ => exact BLe.isl fun j hj => by show _ = bRow (encT t) j; unfold bRow; rw [Nat.zero_add]
  | 1, _ => exact BLe.refl _
theorem check_ok (t : TableD) (hk : t.okT = true) : SemP prog globs' 8 [t.ev] (EV.int IntKind.i64 0) := by
  have := check_sem t
  rwa [hk] at this
theorem check_bad (t : TableD) (hk : t.okT = false) : SemP prog globs' 8 [t.ev] (EV.int IntKind.i64 1) := by
  have := check_sem t
  rwa [hk] at this
end Go.Ev
namespace Go.Ev
open Go.Proofs.Tryz (prog)
theorem dictTop (t : TableD) : SemP prog globs' 17 [EV.isl true 1 3 fun (i : Nat) => [[EV.str (ByteArray.mk #[99, 111, 109, 112])], [EV.str (ByteArray.mk #[112, 108, 97, 99, 101, 115])], [EV.str (ByteArray.mk #[115, 101, 97, 115, 111, 110])]].getD (0 + i) [],
    EV.isl true 5 3 fun (i : Nat) => [valInt t.comp, [EV.int IntKind.i64 3, EV.int IntKind.i64 0, EV.str (ByteArray.mk #[]), EV.isl true 5 t.len fun (i : Nat) => t.row (0 + i), EV.isl false 0 0 fun (i : Nat) => []], valInt t.season].getD i []] (.agg t.val) := by
  have e : (fun (i : Nat) => t.row (0 + i)) = t.row := funext fun i => by rw [Nat.zero_add]
  rw [e]
  refine (dict_ _ _ _ _).res (BLs.agg (.cons (BLe.refl _) (.cons (BLe.refl _) (.cons (BLe.refl _) (.cons (BLe.isl fun j hj => ?_) (.cons (BLe.isl fun j hj => ?_) .nil)))))).p
  · match j, hj with
    | 0, _ => rfl
    | 1, _ => rfl
    | 2, _ => rfl
  · match j, hj with
    | 0, _ => rfl
    | 1, _ => rfl
    | 2, _ => rfl
end Go.Ev
namespace Go.Ev
open Go.Proofs.Tryz (prog)
set_option maxRecDepth 100000
set_option maxHeartbeats 0
theorem tableEncode1 (t : TableD) (ht : t.ok) (hk : t.okT = true) : SemP prog globs' 6 [EV.agg [EV.int IntKind.i64 t.season, EV.int IntKind.i64 t.comp, EV.isl t.nn 14 t.len fun (i : Nat) => (t.ps i).cells]] (EV.tuple [EV.isl true 1 (encT t).length fun (i : Nat) => [EV.int IntKind.u8 (↑((encT t).getD i 0).toNat : Int)], EV.int IntKind.i64 0]) :=
  semP_fork (modes := pures) (news := news) (n := 60) (fuel := 100000) (F := []) (s := (.mk [] [(15, .is 1835054 3 (EX.leave 0, (frame 66 [(1, EV.ptr 0 0), (2, EV.isl false 0 0 fun (i : Nat) => []), (3, EV.int IntKind.i64 0), (5, EV.ptr 1 0)]), [EObj.var false true [EV.int IntKind.i64 t.season, EV.int IntKind.i64 t.comp, EV.isl t.nn 14 t.len fun (i : Nat) => (t.ps i).cells], EObj.var false false [EV.int IntKind.i64 3, EV.int IntKind.i64 0, EV.str (ByteArray.mk #[]), EV.ms 2 5 0 t.len none, EV.isl false 0 0 fun (i : Nat) => []], EObj.arr false true 5 false t.len fun (i : Nat) => [EV.int IntKind.i64 4, EV.int IntKind.i64 0, EV.str (ByteArray.mk #[]), EV.isl true 5 14 (placeRow (t.ps i)), EV.isl true 1 14 keyRow]]))] [some (EV.int IntKind.i64 0), some (EV.agg [EV.int IntKind.i64 1, EV.int IntKind.i64 t.comp, EV.str (ByteArray.mk #[]), EV.isl false 0 0 fun (i : Nat) => [], EV.isl false 0 0 fun (i : Nat) => []]), some (EV.agg [EV.int IntKind.i64 1, EV.int IntKind.i64 t.season, EV.str (ByteArray.mk #[]), EV.isl false 0 0 fun (i : Nat) => [], EV.isl false 0 0 fun (i : Nat) => []]), some (EV.agg [EV.int IntKind.i64 4, EV.int IntKind.i64 0, EV.str (ByteArray.mk #[]), EV.isl true 5 3 t.topRow, EV.isl true 1 3 topKey]), some (EV.tuple [EV.isl true 1 (encT t).length fun (i : Nat) => [EV.int IntKind.u8 (↑((encT t).getD i 0).toNat : Int)], EV.int IntKind.i64 0])] [] [])) (ow := [SemP prog globs' 19 [EV.agg [EV.int IntKind.i64 4, EV.int IntKind.i64 0, EV.str (ByteArray.mk #[]), EV.isl true 5 3 t.topRow, EV.isl true 1 3 topKey]] (EV.tuple [EV.isl true 1 (encT t).length fun (i : Nat) => [EV.int IntKind.u8 (↑((encT t).getD i 0).toNat : Int)], EV.int IntKind.i64 0]), SemP prog globs' 17 [EV.isl true 1 3 fun (i : Nat) => [[EV.str (ByteArray.mk #[99, 111, 109, 112])], [EV.str (ByteArray.mk #[112, 108, 97, 99, 101, 115])], [EV.str (ByteArray.mk #[115, 101, 97, 115, 111, 110])]].getD (0 + i) [], EV.isl true 5 3 fun (i : Nat) => [[EV.int IntKind.i64 1, EV.int IntKind.i64 t.comp, EV.str (ByteArray.mk #[]), EV.isl false 0 0 fun (i : Nat) => [], EV.isl false 0 0 fun (i : Nat) => []], [EV.int IntKind.i64 3, EV.int IntKind.i64 0, EV.str (ByteArray.mk #[]), EV.isl true 5 t.len fun (i : Nat) => [EV.int IntKind.i64 4, EV.int IntKind.i64 0, EV.str (ByteArray.mk #[]), EV.isl true 5 14 (placeRow (t.ps (0 + i))), EV.isl true 1 14 keyRow], EV.isl false 0 0 fun (i : Nat) => []], [EV.int IntKind.i64 1, EV.int IntKind.i64 t.season, EV.str (ByteArray.mk #[]), EV.isl false 0 0 fun (i : Nat) => [], EV.isl false 0 0 fun (i : Nat) => []]].getD i []] (EV.agg [EV.int IntKind.i64 4, EV.int IntKind.i64 0, EV.str (ByteArray.mk #[]), EV.isl true 5 3 t.topRow, EV.isl true 1 3 topKey]), SemP prog globs' 16 [EV.int IntKind.i64 t.season] (EV.agg [EV.int IntKind.i64 1, EV.int IntKind.i64 t.season, EV.str (ByteArray.mk #[]), EV.isl false 0 0 fun (i : Nat) => [], EV.isl false 0 0 fun (i : Nat) => []]), SemP prog globs' 16 [EV.int IntKind.i64 t.comp] (EV.agg [EV.int IntKind.i64 1, EV.int IntKind.i64 t.comp, EV.str (ByteArray.mk #[]), EV.isl false 0 0 fun (i : Nat) => [], EV.isl false 0 0 fun (i : Nat) => []]), SemCL prog globs' false (cB (cR (cL (cR (cR (cR (bodyOf prog 6))))))) (frame 66 [(1, EV.ptr 0 0), (2, EV.isl false 0 0 fun (i : Nat) => []), (3, EV.int IntKind.i64 0), (5, EV.ptr 1 0), (18, EV.isl t.nn 14 t.len fun (i : Nat) => (t.ps i).cells), (19, EV.int IntKind.i64 (↑t.len : Int)), (20, EV.int IntKind.i64 0)]) [EObj.var false true [EV.int IntKind.i64 t.season, EV.int IntKind.i64 t.comp, EV.isl t.nn 14 t.len fun (i : Nat) => (t.ps i).cells], EObj.var false true [EV.int IntKind.i64 3, EV.int IntKind.i64 0, EV.str (ByteArray.mk #[]), EV.isl false 0 0 fun (i : Nat) => [], EV.isl false 0 0 fun (i : Nat) => []]] (EX.leave 0, (frame 66 [(1, EV.ptr 0 0), (2, EV.isl false 0 0 fun (i : Nat) => []), (3, EV.int IntKind.i64 0), (5, EV.ptr 1 0)]), [EObj.var false true [EV.int IntKind.i64 t.season, EV.int IntKind.i64 t.comp, EV.isl t.nn 14 t.len fun (i : Nat) => (t.ps i).cells], EObj.var false false [EV.int IntKind.i64 3, EV.int IntKind.i64 0, EV.str (ByteArray.mk #[]), EV.ms 2 5 0 t.len none, EV.isl false 0 0 fun (i : Nat) => []], EObj.arr false true 5 false t.len fun (i : Nat) => [EV.int IntKind.i64 4, EV.int IntKind.i64 0, EV.str (ByteArray.mk #[]), EV.isl true 5 14 (placeRow (t.ps i)), EV.isl true 1 14 keyRow]]), SemP prog globs' 8 [EV.agg [EV.int IntKind.i64 t.season, EV.int IntKind.i64 t.comp, EV.isl t.nn 14 t.len fun (i : Nat) => (t.ps i).cells]] (EV.int IntKind.i64 0)]) hMixed KOk.nil (by kernel_rfl) (by kernel_rfl) (by kernel_rfl) (.cons (codecEnc t ht) (.cons (dictTop t) (.cons (number_ _) (.cons (number_ _) (.cons (encC t ht.most (by have := ht.least; omega)) (.cons (check_ok t hk) .nil))))))
theorem tableEncode0 (t : TableD) (hk : t.okT = false) : SemP prog globs' 6 [EV.agg [EV.int IntKind.i64 t.season, EV.int IntKind.i64 t.comp, EV.isl t.nn 14 t.len fun (i : Nat) => (t.ps i).cells]] (EV.tuple [EV.isl false 0 0 fun (i : Nat) => [], EV.int IntKind.i64 1]) :=
  semP_fork (modes := pures) (news := news) (n := 60) (fuel := 100000) (F := []) (s := (.mk [] [] [some (EV.int IntKind.i64 1)] [] [])) (ow := [SemP prog globs' 8 [EV.agg [EV.int IntKind.i64 t.season, EV.int IntKind.i64 t.comp, EV.isl t.nn 14 t.len fun (i : Nat) => (t.ps i).cells]] (EV.int IntKind.i64 1)]) hMixed KOk.nil (by kernel_rfl) (by kernel_rfl) (by kernel_rfl) (.cons (check_bad t hk) .nil)
end Go.Ev
namespace Go.Ev
theorem cut_eq {p : UInt8 → Prop} {c : UInt8} (hc : ¬ p c) : ∀ (a b x y : List UInt8), (∀ z ∈ a, p z) → (∀ z ∈ b, p z) → a ++ c :: x = b ++ c :: y → a = b ∧ x = y
  | [], [], x, y, _, _, h => by simpa using h
  | [], z :: b, x, y, _, hb, h => by
    simp only [List.nil_append, List.cons_append, List.cons.injEq] at h
    exact absurd (h.1 ▸ hb z (by simp)) hc
  | z :: a, [], x, y, ha, _, h => by
    simp only [List.nil_append, List.cons_append, List.cons.injEq] at h
    exact absurd (h.1 ▸ ha z (by simp)) hc
  | z :: a, z' :: b, x, y, ha, hb, h => by
    simp only [List.cons_append, List.cons.injEq] at h
    obtain ⟨h1, h2⟩ := cut_eq hc a b x y (fun u hu => ha u (by simp [hu])) (fun u hu => hb u (by simp [hu])) h.2
    exact ⟨by rw [h.1, h1], h2⟩
def isDig (b : UInt8) : Prop := 48 ≤ b.toNat ∧ b.toNat ≤ 57
theorem dig_nat {u : Nat} (h : u < 10) : (UInt8.ofNat (48 + u)).toNat = 48 + u := by
  rw [UInt8.toNat_ofNat']; omega
theorem decF_dig : ∀ (f u : Nat), ∀ z ∈ decF f u, isDig z
  | 0, _ => by simp [decF]
  | f + 1, u => by
    intro z hz
    unfold decF at hz
    split at hz
    · rename_i h
      simp only [List.mem_singleton] at hz
      subst hz
      unfold isDig
      rw [dig_nat h]; omega
    · rw [List.mem_append, List.mem_singleton] at hz
      rcases hz with hz | hz
      · exact decF_dig f _ z hz
      · subst hz
        unfold isDig
        rw [dig_nat (Nat.mod_lt _ (by omega))]; omega
theorem decU_dig (u : Nat) : ∀ z ∈ decU u, isDig z := decF_dig 20 u
theorem decU_ne (u : Nat) : decU u ≠ [] := by
  unfold decU decF
  split <;> simp
theorem decU_inj : ∀ (n u v : Nat), u < 10 ^ n → u < 100000 → v < 100000 → decU u = decU v → u = v
  | 0, u, v, h, _, hv, e => by
    obtain rfl : u = 0 := by omega
    by_cases b : v < 10
    · rw [decU_one (by omega), decU_one b] at e
      have := congrArg (fun l : List UInt8 => (l.getD 0 0).toNat) e
      simp only [List.getD_cons_zero] at this
      rw [dig_nat (by omega), dig_nat b] at this
      omega
    · rw [decU_one (by omega), decU_step (u := v) (by omega) (by omega)] at e
      have := congrArg List.length e
      simp only [List.length_append, List.length_cons, List.length_nil] at this
      exact absurd (List.eq_nil_of_length_eq_zero (by omega)) (decU_ne (v / 10))
  | n + 1, u, v, h, hu, hv, e => by
    by_cases a : u < 10
    · by_cases b : v < 10
      · rw [decU_one a, decU_one b] at e
        have := congrArg (fun l : List UInt8 => (l.getD 0 0).toNat) e
        simp only [List.getD_cons_zero] at this
        rw [dig_nat a, dig_nat b] at this
        omega
      · rw [decU_one a, decU_step (u := v) (by omega) (by omega)] at e
        have := congrArg List.length e
        simp only [List.length_append, List.length_cons, List.length_nil] at this
        exact absurd (List.eq_nil_of_length_eq_zero (by omega)) (decU_ne (v / 10))
    · by_cases b : v < 10
      · rw [decU_one b, decU_step (u := u) (by omega) (by omega)] at e
        have := congrArg List.length e
        simp only [List.length_append, List.length_cons, List.length_nil] at this
        exact absurd (List.eq_nil_of_length_eq_zero (by omega)) (decU_ne (u / 10))
      · rw [decU_step (u := u) (by omega) (by omega), decU_step (u := v) (by omega) (by omega)] at e
        obtain ⟨e1, e2⟩ := List.append_inj' e rfl
        have h1 := decU_inj n (u / 10) (v / 10) (by rw [Nat.pow_succ] at h; omega) (by omega) (by omega) e1
        have := congrArg (fun l : List UInt8 => (l.getD 0 0).toNat) e2
        simp only [List.getD_cons_zero] at this
        rw [dig_nat (Nat.mod_lt _ (by omega)), dig_nat (Nat.mod_lt _ (by omega))] at this
        omega
theorem dec_sig (n : Int) : ∀ z ∈ dec n, z = 45 ∨ isDig z := by
  intro z hz
  unfold dec at hz
  split at hz
  · rw [List.mem_cons] at hz
    exact hz.imp id (decU_dig _ z)
  · exact .inr (decU_dig _ z hz)
theorem not45 : ¬ isDig 45 := by unfold isDig; decide
theorem dec_inj {n m : Int} (h1 : -100000 < n) (h2 : n < 100000) (g1 : -100000 < m) (g2 : m < 100000) (e : dec n = dec m) : n = m := by
  unfold dec at e
  split at e <;> split at e
  · simp only [List.cons.injEq, true_and] at e
    have := decU_inj 5 _ _ (by omega) (by omega) (by omega) e
    omega
  · have := decU_dig m.toNat 45 (by rw [← e]; simp)
    exact absurd this not45
  · have := decU_dig n.toNat 45 (by rw [e]; simp)
    exact absurd this not45
  · have := decU_inj 5 _ _ (by omega) (by omega) (by omega) e
    omega
theorem encInt_cut {n m : Int} {x y : List UInt8} (h1 : -100000 < n) (h2 : n < 100000) (g1 : -100000 < m) (g2 : m < 100000) (e : encInt n ++ x = encInt m ++ y) : n = m ∧ x = y := by
  unfold encInt at e
  simp only [List.cons_append, List.append_assoc, List.nil_append, List.cons.injEq, true_and] at e
  obtain ⟨e1, e2⟩ := cut_eq (p := fun z => z = 45 ∨ isDig z) (c := 101) (by unfold isDig; decide) _ _ _ _ (dec_sig n) (dec_sig m) e
  exact ⟨dec_inj h1 h2 g1 g2 e1, e2⟩
theorem txt_cut {s u : ByteArray} {x y : List UInt8} (hs : s.size ≤ 24) (hu : u.size ≤ 24) (e : txt s ++ x = txt u ++ y) : s = u ∧ x = y := by
  unfold txt at e
  simp only [List.cons_append, List.append_assoc] at e
  obtain ⟨e1, e2⟩ := cut_eq (p := isDig) (c := 58) (by unfold isDig; decide) _ _ _ _ (decU_dig _) (decU_dig _) e
  have hl := decU_inj 5 _ _ (by omega) (by omega) (by omega) e1
  obtain ⟨e3, e4⟩ := List.append_inj e2 (show s.data.toList.length = u.data.toList.length from hl)
  refine ⟨?_, e4⟩
  apply ByteArray.ext
  exact Array.toList_inj.1 e3
def samePart (p q : PlaceD) (j : Nat) : Prop := if j < 13 then p.nums.getD j 0 = q.nums.getD j 0 else p.zone = q.zone
theorem encPart_cut {p q : PlaceD} (hp : p.fine) (hq : q.fine) : ∀ (j : Nat) (x y : List UInt8), encPart p j ++ x = encPart q j ++ y → (∀ i, i < j → samePart p q i) ∧ x = y
  | 0, x, y, e => by
    simp only [encPart, List.cons_append, List.nil_append, List.cons.injEq, true_and] at e
    exact ⟨fun i h => by omega, e⟩
  | j + 1, x, y, e => by
    simp only [encPart, List.append_assoc] at e
    obtain ⟨h1, h2⟩ := encPart_cut hp hq j _ _ e
    obtain ⟨_, h3⟩ := txt_cut (key_len j) (key_len j) h2
    have h4 : samePart p q j ∧ x = y := by
      unfold samePart
      by_cases a : j < 13
      · rw [if_pos a, if_pos a] at h3
        rw [if_pos a]
        exact encInt_cut (hp.1 j).1 (hp.1 j).2 (hq.1 j).1 (hq.1 j).2 h3
      · rw [if_neg a, if_neg a] at h3
        rw [if_neg a]
        exact txt_cut hp.2 hq.2 h3
    refine ⟨fun i hi => ?_, h4.2⟩
    by_cases a : i = j
    · rw [a]; exact h4.1
    · exact h1 i (by omega)
theorem place_eq {p q : PlaceD} (h : ∀ i, i < 14 → samePart p q i) : p = q := by
  have g (i : Nat) (hi : i < 13) : p.nums.getD i 0 = q.nums.getD i 0 := by have := h i (by omega); unfold samePart at this; rwa [if_pos hi] at this
  have hz : p.zone = q.zone := by have := h 13 (by omega); unfold samePart at this; rwa [if_neg (by omega)] at this
  obtain ⟨a1, a2, a3, ⟨b1, b2, b3, b4, b5, b6, b7, b8, b9, b10, b11⟩⟩ := p
  obtain ⟨c1, c2, c3, ⟨d1, d2, d3, d4, d5, d6, d7, d8, d9, d10, d11⟩⟩ := q
  have e0 : b7 = d7 := g 0 (by omega)
  have e1 : b8 = d8 := g 1 (by omega)
  have e2 : b9 = d9 := g 2 (by omega)
  have e3 : a2 = c2 := g 3 (by omega)
  have e4 : b10 = d10 := g 4 (by omega)
  have e5 : b1 = d1 := g 5 (by omega)
  have e6 : b4 = d4 := g 6 (by omega)
  have e7 : b6 = d6 := g 7 (by omega)
  have e8 : b5 = d5 := g 8 (by omega)
  have e9 : b2 = d2 := g 9 (by omega)
  have e10 : b11 = d11 := g 10 (by omega)
  have e11 : a1 = c1 := g 11 (by omega)
  have e12 : b3 = d3 := g 12 (by omega)
  have hz : a3 = c3 := hz
  subst e0 e1 e2 e3 e4 e5 e6 e7 e8 e9 e10 e11 e12 hz
  rfl
theorem encPl_cut {p q : PlaceD} (hp : p.fine) (hq : q.fine) {x y : List UInt8} (e : encPl p ++ x = encPl q ++ y) : p = q ∧ x = y := by
  unfold encPl at e
  simp only [List.append_assoc] at e
  obtain ⟨h1, h2⟩ := encPart_cut hp hq 14 _ _ e
  simp only [List.cons_append, List.nil_append, List.cons.injEq, true_and] at h2
  exact ⟨place_eq h1, h2⟩
theorem encLs_cut {t u : TableD} : ∀ (j : Nat) (x y : List UInt8), (∀ i, i < j → (t.ps i).fine) → (∀ i, i < j → (u.ps i).fine) → encLs t j ++ x = encLs u j ++ y → (∀ i, i < j → t.ps i = u.ps i) ∧ x = y
  | 0, x, y, _, _, e => by
    simp only [encLs, List.cons_append, List.nil_append, List.cons.injEq, true_and] at e
    exact ⟨fun i h => by omega, e⟩
  | j + 1, x, y, ht, hu, e => by
    simp only [encLs, List.append_assoc] at e
    obtain ⟨h1, h2⟩ := encLs_cut j _ _ (fun i h => ht i (by omega)) (fun i h => hu i (by omega)) e
    obtain ⟨h3, h4⟩ := encPl_cut (ht j (by omega)) (hu j (by omega)) h2
    refine ⟨fun i hi => ?_, h4⟩
    by_cases a : i = j
    · rw [a]; exact h3
    · exact h1 i (by omega)
def encFrom (t : TableD) (n : Nat) : Nat → List UInt8
  | 0 => []
  | k + 1 => encFrom t n k ++ encPl (t.ps (n + k))
theorem encLs_add (t : TableD) (n : Nat) : ∀ k, encLs t (n + k) = encLs t n ++ encFrom t n k
  | 0 => by simp [encFrom]
  | k + 1 => by
    show encLs t (n + k) ++ encPl (t.ps (n + k)) = _
    rw [encLs_add t n k, encFrom, List.append_assoc]
theorem encPart_head (p : PlaceD) : ∀ j, ∃ r, encPart p j = 100 :: r
  | 0 => ⟨[], rfl⟩
  | j + 1 => by
    obtain ⟨r, hr⟩ := encPart_head p j
    exact ⟨r ++ txt (keyB j) ++ (if j < 13 then encInt (p.nums.getD j 0) else txt p.zone), by rw [encPart, hr]; rfl⟩
theorem encFrom_head (t : TableD) (n : Nat) : ∀ k, 0 < k → ∃ r, encFrom t n k = 100 :: r
  | 1, _ => by
    obtain ⟨r, hr⟩ := encPart_head (t.ps (n + 0)) 14
    exact ⟨r ++ [101], by show [] ++ (encPart (t.ps (n + 0)) 14 ++ [101]) = _; rw [hr]; rfl⟩
  | k + 2, _ => by
    obtain ⟨r, hr⟩ := encFrom_head t n (k + 1) (by omega)
    exact ⟨r ++ encPl (t.ps (n + (k + 1))), by rw [encFrom, hr]; rfl⟩
theorem encLi_le {t u : TableD} (ht : ∀ i, i < t.len → (t.ps i).fine) (hu : ∀ i, i < u.len → (u.ps i).fine) {x y : List UInt8} (hle : t.len ≤ u.len) (e : encLs t t.len ++ 101 :: x = encLs u u.len ++ 101 :: y) :
    t.len = u.len ∧ (∀ i, i < t.len → t.ps i = u.ps i) ∧ x = y := by
  obtain ⟨k, hk⟩ := Nat.exists_eq_add_of_le hle
  rw [hk, encLs_add, List.append_assoc] at e
  obtain ⟨h1, h2⟩ := encLs_cut t.len _ _ ht (fun i hi => hu i (by omega)) e
  by_cases h0 : k = 0
  · subst h0
    simp only [encFrom, List.nil_append, List.cons.injEq, true_and] at h2
    exact ⟨by omega, h1, h2⟩
  · obtain ⟨r, hr⟩ := encFrom_head u t.len k (by omega)
    rw [hr] at h2
    simp at h2
theorem encLi_cut {t u : TableD} (ht : ∀ i, i < t.len → (t.ps i).fine) (hu : ∀ i, i < u.len → (u.ps i).fine) {x y : List UInt8} (e : encLi t ++ x = encLi u ++ y) :
    t.len = u.len ∧ (∀ i, i < t.len → t.ps i = u.ps i) ∧ x = y := by
  unfold encLi at e
  simp only [List.append_assoc, List.cons_append, List.nil_append] at e
  by_cases h : t.len ≤ u.len
  · exact encLi_le ht hu h e
  · obtain ⟨h1, h2, h3⟩ := encLi_le hu ht (by omega) e.symm
    exact ⟨h1.symm, fun i hi => (h2 i (by omega)).symm, h3.symm⟩
structure SameT (t u : TableD) : Prop where
  season : t.season = u.season
  comp : t.comp = u.comp
  len : t.len = u.len
  ps : ∀ i, i < t.len → t.ps i = u.ps i
theorem encT_inj {t u : TableD} (ht : t.ok) (hu : u.ok) (e : encT t = encT u) : SameT t u := by
  unfold encT top6 top5 top4 top3 top2 top1 top0 at e
  simp only [List.append_assoc, List.cons_append, List.nil_append, List.cons.injEq, true_and] at e
  obtain ⟨_, e⟩ := txt_cut (topB_len 0) (topB_len 0) e
  obtain ⟨c1, e⟩ := encInt_cut (by have := ht.comp; omega) (by have := ht.comp; omega) (by have := hu.comp; omega) (by have := hu.comp; omega) e
  obtain ⟨_, e⟩ := txt_cut (topB_len 1) (topB_len 1) e
  obtain ⟨l1, l2, e⟩ := encLi_cut ht.places hu.places e
  obtain ⟨_, e⟩ := txt_cut (topB_len 2) (topB_len 2) e
  obtain ⟨s1, _⟩ := encInt_cut (by have := ht.season; omega) (by have := ht.season; omega) (by have := hu.season; omega) (by have := hu.season; omega) e
  exact ⟨s1, c1, l1, l2⟩
theorem encLs_same {t u : TableD} : ∀ j, (∀ i, i < j → t.ps i = u.ps i) → encLs t j = encLs u j
  | 0, _ => rfl
  | j + 1, h => by
    show encLs t j ++ encPl (t.ps j) = encLs u j ++ encPl (u.ps j)
    rw [encLs_same j fun i hi => h i (by omega), h j (by omega)]
theorem encT_same {t u : TableD} (h : SameT t u) : encT t = encT u := by
  unfold encT top6 top5 top4 top3 top2 top1 top0 encLi
  rw [h.season, h.comp, ← h.len, encLs_same t.len h.ps]
end Go.Ev
namespace Go.Ev
theorem goodFrom_all {t : TableD} : ∀ (k n : Nat), goodFrom t n k = true → ∀ j, n ≤ j → j < n + k → badAt t j = false
  | 0, n, _ => fun j h1 h2 => by omega
  | k + 1, n, h => by
    intro j h1 h2
    unfold goodFrom at h
    cases hb : badAt t n with
    | true => rw [hb] at h; cases h
    | false =>
      rw [hb] at h
      by_cases e : j = n
      · subst e; exact hb
      · exact goodFrom_all k (n + 1) h j (by omega) (by omega)
theorem wi_true {n l m : Int} (h : wi n l m = true) : l ≤ n ∧ n ≤ m := by
  rw [wi_eq] at h
  simpa using h
theorem okT_ok {t : TableD} (h : t.okT = true) : t.ok := by
  unfold TableD.okT at h
  cases ho : t.off with
  | true => rw [ho] at h; cases h
  | false =>
  rw [ho] at h
  have hg : t.good = true := h
  have hbad : ∀ j, j < t.len → badAt t j = false := fun j hj => goodFrom_all t.len 0 hg j (by omega) (by omega)
  obtain ⟨l1, l2⟩ := off_len ho
  unfold TableD.off at ho
  simp only [b1, Bool.or_eq_false_iff, Bool.not_eq_false'] at ho
  obtain ⟨hs, hc, _⟩ := ho
  have hp : ∀ j, j < t.len → (rb1 t j = false ∧ rb2 t j = false) ∧ rb3 t j = false ∧ rb4 t j = false := by
    intro j hj
    have := hbad j hj
    rw [bad_eq] at this
    simp only [Bool.or_eq_false_iff] at this
    exact ⟨this.1.1.1, this.1.1.2, this.1.2⟩
  have hrank : ∀ j, j < t.len → 1 ≤ (t.ps j).rank ∧ (t.ps j).rank ≤ j + 1 := by
    intro j
    induction j with
    | zero =>
      intro hj
      have h1 := (hp 0 hj).1.1
      unfold rb1 at h1
      simp at h1
      omega
    | succ j ih =>
      intro hj
      have h0 := ih (by omega)
      have h1 := (hp (j + 1) hj).1.1
      unfold rb1 at h1
      have e1 : (((j + 1 : Nat) : Int) - 1).toNat = j := by omega
      have e2 : ((j + 1 : Nat) : Int).toNat = j + 1 := by omega
      have e3 : decide (((j + 1 : Nat) : Int) > 0) = true := by simp
      rw [e1, e2, e3] at h1
      cases hr : ((t.ps (j + 1)).rank == (t.ps j).rank) with
      | true =>
        have := eq_of_beq hr
        omega
      | false =>
        rw [hr] at h1
        simp at h1
        omega
  refine ⟨fun j hj => ?_, l1, l2, wi_true hc, wi_true hs⟩
  obtain ⟨⟨_, g2⟩, g3, g4⟩ := hp j hj
  have hr := hrank j hj
  have e : ((j : Nat) : Int).toNat = j := Int.toNat_natCast j
  unfold rb3 at g3
  unfold rb4 at g4
  unfold rb2 at g2
  rw [e] at g2 g3 g4
  rw [anyBad_eq] at g4
  simp only [Bool.not_eq_false', Bool.and_eq_true] at g4
  obtain ⟨⟨⟨⟨⟨⟨⟨⟨n1, n2⟩, n3⟩, n4⟩, n5⟩, n6⟩, n7⟩, n8⟩, n9⟩ := g4
  have n1 := wi_true n1
  have n2 := wi_true n2
  have n3 := wi_true n3
  have n4 := wi_true n4
  have n5 := wi_true n5
  have n6 := wi_true n6
  have n7 := wi_true n7
  have n8 := wi_true n8
  have n9 := wi_true n9
  simp only [b1, Bool.or_eq_false_iff, decide_eq_false_iff_not] at g3
  obtain ⟨z1, z2, z3, z4, z5⟩ := g3
  have hby : 0 ≤ (t.ps j).by' ∧ (t.ps j).by' ≤ 12 := by
    generalize (bif decide ((j : Int) > 0) then (t.ps j).rank == (t.ps ((j : Int) - 1).toNat).rank else false) = T at g2
    generalize ((j : Int) == 0) = I at g2
    cases T <;> cases I <;> simp at g2 <;> omega
  refine ⟨fun k => ?_, by omega⟩
  match k with
  | 0 => show -100000 < (t.ps j).row.against ∧ (t.ps j).row.against < 100000; omega
  | 1 => show -100000 < (t.ps j).row.awayFor ∧ (t.ps j).row.awayFor < 100000; omega
  | 2 => show -100000 < (t.ps j).row.awayWon ∧ (t.ps j).row.awayWon < 100000; omega
  | 3 => show -100000 < (t.ps j).by' ∧ (t.ps j).by' < 100000; omega
  | 4 => show -100000 < (t.ps j).row.cards ∧ (t.ps j).row.cards < 100000; omega
  | 5 => show -100000 < (t.ps j).row.club ∧ (t.ps j).row.club < 100000; omega
  | 6 => show -100000 < (t.ps j).row.drawn ∧ (t.ps j).row.drawn < 100000; omega
  | 7 => show -100000 < (t.ps j).row.for' ∧ (t.ps j).row.for' < 100000; omega
  | 8 => show -100000 < (t.ps j).row.lost ∧ (t.ps j).row.lost < 100000; omega
  | 9 => show -100000 < (t.ps j).row.played ∧ (t.ps j).row.played < 100000; omega
  | 10 => show -100000 < (t.ps j).row.points ∧ (t.ps j).row.points < 100000; omega
  | 11 => show -100000 < (t.ps j).rank ∧ (t.ps j).rank < 100000; omega
  | 12 => show -100000 < (t.ps j).row.won ∧ (t.ps j).row.won < 100000; omega
  | k + 13 => exact ⟨by show (-100000 : Int) < 0; omega, by show (0 : Int) < 100000; omega⟩
end Go.Ev
