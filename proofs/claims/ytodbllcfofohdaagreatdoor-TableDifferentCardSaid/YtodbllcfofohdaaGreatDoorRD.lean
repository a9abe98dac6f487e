/- A part of the proof: R2Num1, R2Bytes, R2Num2, R2Num3, R2Num4, R2Num5, R2Num6, R2Num7, R2App, R2App2, R2W1. -/
import Derived.Test.YtodbllcfofohdaaGreatDoorRA
import Derived.Test.YtodbllcfofohdaaGreatDoorRC
import Derived.Test.YtodbllcfofohdaaGreatDoorEvD
import Derived.KernelRfl
set_option linter.unusedSimpArgs false
set_option linter.unusedVariables false
namespace Go.Ev
open Go.Proofs.Tryz (prog)
set_option maxRecDepth 100000
set_option maxHeartbeats 0
theorem lenA (n : Int) (h0 : 0 ≤ n) (h1 : n < 256) : SemP prog globs' 171 [EV.int IntKind.u64 n] (EV.int IntKind.i64 (IntKind.i64.wrap (0 + IntKind.i64.wrap (↑((ByteArray.mk (([0, 1, 2, 2, 3, 3, 3, 3, 4, 4, 4, 4, 4, 4, 4, 4, 5, 5, 5, 5, 5, 5, 5, 5, 5, 5, 5, 5, 5, 5, 5, 5, 6, 6, 6, 6, 6, 6, 6, 6, 6, 6, 6, 6, 6, 6, 6, 6, 6, 6, 6, 6, 6, 6, 6, 6, 6, 6, 6, 6, 6, 6, 6, 6].append [7, 7, 7, 7, 7, 7, 7, 7, 7, 7, 7, 7, 7, 7, 7, 7, 7, 7, 7, 7, 7, 7, 7, 7, 7, 7, 7, 7, 7, 7, 7, 7, 7, 7, 7, 7, 7, 7, 7, 7, 7, 7, 7, 7, 7, 7, 7, 7, 7, 7, 7, 7, 7, 7, 7, 7, 7, 7, 7, 7, 7, 7, 7, 7]).append ([8, 8, 8, 8, 8, 8, 8, 8, 8, 8, 8, 8, 8, 8, 8, 8, 8, 8, 8, 8, 8, 8, 8, 8, 8, 8, 8, 8, 8, 8, 8, 8, 8, 8, 8, 8, 8, 8, 8, 8, 8, 8, 8, 8, 8, 8, 8, 8, 8, 8, 8, 8, 8, 8, 8, 8, 8, 8, 8, 8, 8, 8, 8, 8].append [8, 8, 8, 8, 8, 8, 8, 8, 8, 8, 8, 8, 8, 8, 8, 8, 8, 8, 8, 8, 8, 8, 8, 8, 8, 8, 8, 8, 8, 8, 8, 8, 8, 8, 8, 8, 8, 8, 8, 8, 8, 8, 8, 8, 8, 8, 8, 8, 8, 8, 8, 8, 8, 8, 8, 8, 8, 8, 8, 8, 8, 8, 8, 8])).toArray).data.getD n.toNat 0).toNat : Int)))) :=
  semP_fork (modes := pures) (news := news) (n := 60) (fuel := 100000) (F := []) (s := (.mk [(0, .dec false), (0, .dec false), (0, .dec false), (0, .dec true), (0, .dec true), (0, .no), (0, .no)] [] [] [] [])) (ow := [(inB n 256) = true, (inR IntKind.u8 n) = true, (Decidable.decide (n ≥ 256)) = false, (Decidable.decide (n ≥ 65536)) = false, (Decidable.decide (n ≥ 4294967296)) = false]) hMixed KOk.nil (by kernel_rfl) (by kernel_rfl) (by kernel_rfl) (.cons (by (simp (disch := omega) only [inB, inR_u8, inR_u16, inR_u32, inR_i64, inR_u64, Int.fdiv_eq_ediv_of_nonneg, Bool.and_eq_true, decide_eq_true_eq, decide_eq_false_iff_not]; omega)) (.cons (by (simp (disch := omega) only [inB, inR_u8, inR_u16, inR_u32, inR_i64, inR_u64, Int.fdiv_eq_ediv_of_nonneg, Bool.and_eq_true, decide_eq_true_eq, decide_eq_false_iff_not]; omega)) (.cons (by (simp (disch := omega) only [inB, inR_u8, inR_u16, inR_u32, inR_i64, inR_u64, Int.fdiv_eq_ediv_of_nonneg, Bool.and_eq_true, decide_eq_true_eq, decide_eq_false_iff_not]; omega)) (.cons (by (simp (disch := omega) only [inB, inR_u8, inR_u16, inR_u32, inR_i64, inR_u64, Int.fdiv_eq_ediv_of_nonneg, Bool.and_eq_true, decide_eq_true_eq, decide_eq_false_iff_not]; omega)) (.cons (by (simp (disch := omega) only [inB, inR_u8, inR_u16, inR_u32, inR_i64, inR_u64, Int.fdiv_eq_ediv_of_nonneg, Bool.and_eq_true, decide_eq_true_eq, decide_eq_false_iff_not]; omega)) .nil)))))
theorem lenB (n : Int) (h0 : 256 ≤ n) (h1 : n < 65536) : SemP prog globs' 171 [EV.int IntKind.u64 n] (EV.int IntKind.i64 (IntKind.i64.wrap (8 + IntKind.i64.wrap (↑((ByteArray.mk (([0, 1, 2, 2, 3, 3, 3, 3, 4, 4, 4, 4, 4, 4, 4, 4, 5, 5, 5, 5, 5, 5, 5, 5, 5, 5, 5, 5, 5, 5, 5, 5, 6, 6, 6, 6, 6, 6, 6, 6, 6, 6, 6, 6, 6, 6, 6, 6, 6, 6, 6, 6, 6, 6, 6, 6, 6, 6, 6, 6, 6, 6, 6, 6].append [7, 7, 7, 7, 7, 7, 7, 7, 7, 7, 7, 7, 7, 7, 7, 7, 7, 7, 7, 7, 7, 7, 7, 7, 7, 7, 7, 7, 7, 7, 7, 7, 7, 7, 7, 7, 7, 7, 7, 7, 7, 7, 7, 7, 7, 7, 7, 7, 7, 7, 7, 7, 7, 7, 7, 7, 7, 7, 7, 7, 7, 7, 7, 7]).append ([8, 8, 8, 8, 8, 8, 8, 8, 8, 8, 8, 8, 8, 8, 8, 8, 8, 8, 8, 8, 8, 8, 8, 8, 8, 8, 8, 8, 8, 8, 8, 8, 8, 8, 8, 8, 8, 8, 8, 8, 8, 8, 8, 8, 8, 8, 8, 8, 8, 8, 8, 8, 8, 8, 8, 8, 8, 8, 8, 8, 8, 8, 8, 8].append [8, 8, 8, 8, 8, 8, 8, 8, 8, 8, 8, 8, 8, 8, 8, 8, 8, 8, 8, 8, 8, 8, 8, 8, 8, 8, 8, 8, 8, 8, 8, 8, 8, 8, 8, 8, 8, 8, 8, 8, 8, 8, 8, 8, 8, 8, 8, 8, 8, 8, 8, 8, 8, 8, 8, 8, 8, 8, 8, 8, 8, 8, 8, 8])).toArray).data.getD (n.fdiv 256).toNat 0).toNat : Int)))) :=
  semP_fork (modes := pures) (news := news) (n := 60) (fuel := 100000) (F := []) (s := (.mk [(0, .dec false), (0, .dec false), (0, .dec true), (2, .dec true), (0, .dec true), (0, .no), (0, .no)] [] [] [] [])) (ow := [(inB (n.fdiv 256) 256) = true, (inR IntKind.u8 (n.fdiv 256)) = true, (Decidable.decide (n ≥ 256)) = true, (Decidable.decide (n ≥ 65536)) = false, (Decidable.decide (n ≥ 4294967296)) = false]) hMixed KOk.nil (by kernel_rfl) (by kernel_rfl) (by kernel_rfl) (.cons (by (simp (disch := omega) only [inB, inR_u8, inR_u16, inR_u32, inR_i64, inR_u64, Int.fdiv_eq_ediv_of_nonneg, Bool.and_eq_true, decide_eq_true_eq, decide_eq_false_iff_not]; omega)) (.cons (by (simp (disch := omega) only [inB, inR_u8, inR_u16, inR_u32, inR_i64, inR_u64, Int.fdiv_eq_ediv_of_nonneg, Bool.and_eq_true, decide_eq_true_eq, decide_eq_false_iff_not]; omega)) (.cons (by (simp (disch := omega) only [inB, inR_u8, inR_u16, inR_u32, inR_i64, inR_u64, Int.fdiv_eq_ediv_of_nonneg, Bool.and_eq_true, decide_eq_true_eq, decide_eq_false_iff_not]; omega)) (.cons (by (simp (disch := omega) only [inB, inR_u8, inR_u16, inR_u32, inR_i64, inR_u64, Int.fdiv_eq_ediv_of_nonneg, Bool.and_eq_true, decide_eq_true_eq, decide_eq_false_iff_not]; omega)) (.cons (by (simp (disch := omega) only [inB, inR_u8, inR_u16, inR_u32, inR_i64, inR_u64, Int.fdiv_eq_ediv_of_nonneg, Bool.and_eq_true, decide_eq_true_eq, decide_eq_false_iff_not]; omega)) .nil)))))
theorem lenC (n : Int) (h0 : 65536 ≤ n) (h1 : n < 131072) : SemP prog globs' 171 [EV.int IntKind.u64 n] (EV.int IntKind.i64 (IntKind.i64.wrap (16 + IntKind.i64.wrap (↑((ByteArray.mk (([0, 1, 2, 2, 3, 3, 3, 3, 4, 4, 4, 4, 4, 4, 4, 4, 5, 5, 5, 5, 5, 5, 5, 5, 5, 5, 5, 5, 5, 5, 5, 5, 6, 6, 6, 6, 6, 6, 6, 6, 6, 6, 6, 6, 6, 6, 6, 6, 6, 6, 6, 6, 6, 6, 6, 6, 6, 6, 6, 6, 6, 6, 6, 6].append [7, 7, 7, 7, 7, 7, 7, 7, 7, 7, 7, 7, 7, 7, 7, 7, 7, 7, 7, 7, 7, 7, 7, 7, 7, 7, 7, 7, 7, 7, 7, 7, 7, 7, 7, 7, 7, 7, 7, 7, 7, 7, 7, 7, 7, 7, 7, 7, 7, 7, 7, 7, 7, 7, 7, 7, 7, 7, 7, 7, 7, 7, 7, 7]).append ([8, 8, 8, 8, 8, 8, 8, 8, 8, 8, 8, 8, 8, 8, 8, 8, 8, 8, 8, 8, 8, 8, 8, 8, 8, 8, 8, 8, 8, 8, 8, 8, 8, 8, 8, 8, 8, 8, 8, 8, 8, 8, 8, 8, 8, 8, 8, 8, 8, 8, 8, 8, 8, 8, 8, 8, 8, 8, 8, 8, 8, 8, 8, 8].append [8, 8, 8, 8, 8, 8, 8, 8, 8, 8, 8, 8, 8, 8, 8, 8, 8, 8, 8, 8, 8, 8, 8, 8, 8, 8, 8, 8, 8, 8, 8, 8, 8, 8, 8, 8, 8, 8, 8, 8, 8, 8, 8, 8, 8, 8, 8, 8, 8, 8, 8, 8, 8, 8, 8, 8, 8, 8, 8, 8, 8, 8, 8, 8])).toArray).data.getD (n.fdiv 65536).toNat 0).toNat : Int)))) :=
  semP_fork (modes := pures) (news := news) (n := 60) (fuel := 100000) (F := []) (s := (.mk [(0, .dec false), (0, .dec true), (2, .dec false), (0, .dec true), (0, .dec true), (0, .no), (0, .no)] [] [] [] [])) (ow := [(inB (n.fdiv 65536) 256) = true, (inR IntKind.u8 (n.fdiv 65536)) = true, (Decidable.decide (n.fdiv 65536 ≥ 256)) = false, (Decidable.decide (n ≥ 65536)) = true, (Decidable.decide (n ≥ 4294967296)) = false]) hMixed KOk.nil (by kernel_rfl) (by kernel_rfl) (by kernel_rfl) (.cons (by (simp (disch := omega) only [inB, inR_u8, inR_u16, inR_u32, inR_i64, inR_u64, Int.fdiv_eq_ediv_of_nonneg, Bool.and_eq_true, decide_eq_true_eq, decide_eq_false_iff_not]; omega)) (.cons (by (simp (disch := omega) only [inB, inR_u8, inR_u16, inR_u32, inR_i64, inR_u64, Int.fdiv_eq_ediv_of_nonneg, Bool.and_eq_true, decide_eq_true_eq, decide_eq_false_iff_not]; omega)) (.cons (by (simp (disch := omega) only [inB, inR_u8, inR_u16, inR_u32, inR_i64, inR_u64, Int.fdiv_eq_ediv_of_nonneg, Bool.and_eq_true, decide_eq_true_eq, decide_eq_false_iff_not]; omega)) (.cons (by (simp (disch := omega) only [inB, inR_u8, inR_u16, inR_u32, inR_i64, inR_u64, Int.fdiv_eq_ediv_of_nonneg, Bool.and_eq_true, decide_eq_true_eq, decide_eq_false_iff_not]; omega)) (.cons (by (simp (disch := omega) only [inB, inR_u8, inR_u16, inR_u32, inR_i64, inR_u64, Int.fdiv_eq_ediv_of_nonneg, Bool.and_eq_true, decide_eq_true_eq, decide_eq_false_iff_not]; omega)) .nil)))))
end Go.Ev
namespace Go.Ev
open Go.Proofs.Tryz (prog)
def blen (k : Nat) : Nat := if k < 1 then 0 else if k < 2 then 1 else if k < 4 then 2 else if k < 8 then 3 else if k < 16 then 4 else if k < 32 then 5 else if k < 64 then 6 else if k < 128 then 7 else 8
theorem tab_all : ((List.range 256).all fun k => Nat.beq ((ByteArray.mk (([0, 1, 2, 2, 3, 3, 3, 3, 4, 4, 4, 4, 4, 4, 4, 4, 5, 5, 5, 5, 5, 5, 5, 5, 5, 5, 5, 5, 5, 5, 5, 5, 6, 6, 6, 6, 6, 6, 6, 6, 6, 6, 6, 6, 6, 6, 6, 6, 6, 6, 6, 6, 6, 6, 6, 6, 6, 6, 6, 6, 6, 6, 6, 6].append [7, 7, 7, 7, 7, 7, 7, 7, 7, 7, 7, 7, 7, 7, 7, 7, 7, 7, 7, 7, 7, 7, 7, 7, 7, 7, 7, 7, 7, 7, 7, 7, 7, 7, 7, 7, 7, 7, 7, 7, 7, 7, 7, 7, 7, 7, 7, 7, 7, 7, 7, 7, 7, 7, 7, 7, 7, 7, 7, 7, 7, 7, 7, 7]).append ([8, 8, 8, 8, 8, 8, 8, 8, 8, 8, 8, 8, 8, 8, 8, 8, 8, 8, 8, 8, 8, 8, 8, 8, 8, 8, 8, 8, 8, 8, 8, 8, 8, 8, 8, 8, 8, 8, 8, 8, 8, 8, 8, 8, 8, 8, 8, 8, 8, 8, 8, 8, 8, 8, 8, 8, 8, 8, 8, 8, 8, 8, 8, 8].append [8, 8, 8, 8, 8, 8, 8, 8, 8, 8, 8, 8, 8, 8, 8, 8, 8, 8, 8, 8, 8, 8, 8, 8, 8, 8, 8, 8, 8, 8, 8, 8, 8, 8, 8, 8, 8, 8, 8, 8, 8, 8, 8, 8, 8, 8, 8, 8, 8, 8, 8, 8, 8, 8, 8, 8, 8, 8, 8, 8, 8, 8, 8, 8])).toArray).data.getD k 0).toNat (blen k)) = true := by kernel_rfl
theorem tab_len {k : Nat} (h : k < 256) : ((ByteArray.mk (([0, 1, 2, 2, 3, 3, 3, 3, 4, 4, 4, 4, 4, 4, 4, 4, 5, 5, 5, 5, 5, 5, 5, 5, 5, 5, 5, 5, 5, 5, 5, 5, 6, 6, 6, 6, 6, 6, 6, 6, 6, 6, 6, 6, 6, 6, 6, 6, 6, 6, 6, 6, 6, 6, 6, 6, 6, 6, 6, 6, 6, 6, 6, 6].append [7, 7, 7, 7, 7, 7, 7, 7, 7, 7, 7, 7, 7, 7, 7, 7, 7, 7, 7, 7, 7, 7, 7, 7, 7, 7, 7, 7, 7, 7, 7, 7, 7, 7, 7, 7, 7, 7, 7, 7, 7, 7, 7, 7, 7, 7, 7, 7, 7, 7, 7, 7, 7, 7, 7, 7, 7, 7, 7, 7, 7, 7, 7, 7]).append ([8, 8, 8, 8, 8, 8, 8, 8, 8, 8, 8, 8, 8, 8, 8, 8, 8, 8, 8, 8, 8, 8, 8, 8, 8, 8, 8, 8, 8, 8, 8, 8, 8, 8, 8, 8, 8, 8, 8, 8, 8, 8, 8, 8, 8, 8, 8, 8, 8, 8, 8, 8, 8, 8, 8, 8, 8, 8, 8, 8, 8, 8, 8, 8].append [8, 8, 8, 8, 8, 8, 8, 8, 8, 8, 8, 8, 8, 8, 8, 8, 8, 8, 8, 8, 8, 8, 8, 8, 8, 8, 8, 8, 8, 8, 8, 8, 8, 8, 8, 8, 8, 8, 8, 8, 8, 8, 8, 8, 8, 8, 8, 8, 8, 8, 8, 8, 8, 8, 8, 8, 8, 8, 8, 8, 8, 8, 8, 8])).toArray).data.getD k 0).toNat = blen k :=
  Nat.eq_of_beq_eq_true (List.all_eq_true.1 tab_all k (List.mem_range.2 h))
theorem len_7 (n : Int) (h0 : 64 ≤ n) (h1 : n < 128) : SemP prog globs' 171 [EV.int IntKind.u64 n] (EV.int IntKind.i64 7) := by
  refine (lenA n (by omega) (by omega)).res (PLe.eq ?_)
  rw [tab_len (k := n.toNat) (by omega)]
  have : blen n.toNat = 7 := by unfold blen; repeat (first | rw [if_neg (by omega)] | rw [if_pos (by omega)] | rfl)
  rw [this]
  rfl
theorem len_8 (n : Int) (h0 : 128 ≤ n) (h1 : n < 256) : SemP prog globs' 171 [EV.int IntKind.u64 n] (EV.int IntKind.i64 8) := by
  refine (lenA n (by omega) (by omega)).res (PLe.eq ?_)
  rw [tab_len (k := n.toNat) (by omega)]
  have : blen n.toNat = 8 := by unfold blen; repeat (first | rw [if_neg (by omega)] | rw [if_pos (by omega)] | rfl)
  rw [this]
  rfl
theorem len_9 (n : Int) (h0 : 256 ≤ n) (h1 : n < 512) : SemP prog globs' 171 [EV.int IntKind.u64 n] (EV.int IntKind.i64 9) := by
  refine (lenB n (by omega) (by omega)).res (PLe.eq ?_)
  rw [Int.fdiv_eq_ediv_of_nonneg n (by decide : (0 : Int) ≤ 256), tab_len (k := (n / 256).toNat) (by omega)]
  have : blen (n / 256).toNat = 1 := by unfold blen; repeat (first | rw [if_neg (by omega)] | rw [if_pos (by omega)] | rfl)
  rw [this]
  rfl
theorem len_10 (n : Int) (h0 : 512 ≤ n) (h1 : n < 1024) : SemP prog globs' 171 [EV.int IntKind.u64 n] (EV.int IntKind.i64 10) := by
  refine (lenB n (by omega) (by omega)).res (PLe.eq ?_)
  rw [Int.fdiv_eq_ediv_of_nonneg n (by decide : (0 : Int) ≤ 256), tab_len (k := (n / 256).toNat) (by omega)]
  have : blen (n / 256).toNat = 2 := by unfold blen; repeat (first | rw [if_neg (by omega)] | rw [if_pos (by omega)] | rfl)
  rw [this]
  rfl
theorem len_11 (n : Int) (h0 : 1024 ≤ n) (h1 : n < 2048) : SemP prog globs' 171 [EV.int IntKind.u64 n] (EV.int IntKind.i64 11) := by
  refine (lenB n (by omega) (by omega)).res (PLe.eq ?_)
  rw [Int.fdiv_eq_ediv_of_nonneg n (by decide : (0 : Int) ≤ 256), tab_len (k := (n / 256).toNat) (by omega)]
  have : blen (n / 256).toNat = 3 := by unfold blen; repeat (first | rw [if_neg (by omega)] | rw [if_pos (by omega)] | rfl)
  rw [this]
  rfl
theorem len_12 (n : Int) (h0 : 2048 ≤ n) (h1 : n < 4096) : SemP prog globs' 171 [EV.int IntKind.u64 n] (EV.int IntKind.i64 12) := by
  refine (lenB n (by omega) (by omega)).res (PLe.eq ?_)
  rw [Int.fdiv_eq_ediv_of_nonneg n (by decide : (0 : Int) ≤ 256), tab_len (k := (n / 256).toNat) (by omega)]
  have : blen (n / 256).toNat = 4 := by unfold blen; repeat (first | rw [if_neg (by omega)] | rw [if_pos (by omega)] | rfl)
  rw [this]
  rfl
theorem len_13 (n : Int) (h0 : 4096 ≤ n) (h1 : n < 8192) : SemP prog globs' 171 [EV.int IntKind.u64 n] (EV.int IntKind.i64 13) := by
  refine (lenB n (by omega) (by omega)).res (PLe.eq ?_)
  rw [Int.fdiv_eq_ediv_of_nonneg n (by decide : (0 : Int) ≤ 256), tab_len (k := (n / 256).toNat) (by omega)]
  have : blen (n / 256).toNat = 5 := by unfold blen; repeat (first | rw [if_neg (by omega)] | rw [if_pos (by omega)] | rfl)
  rw [this]
  rfl
theorem len_14 (n : Int) (h0 : 8192 ≤ n) (h1 : n < 16384) : SemP prog globs' 171 [EV.int IntKind.u64 n] (EV.int IntKind.i64 14) := by
  refine (lenB n (by omega) (by omega)).res (PLe.eq ?_)
  rw [Int.fdiv_eq_ediv_of_nonneg n (by decide : (0 : Int) ≤ 256), tab_len (k := (n / 256).toNat) (by omega)]
  have : blen (n / 256).toNat = 6 := by unfold blen; repeat (first | rw [if_neg (by omega)] | rw [if_pos (by omega)] | rfl)
  rw [this]
  rfl
theorem len_15 (n : Int) (h0 : 16384 ≤ n) (h1 : n < 32768) : SemP prog globs' 171 [EV.int IntKind.u64 n] (EV.int IntKind.i64 15) := by
  refine (lenB n (by omega) (by omega)).res (PLe.eq ?_)
  rw [Int.fdiv_eq_ediv_of_nonneg n (by decide : (0 : Int) ≤ 256), tab_len (k := (n / 256).toNat) (by omega)]
  have : blen (n / 256).toNat = 7 := by unfold blen; repeat (first | rw [if_neg (by omega)] | rw [if_pos (by omega)] | rfl)
  rw [this]
  rfl
theorem len_16 (n : Int) (h0 : 32768 ≤ n) (h1 : n < 65536) : SemP prog globs' 171 [EV.int IntKind.u64 n] (EV.int IntKind.i64 16) := by
  refine (lenB n (by omega) (by omega)).res (PLe.eq ?_)
  rw [Int.fdiv_eq_ediv_of_nonneg n (by decide : (0 : Int) ≤ 256), tab_len (k := (n / 256).toNat) (by omega)]
  have : blen (n / 256).toNat = 8 := by unfold blen; repeat (first | rw [if_neg (by omega)] | rw [if_pos (by omega)] | rfl)
  rw [this]
  rfl
theorem len_17 (n : Int) (h0 : 65536 ≤ n) (h1 : n < 131072) : SemP prog globs' 171 [EV.int IntKind.u64 n] (EV.int IntKind.i64 17) := by
  refine (lenC n (by omega) (by omega)).res (PLe.eq ?_)
  rw [Int.fdiv_eq_ediv_of_nonneg n (by decide : (0 : Int) ≤ 65536), tab_len (k := (n / 65536).toNat) (by omega)]
  have : blen (n / 65536).toNat = 1 := by unfold blen; repeat (first | rw [if_neg (by omega)] | rw [if_pos (by omega)] | rfl)
  rw [this]
  rfl
end Go.Ev
namespace Go.Ev
def bRow (l : List UInt8) (i : Nat) : List EV := [.int .u8 ((l.getD i 0).toNat : Int)]
def bObj (l : List UInt8) : EObj := .arr false true 1 false l.length (bRow l)
def decF : Nat → Nat → List UInt8
  | 0, _ => []
  | f + 1, u => if u < 10 then [UInt8.ofNat (48 + u)] else decF f (u / 10) ++ [UInt8.ofNat (48 + u % 10)]
def decU (u : Nat) : List UInt8 := decF 20 u
def dec (n : Int) : List UInt8 := if n < 0 then 45 :: decU (-n).toNat else decU n.toNat
theorem decF_more : ∀ (f u : Nat), u < 10 ^ f → 0 < f → decF (f + 1) u = decF f u
  | 0, _, _, h => by omega
  | 1, u, h, _ => by
    have : u < 10 := by omega
    simp [decF, this]
  | f + 2, u, h, _ => by
    have e1 : decF (f + 3) u = if u < 10 then [UInt8.ofNat (48 + u)] else decF (f + 2) (u / 10) ++ [UInt8.ofNat (48 + u % 10)] := rfl
    have e2 : decF (f + 2) u = if u < 10 then [UInt8.ofNat (48 + u)] else decF (f + 1) (u / 10) ++ [UInt8.ofNat (48 + u % 10)] := rfl
    rw [e1, e2]
    by_cases h' : u < 10
    · rw [if_pos h', if_pos h']
    · rw [if_neg h', if_neg h']
      rw [decF_more (f + 1) (u / 10) (by rw [Nat.pow_succ] at h; omega) (by omega)]
theorem decU_step {u : Nat} (h : 10 ≤ u) (hu : u < 10 ^ 20) : decU u = decU (u / 10) ++ [UInt8.ofNat (48 + u % 10)] := by
  unfold decU
  rw [← decF_more 20 u hu (by omega)]
  rw [decF, if_neg (by omega)]
theorem decU_one {u : Nat} (h : u < 10) : decU u = [UInt8.ofNat (48 + u)] := by
  unfold decU
  rw [decF, if_pos h]
def txt (s : ByteArray) : List UInt8 := decU s.size ++ (58 :: s.data.toList)
def encInt (n : Int) : List UInt8 := 105 :: (dec n ++ [101])
def keyB (j : Nat) : ByteArray := match keyRow j with | [.str s] => s | _ => ⟨#[]⟩
def encUpTo (p : PlaceD) (l : List UInt8) : Nat → List UInt8
  | 0 => l ++ [100]
  | j + 1 => encUpTo p l j ++ txt (keyB j) ++ (if j < 13 then encInt (p.nums.getD j 0) else txt p.zone)
def encPlace (p : PlaceD) (l : List UInt8) : List UInt8 := encUpTo p l 14 ++ [101]
def encPlaces (t : TableD) (l : List UInt8) : Nat → List UInt8
  | 0 => l ++ [108]
  | j + 1 => encPlace (t.ps j) (encPlaces t l j)
def encList (t : TableD) (l : List UInt8) : List UInt8 := encPlaces t l t.len ++ [101]
def topB (j : Nat) : ByteArray := match topKey j with | [.str s] => s | _ => ⟨#[]⟩
def encTop (t : TableD) : List UInt8 :=
  encList t ([100] ++ txt (topB 0) ++ encInt t.comp ++ txt (topB 1)) ++ txt (topB 2) ++ encInt t.season ++ [101]
end Go.Ev
namespace Go.Ev
open Go.Proofs.Tryz (prog)
set_option maxRecDepth 100000
set_option maxHeartbeats 0
theorem nd_7 (n : Int) (h0 : 100 ≤ n) (h1 : n < 128) : SemP prog globs' 230 [EV.int IntKind.u64 n] (EV.int IntKind.i64 3) :=
  semP_fork (modes := pures) (news := news) (n := 60) (fuel := 100000) (F := []) (s := (.mk [(21, .dec true)] [] [some (EV.int IntKind.i64 7), none, none] [] [])) (ow := [(Decidable.decide (n ≥ 100)) = true, SemP prog globs' 171 [EV.int IntKind.u64 n] (EV.int IntKind.i64 7)]) hMixed KOk.nil (by kernel_rfl) (by kernel_rfl) (by kernel_rfl) (.cons (by (simp (disch := omega) only [inB, inR_u8, inR_u16, inR_u32, inR_i64, inR_u64, Int.fdiv_eq_ediv_of_nonneg, Bool.and_eq_true, decide_eq_true_eq, decide_eq_false_iff_not]; omega)) (.cons (len_7 n (by omega) (by omega)) .nil))
theorem nd_8 (n : Int) (h0 : 128 ≤ n) (h1 : n < 256) : SemP prog globs' 230 [EV.int IntKind.u64 n] (EV.int IntKind.i64 3) :=
  semP_fork (modes := pures) (news := news) (n := 60) (fuel := 100000) (F := []) (s := (.mk [(21, .dec true)] [] [some (EV.int IntKind.i64 8), none, none] [] [])) (ow := [(Decidable.decide (n ≥ 100)) = true, SemP prog globs' 171 [EV.int IntKind.u64 n] (EV.int IntKind.i64 8)]) hMixed KOk.nil (by kernel_rfl) (by kernel_rfl) (by kernel_rfl) (.cons (by (simp (disch := omega) only [inB, inR_u8, inR_u16, inR_u32, inR_i64, inR_u64, Int.fdiv_eq_ediv_of_nonneg, Bool.and_eq_true, decide_eq_true_eq, decide_eq_false_iff_not]; omega)) (.cons (len_8 n (by omega) (by omega)) .nil))
theorem nd_9 (n : Int) (h0 : 256 ≤ n) (h1 : n < 512) : SemP prog globs' 230 [EV.int IntKind.u64 n] (EV.int IntKind.i64 3) :=
  semP_fork (modes := pures) (news := news) (n := 60) (fuel := 100000) (F := []) (s := (.mk [(21, .dec true)] [] [some (EV.int IntKind.i64 9), none, none] [] [])) (ow := [(Decidable.decide (n ≥ 100)) = true, SemP prog globs' 171 [EV.int IntKind.u64 n] (EV.int IntKind.i64 9)]) hMixed KOk.nil (by kernel_rfl) (by kernel_rfl) (by kernel_rfl) (.cons (by (simp (disch := omega) only [inB, inR_u8, inR_u16, inR_u32, inR_i64, inR_u64, Int.fdiv_eq_ediv_of_nonneg, Bool.and_eq_true, decide_eq_true_eq, decide_eq_false_iff_not]; omega)) (.cons (len_9 n (by omega) (by omega)) .nil))
theorem nd_10 (n : Int) (h0 : 512 ≤ n) (h1 : n < 1024) : SemP prog globs' 230 [EV.int IntKind.u64 n] (EV.int IntKind.i64 (bif Decidable.decide (n ≥ 1000) then 4 else 3)) :=
  semP_fork (modes := pures) (news := news) (n := 60) (fuel := 100000) (F := []) (s := (.mk [] [(10, .fork true (Decidable.decide (n ≥ 1000)) 4 121 0 0 (.mk [(18, .kn 0 0)] [] [] [] []) (.mk [(18, .kn 0 0)] [] [] [] []))] [some (EV.int IntKind.i64 10), none] [] [])) (ow := [SemP prog globs' 171 [EV.int IntKind.u64 n] (EV.int IntKind.i64 10)]) hMixed KOk.nil (by kernel_rfl) (by kernel_rfl) (by kernel_rfl) (.cons (len_10 n (by omega) (by omega)) .nil)
theorem nd_11 (n : Int) (h0 : 1024 ≤ n) (h1 : n < 2048) : SemP prog globs' 230 [EV.int IntKind.u64 n] (EV.int IntKind.i64 4) :=
  semP_fork (modes := pures) (news := news) (n := 60) (fuel := 100000) (F := []) (s := (.mk [(20, .dec true)] [] [some (EV.int IntKind.i64 11), none, none] [] [])) (ow := [(Decidable.decide (n ≥ 1000)) = true, SemP prog globs' 171 [EV.int IntKind.u64 n] (EV.int IntKind.i64 11)]) hMixed KOk.nil (by kernel_rfl) (by kernel_rfl) (by kernel_rfl) (.cons (by (simp (disch := omega) only [inB, inR_u8, inR_u16, inR_u32, inR_i64, inR_u64, Int.fdiv_eq_ediv_of_nonneg, Bool.and_eq_true, decide_eq_true_eq, decide_eq_false_iff_not]; omega)) (.cons (len_11 n (by omega) (by omega)) .nil))
theorem nd_12 (n : Int) (h0 : 2048 ≤ n) (h1 : n < 4096) : SemP prog globs' 230 [EV.int IntKind.u64 n] (EV.int IntKind.i64 4) :=
  semP_fork (modes := pures) (news := news) (n := 60) (fuel := 100000) (F := []) (s := (.mk [(20, .dec true)] [] [some (EV.int IntKind.i64 12), none, none] [] [])) (ow := [(Decidable.decide (n ≥ 1000)) = true, SemP prog globs' 171 [EV.int IntKind.u64 n] (EV.int IntKind.i64 12)]) hMixed KOk.nil (by kernel_rfl) (by kernel_rfl) (by kernel_rfl) (.cons (by (simp (disch := omega) only [inB, inR_u8, inR_u16, inR_u32, inR_i64, inR_u64, Int.fdiv_eq_ediv_of_nonneg, Bool.and_eq_true, decide_eq_true_eq, decide_eq_false_iff_not]; omega)) (.cons (len_12 n (by omega) (by omega)) .nil))
theorem nd_13 (n : Int) (h0 : 4096 ≤ n) (h1 : n < 8192) : SemP prog globs' 230 [EV.int IntKind.u64 n] (EV.int IntKind.i64 4) :=
  semP_fork (modes := pures) (news := news) (n := 60) (fuel := 100000) (F := []) (s := (.mk [(20, .dec true)] [] [some (EV.int IntKind.i64 13), none, none] [] [])) (ow := [(Decidable.decide (n ≥ 1000)) = true, SemP prog globs' 171 [EV.int IntKind.u64 n] (EV.int IntKind.i64 13)]) hMixed KOk.nil (by kernel_rfl) (by kernel_rfl) (by kernel_rfl) (.cons (by (simp (disch := omega) only [inB, inR_u8, inR_u16, inR_u32, inR_i64, inR_u64, Int.fdiv_eq_ediv_of_nonneg, Bool.and_eq_true, decide_eq_true_eq, decide_eq_false_iff_not]; omega)) (.cons (len_13 n (by omega) (by omega)) .nil))
theorem nd_14 (n : Int) (h0 : 8192 ≤ n) (h1 : n < 16384) : SemP prog globs' 230 [EV.int IntKind.u64 n] (EV.int IntKind.i64 (bif Decidable.decide (n ≥ 10000) then 5 else 4)) :=
  semP_fork (modes := pures) (news := news) (n := 60) (fuel := 100000) (F := []) (s := (.mk [] [(10, .fork true (Decidable.decide (n ≥ 10000)) 4 121 0 0 (.mk [(17, .kn 0 0)] [] [] [] []) (.mk [(17, .kn 0 0)] [] [] [] []))] [some (EV.int IntKind.i64 14), none] [] [])) (ow := [SemP prog globs' 171 [EV.int IntKind.u64 n] (EV.int IntKind.i64 14)]) hMixed KOk.nil (by kernel_rfl) (by kernel_rfl) (by kernel_rfl) (.cons (len_14 n (by omega) (by omega)) .nil)
theorem nd_15 (n : Int) (h0 : 16384 ≤ n) (h1 : n < 32768) : SemP prog globs' 230 [EV.int IntKind.u64 n] (EV.int IntKind.i64 5) :=
  semP_fork (modes := pures) (news := news) (n := 60) (fuel := 100000) (F := []) (s := (.mk [(19, .dec true)] [] [some (EV.int IntKind.i64 15), none, none] [] [])) (ow := [(Decidable.decide (n ≥ 10000)) = true, SemP prog globs' 171 [EV.int IntKind.u64 n] (EV.int IntKind.i64 15)]) hMixed KOk.nil (by kernel_rfl) (by kernel_rfl) (by kernel_rfl) (.cons (by (simp (disch := omega) only [inB, inR_u8, inR_u16, inR_u32, inR_i64, inR_u64, Int.fdiv_eq_ediv_of_nonneg, Bool.and_eq_true, decide_eq_true_eq, decide_eq_false_iff_not]; omega)) (.cons (len_15 n (by omega) (by omega)) .nil))
theorem nd_16 (n : Int) (h0 : 32768 ≤ n) (h1 : n < 65536) : SemP prog globs' 230 [EV.int IntKind.u64 n] (EV.int IntKind.i64 5) :=
  semP_fork (modes := pures) (news := news) (n := 60) (fuel := 100000) (F := []) (s := (.mk [(19, .dec true)] [] [some (EV.int IntKind.i64 16), none, none] [] [])) (ow := [(Decidable.decide (n ≥ 10000)) = true, SemP prog globs' 171 [EV.int IntKind.u64 n] (EV.int IntKind.i64 16)]) hMixed KOk.nil (by kernel_rfl) (by kernel_rfl) (by kernel_rfl) (.cons (by (simp (disch := omega) only [inB, inR_u8, inR_u16, inR_u32, inR_i64, inR_u64, Int.fdiv_eq_ediv_of_nonneg, Bool.and_eq_true, decide_eq_true_eq, decide_eq_false_iff_not]; omega)) (.cons (len_16 n (by omega) (by omega)) .nil))
theorem nd_17 (n : Int) (h0 : 65536 ≤ n) (h1 : n < 100000) : SemP prog globs' 230 [EV.int IntKind.u64 n] (EV.int IntKind.i64 5) :=
  semP_fork (modes := pures) (news := news) (n := 60) (fuel := 100000) (F := []) (s := (.mk [(18, .dec false)] [] [some (EV.int IntKind.i64 17), none, none] [] [])) (ow := [(Decidable.decide (n ≥ 100000)) = false, SemP prog globs' 171 [EV.int IntKind.u64 n] (EV.int IntKind.i64 17)]) hMixed KOk.nil (by kernel_rfl) (by kernel_rfl) (by kernel_rfl) (.cons (by (simp (disch := omega) only [inB, inR_u8, inR_u16, inR_u32, inR_i64, inR_u64, Int.fdiv_eq_ediv_of_nonneg, Bool.and_eq_true, decide_eq_true_eq, decide_eq_false_iff_not]; omega)) (.cons (len_17 n (by omega) (by omega)) .nil))
end Go.Ev
namespace Go.Ev
open Go.Proofs.Tryz (prog)
theorem nd3 (n : Int) (h0 : 100 ≤ n) (h1 : n < 1000) : SemP prog globs' 230 [EV.int IntKind.u64 n] (EV.int IntKind.i64 3) := by
  by_cases a : n < 128
  · exact nd_7 n h0 a
  by_cases b : n < 256
  · exact nd_8 n (by omega) b
  by_cases c : n < 512
  · exact nd_9 n (by omega) c
  have := nd_10 n (by omega) (by omega)
  rwa [decide_eq_false (p := n ≥ 1000) (by omega)] at this
theorem nd4 (n : Int) (h0 : 1000 ≤ n) (h1 : n < 10000) : SemP prog globs' 230 [EV.int IntKind.u64 n] (EV.int IntKind.i64 4) := by
  by_cases a : n < 1024
  · have := nd_10 n (by omega) (by omega)
    rwa [decide_eq_true (p := n ≥ 1000) (by omega)] at this
  by_cases b : n < 2048
  · exact nd_11 n (by omega) b
  by_cases c : n < 4096
  · exact nd_12 n (by omega) c
  by_cases d : n < 8192
  · exact nd_13 n (by omega) d
  have := nd_14 n (by omega) (by omega)
  rwa [decide_eq_false (p := n ≥ 10000) (by omega)] at this
theorem nd5 (n : Int) (h0 : 10000 ≤ n) (h1 : n < 100000) : SemP prog globs' 230 [EV.int IntKind.u64 n] (EV.int IntKind.i64 5) := by
  by_cases a : n < 16384
  · have := nd_14 n (by omega) (by omega)
    rwa [decide_eq_true (p := n ≥ 10000) (by omega)] at this
  by_cases b : n < 32768
  · exact nd_15 n (by omega) b
  by_cases c : n < 65536
  · exact nd_16 n (by omega) c
  exact nd_17 n (by omega) h1
end Go.Ev
namespace Go.Ev
open Go.Proofs.Tryz (prog)
set_option maxRecDepth 100000
set_option maxHeartbeats 0
theorem small_ (n : Int) (h0 : 0 ≤ n) (h1 : n < 100) : SemP prog globs' 229 [EV.int IntKind.i64 n] (EV.str (bif Decidable.decide (n < 10) then (ByteArray.mk #[48, 49, 50, 51, 52, 53, 54, 55, 56, 57, 97, 98, 99, 100, 101, 102, 103, 104, 105, 106, 107, 108, 109, 110, 111, 112, 113, 114, 115, 116, 117, 118, 119, 120, 121, 122]).extract n.toNat (n + 1).toNat else (ByteArray.mk (([48, 48, 48, 49, 48, 50, 48, 51, 48, 52, 48, 53, 48, 54, 48, 55, 48, 56, 48, 57, 49, 48, 49, 49, 49, 50, 49, 51, 49, 52, 49, 53, 49, 54, 49, 55, 49, 56, 49, 57, 50, 48, 50, 49, 50, 50, 50, 51, 50, 52].append [50, 53, 50, 54, 50, 55, 50, 56, 50, 57, 51, 48, 51, 49, 51, 50, 51, 51, 51, 52, 51, 53, 51, 54, 51, 55, 51, 56, 51, 57, 52, 48, 52, 49, 52, 50, 52, 51, 52, 52, 52, 53, 52, 54, 52, 55, 52, 56, 52, 57]).append ([53, 48, 53, 49, 53, 50, 53, 51, 53, 52, 53, 53, 53, 54, 53, 55, 53, 56, 53, 57, 54, 48, 54, 49, 54, 50, 54, 51, 54, 52, 54, 53, 54, 54, 54, 55, 54, 56, 54, 57, 55, 48, 55, 49, 55, 50, 55, 51, 55, 52].append [55, 53, 55, 54, 55, 55, 55, 56, 55, 57, 56, 48, 56, 49, 56, 50, 56, 51, 56, 52, 56, 53, 56, 54, 56, 55, 56, 56, 56, 57, 57, 48, 57, 49, 57, 50, 57, 51, 57, 52, 57, 53, 57, 54, 57, 55, 57, 56, 57, 57])).toArray).extract (n * 2).toNat (n * 2 + 2).toNat)) :=
  semP_fork (modes := pures) (news := news) (n := 60) (fuel := 100000) (F := []) (s := (.mk [] [(0, .fork true (Decidable.decide (n < 10)) 4 0 0 0 (.mk [(0, .kn 0 0), (0, .dec true), (0, .dec true)] [] [] [] []) (.mk [(0, .kn 0 0), (0, .dec true), (0, .dec true), (0, .dec true), (0, .dec true)] [] [] [] []))] [] [] [])) (ow := [((Decidable.decide (n < 10)) = true → (Decidable.decide (0 ≤ n) && Decidable.decide (n ≤ n + 1) && Decidable.decide (n + 1 ≤ 36)) = true), ((Decidable.decide (n < 10)) = true → (inR IntKind.i64 (n + 1)) = true), ((Decidable.decide (n < 10)) = false → (Decidable.decide (0 ≤ n * 2) && Decidable.decide (n * 2 ≤ n * 2 + 2) && Decidable.decide (n * 2 + 2 ≤ 200)) = true), ((Decidable.decide (n < 10)) = false → (inR IntKind.i64 (n * 2 + 2)) = true), ((Decidable.decide (n < 10)) = false → (inR IntKind.i64 (n * 2)) = true), ((Decidable.decide (n < 10)) = false → (inR IntKind.i64 (n * 2)) = true)]) hMixed KOk.nil (by kernel_rfl) (by kernel_rfl) (by kernel_rfl) (.cons (fun _ => (by simp_all [inB] <;> omega)) (.cons (fun _ => (by (simp only [inB, inR_i64, inR_i32, inR_u8, inR_u16, inR_u32, inR_u64, Bool.cond_true_left, Bool.cond_false_left, Bool.cond_true_right, Bool.cond_false_right, Bool.not_not, Bool.not_and, Bool.not_or, Bool.and_eq_true, Bool.or_eq_true, Bool.and_eq_false_imp, Bool.or_eq_false_iff, Bool.not_eq_true', Bool.not_eq_false', decide_eq_true_eq, decide_eq_false_iff_not, beq_iff_eq, bne_iff_ne, beq_eq_false_iff_ne, ne_eq, Decidable.not_not, Int.toNat_natCast] at * <;> omega))) (.cons (fun _ => (by simp_all [inB] <;> omega)) (.cons (fun _ => (by (simp only [inB, inR_i64, inR_i32, inR_u8, inR_u16, inR_u32, inR_u64, Bool.cond_true_left, Bool.cond_false_left, Bool.cond_true_right, Bool.cond_false_right, Bool.not_not, Bool.not_and, Bool.not_or, Bool.and_eq_true, Bool.or_eq_true, Bool.and_eq_false_imp, Bool.or_eq_false_iff, Bool.not_eq_true', Bool.not_eq_false', decide_eq_true_eq, decide_eq_false_iff_not, beq_iff_eq, bne_iff_ne, beq_eq_false_iff_ne, ne_eq, Decidable.not_not, Int.toNat_natCast] at * <;> omega))) (.cons (fun _ => (by (simp only [inB, inR_i64, inR_i32, inR_u8, inR_u16, inR_u32, inR_u64, Bool.cond_true_left, Bool.cond_false_left, Bool.cond_true_right, Bool.cond_false_right, Bool.not_not, Bool.not_and, Bool.not_or, Bool.and_eq_true, Bool.or_eq_true, Bool.and_eq_false_imp, Bool.or_eq_false_iff, Bool.not_eq_true', Bool.not_eq_false', decide_eq_true_eq, decide_eq_false_iff_not, beq_iff_eq, bne_iff_ne, beq_eq_false_iff_ne, ne_eq, Decidable.not_not, Int.toNat_natCast] at * <;> omega))) (.cons (fun _ => (by (simp only [inB, inR_i64, inR_i32, inR_u8, inR_u16, inR_u32, inR_u64, Bool.cond_true_left, Bool.cond_false_left, Bool.cond_true_right, Bool.cond_false_right, Bool.not_not, Bool.not_and, Bool.not_or, Bool.and_eq_true, Bool.or_eq_true, Bool.and_eq_false_imp, Bool.or_eq_false_iff, Bool.not_eq_true', Bool.not_eq_false', decide_eq_true_eq, decide_eq_false_iff_not, beq_iff_eq, bne_iff_ne, beq_eq_false_iff_ne, ne_eq, Decidable.not_not, Int.toNat_natCast] at * <;> omega))) .nil))))))
theorem apd_2 (n : Int) (m : Nat) (w : Nat → List EV) (sm : ByteArray) (h0 : 0 ≤ n) (h1 : n < 100) (h2 : m ≤ 1000000) (h3 : sm.size ≤ 2) (hs : SemP prog globs' 229 [EV.int IntKind.i64 n] (EV.str sm)) : SemF prog globs' 176 [EV.ms 0 1 0 m none, EV.int IntKind.u64 n, EV.int IntKind.i64 10] [EObj.arr false true 1 false m w] (EV.ms 1 1 0 (m + sm.size) none) [EObj.dead, EObj.arr false true 1 false (m + sm.size) (catRow m (fun (i : Nat) => w (0 + i)) fun (i : Nat) => [EV.int IntKind.u8 (↑(sm.data.getD i 0).toNat : Int)])] :=
  semF_ren (modes := pures2) (news := news) (n := 60) (fuel := 100000) (F := []) (s := (.mk [(1, .dec true), (0, .dec true), (0, .dec true)] [] [some (EV.str sm)] [] [])) (ow := [(Decidable.decide ((m + sm.size) * 1 ≤ 70368744177664) && Decidable.decide (m + sm.size < 4611686018427387904)) = true, SemP prog globs' 229 [EV.int IntKind.i64 n] (EV.str sm), (inR IntKind.i64 n) = true, (Decidable.decide (n < 100)) = true]) 2 [0, 2] hMixed KOk.nil (by kernel_rfl) (by kernel_rfl) (by kernel_rfl) (by kernel_rfl) (.cons (by simp_all [inB] <;> omega) (.cons hs (.cons (by (simp only [inB, inR_i64, inR_i32, inR_u8, inR_u16, inR_u32, inR_u64, Bool.cond_true_left, Bool.cond_false_left, Bool.cond_true_right, Bool.cond_false_right, Bool.not_not, Bool.not_and, Bool.not_or, Bool.and_eq_true, Bool.or_eq_true, Bool.and_eq_false_imp, Bool.or_eq_false_iff, Bool.not_eq_true', Bool.not_eq_false', decide_eq_true_eq, decide_eq_false_iff_not, beq_iff_eq, bne_iff_ne, beq_eq_false_iff_ne, ne_eq, Decidable.not_not, Int.toNat_natCast] at * <;> omega)) (.cons (by simp_all; done) .nil))))
end Go.Ev
namespace Go.Ev
open Go.Proofs.Tryz (prog)
def smallTab : ByteArray := (ByteArray.mk (([48, 48, 48, 49, 48, 50, 48, 51, 48, 52, 48, 53, 48, 54, 48, 55, 48, 56, 48, 57, 49, 48, 49, 49, 49, 50, 49, 51, 49, 52, 49, 53, 49, 54, 49, 55, 49, 56, 49, 57, 50, 48, 50, 49, 50, 50, 50, 51, 50, 52].append [50, 53, 50, 54, 50, 55, 50, 56, 50, 57, 51, 48, 51, 49, 51, 50, 51, 51, 51, 52, 51, 53, 51, 54, 51, 55, 51, 56, 51, 57, 52, 48, 52, 49, 52, 50, 52, 51, 52, 52, 52, 53, 52, 54, 52, 55, 52, 56, 52, 57]).append ([53, 48, 53, 49, 53, 50, 53, 51, 53, 52, 53, 53, 53, 54, 53, 55, 53, 56, 53, 57, 54, 48, 54, 49, 54, 50, 54, 51, 54, 52, 54, 53, 54, 54, 54, 55, 54, 56, 54, 57, 55, 48, 55, 49, 55, 50, 55, 51, 55, 52].append [55, 53, 55, 54, 55, 55, 55, 56, 55, 57, 56, 48, 56, 49, 56, 50, 56, 51, 56, 52, 56, 53, 56, 54, 56, 55, 56, 56, 56, 57, 57, 48, 57, 49, 57, 50, 57, 51, 57, 52, 57, 53, 57, 54, 57, 55, 57, 56, 57, 57])).toArray)
theorem small_all : ((List.range 100).all fun k => Nat.beq (smallTab.data.getD (k * 2) 0).toNat (48 + k / 10) && Nat.beq (smallTab.data.getD (k * 2 + 1) 0).toNat (48 + k % 10)) = true := by kernel_rfl
theorem small_at {k : Nat} (h : k < 100) : (smallTab.data.getD (k * 2) 0).toNat = 48 + k / 10 ∧ (smallTab.data.getD (k * 2 + 1) 0).toNat = 48 + k % 10 := by
  have := List.all_eq_true.1 small_all k (List.mem_range.2 h)
  simp only [Bool.and_eq_true] at this
  exact ⟨Nat.eq_of_beq_eq_true this.1, Nat.eq_of_beq_eq_true this.2⟩
def bytesEq : List UInt8 → List UInt8 → Bool
  | [], [] => true
  | a :: l, b :: m => Nat.beq a.toNat b.toNat && bytesEq l m
  | _, _ => false
theorem bytesEq_ok : ∀ {l m : List UInt8}, bytesEq l m = true → l = m
  | [], [], _ => rfl
  | a :: l, b :: m, h => by
    simp only [bytesEq, Bool.and_eq_true] at h
    rw [UInt8.toNat_inj.1 (Nat.eq_of_beq_eq_true h.1), bytesEq_ok h.2]
  | [], _ :: _, h => by cases h
  | _ :: _, [], h => by cases h
def smallE (n : Int) : ByteArray := (bif Decidable.decide (n < 10) then (ByteArray.mk #[48, 49, 50, 51, 52, 53, 54, 55, 56, 57, 97, 98, 99, 100, 101, 102, 103, 104, 105, 106, 107, 108, 109, 110, 111, 112, 113, 114, 115, 116, 117, 118, 119, 120, 121, 122]).extract n.toNat (n + 1).toNat else (ByteArray.mk (([48, 48, 48, 49, 48, 50, 48, 51, 48, 52, 48, 53, 48, 54, 48, 55, 48, 56, 48, 57, 49, 48, 49, 49, 49, 50, 49, 51, 49, 52, 49, 53, 49, 54, 49, 55, 49, 56, 49, 57, 50, 48, 50, 49, 50, 50, 50, 51, 50, 52].append [50, 53, 50, 54, 50, 55, 50, 56, 50, 57, 51, 48, 51, 49, 51, 50, 51, 51, 51, 52, 51, 53, 51, 54, 51, 55, 51, 56, 51, 57, 52, 48, 52, 49, 52, 50, 52, 51, 52, 52, 52, 53, 52, 54, 52, 55, 52, 56, 52, 57]).append ([53, 48, 53, 49, 53, 50, 53, 51, 53, 52, 53, 53, 53, 54, 53, 55, 53, 56, 53, 57, 54, 48, 54, 49, 54, 50, 54, 51, 54, 52, 54, 53, 54, 54, 54, 55, 54, 56, 54, 57, 55, 48, 55, 49, 55, 50, 55, 51, 55, 52].append [55, 53, 55, 54, 55, 55, 55, 56, 55, 57, 56, 48, 56, 49, 56, 50, 56, 51, 56, 52, 56, 53, 56, 54, 56, 55, 56, 56, 56, 57, 57, 48, 57, 49, 57, 50, 57, 51, 57, 52, 57, 53, 57, 54, 57, 55, 57, 56, 57, 57])).toArray).extract (n * 2).toNat (n * 2 + 2).toNat)
theorem smallE_all : ((List.range 100).all fun k => bytesEq (smallE k).data.toList (decU k)) = true := by kernel_rfl
theorem smallE_eq {k : Nat} (h : k < 100) : (smallE k).data.toList = decU k := bytesEq_ok (List.all_eq_true.1 smallE_all k (List.mem_range.2 h))
end Go.Ev
namespace Go.Ev
open Go.Proofs.Tryz (prog)
set_option maxRecDepth 100000
set_option maxHeartbeats 0
theorem apd_3 (n : Int) (m : Nat) (w : Nat → List EV) (h0 : 100 ≤ n) (h1 : n < 1000) (h2 : m ≤ 1000000) : SemF prog globs' 176 [EV.ms 0 1 0 m none, EV.int IntKind.u64 n, EV.int IntKind.i64 10] [EObj.arr false true 1 false m w] (EV.ms 1 1 0 (m + 3) none) [EObj.dead, EObj.arr false true 1 false (m + 3) (catRow m (fun (i : Nat) => w (0 + i)) fun (i : Nat) => updRow (updRow (updRow (fun (i : Nat) => [(List.map EV.ofCell (Value.agg #[Value.int IntKind.u8 0, Value.int IntKind.u8 0, Value.int IntKind.u8 0, Value.int IntKind.u8 0, Value.int IntKind.u8 0, Value.int IntKind.u8 0, Value.int IntKind.u8 0, Value.int IntKind.u8 0, Value.int IntKind.u8 0, Value.int IntKind.u8 0, Value.int IntKind.u8 0, Value.int IntKind.u8 0, Value.int IntKind.u8 0, Value.int IntKind.u8 0, Value.int IntKind.u8 0, Value.int IntKind.u8 0, Value.int IntKind.u8 0, Value.int IntKind.u8 0, Value.int IntKind.u8 0, Value.int IntKind.u8 0, Value.int IntKind.u8 0, Value.int IntKind.u8 0, Value.int IntKind.u8 0, Value.int IntKind.u8 0]).cells.toList).getD i EV.undef]) 2 [EV.int IntKind.u8 (↑((ByteArray.mk (([48, 48, 48, 49, 48, 50, 48, 51, 48, 52, 48, 53, 48, 54, 48, 55, 48, 56, 48, 57, 49, 48, 49, 49, 49, 50, 49, 51, 49, 52, 49, 53, 49, 54, 49, 55, 49, 56, 49, 57, 50, 48, 50, 49, 50, 50, 50, 51, 50, 52].append [50, 53, 50, 54, 50, 55, 50, 56, 50, 57, 51, 48, 51, 49, 51, 50, 51, 51, 51, 52, 51, 53, 51, 54, 51, 55, 51, 56, 51, 57, 52, 48, 52, 49, 52, 50, 52, 51, 52, 52, 52, 53, 52, 54, 52, 55, 52, 56, 52, 57]).append ([53, 48, 53, 49, 53, 50, 53, 51, 53, 52, 53, 53, 53, 54, 53, 55, 53, 56, 53, 57, 54, 48, 54, 49, 54, 50, 54, 51, 54, 52, 54, 53, 54, 54, 54, 55, 54, 56, 54, 57, 55, 48, 55, 49, 55, 50, 55, 51, 55, 52].append [55, 53, 55, 54, 55, 55, 55, 56, 55, 57, 56, 48, 56, 49, 56, 50, 56, 51, 56, 52, 56, 53, 56, 54, 56, 55, 56, 56, 56, 57, 57, 48, 57, 49, 57, 50, 57, 51, 57, 52, 57, 53, 57, 54, 57, 55, 57, 56, 57, 57])).toArray).data.getD (n.tmod 100 * 2 + 1).toNat 0).toNat : Int)]) 1 [EV.int IntKind.u8 (↑((ByteArray.mk (([48, 48, 48, 49, 48, 50, 48, 51, 48, 52, 48, 53, 48, 54, 48, 55, 48, 56, 48, 57, 49, 48, 49, 49, 49, 50, 49, 51, 49, 52, 49, 53, 49, 54, 49, 55, 49, 56, 49, 57, 50, 48, 50, 49, 50, 50, 50, 51, 50, 52].append [50, 53, 50, 54, 50, 55, 50, 56, 50, 57, 51, 48, 51, 49, 51, 50, 51, 51, 51, 52, 51, 53, 51, 54, 51, 55, 51, 56, 51, 57, 52, 48, 52, 49, 52, 50, 52, 51, 52, 52, 52, 53, 52, 54, 52, 55, 52, 56, 52, 57]).append ([53, 48, 53, 49, 53, 50, 53, 51, 53, 52, 53, 53, 53, 54, 53, 55, 53, 56, 53, 57, 54, 48, 54, 49, 54, 50, 54, 51, 54, 52, 54, 53, 54, 54, 54, 55, 54, 56, 54, 57, 55, 48, 55, 49, 55, 50, 55, 51, 55, 52].append [55, 53, 55, 54, 55, 55, 55, 56, 55, 57, 56, 48, 56, 49, 56, 50, 56, 51, 56, 52, 56, 53, 56, 54, 56, 55, 56, 56, 56, 57, 57, 48, 57, 49, 57, 50, 57, 51, 57, 52, 57, 53, 57, 54, 57, 55, 57, 56, 57, 57])).toArray).data.getD (n.tmod 100 * 2).toNat 0).toNat : Int)]) 0 [EV.int IntKind.u8 (48 + n.tdiv 100)] (0 + i))] :=
  semF_ren (modes := pures2) (news := news) (n := 60) (fuel := 100000) (F := []) (s := (.mk [(1, .dec false), (2, .dec true), (3, .dec true), (1, .dec true), (2, .dec true), (0, .dec true), (0, .dec true), (4, .dec true), (0, .dec true), (2, .dec true)] [] [some (EV.int IntKind.i64 3)] [] [])) (ow := [(Decidable.decide ((m + 3) * 1 ≤ 70368744177664) && Decidable.decide (m + 3 < 4611686018427387904)) = true, (inR IntKind.u8 (48 + n.tdiv 100)) = true, (inR IntKind.u32 (48 + n.tdiv 100)) = true, (inB (n.tmod 100 * 2) 200) = true, (inB (n.tmod 100 * 2 + 1) 200) = true, (inR IntKind.u32 (n.tmod 100 * 2 + 1)) = true, (inR IntKind.u32 (n.tdiv 100)) = true, (inR IntKind.u32 (n.tmod 100 * 2)) = true, (inR IntKind.u32 n) = true, SemP prog globs' 230 [EV.int IntKind.u64 n] (EV.int IntKind.i64 3), (Decidable.decide (n < 100)) = false]) 2 [0, 4] hMixed KOk.nil (by kernel_rfl) (by kernel_rfl) (by kernel_rfl) (by kernel_rfl) (.cons (by simp_all [inB] <;> omega) (.cons (by (have a0 : (0 : Int) ≤ n := (by omega); simp only [inB, inR_u8, inR_u32, inR_i64, inR_u64, Int.tmod_eq_emod_of_nonneg a0, Int.tdiv_eq_ediv_of_nonneg a0, Int.tmod_eq_emod_of_nonneg (Int.emod_nonneg n (by decide : (10000 : Int) ≠ 0)), Int.tdiv_eq_ediv_of_nonneg (Int.emod_nonneg n (by decide : (10000 : Int) ≠ 0)), Int.tmod_eq_emod_of_nonneg (Int.ediv_nonneg a0 (by decide : (0 : Int) ≤ 10000)), Int.tdiv_eq_ediv_of_nonneg (Int.ediv_nonneg a0 (by decide : (0 : Int) ≤ 10000)), Bool.and_eq_true, decide_eq_true_eq, decide_eq_false_iff_not]; omega)) (.cons (by (have a0 : (0 : Int) ≤ n := (by omega); simp only [inB, inR_u8, inR_u32, inR_i64, inR_u64, Int.tmod_eq_emod_of_nonneg a0, Int.tdiv_eq_ediv_of_nonneg a0, Int.tmod_eq_emod_of_nonneg (Int.emod_nonneg n (by decide : (10000 : Int) ≠ 0)), Int.tdiv_eq_ediv_of_nonneg (Int.emod_nonneg n (by decide : (10000 : Int) ≠ 0)), Int.tmod_eq_emod_of_nonneg (Int.ediv_nonneg a0 (by decide : (0 : Int) ≤ 10000)), Int.tdiv_eq_ediv_of_nonneg (Int.ediv_nonneg a0 (by decide : (0 : Int) ≤ 10000)), Bool.and_eq_true, decide_eq_true_eq, decide_eq_false_iff_not]; omega)) (.cons (by (have a0 : (0 : Int) ≤ n := (by omega); simp only [inB, inR_u8, inR_u32, inR_i64, inR_u64, Int.tmod_eq_emod_of_nonneg a0, Int.tdiv_eq_ediv_of_nonneg a0, Int.tmod_eq_emod_of_nonneg (Int.emod_nonneg n (by decide : (10000 : Int) ≠ 0)), Int.tdiv_eq_ediv_of_nonneg (Int.emod_nonneg n (by decide : (10000 : Int) ≠ 0)), Int.tmod_eq_emod_of_nonneg (Int.ediv_nonneg a0 (by decide : (0 : Int) ≤ 10000)), Int.tdiv_eq_ediv_of_nonneg (Int.ediv_nonneg a0 (by decide : (0 : Int) ≤ 10000)), Bool.and_eq_true, decide_eq_true_eq, decide_eq_false_iff_not]; omega)) (.cons (by (have a0 : (0 : Int) ≤ n := (by omega); simp only [inB, inR_u8, inR_u32, inR_i64, inR_u64, Int.tmod_eq_emod_of_nonneg a0, Int.tdiv_eq_ediv_of_nonneg a0, Int.tmod_eq_emod_of_nonneg (Int.emod_nonneg n (by decide : (10000 : Int) ≠ 0)), Int.tdiv_eq_ediv_of_nonneg (Int.emod_nonneg n (by decide : (10000 : Int) ≠ 0)), Int.tmod_eq_emod_of_nonneg (Int.ediv_nonneg a0 (by decide : (0 : Int) ≤ 10000)), Int.tdiv_eq_ediv_of_nonneg (Int.ediv_nonneg a0 (by decide : (0 : Int) ≤ 10000)), Bool.and_eq_true, decide_eq_true_eq, decide_eq_false_iff_not]; omega)) (.cons (by (have a0 : (0 : Int) ≤ n := (by omega); simp only [inB, inR_u8, inR_u32, inR_i64, inR_u64, Int.tmod_eq_emod_of_nonneg a0, Int.tdiv_eq_ediv_of_nonneg a0, Int.tmod_eq_emod_of_nonneg (Int.emod_nonneg n (by decide : (10000 : Int) ≠ 0)), Int.tdiv_eq_ediv_of_nonneg (Int.emod_nonneg n (by decide : (10000 : Int) ≠ 0)), Int.tmod_eq_emod_of_nonneg (Int.ediv_nonneg a0 (by decide : (0 : Int) ≤ 10000)), Int.tdiv_eq_ediv_of_nonneg (Int.ediv_nonneg a0 (by decide : (0 : Int) ≤ 10000)), Bool.and_eq_true, decide_eq_true_eq, decide_eq_false_iff_not]; omega)) (.cons (by (have a0 : (0 : Int) ≤ n := (by omega); simp only [inB, inR_u8, inR_u32, inR_i64, inR_u64, Int.tmod_eq_emod_of_nonneg a0, Int.tdiv_eq_ediv_of_nonneg a0, Int.tmod_eq_emod_of_nonneg (Int.emod_nonneg n (by decide : (10000 : Int) ≠ 0)), Int.tdiv_eq_ediv_of_nonneg (Int.emod_nonneg n (by decide : (10000 : Int) ≠ 0)), Int.tmod_eq_emod_of_nonneg (Int.ediv_nonneg a0 (by decide : (0 : Int) ≤ 10000)), Int.tdiv_eq_ediv_of_nonneg (Int.ediv_nonneg a0 (by decide : (0 : Int) ≤ 10000)), Bool.and_eq_true, decide_eq_true_eq, decide_eq_false_iff_not]; omega)) (.cons (by (have a0 : (0 : Int) ≤ n := (by omega); simp only [inB, inR_u8, inR_u32, inR_i64, inR_u64, Int.tmod_eq_emod_of_nonneg a0, Int.tdiv_eq_ediv_of_nonneg a0, Int.tmod_eq_emod_of_nonneg (Int.emod_nonneg n (by decide : (10000 : Int) ≠ 0)), Int.tdiv_eq_ediv_of_nonneg (Int.emod_nonneg n (by decide : (10000 : Int) ≠ 0)), Int.tmod_eq_emod_of_nonneg (Int.ediv_nonneg a0 (by decide : (0 : Int) ≤ 10000)), Int.tdiv_eq_ediv_of_nonneg (Int.ediv_nonneg a0 (by decide : (0 : Int) ≤ 10000)), Bool.and_eq_true, decide_eq_true_eq, decide_eq_false_iff_not]; omega)) (.cons (by (have a0 : (0 : Int) ≤ n := (by omega); simp only [inB, inR_u8, inR_u32, inR_i64, inR_u64, Int.tmod_eq_emod_of_nonneg a0, Int.tdiv_eq_ediv_of_nonneg a0, Int.tmod_eq_emod_of_nonneg (Int.emod_nonneg n (by decide : (10000 : Int) ≠ 0)), Int.tdiv_eq_ediv_of_nonneg (Int.emod_nonneg n (by decide : (10000 : Int) ≠ 0)), Int.tmod_eq_emod_of_nonneg (Int.ediv_nonneg a0 (by decide : (0 : Int) ≤ 10000)), Int.tdiv_eq_ediv_of_nonneg (Int.ediv_nonneg a0 (by decide : (0 : Int) ≤ 10000)), Bool.and_eq_true, decide_eq_true_eq, decide_eq_false_iff_not]; omega)) (.cons (nd3 n (by omega) (by omega)) (.cons (by (have a0 : (0 : Int) ≤ n := (by omega); simp only [inB, inR_u8, inR_u32, inR_i64, inR_u64, Int.tmod_eq_emod_of_nonneg a0, Int.tdiv_eq_ediv_of_nonneg a0, Int.tmod_eq_emod_of_nonneg (Int.emod_nonneg n (by decide : (10000 : Int) ≠ 0)), Int.tdiv_eq_ediv_of_nonneg (Int.emod_nonneg n (by decide : (10000 : Int) ≠ 0)), Int.tmod_eq_emod_of_nonneg (Int.ediv_nonneg a0 (by decide : (0 : Int) ≤ 10000)), Int.tdiv_eq_ediv_of_nonneg (Int.ediv_nonneg a0 (by decide : (0 : Int) ≤ 10000)), Bool.and_eq_true, decide_eq_true_eq, decide_eq_false_iff_not]; omega)) .nil)))))))))))
theorem apd_4 (n : Int) (m : Nat) (w : Nat → List EV) (h0 : 1000 ≤ n) (h1 : n < 10000) (h2 : m ≤ 1000000) : SemF prog globs' 176 [EV.ms 0 1 0 m none, EV.int IntKind.u64 n, EV.int IntKind.i64 10] [EObj.arr false true 1 false m w] (EV.ms 1 1 0 (m + 4) none) [EObj.dead, EObj.arr false true 1 false (m + 4) (catRow m (fun (i : Nat) => w (0 + i)) fun (i : Nat) => updRow (updRow (updRow (updRow (fun (i : Nat) => [(List.map EV.ofCell (Value.agg #[Value.int IntKind.u8 0, Value.int IntKind.u8 0, Value.int IntKind.u8 0, Value.int IntKind.u8 0, Value.int IntKind.u8 0, Value.int IntKind.u8 0, Value.int IntKind.u8 0, Value.int IntKind.u8 0, Value.int IntKind.u8 0, Value.int IntKind.u8 0, Value.int IntKind.u8 0, Value.int IntKind.u8 0, Value.int IntKind.u8 0, Value.int IntKind.u8 0, Value.int IntKind.u8 0, Value.int IntKind.u8 0, Value.int IntKind.u8 0, Value.int IntKind.u8 0, Value.int IntKind.u8 0, Value.int IntKind.u8 0, Value.int IntKind.u8 0, Value.int IntKind.u8 0, Value.int IntKind.u8 0, Value.int IntKind.u8 0]).cells.toList).getD i EV.undef]) 3 [EV.int IntKind.u8 (↑((ByteArray.mk (([48, 48, 48, 49, 48, 50, 48, 51, 48, 52, 48, 53, 48, 54, 48, 55, 48, 56, 48, 57, 49, 48, 49, 49, 49, 50, 49, 51, 49, 52, 49, 53, 49, 54, 49, 55, 49, 56, 49, 57, 50, 48, 50, 49, 50, 50, 50, 51, 50, 52].append [50, 53, 50, 54, 50, 55, 50, 56, 50, 57, 51, 48, 51, 49, 51, 50, 51, 51, 51, 52, 51, 53, 51, 54, 51, 55, 51, 56, 51, 57, 52, 48, 52, 49, 52, 50, 52, 51, 52, 52, 52, 53, 52, 54, 52, 55, 52, 56, 52, 57]).append ([53, 48, 53, 49, 53, 50, 53, 51, 53, 52, 53, 53, 53, 54, 53, 55, 53, 56, 53, 57, 54, 48, 54, 49, 54, 50, 54, 51, 54, 52, 54, 53, 54, 54, 54, 55, 54, 56, 54, 57, 55, 48, 55, 49, 55, 50, 55, 51, 55, 52].append [55, 53, 55, 54, 55, 55, 55, 56, 55, 57, 56, 48, 56, 49, 56, 50, 56, 51, 56, 52, 56, 53, 56, 54, 56, 55, 56, 56, 56, 57, 57, 48, 57, 49, 57, 50, 57, 51, 57, 52, 57, 53, 57, 54, 57, 55, 57, 56, 57, 57])).toArray).data.getD ((n.tmod 10000).tmod 100 * 2 + 1).toNat 0).toNat : Int)]) 2 [EV.int IntKind.u8 (↑((ByteArray.mk (([48, 48, 48, 49, 48, 50, 48, 51, 48, 52, 48, 53, 48, 54, 48, 55, 48, 56, 48, 57, 49, 48, 49, 49, 49, 50, 49, 51, 49, 52, 49, 53, 49, 54, 49, 55, 49, 56, 49, 57, 50, 48, 50, 49, 50, 50, 50, 51, 50, 52].append [50, 53, 50, 54, 50, 55, 50, 56, 50, 57, 51, 48, 51, 49, 51, 50, 51, 51, 51, 52, 51, 53, 51, 54, 51, 55, 51, 56, 51, 57, 52, 48, 52, 49, 52, 50, 52, 51, 52, 52, 52, 53, 52, 54, 52, 55, 52, 56, 52, 57]).append ([53, 48, 53, 49, 53, 50, 53, 51, 53, 52, 53, 53, 53, 54, 53, 55, 53, 56, 53, 57, 54, 48, 54, 49, 54, 50, 54, 51, 54, 52, 54, 53, 54, 54, 54, 55, 54, 56, 54, 57, 55, 48, 55, 49, 55, 50, 55, 51, 55, 52].append [55, 53, 55, 54, 55, 55, 55, 56, 55, 57, 56, 48, 56, 49, 56, 50, 56, 51, 56, 52, 56, 53, 56, 54, 56, 55, 56, 56, 56, 57, 57, 48, 57, 49, 57, 50, 57, 51, 57, 52, 57, 53, 57, 54, 57, 55, 57, 56, 57, 57])).toArray).data.getD ((n.tmod 10000).tmod 100 * 2).toNat 0).toNat : Int)]) 1 [EV.int IntKind.u8 (↑((ByteArray.mk (([48, 48, 48, 49, 48, 50, 48, 51, 48, 52, 48, 53, 48, 54, 48, 55, 48, 56, 48, 57, 49, 48, 49, 49, 49, 50, 49, 51, 49, 52, 49, 53, 49, 54, 49, 55, 49, 56, 49, 57, 50, 48, 50, 49, 50, 50, 50, 51, 50, 52].append [50, 53, 50, 54, 50, 55, 50, 56, 50, 57, 51, 48, 51, 49, 51, 50, 51, 51, 51, 52, 51, 53, 51, 54, 51, 55, 51, 56, 51, 57, 52, 48, 52, 49, 52, 50, 52, 51, 52, 52, 52, 53, 52, 54, 52, 55, 52, 56, 52, 57]).append ([53, 48, 53, 49, 53, 50, 53, 51, 53, 52, 53, 53, 53, 54, 53, 55, 53, 56, 53, 57, 54, 48, 54, 49, 54, 50, 54, 51, 54, 52, 54, 53, 54, 54, 54, 55, 54, 56, 54, 57, 55, 48, 55, 49, 55, 50, 55, 51, 55, 52].append [55, 53, 55, 54, 55, 55, 55, 56, 55, 57, 56, 48, 56, 49, 56, 50, 56, 51, 56, 52, 56, 53, 56, 54, 56, 55, 56, 56, 56, 57, 57, 48, 57, 49, 57, 50, 57, 51, 57, 52, 57, 53, 57, 54, 57, 55, 57, 56, 57, 57])).toArray).data.getD ((n.tmod 10000).tdiv 100 * 2 + 1).toNat 0).toNat : Int)]) 0 [EV.int IntKind.u8 (↑((ByteArray.mk (([48, 48, 48, 49, 48, 50, 48, 51, 48, 52, 48, 53, 48, 54, 48, 55, 48, 56, 48, 57, 49, 48, 49, 49, 49, 50, 49, 51, 49, 52, 49, 53, 49, 54, 49, 55, 49, 56, 49, 57, 50, 48, 50, 49, 50, 50, 50, 51, 50, 52].append [50, 53, 50, 54, 50, 55, 50, 56, 50, 57, 51, 48, 51, 49, 51, 50, 51, 51, 51, 52, 51, 53, 51, 54, 51, 55, 51, 56, 51, 57, 52, 48, 52, 49, 52, 50, 52, 51, 52, 52, 52, 53, 52, 54, 52, 55, 52, 56, 52, 57]).append ([53, 48, 53, 49, 53, 50, 53, 51, 53, 52, 53, 53, 53, 54, 53, 55, 53, 56, 53, 57, 54, 48, 54, 49, 54, 50, 54, 51, 54, 52, 54, 53, 54, 54, 54, 55, 54, 56, 54, 57, 55, 48, 55, 49, 55, 50, 55, 51, 55, 52].append [55, 53, 55, 54, 55, 55, 55, 56, 55, 57, 56, 48, 56, 49, 56, 50, 56, 51, 56, 52, 56, 53, 56, 54, 56, 55, 56, 56, 56, 57, 57, 48, 57, 49, 57, 50, 57, 51, 57, 52, 57, 53, 57, 54, 57, 55, 57, 56, 57, 57])).toArray).data.getD ((n.tmod 10000).tdiv 100 * 2).toNat 0).toNat : Int)] (0 + i))] :=
  semF_ren (modes := pures2) (news := news) (n := 60) (fuel := 100000) (F := []) (s := (.mk [(1, .dec false), (2, .dec true), (3, .dec true), (1, .dec true), (0, .dec true), (1, .dec true), (2, .dec true), (0, .dec true), (0, .dec true), (4, .dec true), (0, .dec true), (0, .dec true), (6, .dec true)] [] [some (EV.int IntKind.i64 4)] [] [])) (ow := [(Decidable.decide ((m + 4) * 1 ≤ 70368744177664) && Decidable.decide (m + 4 < 4611686018427387904)) = true, (inB ((n.tmod 10000).tdiv 100 * 2) 200) = true, (inB ((n.tmod 10000).tdiv 100 * 2 + 1) 200) = true, (inR IntKind.u32 ((n.tmod 10000).tdiv 100 * 2 + 1)) = true, (inB ((n.tmod 10000).tmod 100 * 2) 200) = true, (inB ((n.tmod 10000).tmod 100 * 2 + 1) 200) = true, (inR IntKind.u32 ((n.tmod 10000).tmod 100 * 2 + 1)) = true, (inR IntKind.u32 ((n.tmod 10000).tmod 100 * 2)) = true, (inR IntKind.u32 ((n.tmod 10000).tdiv 100 * 2)) = true, (inR IntKind.u32 ((n.tmod 10000).tdiv 100)) = true, (inR IntKind.u32 (n.tdiv 10000)) = true, (inR IntKind.u32 n) = true, SemP prog globs' 230 [EV.int IntKind.u64 n] (EV.int IntKind.i64 4), (Decidable.decide (n < 100)) = false]) 2 [0, 3] hMixed KOk.nil (by kernel_rfl) (by kernel_rfl) (by kernel_rfl) (by kernel_rfl) (.cons (by simp_all [inB] <;> omega) (.cons (by (have a0 : (0 : Int) ≤ n := (by omega); simp only [inB, inR_u8, inR_u32, inR_i64, inR_u64, Int.tmod_eq_emod_of_nonneg a0, Int.tdiv_eq_ediv_of_nonneg a0, Int.tmod_eq_emod_of_nonneg (Int.emod_nonneg n (by decide : (10000 : Int) ≠ 0)), Int.tdiv_eq_ediv_of_nonneg (Int.emod_nonneg n (by decide : (10000 : Int) ≠ 0)), Int.tmod_eq_emod_of_nonneg (Int.ediv_nonneg a0 (by decide : (0 : Int) ≤ 10000)), Int.tdiv_eq_ediv_of_nonneg (Int.ediv_nonneg a0 (by decide : (0 : Int) ≤ 10000)), Bool.and_eq_true, decide_eq_true_eq, decide_eq_false_iff_not]; omega)) (.cons (by (have a0 : (0 : Int) ≤ n := (by omega); simp only [inB, inR_u8, inR_u32, inR_i64, inR_u64, Int.tmod_eq_emod_of_nonneg a0, Int.tdiv_eq_ediv_of_nonneg a0, Int.tmod_eq_emod_of_nonneg (Int.emod_nonneg n (by decide : (10000 : Int) ≠ 0)), Int.tdiv_eq_ediv_of_nonneg (Int.emod_nonneg n (by decide : (10000 : Int) ≠ 0)), Int.tmod_eq_emod_of_nonneg (Int.ediv_nonneg a0 (by decide : (0 : Int) ≤ 10000)), Int.tdiv_eq_ediv_of_nonneg (Int.ediv_nonneg a0 (by decide : (0 : Int) ≤ 10000)), Bool.and_eq_true, decide_eq_true_eq, decide_eq_false_iff_not]; omega)) (.cons (by (have a0 : (0 : Int) ≤ n := (by omega); simp only [inB, inR_u8, inR_u32, inR_i64, inR_u64, Int.tmod_eq_emod_of_nonneg a0, Int.tdiv_eq_ediv_of_nonneg a0, Int.tmod_eq_emod_of_nonneg (Int.emod_nonneg n (by decide : (10000 : Int) ≠ 0)), Int.tdiv_eq_ediv_of_nonneg (Int.emod_nonneg n (by decide : (10000 : Int) ≠ 0)), Int.tmod_eq_emod_of_nonneg (Int.ediv_nonneg a0 (by decide : (0 : Int) ≤ 10000)), Int.tdiv_eq_ediv_of_nonneg (Int.ediv_nonneg a0 (by decide : (0 : Int) ≤ 10000)), Bool.and_eq_true, decide_eq_true_eq, decide_eq_false_iff_not]; omega)) (.cons (by (have a0 : (0 : Int) ≤ n := (by omega); simp only [inB, inR_u8, inR_u32, inR_i64, inR_u64, Int.tmod_eq_emod_of_nonneg a0, Int.tdiv_eq_ediv_of_nonneg a0, Int.tmod_eq_emod_of_nonneg (Int.emod_nonneg n (by decide : (10000 : Int) ≠ 0)), Int.tdiv_eq_ediv_of_nonneg (Int.emod_nonneg n (by decide : (10000 : Int) ≠ 0)), Int.tmod_eq_emod_of_nonneg (Int.ediv_nonneg a0 (by decide : (0 : Int) ≤ 10000)), Int.tdiv_eq_ediv_of_nonneg (Int.ediv_nonneg a0 (by decide : (0 : Int) ≤ 10000)), Bool.and_eq_true, decide_eq_true_eq, decide_eq_false_iff_not]; omega)) (.cons (by (have a0 : (0 : Int) ≤ n := (by omega); simp only [inB, inR_u8, inR_u32, inR_i64, inR_u64, Int.tmod_eq_emod_of_nonneg a0, Int.tdiv_eq_ediv_of_nonneg a0, Int.tmod_eq_emod_of_nonneg (Int.emod_nonneg n (by decide : (10000 : Int) ≠ 0)), Int.tdiv_eq_ediv_of_nonneg (Int.emod_nonneg n (by decide : (10000 : Int) ≠ 0)), Int.tmod_eq_emod_of_nonneg (Int.ediv_nonneg a0 (by decide : (0 : Int) ≤ 10000)), Int.tdiv_eq_ediv_of_nonneg (Int.ediv_nonneg a0 (by decide : (0 : Int) ≤ 10000)), Bool.and_eq_true, decide_eq_true_eq, decide_eq_false_iff_not]; omega)) (.cons (by (have a0 : (0 : Int) ≤ n := (by omega); simp only [inB, inR_u8, inR_u32, inR_i64, inR_u64, Int.tmod_eq_emod_of_nonneg a0, Int.tdiv_eq_ediv_of_nonneg a0, Int.tmod_eq_emod_of_nonneg (Int.emod_nonneg n (by decide : (10000 : Int) ≠ 0)), Int.tdiv_eq_ediv_of_nonneg (Int.emod_nonneg n (by decide : (10000 : Int) ≠ 0)), Int.tmod_eq_emod_of_nonneg (Int.ediv_nonneg a0 (by decide : (0 : Int) ≤ 10000)), Int.tdiv_eq_ediv_of_nonneg (Int.ediv_nonneg a0 (by decide : (0 : Int) ≤ 10000)), Bool.and_eq_true, decide_eq_true_eq, decide_eq_false_iff_not]; omega)) (.cons (by (have a0 : (0 : Int) ≤ n := (by omega); simp only [inB, inR_u8, inR_u32, inR_i64, inR_u64, Int.tmod_eq_emod_of_nonneg a0, Int.tdiv_eq_ediv_of_nonneg a0, Int.tmod_eq_emod_of_nonneg (Int.emod_nonneg n (by decide : (10000 : Int) ≠ 0)), Int.tdiv_eq_ediv_of_nonneg (Int.emod_nonneg n (by decide : (10000 : Int) ≠ 0)), Int.tmod_eq_emod_of_nonneg (Int.ediv_nonneg a0 (by decide : (0 : Int) ≤ 10000)), Int.tdiv_eq_ediv_of_nonneg (Int.ediv_nonneg a0 (by decide : (0 : Int) ≤ 10000)), Bool.and_eq_true, decide_eq_true_eq, decide_eq_false_iff_not]; omega)) (.cons (by (have a0 : (0 : Int) ≤ n := (by omega); simp only [inB, inR_u8, inR_u32, inR_i64, inR_u64, Int.tmod_eq_emod_of_nonneg a0, Int.tdiv_eq_ediv_of_nonneg a0, Int.tmod_eq_emod_of_nonneg (Int.emod_nonneg n (by decide : (10000 : Int) ≠ 0)), Int.tdiv_eq_ediv_of_nonneg (Int.emod_nonneg n (by decide : (10000 : Int) ≠ 0)), Int.tmod_eq_emod_of_nonneg (Int.ediv_nonneg a0 (by decide : (0 : Int) ≤ 10000)), Int.tdiv_eq_ediv_of_nonneg (Int.ediv_nonneg a0 (by decide : (0 : Int) ≤ 10000)), Bool.and_eq_true, decide_eq_true_eq, decide_eq_false_iff_not]; omega)) (.cons (by (have a0 : (0 : Int) ≤ n := (by omega); simp only [inB, inR_u8, inR_u32, inR_i64, inR_u64, Int.tmod_eq_emod_of_nonneg a0, Int.tdiv_eq_ediv_of_nonneg a0, Int.tmod_eq_emod_of_nonneg (Int.emod_nonneg n (by decide : (10000 : Int) ≠ 0)), Int.tdiv_eq_ediv_of_nonneg (Int.emod_nonneg n (by decide : (10000 : Int) ≠ 0)), Int.tmod_eq_emod_of_nonneg (Int.ediv_nonneg a0 (by decide : (0 : Int) ≤ 10000)), Int.tdiv_eq_ediv_of_nonneg (Int.ediv_nonneg a0 (by decide : (0 : Int) ≤ 10000)), Bool.and_eq_true, decide_eq_true_eq, decide_eq_false_iff_not]; omega)) (.cons (by (have a0 : (0 : Int) ≤ n := (by omega); simp only [inB, inR_u8, inR_u32, inR_i64, inR_u64, Int.tmod_eq_emod_of_nonneg a0, Int.tdiv_eq_ediv_of_nonneg a0, Int.tmod_eq_emod_of_nonneg (Int.emod_nonneg n (by decide : (10000 : Int) ≠ 0)), Int.tdiv_eq_ediv_of_nonneg (Int.emod_nonneg n (by decide : (10000 : Int) ≠ 0)), Int.tmod_eq_emod_of_nonneg (Int.ediv_nonneg a0 (by decide : (0 : Int) ≤ 10000)), Int.tdiv_eq_ediv_of_nonneg (Int.ediv_nonneg a0 (by decide : (0 : Int) ≤ 10000)), Bool.and_eq_true, decide_eq_true_eq, decide_eq_false_iff_not]; omega)) (.cons (by (have a0 : (0 : Int) ≤ n := (by omega); simp only [inB, inR_u8, inR_u32, inR_i64, inR_u64, Int.tmod_eq_emod_of_nonneg a0, Int.tdiv_eq_ediv_of_nonneg a0, Int.tmod_eq_emod_of_nonneg (Int.emod_nonneg n (by decide : (10000 : Int) ≠ 0)), Int.tdiv_eq_ediv_of_nonneg (Int.emod_nonneg n (by decide : (10000 : Int) ≠ 0)), Int.tmod_eq_emod_of_nonneg (Int.ediv_nonneg a0 (by decide : (0 : Int) ≤ 10000)), Int.tdiv_eq_ediv_of_nonneg (Int.ediv_nonneg a0 (by decide : (0 : Int) ≤ 10000)), Bool.and_eq_true, decide_eq_true_eq, decide_eq_false_iff_not]; omega)) (.cons (nd4 n (by omega) (by omega)) (.cons (by (have a0 : (0 : Int) ≤ n := (by omega); simp only [inB, inR_u8, inR_u32, inR_i64, inR_u64, Int.tmod_eq_emod_of_nonneg a0, Int.tdiv_eq_ediv_of_nonneg a0, Int.tmod_eq_emod_of_nonneg (Int.emod_nonneg n (by decide : (10000 : Int) ≠ 0)), Int.tdiv_eq_ediv_of_nonneg (Int.emod_nonneg n (by decide : (10000 : Int) ≠ 0)), Int.tmod_eq_emod_of_nonneg (Int.ediv_nonneg a0 (by decide : (0 : Int) ≤ 10000)), Int.tdiv_eq_ediv_of_nonneg (Int.ediv_nonneg a0 (by decide : (0 : Int) ≤ 10000)), Bool.and_eq_true, decide_eq_true_eq, decide_eq_false_iff_not]; omega)) .nil))))))))))))))
theorem apd_5 (n : Int) (m : Nat) (w : Nat → List EV) (h0 : 10000 ≤ n) (h1 : n < 100000) (h2 : m ≤ 1000000) : SemF prog globs' 176 [EV.ms 0 1 0 m none, EV.int IntKind.u64 n, EV.int IntKind.i64 10] [EObj.arr false true 1 false m w] (EV.ms 1 1 0 (m + 5) none) [EObj.dead, EObj.arr false true 1 false (m + 5) (catRow m (fun (i : Nat) => w (0 + i)) fun (i : Nat) => updRow (updRow (updRow (updRow (updRow (fun (i : Nat) => [(List.map EV.ofCell (Value.agg #[Value.int IntKind.u8 0, Value.int IntKind.u8 0, Value.int IntKind.u8 0, Value.int IntKind.u8 0, Value.int IntKind.u8 0, Value.int IntKind.u8 0, Value.int IntKind.u8 0, Value.int IntKind.u8 0, Value.int IntKind.u8 0, Value.int IntKind.u8 0, Value.int IntKind.u8 0, Value.int IntKind.u8 0, Value.int IntKind.u8 0, Value.int IntKind.u8 0, Value.int IntKind.u8 0, Value.int IntKind.u8 0, Value.int IntKind.u8 0, Value.int IntKind.u8 0, Value.int IntKind.u8 0, Value.int IntKind.u8 0, Value.int IntKind.u8 0, Value.int IntKind.u8 0, Value.int IntKind.u8 0, Value.int IntKind.u8 0]).cells.toList).getD i EV.undef]) 4 [EV.int IntKind.u8 (↑((ByteArray.mk (([48, 48, 48, 49, 48, 50, 48, 51, 48, 52, 48, 53, 48, 54, 48, 55, 48, 56, 48, 57, 49, 48, 49, 49, 49, 50, 49, 51, 49, 52, 49, 53, 49, 54, 49, 55, 49, 56, 49, 57, 50, 48, 50, 49, 50, 50, 50, 51, 50, 52].append [50, 53, 50, 54, 50, 55, 50, 56, 50, 57, 51, 48, 51, 49, 51, 50, 51, 51, 51, 52, 51, 53, 51, 54, 51, 55, 51, 56, 51, 57, 52, 48, 52, 49, 52, 50, 52, 51, 52, 52, 52, 53, 52, 54, 52, 55, 52, 56, 52, 57]).append ([53, 48, 53, 49, 53, 50, 53, 51, 53, 52, 53, 53, 53, 54, 53, 55, 53, 56, 53, 57, 54, 48, 54, 49, 54, 50, 54, 51, 54, 52, 54, 53, 54, 54, 54, 55, 54, 56, 54, 57, 55, 48, 55, 49, 55, 50, 55, 51, 55, 52].append [55, 53, 55, 54, 55, 55, 55, 56, 55, 57, 56, 48, 56, 49, 56, 50, 56, 51, 56, 52, 56, 53, 56, 54, 56, 55, 56, 56, 56, 57, 57, 48, 57, 49, 57, 50, 57, 51, 57, 52, 57, 53, 57, 54, 57, 55, 57, 56, 57, 57])).toArray).data.getD ((n.tmod 10000).tmod 100 * 2 + 1).toNat 0).toNat : Int)]) 3 [EV.int IntKind.u8 (↑((ByteArray.mk (([48, 48, 48, 49, 48, 50, 48, 51, 48, 52, 48, 53, 48, 54, 48, 55, 48, 56, 48, 57, 49, 48, 49, 49, 49, 50, 49, 51, 49, 52, 49, 53, 49, 54, 49, 55, 49, 56, 49, 57, 50, 48, 50, 49, 50, 50, 50, 51, 50, 52].append [50, 53, 50, 54, 50, 55, 50, 56, 50, 57, 51, 48, 51, 49, 51, 50, 51, 51, 51, 52, 51, 53, 51, 54, 51, 55, 51, 56, 51, 57, 52, 48, 52, 49, 52, 50, 52, 51, 52, 52, 52, 53, 52, 54, 52, 55, 52, 56, 52, 57]).append ([53, 48, 53, 49, 53, 50, 53, 51, 53, 52, 53, 53, 53, 54, 53, 55, 53, 56, 53, 57, 54, 48, 54, 49, 54, 50, 54, 51, 54, 52, 54, 53, 54, 54, 54, 55, 54, 56, 54, 57, 55, 48, 55, 49, 55, 50, 55, 51, 55, 52].append [55, 53, 55, 54, 55, 55, 55, 56, 55, 57, 56, 48, 56, 49, 56, 50, 56, 51, 56, 52, 56, 53, 56, 54, 56, 55, 56, 56, 56, 57, 57, 48, 57, 49, 57, 50, 57, 51, 57, 52, 57, 53, 57, 54, 57, 55, 57, 56, 57, 57])).toArray).data.getD ((n.tmod 10000).tmod 100 * 2).toNat 0).toNat : Int)]) 2 [EV.int IntKind.u8 (↑((ByteArray.mk (([48, 48, 48, 49, 48, 50, 48, 51, 48, 52, 48, 53, 48, 54, 48, 55, 48, 56, 48, 57, 49, 48, 49, 49, 49, 50, 49, 51, 49, 52, 49, 53, 49, 54, 49, 55, 49, 56, 49, 57, 50, 48, 50, 49, 50, 50, 50, 51, 50, 52].append [50, 53, 50, 54, 50, 55, 50, 56, 50, 57, 51, 48, 51, 49, 51, 50, 51, 51, 51, 52, 51, 53, 51, 54, 51, 55, 51, 56, 51, 57, 52, 48, 52, 49, 52, 50, 52, 51, 52, 52, 52, 53, 52, 54, 52, 55, 52, 56, 52, 57]).append ([53, 48, 53, 49, 53, 50, 53, 51, 53, 52, 53, 53, 53, 54, 53, 55, 53, 56, 53, 57, 54, 48, 54, 49, 54, 50, 54, 51, 54, 52, 54, 53, 54, 54, 54, 55, 54, 56, 54, 57, 55, 48, 55, 49, 55, 50, 55, 51, 55, 52].append [55, 53, 55, 54, 55, 55, 55, 56, 55, 57, 56, 48, 56, 49, 56, 50, 56, 51, 56, 52, 56, 53, 56, 54, 56, 55, 56, 56, 56, 57, 57, 48, 57, 49, 57, 50, 57, 51, 57, 52, 57, 53, 57, 54, 57, 55, 57, 56, 57, 57])).toArray).data.getD ((n.tmod 10000).tdiv 100 * 2 + 1).toNat 0).toNat : Int)]) 1 [EV.int IntKind.u8 (↑((ByteArray.mk (([48, 48, 48, 49, 48, 50, 48, 51, 48, 52, 48, 53, 48, 54, 48, 55, 48, 56, 48, 57, 49, 48, 49, 49, 49, 50, 49, 51, 49, 52, 49, 53, 49, 54, 49, 55, 49, 56, 49, 57, 50, 48, 50, 49, 50, 50, 50, 51, 50, 52].append [50, 53, 50, 54, 50, 55, 50, 56, 50, 57, 51, 48, 51, 49, 51, 50, 51, 51, 51, 52, 51, 53, 51, 54, 51, 55, 51, 56, 51, 57, 52, 48, 52, 49, 52, 50, 52, 51, 52, 52, 52, 53, 52, 54, 52, 55, 52, 56, 52, 57]).append ([53, 48, 53, 49, 53, 50, 53, 51, 53, 52, 53, 53, 53, 54, 53, 55, 53, 56, 53, 57, 54, 48, 54, 49, 54, 50, 54, 51, 54, 52, 54, 53, 54, 54, 54, 55, 54, 56, 54, 57, 55, 48, 55, 49, 55, 50, 55, 51, 55, 52].append [55, 53, 55, 54, 55, 55, 55, 56, 55, 57, 56, 48, 56, 49, 56, 50, 56, 51, 56, 52, 56, 53, 56, 54, 56, 55, 56, 56, 56, 57, 57, 48, 57, 49, 57, 50, 57, 51, 57, 52, 57, 53, 57, 54, 57, 55, 57, 56, 57, 57])).toArray).data.getD ((n.tmod 10000).tdiv 100 * 2).toNat 0).toNat : Int)]) 0 [EV.int IntKind.u8 (48 + n.tdiv 10000)] (0 + i))] :=
  semF_ren (modes := pures2) (news := news) (n := 60) (fuel := 100000) (F := []) (s := (.mk [(1, .dec false), (2, .dec true), (3, .dec true), (1, .dec true), (0, .dec true), (1, .dec true), (2, .dec true), (0, .dec true), (0, .dec true), (4, .dec true), (0, .dec true), (0, .dec true), (5, .dec true), (0, .dec true), (2, .dec true)] [] [some (EV.int IntKind.i64 5)] [] [])) (ow := [(Decidable.decide ((m + 5) * 1 ≤ 70368744177664) && Decidable.decide (m + 5 < 4611686018427387904)) = true, (inR IntKind.u8 (48 + n.tdiv 10000)) = true, (inR IntKind.u32 (48 + n.tdiv 10000)) = true, (inB ((n.tmod 10000).tdiv 100 * 2) 200) = true, (inB ((n.tmod 10000).tdiv 100 * 2 + 1) 200) = true, (inR IntKind.u32 ((n.tmod 10000).tdiv 100 * 2 + 1)) = true, (inB ((n.tmod 10000).tmod 100 * 2) 200) = true, (inB ((n.tmod 10000).tmod 100 * 2 + 1) 200) = true, (inR IntKind.u32 ((n.tmod 10000).tmod 100 * 2 + 1)) = true, (inR IntKind.u32 ((n.tmod 10000).tmod 100 * 2)) = true, (inR IntKind.u32 ((n.tmod 10000).tdiv 100 * 2)) = true, (inR IntKind.u32 ((n.tmod 10000).tdiv 100)) = true, (inR IntKind.u32 (n.tdiv 10000)) = true, (inR IntKind.u32 n) = true, SemP prog globs' 230 [EV.int IntKind.u64 n] (EV.int IntKind.i64 5), (Decidable.decide (n < 100)) = false]) 2 [0, 4] hMixed KOk.nil (by kernel_rfl) (by kernel_rfl) (by kernel_rfl) (by kernel_rfl) (.cons (by simp_all [inB] <;> omega) (.cons (by (have a0 : (0 : Int) ≤ n := (by omega); simp only [inB, inR_u8, inR_u32, inR_i64, inR_u64, Int.tmod_eq_emod_of_nonneg a0, Int.tdiv_eq_ediv_of_nonneg a0, Int.tmod_eq_emod_of_nonneg (Int.emod_nonneg n (by decide : (10000 : Int) ≠ 0)), Int.tdiv_eq_ediv_of_nonneg (Int.emod_nonneg n (by decide : (10000 : Int) ≠ 0)), Int.tmod_eq_emod_of_nonneg (Int.ediv_nonneg a0 (by decide : (0 : Int) ≤ 10000)), Int.tdiv_eq_ediv_of_nonneg (Int.ediv_nonneg a0 (by decide : (0 : Int) ≤ 10000)), Bool.and_eq_true, decide_eq_true_eq, decide_eq_false_iff_not]; omega)) (.cons (by (have a0 : (0 : Int) ≤ n := (by omega); simp only [inB, inR_u8, inR_u32, inR_i64, inR_u64, Int.tmod_eq_emod_of_nonneg a0, Int.tdiv_eq_ediv_of_nonneg a0, Int.tmod_eq_emod_of_nonneg (Int.emod_nonneg n (by decide : (10000 : Int) ≠ 0)), Int.tdiv_eq_ediv_of_nonneg (Int.emod_nonneg n (by decide : (10000 : Int) ≠ 0)), Int.tmod_eq_emod_of_nonneg (Int.ediv_nonneg a0 (by decide : (0 : Int) ≤ 10000)), Int.tdiv_eq_ediv_of_nonneg (Int.ediv_nonneg a0 (by decide : (0 : Int) ≤ 10000)), Bool.and_eq_true, decide_eq_true_eq, decide_eq_false_iff_not]; omega)) (.cons (by (have a0 : (0 : Int) ≤ n := (by omega); simp only [inB, inR_u8, inR_u32, inR_i64, inR_u64, Int.tmod_eq_emod_of_nonneg a0, Int.tdiv_eq_ediv_of_nonneg a0, Int.tmod_eq_emod_of_nonneg (Int.emod_nonneg n (by decide : (10000 : Int) ≠ 0)), Int.tdiv_eq_ediv_of_nonneg (Int.emod_nonneg n (by decide : (10000 : Int) ≠ 0)), Int.tmod_eq_emod_of_nonneg (Int.ediv_nonneg a0 (by decide : (0 : Int) ≤ 10000)), Int.tdiv_eq_ediv_of_nonneg (Int.ediv_nonneg a0 (by decide : (0 : Int) ≤ 10000)), Bool.and_eq_true, decide_eq_true_eq, decide_eq_false_iff_not]; omega)) (.cons (by (have a0 : (0 : Int) ≤ n := (by omega); simp only [inB, inR_u8, inR_u32, inR_i64, inR_u64, Int.tmod_eq_emod_of_nonneg a0, Int.tdiv_eq_ediv_of_nonneg a0, Int.tmod_eq_emod_of_nonneg (Int.emod_nonneg n (by decide : (10000 : Int) ≠ 0)), Int.tdiv_eq_ediv_of_nonneg (Int.emod_nonneg n (by decide : (10000 : Int) ≠ 0)), Int.tmod_eq_emod_of_nonneg (Int.ediv_nonneg a0 (by decide : (0 : Int) ≤ 10000)), Int.tdiv_eq_ediv_of_nonneg (Int.ediv_nonneg a0 (by decide : (0 : Int) ≤ 10000)), Bool.and_eq_true, decide_eq_true_eq, decide_eq_false_iff_not]; omega)) (.cons (by (have a0 : (0 : Int) ≤ n := (by omega); simp only [inB, inR_u8, inR_u32, inR_i64, inR_u64, Int.tmod_eq_emod_of_nonneg a0, Int.tdiv_eq_ediv_of_nonneg a0, Int.tmod_eq_emod_of_nonneg (Int.emod_nonneg n (by decide : (10000 : Int) ≠ 0)), Int.tdiv_eq_ediv_of_nonneg (Int.emod_nonneg n (by decide : (10000 : Int) ≠ 0)), Int.tmod_eq_emod_of_nonneg (Int.ediv_nonneg a0 (by decide : (0 : Int) ≤ 10000)), Int.tdiv_eq_ediv_of_nonneg (Int.ediv_nonneg a0 (by decide : (0 : Int) ≤ 10000)), Bool.and_eq_true, decide_eq_true_eq, decide_eq_false_iff_not]; omega)) (.cons (by (have a0 : (0 : Int) ≤ n := (by omega); simp only [inB, inR_u8, inR_u32, inR_i64, inR_u64, Int.tmod_eq_emod_of_nonneg a0, Int.tdiv_eq_ediv_of_nonneg a0, Int.tmod_eq_emod_of_nonneg (Int.emod_nonneg n (by decide : (10000 : Int) ≠ 0)), Int.tdiv_eq_ediv_of_nonneg (Int.emod_nonneg n (by decide : (10000 : Int) ≠ 0)), Int.tmod_eq_emod_of_nonneg (Int.ediv_nonneg a0 (by decide : (0 : Int) ≤ 10000)), Int.tdiv_eq_ediv_of_nonneg (Int.ediv_nonneg a0 (by decide : (0 : Int) ≤ 10000)), Bool.and_eq_true, decide_eq_true_eq, decide_eq_false_iff_not]; omega)) (.cons (by (have a0 : (0 : Int) ≤ n := (by omega); simp only [inB, inR_u8, inR_u32, inR_i64, inR_u64, Int.tmod_eq_emod_of_nonneg a0, Int.tdiv_eq_ediv_of_nonneg a0, Int.tmod_eq_emod_of_nonneg (Int.emod_nonneg n (by decide : (10000 : Int) ≠ 0)), Int.tdiv_eq_ediv_of_nonneg (Int.emod_nonneg n (by decide : (10000 : Int) ≠ 0)), Int.tmod_eq_emod_of_nonneg (Int.ediv_nonneg a0 (by decide : (0 : Int) ≤ 10000)), Int.tdiv_eq_ediv_of_nonneg (Int.ediv_nonneg a0 (by decide : (0 : Int) ≤ 10000)), Bool.and_eq_true, decide_eq_true_eq, decide_eq_false_iff_not]; omega)) (.cons (by (have a0 : (0 : Int) ≤ n := (by omega); simp only [inB, inR_u8, inR_u32, inR_i64, inR_u64, Int.tmod_eq_emod_of_nonneg a0, Int.tdiv_eq_ediv_of_nonneg a0, Int.tmod_eq_emod_of_nonneg (Int.emod_nonneg n (by decide : (10000 : Int) ≠ 0)), Int.tdiv_eq_ediv_of_nonneg (Int.emod_nonneg n (by decide : (10000 : Int) ≠ 0)), Int.tmod_eq_emod_of_nonneg (Int.ediv_nonneg a0 (by decide : (0 : Int) ≤ 10000)), Int.tdiv_eq_ediv_of_nonneg (Int.ediv_nonneg a0 (by decide : (0 : Int) ≤ 10000)), Bool.and_eq_true, decide_eq_true_eq, decide_eq_false_iff_not]; omega)) (.cons (by (have a0 : (0 : Int) ≤ n := (by omega); simp only [inB, inR_u8, inR_u32, inR_i64, inR_u64, Int.tmod_eq_emod_of_nonneg a0, Int.tdiv_eq_ediv_of_nonneg a0, Int.tmod_eq_emod_of_nonneg (Int.emod_nonneg n (by decide : (10000 : Int) ≠ 0)), Int.tdiv_eq_ediv_of_nonneg (Int.emod_nonneg n (by decide : (10000 : Int) ≠ 0)), Int.tmod_eq_emod_of_nonneg (Int.ediv_nonneg a0 (by decide : (0 : Int) ≤ 10000)), Int.tdiv_eq_ediv_of_nonneg (Int.ediv_nonneg a0 (by decide : (0 : Int) ≤ 10000)), Bool.and_eq_true, decide_eq_true_eq, decide_eq_false_iff_not]; omega)) (.cons (by (have a0 : (0 : Int) ≤ n := (by omega); simp only [inB, inR_u8, inR_u32, inR_i64, inR_u64, Int.tmod_eq_emod_of_nonneg a0, Int.tdiv_eq_ediv_of_nonneg a0, Int.tmod_eq_emod_of_nonneg (Int.emod_nonneg n (by decide : (10000 : Int) ≠ 0)), Int.tdiv_eq_ediv_of_nonneg (Int.emod_nonneg n (by decide : (10000 : Int) ≠ 0)), Int.tmod_eq_emod_of_nonneg (Int.ediv_nonneg a0 (by decide : (0 : Int) ≤ 10000)), Int.tdiv_eq_ediv_of_nonneg (Int.ediv_nonneg a0 (by decide : (0 : Int) ≤ 10000)), Bool.and_eq_true, decide_eq_true_eq, decide_eq_false_iff_not]; omega)) (.cons (by (have a0 : (0 : Int) ≤ n := (by omega); simp only [inB, inR_u8, inR_u32, inR_i64, inR_u64, Int.tmod_eq_emod_of_nonneg a0, Int.tdiv_eq_ediv_of_nonneg a0, Int.tmod_eq_emod_of_nonneg (Int.emod_nonneg n (by decide : (10000 : Int) ≠ 0)), Int.tdiv_eq_ediv_of_nonneg (Int.emod_nonneg n (by decide : (10000 : Int) ≠ 0)), Int.tmod_eq_emod_of_nonneg (Int.ediv_nonneg a0 (by decide : (0 : Int) ≤ 10000)), Int.tdiv_eq_ediv_of_nonneg (Int.ediv_nonneg a0 (by decide : (0 : Int) ≤ 10000)), Bool.and_eq_true, decide_eq_true_eq, decide_eq_false_iff_not]; omega)) (.cons (by (have a0 : (0 : Int) ≤ n := (by omega); simp only [inB, inR_u8, inR_u32, inR_i64, inR_u64, Int.tmod_eq_emod_of_nonneg a0, Int.tdiv_eq_ediv_of_nonneg a0, Int.tmod_eq_emod_of_nonneg (Int.emod_nonneg n (by decide : (10000 : Int) ≠ 0)), Int.tdiv_eq_ediv_of_nonneg (Int.emod_nonneg n (by decide : (10000 : Int) ≠ 0)), Int.tmod_eq_emod_of_nonneg (Int.ediv_nonneg a0 (by decide : (0 : Int) ≤ 10000)), Int.tdiv_eq_ediv_of_nonneg (Int.ediv_nonneg a0 (by decide : (0 : Int) ≤ 10000)), Bool.and_eq_true, decide_eq_true_eq, decide_eq_false_iff_not]; omega)) (.cons (by (have a0 : (0 : Int) ≤ n := (by omega); simp only [inB, inR_u8, inR_u32, inR_i64, inR_u64, Int.tmod_eq_emod_of_nonneg a0, Int.tdiv_eq_ediv_of_nonneg a0, Int.tmod_eq_emod_of_nonneg (Int.emod_nonneg n (by decide : (10000 : Int) ≠ 0)), Int.tdiv_eq_ediv_of_nonneg (Int.emod_nonneg n (by decide : (10000 : Int) ≠ 0)), Int.tmod_eq_emod_of_nonneg (Int.ediv_nonneg a0 (by decide : (0 : Int) ≤ 10000)), Int.tdiv_eq_ediv_of_nonneg (Int.ediv_nonneg a0 (by decide : (0 : Int) ≤ 10000)), Bool.and_eq_true, decide_eq_true_eq, decide_eq_false_iff_not]; omega)) (.cons (nd5 n (by omega) (by omega)) (.cons (by (have a0 : (0 : Int) ≤ n := (by omega); simp only [inB, inR_u8, inR_u32, inR_i64, inR_u64, Int.tmod_eq_emod_of_nonneg a0, Int.tdiv_eq_ediv_of_nonneg a0, Int.tmod_eq_emod_of_nonneg (Int.emod_nonneg n (by decide : (10000 : Int) ≠ 0)), Int.tdiv_eq_ediv_of_nonneg (Int.emod_nonneg n (by decide : (10000 : Int) ≠ 0)), Int.tmod_eq_emod_of_nonneg (Int.ediv_nonneg a0 (by decide : (0 : Int) ≤ 10000)), Int.tdiv_eq_ediv_of_nonneg (Int.ediv_nonneg a0 (by decide : (0 : Int) ≤ 10000)), Bool.and_eq_true, decide_eq_true_eq, decide_eq_false_iff_not]; omega)) .nil))))))))))))))))
end Go.Ev
namespace Go.Ev
open Go.Proofs.Tryz (prog)
set_option maxRecDepth 100000
theorem bytes_mk (s : ByteArray) : s = ⟨s.data.toList.toArray⟩ := by cases s; simp
theorem dec1 {u : Nat} (h : u < 10) : decU u = [UInt8.ofNat (48 + u)] := decU_one h
theorem dec2 {u : Nat} (h0 : 10 ≤ u) (h : u < 100) : decU u = [UInt8.ofNat (48 + u / 10), UInt8.ofNat (48 + u % 10)] := by
  rw [decU_step h0 (by omega), dec1 (by omega)]; rfl
theorem dec3 {u : Nat} (h0 : 100 ≤ u) (h : u < 1000) : decU u = [UInt8.ofNat (48 + u / 10 / 10), UInt8.ofNat (48 + u / 10 % 10), UInt8.ofNat (48 + u % 10)] := by
  rw [decU_step (by omega) (by omega), dec2 (by omega) (by omega)]; rfl
theorem dec4 {u : Nat} (h0 : 1000 ≤ u) (h : u < 10000) : decU u = [UInt8.ofNat (48 + u / 10 / 10 / 10), UInt8.ofNat (48 + u / 10 / 10 % 10), UInt8.ofNat (48 + u / 10 % 10), UInt8.ofNat (48 + u % 10)] := by
  rw [decU_step (by omega) (by omega), dec3 (by omega) (by omega)]; rfl
theorem dec5 {u : Nat} (h0 : 10000 ≤ u) (h : u < 100000) : decU u = [UInt8.ofNat (48 + u / 10 / 10 / 10 / 10), UInt8.ofNat (48 + u / 10 / 10 / 10 % 10), UInt8.ofNat (48 + u / 10 / 10 % 10), UInt8.ofNat (48 + u / 10 % 10), UInt8.ofNat (48 + u % 10)] := by
  rw [decU_step (by omega) (by omega), dec4 (by omega) (by omega)]; rfl
theorem decU_len {u : Nat} (h : u < 100000) : (decU u).length ≤ 5 := by
  by_cases a : u < 10
  · rw [dec1 a]; simp
  by_cases b : u < 100
  · rw [dec2 (by omega) b]; simp
  by_cases c : u < 1000
  · rw [dec3 (by omega) c]; simp
  by_cases d : u < 10000
  · rw [dec4 (by omega) d]; simp
  · rw [dec5 (by omega) h]; simp
theorem digit (x : Nat) (h : x < 10) : (((UInt8.ofNat (48 + x)).toNat : Nat) : Int) = 48 + (x : Int) := by
  rw [UInt8.toNat_ofNat']
  omega
theorem tabA {x : Nat} (h : x < 100) : ((smallTab.data.getD (x * 2) 0).toNat : Int) = ((UInt8.ofNat (48 + x / 10)).toNat : Int) := by
  rw [(small_at h).1, UInt8.toNat_ofNat']; omega
theorem tabB {x : Nat} (h : x < 100) : ((smallTab.data.getD (x * 2 + 1) 0).toNat : Int) = ((UInt8.ofNat (48 + x % 10)).toNat : Int) := by
  rw [(small_at h).2, UInt8.toNat_ofNat']; omega
noncomputable def apdEnd (m : Nat) (w : Nat → List EV) (l : List UInt8) : Heap := [EObj.dead, EObj.arr false true 1 false (m + l.length) (catRow m (fun i => w (0 + i)) (fun i => bRow l (0 + i)))]
theorem rows_eq {m k : Nat} {w r r' : Nat → List EV} (h : ∀ j, j < k → r j = r' j) : ∀ j, j < m + k → catRow m w r j = catRow m w r' j := by
  intro j hj
  unfold catRow
  by_cases h1 : j < m
  · rw [if_pos h1, if_pos h1]
  · rw [if_neg h1, if_neg h1]; exact h _ (by omega)
theorem apd_small (u m : Nat) (w : Nat → List EV) (hu : u < 100) (hm : m ≤ 1000000) : SemF prog globs' 176 [EV.ms 0 1 0 m none, EV.int IntKind.u64 u, EV.int IntKind.i64 10] [EObj.arr false true 1 false m w] (EV.ms 1 1 0 (m + (decU u).length) none) (apdEnd m w (decU u)) := by
  have hs := small_ u (by omega) (by omega)
  have hd : (smallE u).data.toList = decU u := smallE_eq hu
  have hl : (smallE u).size = (decU u).length := by rw [← hd]; rfl
  have := apd_2 u m w (smallE u) (by omega) (by omega) hm (by
    rw [hl]
    by_cases a : u < 10
    · rw [dec1 a]; simp
    · rw [dec2 (by omega) hu]; simp) hs
  rw [hl] at this
  refine SemF.weaken (VLes.refl _) (HLe.refl _) this (VLe.refl _) (.cons OLe.dead (.cons (OLe.arr (rows_eq fun j hj => ?_)) .nil))
  rw [← hd]
  unfold bRow
  rw [Nat.zero_add, List.getD_eq_getElem?_getD, Array.getElem?_toList]
  simp [Array.getD_eq_getD_getElem?]
end Go.Ev
namespace Go.Ev
open Go.Proofs.Tryz (prog)
set_option maxRecDepth 100000
theorem one8 {x y : Int} (h : x = y) : [EV.int IntKind.u8 x] = [EV.int IntKind.u8 y] := by rw [h]
theorem m100 (u : Nat) : ((u : Int).tmod 100 * 2).toNat = u % 100 * 2 ∧ ((u : Int).tmod 100 * 2 + 1).toNat = u % 100 * 2 + 1 := by
  rw [Int.tmod_eq_emod_of_nonneg (by omega)]; omega
theorem mA (u : Nat) : (((u : Int).tmod 10000).tmod 100 * 2).toNat = u % 10000 % 100 * 2 ∧ (((u : Int).tmod 10000).tmod 100 * 2 + 1).toNat = u % 10000 % 100 * 2 + 1 := by
  rw [Int.tmod_eq_emod_of_nonneg (a := (u : Int)) (by omega), Int.tmod_eq_emod_of_nonneg (by omega)]; omega
theorem mB (u : Nat) : (((u : Int).tmod 10000).tdiv 100 * 2).toNat = u % 10000 / 100 * 2 ∧ (((u : Int).tmod 10000).tdiv 100 * 2 + 1).toNat = u % 10000 / 100 * 2 + 1 := by
  rw [Int.tmod_eq_emod_of_nonneg (a := (u : Int)) (by omega), Int.tdiv_eq_ediv_of_nonneg (by omega)]; omega
theorem tabA' {x y : Nat} (h : x < 100) (hy : y = x / 10) : ((smallTab.data.getD (x * 2) 0).toNat : Int) = ((UInt8.ofNat (48 + y)).toNat : Int) := by rw [hy]; exact tabA h
theorem tabB' {x y : Nat} (h : x < 100) (hy : y = x % 10) : ((smallTab.data.getD (x * 2 + 1) 0).toNat : Int) = ((UInt8.ofNat (48 + y)).toNat : Int) := by rw [hy]; exact tabB h
theorem apd_three (u m : Nat) (w : Nat → List EV) (h0 : 100 ≤ u) (hu : u < 1000) (hm : m ≤ 1000000) : SemF prog globs' 176 [EV.ms 0 1 0 m none, EV.int IntKind.u64 u, EV.int IntKind.i64 10] [EObj.arr false true 1 false m w] (EV.ms 1 1 0 (m + (decU u).length) none) (apdEnd m w (decU u)) := by
  rw [dec3 h0 hu]
  refine SemF.weaken (VLes.refl _) (HLe.refl _) (apd_3 u m w (by omega) (by omega) hm) (VLe.refl _) (.cons OLe.dead (.cons (OLe.arr (rows_eq fun j hj => ?_)) .nil))
  match j, hj with
  | 0, _ =>
    refine one8 (x := 48 + (u : Int).tdiv 100) (y := ((UInt8.ofNat (48 + u / 10 / 10)).toNat : Int)) ?_
    rw [digit _ (by omega), Int.tdiv_eq_ediv_of_nonneg (by omega)]; omega
  | 1, _ =>
    refine one8 (x := ((smallTab.data.getD ((u : Int).tmod 100 * 2).toNat 0).toNat : Int)) (y := ((UInt8.ofNat (48 + u / 10 % 10)).toNat : Int)) ?_
    rw [(m100 u).1]; exact tabA' (by omega) (by omega)
  | 2, _ =>
    refine one8 (x := ((smallTab.data.getD ((u : Int).tmod 100 * 2 + 1).toNat 0).toNat : Int)) (y := ((UInt8.ofNat (48 + u % 10)).toNat : Int)) ?_
    rw [(m100 u).2]; exact tabB' (by omega) (by omega)
theorem apd_four (u m : Nat) (w : Nat → List EV) (h0 : 1000 ≤ u) (hu : u < 10000) (hm : m ≤ 1000000) : SemF prog globs' 176 [EV.ms 0 1 0 m none, EV.int IntKind.u64 u, EV.int IntKind.i64 10] [EObj.arr false true 1 false m w] (EV.ms 1 1 0 (m + (decU u).length) none) (apdEnd m w (decU u)) := by
  rw [dec4 h0 hu]
  refine SemF.weaken (VLes.refl _) (HLe.refl _) (apd_4 u m w (by omega) (by omega) hm) (VLe.refl _) (.cons OLe.dead (.cons (OLe.arr (rows_eq fun j hj => ?_)) .nil))
  match j, hj with
  | 0, _ =>
    refine one8 (x := ((smallTab.data.getD (((u : Int).tmod 10000).tdiv 100 * 2).toNat 0).toNat : Int)) (y := ((UInt8.ofNat (48 + u / 10 / 10 / 10)).toNat : Int)) ?_
    rw [(mB u).1]; exact tabA' (by omega) (by omega)
  | 1, _ =>
    refine one8 (x := ((smallTab.data.getD (((u : Int).tmod 10000).tdiv 100 * 2 + 1).toNat 0).toNat : Int)) (y := ((UInt8.ofNat (48 + u / 10 / 10 % 10)).toNat : Int)) ?_
    rw [(mB u).2]; exact tabB' (by omega) (by omega)
  | 2, _ =>
    refine one8 (x := ((smallTab.data.getD (((u : Int).tmod 10000).tmod 100 * 2).toNat 0).toNat : Int)) (y := ((UInt8.ofNat (48 + u / 10 % 10)).toNat : Int)) ?_
    rw [(mA u).1]; exact tabA' (by omega) (by omega)
  | 3, _ =>
    refine one8 (x := ((smallTab.data.getD (((u : Int).tmod 10000).tmod 100 * 2 + 1).toNat 0).toNat : Int)) (y := ((UInt8.ofNat (48 + u % 10)).toNat : Int)) ?_
    rw [(mA u).2]; exact tabB' (by omega) (by omega)
theorem apd_five (u m : Nat) (w : Nat → List EV) (h0 : 10000 ≤ u) (hu : u < 100000) (hm : m ≤ 1000000) : SemF prog globs' 176 [EV.ms 0 1 0 m none, EV.int IntKind.u64 u, EV.int IntKind.i64 10] [EObj.arr false true 1 false m w] (EV.ms 1 1 0 (m + (decU u).length) none) (apdEnd m w (decU u)) := by
  rw [dec5 h0 hu]
  refine SemF.weaken (VLes.refl _) (HLe.refl _) (apd_5 u m w (by omega) (by omega) hm) (VLe.refl _) (.cons OLe.dead (.cons (OLe.arr (rows_eq fun j hj => ?_)) .nil))
  match j, hj with
  | 0, _ =>
    refine one8 (x := 48 + (u : Int).tdiv 10000) (y := ((UInt8.ofNat (48 + u / 10 / 10 / 10 / 10)).toNat : Int)) ?_
    rw [digit _ (by omega), Int.tdiv_eq_ediv_of_nonneg (by omega)]; omega
  | 1, _ =>
    refine one8 (x := ((smallTab.data.getD (((u : Int).tmod 10000).tdiv 100 * 2).toNat 0).toNat : Int)) (y := ((UInt8.ofNat (48 + u / 10 / 10 / 10 % 10)).toNat : Int)) ?_
    rw [(mB u).1]; exact tabA' (by omega) (by omega)
  | 2, _ =>
    refine one8 (x := ((smallTab.data.getD (((u : Int).tmod 10000).tdiv 100 * 2 + 1).toNat 0).toNat : Int)) (y := ((UInt8.ofNat (48 + u / 10 / 10 % 10)).toNat : Int)) ?_
    rw [(mB u).2]; exact tabB' (by omega) (by omega)
  | 3, _ =>
    refine one8 (x := ((smallTab.data.getD (((u : Int).tmod 10000).tmod 100 * 2).toNat 0).toNat : Int)) (y := ((UInt8.ofNat (48 + u / 10 % 10)).toNat : Int)) ?_
    rw [(mA u).1]; exact tabA' (by omega) (by omega)
  | 4, _ =>
    refine one8 (x := ((smallTab.data.getD (((u : Int).tmod 10000).tmod 100 * 2 + 1).toNat 0).toNat : Int)) (y := ((UInt8.ofNat (48 + u % 10)).toNat : Int)) ?_
    rw [(mA u).2]; exact tabB' (by omega) (by omega)
theorem apdU (u m : Nat) (w : Nat → List EV) (hu : u < 100000) (hm : m ≤ 1000000) : SemF prog globs' 176 [EV.ms 0 1 0 m none, EV.int IntKind.u64 u, EV.int IntKind.i64 10] [EObj.arr false true 1 false m w] (EV.ms 1 1 0 (m + (decU u).length) none) (apdEnd m w (decU u)) := by
  by_cases a : u < 100
  · exact apd_small u m w a hm
  by_cases b : u < 1000
  · exact apd_three u m w (by omega) b hm
  by_cases c : u < 10000
  · exact apd_four u m w (by omega) c hm
  · exact apd_five u m w (by omega) hu hm
end Go.Ev
namespace Go.Ev
open Go.Proofs.Tryz (prog)
theorem apdZ {x : Int} (u m : Nat) (w : Nat → List EV) (hx : x = u) (hu : u < 100000) (hm : m ≤ 1000000) : SemF prog globs' 176 [EV.ms 0 1 0 m none, EV.int IntKind.u64 x, EV.int IntKind.i64 10] [EObj.arr false true 1 false m w] (EV.ms 1 1 0 (m + (decU u).length) none) (apdEnd m w (decU u)) := by
  subst hx; exact apdU u m w hu hm
end Go.Ev
namespace Go.Ev
theorem wrap64 (n : Int) : IntKind.u64.wrap n = n % 18446744073709551616 := by simp [IntKind.wrap, IntKind.bits, IntKind.signed]
end Go.Ev
namespace Go.Ev
open Go.Proofs.Tryz (prog)
set_option maxRecDepth 100000
set_option maxHeartbeats 0
theorem apiP (n : Int) (m : Nat) (w : Nat → List EV) (h0 : 0 ≤ n) (h1 : n < 100000) (h2 : m ≤ 100000) : SemF prog globs' 108 [EV.ms 0 1 0 m none, EV.int IntKind.i64 n, EV.int IntKind.i64 10] [EObj.arr false true 1 false m w] (EV.ms 1 1 0 (m + (decU n.toNat).length) none) [EObj.dead, EObj.arr false true 1 false (m + (decU n.toNat).length) (catRow m (fun (i : Nat) => w (0 + i)) fun (i : Nat) => [EV.int IntKind.u8 (↑((decU n.toNat).getD (0 + i) 0).toNat : Int)])] :=
  semF_ren (modes := pures3) (news := news3) (n := 60) (fuel := 100000) (F := []) (s := (.mk [(0, .dec true), (0, .dec false)] [] [] [some ((EV.ms 1 1 0 (m + (decU n.toNat).length) none, [EObj.dead, EObj.arr false true 1 false (m + (decU n.toNat).length) (catRow m (fun (i : Nat) => w (0 + i)) fun (i : Nat) => [EV.int IntKind.u8 (↑((decU n.toNat).getD (0 + i) 0).toNat : Int)])]))] [])) (ow := [SemF prog globs' 176 [EV.ms 0 1 0 m none, EV.int IntKind.u64 n, EV.int IntKind.i64 10] [EObj.arr false true 1 false m w] (EV.ms 1 1 0 (m + (decU n.toNat).length) none) [EObj.dead, EObj.arr false true 1 false (m + (decU n.toNat).length) (catRow m (fun (i : Nat) => w (0 + i)) fun (i : Nat) => [EV.int IntKind.u8 (↑((decU n.toNat).getD (0 + i) 0).toNat : Int)])], (Decidable.decide (n < 0)) = false, (inR IntKind.u64 n) = true]) 2 [0, 2] hMixed KOk.nil (by kernel_rfl) (by kernel_rfl) (by kernel_rfl) (by kernel_rfl) (.cons (apdZ (n.toNat) (m) (w) (by omega) (by omega) (by omega)) (.cons (by simp_all; done) (.cons (by (simp only [inB, inR_i64, inR_i32, inR_u8, inR_u16, inR_u32, inR_u64, Bool.cond_true_left, Bool.cond_false_left, Bool.cond_true_right, Bool.cond_false_right, Bool.not_not, Bool.not_and, Bool.not_or, Bool.and_eq_true, Bool.or_eq_true, Bool.and_eq_false_imp, Bool.or_eq_false_iff, Bool.not_eq_true', Bool.not_eq_false', decide_eq_true_eq, decide_eq_false_iff_not, beq_iff_eq, bne_iff_ne, beq_eq_false_iff_ne, ne_eq, Decidable.not_not, Int.toNat_natCast] at * <;> omega)) .nil)))
theorem apiN (n : Int) (m : Nat) (w : Nat → List EV) (h0 : -100000 < n) (h1 : n < 0) (h2 : m ≤ 100000) : SemF prog globs' 108 [EV.ms 0 1 0 m none, EV.int IntKind.i64 n, EV.int IntKind.i64 10] [EObj.arr false true 1 false m w] (EV.ms 1 1 0 (m + 1 + (decU (-n).toNat).length) none) [EObj.dead, EObj.arr false true 1 false (m + 1 + (decU (-n).toNat).length) (catRow (m + 1) (fun (i : Nat) => catRow m (fun (i : Nat) => w (0 + i)) (fun (i : Nat) => [[EV.int IntKind.u8 45]].getD (0 + i) []) (0 + i)) fun (i : Nat) => [EV.int IntKind.u8 (↑((decU (-n).toNat).getD (0 + i) 0).toNat : Int)])] :=
  semF_ren (modes := pures3) (news := news3) (n := 60) (fuel := 100000) (F := []) (s := (.mk [(0, .no), (0, .dec true), (0, .dec true), (0, .no)] [] [] [some ((EV.ms 1 1 0 (m + 1 + (decU (-n).toNat).length) none, [EObj.dead, EObj.arr false true 1 false (m + 1 + (decU (-n).toNat).length) (catRow (m + 1) (fun (i : Nat) => catRow m (fun (i : Nat) => w (0 + i)) (fun (i : Nat) => [[EV.int IntKind.u8 45]].getD (0 + i) []) (0 + i)) fun (i : Nat) => [EV.int IntKind.u8 (↑((decU (-n).toNat).getD (0 + i) 0).toNat : Int)])]))] [])) (ow := [SemF prog globs' 176 [EV.ms 0 1 0 (m + 1) none, EV.int IntKind.u64 (IntKind.u64.wrap (0 - IntKind.u64.wrap n)), EV.int IntKind.i64 10] [EObj.arr false true 1 false (m + 1) (catRow m (fun (i : Nat) => w (0 + i)) fun (i : Nat) => [[EV.int IntKind.u8 45]].getD (0 + i) [])] (EV.ms 1 1 0 (m + 1 + (decU (-n).toNat).length) none) [EObj.dead, EObj.arr false true 1 false (m + 1 + (decU (-n).toNat).length) (catRow (m + 1) (fun (i : Nat) => catRow m (fun (i : Nat) => w (0 + i)) (fun (i : Nat) => [[EV.int IntKind.u8 45]].getD (0 + i) []) (0 + i)) fun (i : Nat) => [EV.int IntKind.u8 (↑((decU (-n).toNat).getD (0 + i) 0).toNat : Int)])], (Decidable.decide ((m + 1) * 1 ≤ 70368744177664) && Decidable.decide (m + 1 < 4611686018427387904)) = true, (Decidable.decide (n < 0)) = true]) 2 [0, 4] hMixed KOk.nil (by kernel_rfl) (by kernel_rfl) (by kernel_rfl) (by kernel_rfl) (.cons (apdZ ((-n).toNat) (m + 1) (catRow m (fun (i : Nat) => w (0 + i)) fun (i : Nat) => [[EV.int IntKind.u8 45]].getD (0 + i) []) (by rw [wrap64, wrap64]; omega) (by omega) (by omega)) (.cons (by simp_all [inB] <;> omega) (.cons (by simp_all; done) .nil)))
end Go.Ev
namespace Go.Ev
open Go.Proofs.Tryz (prog)
theorem dec_len {n : Int} (h0 : -100000 < n) (h1 : n < 100000) : (dec n).length ≤ 6 := by
  unfold dec
  split
  · have := decU_len (u := (-n).toNat) (by omega); simp; omega
  · have := decU_len (u := n.toNat) (by omega); omega
theorem apI (n : Int) (m : Nat) (w : Nat → List EV) (h0 : -100000 < n) (h1 : n < 100000) (h2 : m ≤ 100000) : SemF prog globs' 108 [EV.ms 0 1 0 m none, EV.int IntKind.i64 n, EV.int IntKind.i64 10] [EObj.arr false true 1 false m w] (EV.ms 1 1 0 (m + (dec n).length) none) (apdEnd m w (dec n)) := by
  by_cases h : n < 0
  · have hd : dec n = 45 :: decU (-n).toNat := if_pos h
    have := apiN n m w h0 h h2
    have hl : m + 1 + (decU (-n).toNat).length = m + (dec n).length := by rw [hd]; simp; omega
    rw [hl] at this
    refine SemF.weaken (VLes.refl _) (HLe.refl _) this (VLe.refl _) (.cons OLe.dead (.cons (OLe.arr fun j hj => ?_) .nil))
    rw [hd]
    unfold catRow
    by_cases a : j < m
    · have a' : j < m + 1 := by omega
      simp only [a, a', if_true, Nat.zero_add]
    · by_cases b : j < m + 1
      · obtain rfl : j = m := by omega
        simp only [b, if_true, Nat.zero_add, Nat.lt_irrefl, if_false, Nat.sub_self]
        rfl
      · obtain ⟨k, rfl⟩ : ∃ k, j = m + 1 + k := ⟨j - (m + 1), by omega⟩
        have e1 : m + 1 + k - (m + 1) = k := by omega
        have e2 : m + 1 + k - m = k + 1 := by omega
        simp only [a, b, if_false, e1, e2, Nat.zero_add]
        rfl
  · have hd : dec n = decU n.toNat := if_neg h
    rw [hd]
    exact apiP n m w (by omega) h1 h2
end Go.Ev
namespace Go.Ev
open Go.Proofs.Tryz (prog)
theorem rowBase {m : Nat} {w : Nat → List EV} : ∀ j, j < m + ([] : List UInt8).length → w j = catRow m (fun i => w (0 + i)) (fun i => bRow [] (0 + i)) j := by
  intro j hj
  have h : j < m := by simpa using hj
  unfold catRow
  rw [if_pos h]
  show _ = w (0 + j)
  rw [Nat.zero_add]
theorem rowApp {r s w : Nat → List EV} {m L : Nat} {X b : List UInt8} (h : ∀ j, j < m + X.length → r j = catRow m (fun i => w (0 + i)) (fun i => bRow X (0 + i)) j) (hL : L = m + X.length)
    (hs : ∀ k, k < b.length → s k = bRow b k) : ∀ j, j < m + (X ++ b).length → catRow L (fun i => r (0 + i)) s j = catRow m (fun i => w (0 + i)) (fun i => bRow (X ++ b) (0 + i)) j := by
  intro j hj
  subst hL
  rw [List.length_append] at hj
  show (if j < m + X.length then r (0 + j) else s (j - (m + X.length))) = if j < m then w (0 + j) else bRow (X ++ b) (0 + (j - m))
  by_cases h1 : j < m + X.length
  · rw [if_pos h1, Nat.zero_add, h j h1]
    show (if j < m then w (0 + j) else bRow X (0 + (j - m))) = _
    by_cases h2 : j < m
    · rw [if_pos h2, if_pos h2, Nat.zero_add]
    · rw [if_neg h2, if_neg h2]
      unfold bRow
      rw [Nat.zero_add, List.getD_eq_getElem?_getD, List.getD_eq_getElem?_getD, List.getElem?_append_left (by omega)]
  · rw [if_neg h1, if_neg (by omega), hs _ (by omega)]
    unfold bRow
    rw [Nat.zero_add, List.getD_eq_getElem?_getD, List.getD_eq_getElem?_getD, List.getElem?_append_right (by omega)]
    rw [show j - m - X.length = j - (m + X.length) from by omega]
theorem oneB (b : UInt8) : ∀ k, k < [b].length → (fun (i : Nat) => [[EV.int IntKind.u8 (b.toNat : Int)]].getD (0 + i) []) k = bRow [b] k := by
  intro k hk
  obtain rfl : k = 0 := by simp at hk; exact hk
  rfl
theorem strB (s : ByteArray) : ∀ k, k < s.data.toList.length → (fun (i : Nat) => [EV.int IntKind.u8 ((s.data.getD i 0).toNat : Int)]) k = bRow s.data.toList k := by
  intro k hk
  unfold bRow
  rw [List.getD_eq_getElem?_getD, Array.getElem?_toList]
  simp [Array.getD_eq_getD_getElem?]
theorem bytesB (l : List UInt8) : ∀ k, k < l.length → (fun (i : Nat) => [EV.int IntKind.u8 ((l.getD (0 + i) 0).toNat : Int)]) k = bRow l k := by
  intro k hk
  show [EV.int IntKind.u8 ((l.getD (0 + k) 0).toNat : Int)] = bRow l k
  rw [Nat.zero_add]
  rfl
def Appends (f : FuncId) (rest : List EV) (m : Nat) (w : Nat → List EV) (X : List UInt8) : Prop :=
  SemF prog globs' f (EV.ms 0 1 0 m none :: rest) [EObj.arr false true 1 false m w] (EV.ms 1 1 0 (m + X.length) none) (apdEnd m w X)
theorem appends_of {f : FuncId} {rest : List EV} {m L : Nat} {w r : Nat → List EV} {X : List UInt8} (h : SemF prog globs' f (EV.ms 0 1 0 m none :: rest) [EObj.arr false true 1 false m w] (EV.ms 1 1 0 L none) [EObj.dead, EObj.arr false true 1 false L r])
    (hL : L = m + X.length) (hr : ∀ j, j < m + X.length → r j = catRow m (fun i => w (0 + i)) (fun i => bRow X (0 + i)) j) : Appends f rest m w X := by
  subst hL
  exact SemF.weaken (VLes.refl _) (HLe.refl _) h (VLe.refl _) (.cons OLe.dead (.cons (OLe.arr hr) .nil))
end Go.Ev
namespace Go.Ev
open Go.Proofs.Tryz (prog)
set_option maxRecDepth 100000
set_option maxHeartbeats 0
theorem ap70_ (n : Int) (m : Nat) (w : Nat → List EV) (h0 : -100000 < n) (h1 : n < 100000) (h2 : m ≤ 90000) (h3 : (dec n).length ≤ 6) : SemF prog globs' 70 [EV.ms 0 1 0 m none, EV.int IntKind.i64 n, EV.int IntKind.i64 10] [EObj.arr false true 1 false m w] (EV.ms 1 1 0 (m + (dec n).length) none) [EObj.dead, EObj.arr false true 1 false (m + (dec n).length) (catRow m (fun (i : Nat) => w (0 + i)) fun (i : Nat) => [EV.int IntKind.u8 (↑((dec n).getD (0 + i) 0).toNat : Int)])] :=
  semF_ren (modes := pures4) (news := news4) (n := 60) (fuel := 100000) (F := []) (s := (.mk [] [] [] [some ((EV.ms 1 1 0 (m + (dec n).length) none, [EObj.dead, EObj.arr false true 1 false (m + (dec n).length) (catRow m (fun (i : Nat) => w (0 + i)) fun (i : Nat) => [EV.int IntKind.u8 (↑((dec n).getD (0 + i) 0).toNat : Int)])]))] [])) (ow := [SemF prog globs' 108 [EV.ms 0 1 0 m none, EV.int IntKind.i64 n, EV.int IntKind.i64 10] [EObj.arr false true 1 false m w] (EV.ms 1 1 0 (m + (dec n).length) none) [EObj.dead, EObj.arr false true 1 false (m + (dec n).length) (catRow m (fun (i : Nat) => w (0 + i)) fun (i : Nat) => [EV.int IntKind.u8 (↑((dec n).getD (0 + i) 0).toNat : Int)])]]) 2 [0, 1] hMixed KOk.nil (by kernel_rfl) (by kernel_rfl) (by kernel_rfl) (by kernel_rfl) (.cons (apI _ _ _ (by omega) (by omega) (by omega)) .nil)
theorem ap70 (n : Int) (m : Nat) (w : Nat → List EV) (h0 : -100000 < n) (h1 : n < 100000) (h2 : m ≤ 90000) : Appends 70 [EV.int IntKind.i64 n, EV.int IntKind.i64 10] m w (dec n) :=
  ap70_ n m w h0 h1 h2 (dec_len h0 h1)
theorem wInt_ (n : Int) (m : Nat) (w : Nat → List EV) (h0 : -100000 < n) (h1 : n < 100000) (h2 : m ≤ 80000) (h3 : (dec n).length ≤ 6) : SemF prog globs' 69 [EV.ms 0 1 0 m none, EV.agg [EV.int IntKind.i64 1, EV.int IntKind.i64 n, EV.str (ByteArray.mk #[]), EV.isl false 0 0 fun (i : Nat) => [], EV.isl false 0 0 fun (i : Nat) => []]] [EObj.arr false true 1 false m w] (EV.ms 1 1 0 (m + 1 + (dec n).length + 1) none) [EObj.dead, EObj.arr false true 1 false (m + 1 + (dec n).length + 1) (catRow (m + 1 + (dec n).length) (fun (i : Nat) => catRow (m + 1) (fun (i : Nat) => catRow m (fun (i : Nat) => w (0 + i)) (fun (i : Nat) => [[EV.int IntKind.u8 105]].getD (0 + i) []) (0 + i)) (fun (i : Nat) => [EV.int IntKind.u8 (↑((dec n).getD (0 + i) 0).toNat : Int)]) (0 + i)) fun (i : Nat) => [[EV.int IntKind.u8 101]].getD (0 + i) [])] :=
  semF_ren (modes := pures4) (news := news4) (n := 60) (fuel := 100000) (F := []) (s := (.mk [(0, .dec true), (0, .dec true)] [] [] [some ((EV.ms 1 1 0 (m + 1 + (dec n).length) none, [EObj.dead, EObj.arr false true 1 false (m + 1 + (dec n).length) (catRow (m + 1) (fun (i : Nat) => catRow m (fun (i : Nat) => w (0 + i)) (fun (i : Nat) => [[EV.int IntKind.u8 105]].getD (0 + i) []) (0 + i)) fun (i : Nat) => [EV.int IntKind.u8 (↑((dec n).getD (0 + i) 0).toNat : Int)])]))] [])) (ow := [(Decidable.decide ((m + 1 + (dec n).length + 1) * 1 ≤ 70368744177664) && Decidable.decide (m + 1 + (dec n).length + 1 < 4611686018427387904)) = true, SemF prog globs' 70 [EV.ms 0 1 0 (m + 1) none, EV.int IntKind.i64 n, EV.int IntKind.i64 10] [EObj.arr false true 1 false (m + 1) (catRow m (fun (i : Nat) => w (0 + i)) fun (i : Nat) => [[EV.int IntKind.u8 105]].getD (0 + i) [])] (EV.ms 1 1 0 (m + 1 + (dec n).length) none) [EObj.dead, EObj.arr false true 1 false (m + 1 + (dec n).length) (catRow (m + 1) (fun (i : Nat) => catRow m (fun (i : Nat) => w (0 + i)) (fun (i : Nat) => [[EV.int IntKind.u8 105]].getD (0 + i) []) (0 + i)) fun (i : Nat) => [EV.int IntKind.u8 (↑((dec n).getD (0 + i) 0).toNat : Int)])], (Decidable.decide ((m + 1) * 1 ≤ 70368744177664) && Decidable.decide (m + 1 < 4611686018427387904)) = true]) 2 [0, 8] hMixed KOk.nil (by kernel_rfl) (by kernel_rfl) (by kernel_rfl) (by kernel_rfl) (.cons (by simp_all [inB] <;> omega) (.cons (ap70 _ _ _ (by omega) (by omega) (by omega)) (.cons (by simp_all [inB] <;> omega) .nil)))
theorem wInt (n : Int) (m : Nat) (w : Nat → List EV) (h0 : -100000 < n) (h1 : n < 100000) (h2 : m ≤ 80000) : Appends 69 [EV.agg (valInt n)] m w (encInt n) := by
  refine appends_of (wInt_ n m w h0 h1 (by omega) (dec_len h0 h1)) (by simp [encInt]; omega) ?_
  exact rowApp (X := ([] ++ [105]) ++ dec n) (b := [101]) (rowApp (X := [] ++ [105]) (rowApp (X := []) rowBase rfl (oneB 105)) rfl (bytesB (dec n))) (by simp; omega) (oneB 101)
theorem text72_ (s : ByteArray) (m : Nat) (w : Nat → List EV) (h2 : m ≤ 80000) (h5 : s.size ≤ 24) (h6 : (dec s.size).length ≤ 6) : SemF prog globs' 72 [EV.ms 0 1 0 m none, EV.str s] [EObj.arr false true 1 false m w] (EV.ms 1 1 0 (m + (dec (↑s.size : Int)).length + 1 + s.size) none) [EObj.dead, EObj.arr false true 1 false (m + (dec (↑s.size : Int)).length + 1 + s.size) (catRow (m + (dec (↑s.size : Int)).length + 1) (fun (i : Nat) => catRow (m + (dec (↑s.size : Int)).length) (fun (i : Nat) => catRow m (fun (i : Nat) => w (0 + i)) (fun (i : Nat) => [EV.int IntKind.u8 (↑((dec (↑s.size : Int)).getD (0 + i) 0).toNat : Int)]) (0 + i)) (fun (i : Nat) => [[EV.int IntKind.u8 58]].getD (0 + i) []) (0 + i)) fun (i : Nat) => [EV.int IntKind.u8 (↑(s.data.getD i 0).toNat : Int)])] :=
  semF_ren (modes := pures4) (news := news4) (n := 60) (fuel := 100000) (F := []) (s := (.mk [(0, .dec true), (0, .dec true)] [] [] [some ((EV.ms 1 1 0 (m + (dec (↑s.size : Int)).length) none, [EObj.dead, EObj.arr false true 1 false (m + (dec (↑s.size : Int)).length) (catRow m (fun (i : Nat) => w (0 + i)) fun (i : Nat) => [EV.int IntKind.u8 (↑((dec (↑s.size : Int)).getD (0 + i) 0).toNat : Int)])]))] [])) (ow := [(Decidable.decide ((m + (dec (↑s.size : Int)).length + 1 + s.size) * 1 ≤ 70368744177664) && Decidable.decide (m + (dec (↑s.size : Int)).length + 1 + s.size < 4611686018427387904)) = true, (Decidable.decide ((m + (dec (↑s.size : Int)).length + 1) * 1 ≤ 70368744177664) && Decidable.decide (m + (dec (↑s.size : Int)).length + 1 < 4611686018427387904)) = true, SemF prog globs' 70 [EV.ms 0 1 0 m none, EV.int IntKind.i64 (↑s.size : Int), EV.int IntKind.i64 10] [EObj.arr false true 1 false m w] (EV.ms 1 1 0 (m + (dec (↑s.size : Int)).length) none) [EObj.dead, EObj.arr false true 1 false (m + (dec (↑s.size : Int)).length) (catRow m (fun (i : Nat) => w (0 + i)) fun (i : Nat) => [EV.int IntKind.u8 (↑((dec (↑s.size : Int)).getD (0 + i) 0).toNat : Int)])]]) 2 [0, 6] hMixed KOk.nil (by kernel_rfl) (by kernel_rfl) (by kernel_rfl) (by kernel_rfl) (.cons (by simp_all [inB] <;> omega) (.cons (by simp_all [inB] <;> omega) (.cons (ap70 _ _ _ (by omega) (by omega) (by omega)) .nil)))
theorem dec_nat (k : Nat) : dec (k : Int) = decU k := by
  unfold dec
  rw [if_neg (by omega), Int.toNat_natCast]
theorem txt_eq (s : ByteArray) : ([] ++ dec (s.size : Int) ++ [58] ++ s.data.toList) = txt s := by
  rw [dec_nat]; simp [txt]
theorem text72 (s : ByteArray) (m : Nat) (w : Nat → List EV) (h2 : m ≤ 80000) (h5 : s.size ≤ 24) : Appends 72 [EV.str s] m w (txt s) := by
  rw [← txt_eq]
  refine appends_of (text72_ s m w (by omega) h5 (dec_len (by omega) (by omega))) (by simp; omega) ?_
  exact rowApp (X := ([] ++ dec (s.size : Int)) ++ [58]) (rowApp (X := [] ++ dec (s.size : Int)) (rowApp (X := []) rowBase rfl (bytesB _)) rfl (oneB 58)) (by simp; omega) (strB s)
theorem wText_ (s : ByteArray) (m : Nat) (w : Nat → List EV) (h2 : m ≤ 70000) (h5 : s.size ≤ 24) (h6 : (dec s.size).length ≤ 6) : SemF prog globs' 71 [EV.ms 0 1 0 m none, EV.agg [EV.int IntKind.i64 2, EV.int IntKind.i64 0, EV.str s, EV.isl false 0 0 fun (i : Nat) => [], EV.isl false 0 0 fun (i : Nat) => []]] [EObj.arr false true 1 false m w] (EV.ms 1 1 0 (m + (txt s).length) none) [EObj.dead, EObj.arr false true 1 false (m + (txt s).length) (catRow m (fun (i : Nat) => w (0 + i)) fun (i : Nat) => [EV.int IntKind.u8 (↑((txt s).getD (0 + i) 0).toNat : Int)])] :=
  semF_ren (modes := pures4) (news := news4) (n := 60) (fuel := 100000) (F := []) (s := (.mk [] [] [] [some ((EV.ms 1 1 0 (m + (txt s).length) none, [EObj.dead, EObj.arr false true 1 false (m + (txt s).length) (catRow m (fun (i : Nat) => w (0 + i)) fun (i : Nat) => [EV.int IntKind.u8 (↑((txt s).getD (0 + i) 0).toNat : Int)])]))] [])) (ow := [SemF prog globs' 72 [EV.ms 0 1 0 m none, EV.str s] [EObj.arr false true 1 false m w] (EV.ms 1 1 0 (m + (txt s).length) none) [EObj.dead, EObj.arr false true 1 false (m + (txt s).length) (catRow m (fun (i : Nat) => w (0 + i)) fun (i : Nat) => [EV.int IntKind.u8 (↑((txt s).getD (0 + i) 0).toNat : Int)])]]) 2 [0, 2] hMixed KOk.nil (by kernel_rfl) (by kernel_rfl) (by kernel_rfl) (by kernel_rfl) (.cons (text72 _ _ _ (by omega) (by omega)) .nil)
theorem wText (s : ByteArray) (m : Nat) (w : Nat → List EV) (h2 : m ≤ 70000) (h5 : s.size ≤ 24) : Appends 71 [EV.agg (valText s)] m w (txt s) :=
  wText_ s m w (by omega) h5 (dec_len (by omega) (by omega))
end Go.Ev
namespace Go.Ev
open Go.Proofs.Tryz (prog)
def PlaceD.fine (p : PlaceD) : Prop := (∀ j, -100000 < p.nums.getD j 0 ∧ p.nums.getD j 0 < 100000) ∧ p.zone.size ≤ 24
def encPart (p : PlaceD) : Nat → List UInt8
  | 0 => [100]
  | j + 1 => encPart p j ++ txt (keyB j) ++ (if j < 13 then encInt (p.nums.getD j 0) else txt p.zone)
def encKey (p : PlaceD) (j : Nat) : List UInt8 := encPart p j ++ txt (keyB j)
theorem txt_len {s : ByteArray} (h : s.size ≤ 24) : (txt s).length ≤ 31 := by
  unfold txt
  have := decU_len (u := s.size) (by omega)
  have e : s.data.toList.length = s.size := rfl
  simp only [List.length_append, List.length_cons, e]
  omega
theorem encInt_len {n : Int} (h0 : -100000 < n) (h1 : n < 100000) : (encInt n).length ≤ 8 := by
  have := dec_len h0 h1
  unfold encInt
  simp only [List.length_cons, List.length_append, List.length_nil]
  omega
theorem key_len (j : Nat) : (keyB j).size ≤ 24 := by
  match j with
  | 0 | 1 | 2 | 3 | 4 | 5 | 6 | 7 | 8 | 9 | 10 | 11 | 12 | 13 => decide
  | j + 14 => exact Nat.zero_le 24
theorem encPart_len {p : PlaceD} (hp : p.fine) : ∀ j, (encPart p j).length ≤ 1 + 62 * j
  | 0 => by simp [encPart]
  | j + 1 => by
    have h1 := encPart_len hp j
    have h2 := txt_len (key_len j)
    have h3 : (if j < 13 then encInt (p.nums.getD j 0) else txt p.zone).length ≤ 31 := by
      split
      · have := encInt_len (hp.1 j).1 (hp.1 j).2; omega
      · exact txt_len hp.2
    simp only [encPart, List.length_append]
    omega
theorem encKey_len {p : PlaceD} (hp : p.fine) (j : Nat) : (encKey p j).length ≤ 32 + 62 * j := by
  have h1 := encPart_len hp j
  have h2 := txt_len (key_len j)
  unfold encKey
  rw [List.length_append]
  omega
theorem Appends.on {f : FuncId} {rest : List EV} {m : Nat} {w r : Nat → List EV} {X Y : List UInt8} (h : Appends f rest (m + X.length) r Y) (hr : ∀ j, j < m + X.length → r j = catRow m (fun i => w (0 + i)) (fun i => bRow X (0 + i)) j) :
    SemF prog globs' f (EV.ms 0 1 0 (m + X.length) none :: rest) [EObj.arr false true 1 false (m + X.length) r] (EV.ms 1 1 0 (m + (X ++ Y).length) none) (apdEnd m w (X ++ Y)) := by
  have e : m + X.length + Y.length = m + (X ++ Y).length := by rw [List.length_append]; omega
  have h' : SemF prog globs' f (EV.ms 0 1 0 (m + X.length) none :: rest) [EObj.arr false true 1 false (m + X.length) r] (EV.ms 1 1 0 (m + X.length + Y.length) none) (apdEnd (m + X.length) r Y) := h
  unfold apdEnd at h'
  rw [e] at h'
  exact SemF.weaken (VLes.refl _) (HLe.refl _) h' (VLe.refl _) (.cons OLe.dead (.cons (OLe.arr fun j hj => rowApp hr rfl (fun k hk => by show bRow Y (0 + k) = _; rw [Nat.zero_add]) j hj) .nil))
theorem rowSame {m : Nat} {w : Nat → List EV} {X : List UInt8} : ∀ j, j < m + X.length → catRow m (fun i => w (0 + i)) (fun i => bRow X (0 + i)) j = catRow m (fun i => w (0 + i)) (fun i => bRow X (0 + i)) j := fun _ _ => rfl
def wCells : List EV := [EV.nilf, EV.func (.func 69) [] [], EV.func (.func 71) [] [], EV.func (.func 73) [] [EV.ptr 1 0], EV.func (.func 74) [] [EV.ptr 1 0]]
def wHeap (m : Nat) (w : Nat → List EV) : Heap := [EObj.arr false true 1 false m w, EObj.var false false [EV.ptr 2 0], EObj.var false false wCells]
noncomputable def wEnd (m : Nat) (w : Nat → List EV) (X : List UInt8) : Heap := [EObj.dead, EObj.var false false [EV.ptr 2 0], EObj.var false false wCells, EObj.arr false true 1 false (m + X.length) (catRow m (fun i => w (0 + i)) (fun i => bRow X (0 + i)))]
end Go.Ev
