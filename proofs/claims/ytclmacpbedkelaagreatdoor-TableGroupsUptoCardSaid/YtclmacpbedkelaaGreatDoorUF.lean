/- A part of the proof. -/
import Derived.Test.YtclmacpbedkelaaGreatDoorUD
import Derived.Test.YtclmacpbedkelaaGreatDoorUE
set_option linter.unusedSimpArgs false
set_option linter.unusedVariables false
set_option linter.unusedSectionVars false
namespace Go.Ev
open Go.Proofs.Tryz (prog)
set_option maxRecDepth 100000
set_option maxHeartbeats 0
noncomputable abbrev Eu (a0:Bool)(a1:Nat->Int)(a2:Int)(a3:Int)(a4:Int)(a5:Nat->RowD)(a6:ResD)(a7:SideD):=AI 8 a0 a1 a2 a3 a4 a5 .busy [.var false true a6.cells,.dead,.var false true a7.cells]
noncomputable abbrev Ew (a0:Bool)(a1:Nat->Int)(a2:Int)(a3:Int)(a4:Int)(a5:Nat->RowD)(a6:ResD)(a7:SideD):=AI 8 a0 a1 a2 a3 a4 a5 .busy [.var false true a6.cells,.var false true a7.cells]
noncomputable abbrev Fk (a0:Bool)(a1:Nat->Int)(a2:Int)(a3:Int)(a4:Int)(a5:Nat->RowD)(a6:ResD)(a7:SideD):=AI 7 a0 a1 a2 a3 a4 a5 .busy [.var false true a6.cells,.dead,.var false true a7.cells]
abbrev Ci (a0:Nat->RowD)(a1:Int)(a2:Int)(a3:Int)(a4:SideD):=DB a0 0 (AN a1 a2 a3 a4 (a0 0))
noncomputable abbrev AQ:=cR (cR (cB An))
noncomputable abbrev Fl (a0:Bool)(a1:Nat->Int)(a2:Int)(a3:Int)(a4:Int)(a5:Nat->RowD)(a6:ResD)(a7:SideD):=AI 7 a0 a1 a2 a3 a4 a5 .busy [.var false true a6.cells,.var false true a7.cells]
abbrev Cj (a0:Int)(a1:Int)(a2:Int)(a3:SideD)(a4:Nat->RowD):=(tu [],[ov (AN a0 a1 a2 a3 (a4 0)).cells])
noncomputable abbrev Gn (a0:Bool)(a1:Nat->Int)(a2:Int)(a3:Int)(a4:Int)(a5:Nat->RowD)(a6:ResD)(a7:SideD):=AI 6 a0 a1 a2 a3 a4 a5 .busy [.var false true a6.cells,.dead,.var false true a7.cells]
abbrev Ck (a0:Nat->RowD)(a1:Int)(a2:Int)(a3:Int)(a4:SideD):=DB a0 1 (AN a1 a2 a3 a4 (a0 1))
abbrev Gp (a0:Int)(a1:Int)(a2:Int)(a3:SideD)(a4:Nat->RowD):=(tu [],[ov (AN a0 a1 a2 a3 (a4 5)).cells])
abbrev Cl (a0:Int)(a1:Int)(a2:Int)(a3:SideD)(a4:Nat->RowD):=(tu [],[ov (AN a0 a1 a2 a3 (a4 1)).cells])
noncomputable abbrev Gq (a0:Bool)(a1:Nat->Int)(a2:Int)(a3:Int)(a4:Int)(a5:Nat->RowD)(a6:ResD)(a7:SideD):=AI 6 a0 a1 a2 a3 a4 a5 .busy [.var false true a6.cells,.var false true a7.cells]
noncomputable abbrev Hy (a0:Bool)(a1:Nat->Int)(a2:Int)(a3:Int)(a4:Int)(a5:Nat->RowD)(a6:ResD)(a7:SideD):=AI 5 a0 a1 a2 a3 a4 a5 .busy [.var false true a6.cells,.dead,.var false true a7.cells]
abbrev Ex (a0:Int)(a1:Int)(a2:Int)(a3:SideD)(a4:Nat->RowD):=(tu [],[ov (AN a0 a1 a2 a3 (a4 4)).cells])
abbrev Ey (a0:Nat->RowD)(a1:Int)(a2:Int)(a3:Int)(a4:SideD):=DB a0 4 (AN a1 a2 a3 a4 (a0 4))
noncomputable abbrev Hz (a0:Bool)(a1:Nat->Int)(a2:Int)(a3:Int)(a4:Int)(a5:Nat->RowD)(a6:ResD)(a7:SideD):=AI 5 a0 a1 a2 a3 a4 a5 .busy [.var false true a6.cells,.var false true a7.cells]
noncomputable abbrev JI (a0:Bool)(a1:Nat->Int)(a2:Int)(a3:Int)(a4:Int)(a5:Nat->RowD)(a6:ResD)(a7:SideD):=AI 4 a0 a1 a2 a3 a4 a5 .busy [.var false true a6.cells,.dead,.var false true a7.cells]
abbrev Dq (a0:Int)(a1:Int)(a2:Int)(a3:SideD)(a4:Nat->RowD):=(tu [],[ov (AN a0 a1 a2 a3 (a4 3)).cells])
abbrev Dr (a0:Nat->RowD)(a1:Int)(a2:Int)(a3:Int)(a4:SideD):=DB a0 3 (AN a1 a2 a3 a4 (a0 3))
noncomputable abbrev JJ (a0:Bool)(a1:Nat->Int)(a2:Int)(a3:Int)(a4:Int)(a5:Nat->RowD)(a6:ResD)(a7:SideD):=AI 4 a0 a1 a2 a3 a4 a5 .busy [.var false true a6.cells,.var false true a7.cells]
abbrev DO (a0:Nat->RowD)(a1:Int)(a2:Int)(a3:Int)(a4:SideD):=DB a0 2 (AN a1 a2 a3 a4 (a0 2))
abbrev DP (a0:Int)(a1:Int)(a2:Int)(a3:SideD)(a4:Nat->RowD):=(tu [],[ov (AN a0 a1 a2 a3 (a4 2)).cells])
section
variable (n1:Bool)(w:Nat->Int)(wi:Int)(dr:Int)(lo:Int)(rd:Nat->RowD)(r:ResD)(s:SideD)
include n1 w wi dr lo rd r s
theorem WC:SemC prog globs' true (AQ) (frame 77 [(12,.ptr 2 0),(16,.ptr 9 0),(17,.ptr 5 0)]) (AI 2 n1 w wi dr lo rd .busy [.var false true r.cells,.var false true s.cells]) (xN,frame 77 [],AI 2 n1 w wi dr lo (Ci rd wi dr lo s) .busy [.var false true r.cells,.dead]):=
 kCm Al A3 [[]] (.mk [] [] [] [some ((Cj wi dr lo s rd))] []) (kO AD) (oT (sF 65 [pt 0 0,ag [iv s.club,iv s.own,iv s.other,iv s.cards,bv s.away,bv s.both],ag [iv wi,iv dr,iv lo]] [ov (rd 0).cells] (tu []) [ov (AN wi dr lo s (rd 0)).cells]) (AP _ _ _ _ _) .nil) 0 511 10
theorem WD:SemC prog globs' true (AQ) (frame 77 [(12,.ptr 2 0),(16,.ptr 9 0),(17,.ptr 6 0)]) (AI 2 n1 w wi dr lo rd .busy [.var false true r.cells,.var false true s.cells]) (xN,frame 77 [],AI 2 n1 w wi dr lo (Ck rd wi dr lo s) .busy [.var false true r.cells,.dead]):=
 kCm Al A3 [[]] (.mk [] [] [] [some ((Cl wi dr lo s rd))] []) (kO AD) (oT (sF 65 [pt 0 0,ag [iv s.club,iv s.own,iv s.other,iv s.cards,bv s.away,bv s.both],ag [iv wi,iv dr,iv lo]] [ov (rd 1).cells] (tu []) [ov (AN wi dr lo s (rd 1)).cells]) (AP _ _ _ _ _) .nil) 0 511 10
theorem WE:SemC prog globs' true (AQ) (frame 77 [(12,.ptr 2 0),(16,.ptr 10 0),(17,.ptr 5 0)]) (AI 2 n1 w wi dr lo rd .busy [.var false true r.cells,.dead,.var false true s.cells]) (xN,frame 77 [],AI 2 n1 w wi dr lo (Ci rd wi dr lo s) .busy [.var false true r.cells,.dead,.dead]):=
 kCm Al A3 [[]] (.mk [] [] [] [some ((Cj wi dr lo s rd))] []) (kO AD) (oT (sF 65 [pt 0 0,ag [iv s.club,iv s.own,iv s.other,iv s.cards,bv s.away,bv s.both],ag [iv wi,iv dr,iv lo]] [ov (rd 0).cells] (tu []) [ov (AN wi dr lo s (rd 0)).cells]) (AP _ _ _ _ _) .nil) 0 511 11
theorem WG:SemC prog globs' true (AQ) (frame 77 [(12,.ptr 2 0),(16,.ptr 10 0),(17,.ptr 6 0)]) (AI 2 n1 w wi dr lo rd .busy [.var false true r.cells,.dead,.var false true s.cells]) (xN,frame 77 [],AI 2 n1 w wi dr lo (Ck rd wi dr lo s) .busy [.var false true r.cells,.dead,.dead]):=
 kCm Al A3 [[]] (.mk [] [] [] [some ((Cl wi dr lo s rd))] []) (kO AD) (oT (sF 65 [pt 0 0,ag [iv s.club,iv s.own,iv s.other,iv s.cards,bv s.away,bv s.both],ag [iv wi,iv dr,iv lo]] [ov (rd 1).cells] (tu []) [ov (AN wi dr lo s (rd 1)).cells]) (AP _ _ _ _ _) .nil) 0 511 11
theorem WH:SemC prog globs' true (AQ) (frame 77 [(12,.ptr 2 0),(16,.ptr 10 0),(17,.ptr 5 0)]) (AI 3 n1 w wi dr lo rd .busy [.var false true r.cells,.var false true s.cells]) (xN,frame 77 [],AI 3 n1 w wi dr lo (Ci rd wi dr lo s) .busy [.var false true r.cells,.dead]):=
 kCm Al A3 [[]] (.mk [] [] [] [some ((Cj wi dr lo s rd))] []) (kO AD) (oT (sF 65 [pt 0 0,ag [iv s.club,iv s.own,iv s.other,iv s.cards,bv s.away,bv s.both],ag [iv wi,iv dr,iv lo]] [ov (rd 0).cells] (tu []) [ov (AN wi dr lo s (rd 0)).cells]) (AP _ _ _ _ _) .nil) 0 1023 11
theorem WI:SemC prog globs' true (AQ) (frame 77 [(12,.ptr 2 0),(16,.ptr 10 0),(17,.ptr 6 0)]) (AI 3 n1 w wi dr lo rd .busy [.var false true r.cells,.var false true s.cells]) (xN,frame 77 [],AI 3 n1 w wi dr lo (Ck rd wi dr lo s) .busy [.var false true r.cells,.dead]):=
 kCm Al A3 [[]] (.mk [] [] [] [some ((Cl wi dr lo s rd))] []) (kO AD) (oT (sF 65 [pt 0 0,ag [iv s.club,iv s.own,iv s.other,iv s.cards,bv s.away,bv s.both],ag [iv wi,iv dr,iv lo]] [ov (rd 1).cells] (tu []) [ov (AN wi dr lo s (rd 1)).cells]) (AP _ _ _ _ _) .nil) 0 1023 11
theorem WJ:SemC prog globs' true (AQ) (frame 77 [(12,.ptr 2 0),(16,.ptr 10 0),(17,.ptr 7 0)]) (AI 3 n1 w wi dr lo rd .busy [.var false true r.cells,.var false true s.cells]) (xN,frame 77 [],AI 3 n1 w wi dr lo (DO rd wi dr lo s) .busy [.var false true r.cells,.dead]):=
 kCm Al A3 [[]] (.mk [] [] [] [some ((DP wi dr lo s rd))] []) (kO AD) (oT (sF 65 [pt 0 0,ag [iv s.club,iv s.own,iv s.other,iv s.cards,bv s.away,bv s.both],ag [iv wi,iv dr,iv lo]] [ov (rd 2).cells] (tu []) [ov (AN wi dr lo s (rd 2)).cells]) (AP _ _ _ _ _) .nil) 0 1023 11
theorem WK:SemC prog globs' true (AQ) (frame 77 [(12,.ptr 2 0),(16,.ptr 11 0),(17,.ptr 5 0)]) (AI 3 n1 w wi dr lo rd .busy [.var false true r.cells,.dead,.var false true s.cells]) (xN,frame 77 [],AI 3 n1 w wi dr lo (Ci rd wi dr lo s) .busy [.var false true r.cells,.dead,.dead]):=
 kCm Al A3 [[]] (.mk [] [] [] [some ((Cj wi dr lo s rd))] []) (kO AD) (oT (sF 65 [pt 0 0,ag [iv s.club,iv s.own,iv s.other,iv s.cards,bv s.away,bv s.both],ag [iv wi,iv dr,iv lo]] [ov (rd 0).cells] (tu []) [ov (AN wi dr lo s (rd 0)).cells]) (AP _ _ _ _ _) .nil) 0 1023 12
theorem WL:SemC prog globs' true (AQ) (frame 77 [(12,.ptr 2 0),(16,.ptr 11 0),(17,.ptr 6 0)]) (AI 3 n1 w wi dr lo rd .busy [.var false true r.cells,.dead,.var false true s.cells]) (xN,frame 77 [],AI 3 n1 w wi dr lo (Ck rd wi dr lo s) .busy [.var false true r.cells,.dead,.dead]):=
 kCm Al A3 [[]] (.mk [] [] [] [some ((Cl wi dr lo s rd))] []) (kO AD) (oT (sF 65 [pt 0 0,ag [iv s.club,iv s.own,iv s.other,iv s.cards,bv s.away,bv s.both],ag [iv wi,iv dr,iv lo]] [ov (rd 1).cells] (tu []) [ov (AN wi dr lo s (rd 1)).cells]) (AP _ _ _ _ _) .nil) 0 1023 12
theorem WM:SemC prog globs' true (AQ) (frame 77 [(12,.ptr 2 0),(16,.ptr 11 0),(17,.ptr 7 0)]) (AI 3 n1 w wi dr lo rd .busy [.var false true r.cells,.dead,.var false true s.cells]) (xN,frame 77 [],AI 3 n1 w wi dr lo (DO rd wi dr lo s) .busy [.var false true r.cells,.dead,.dead]):=
 kCm Al A3 [[]] (.mk [] [] [] [some ((DP wi dr lo s rd))] []) (kO AD) (oT (sF 65 [pt 0 0,ag [iv s.club,iv s.own,iv s.other,iv s.cards,bv s.away,bv s.both],ag [iv wi,iv dr,iv lo]] [ov (rd 2).cells] (tu []) [ov (AN wi dr lo s (rd 2)).cells]) (AP _ _ _ _ _) .nil) 0 1023 12
theorem WN:SemC prog globs' true (AQ) (frame 77 [(12,.ptr 2 0),(16,.ptr 11 0),(17,.ptr 5 0)]) (JJ n1 w wi dr lo rd r s) (xN,frame 77 [],AI 4 n1 w wi dr lo (Ci rd wi dr lo s) .busy [.var false true r.cells,.dead]):=
 kCm Al A3 [[]] (.mk [] [] [] [some ((Cj wi dr lo s rd))] []) (kO AD) (oT (sF 65 [pt 0 0,ag [iv s.club,iv s.own,iv s.other,iv s.cards,bv s.away,bv s.both],ag [iv wi,iv dr,iv lo]] [ov (rd 0).cells] (tu []) [ov (AN wi dr lo s (rd 0)).cells]) (AP _ _ _ _ _) .nil) 0 2047 12
theorem WO:SemC prog globs' true (AQ) (frame 77 [(12,.ptr 2 0),(16,.ptr 11 0),(17,.ptr 6 0)]) (JJ n1 w wi dr lo rd r s) (xN,frame 77 [],AI 4 n1 w wi dr lo (Ck rd wi dr lo s) .busy [.var false true r.cells,.dead]):=
 kCm Al A3 [[]] (.mk [] [] [] [some ((Cl wi dr lo s rd))] []) (kO AD) (oT (sF 65 [pt 0 0,ag [iv s.club,iv s.own,iv s.other,iv s.cards,bv s.away,bv s.both],ag [iv wi,iv dr,iv lo]] [ov (rd 1).cells] (tu []) [ov (AN wi dr lo s (rd 1)).cells]) (AP _ _ _ _ _) .nil) 0 2047 12
theorem WQ:SemC prog globs' true (AQ) (frame 77 [(12,.ptr 2 0),(16,.ptr 11 0),(17,.ptr 7 0)]) (JJ n1 w wi dr lo rd r s) (xN,frame 77 [],AI 4 n1 w wi dr lo (DO rd wi dr lo s) .busy [.var false true r.cells,.dead]):=
 kCm Al A3 [[]] (.mk [] [] [] [some ((DP wi dr lo s rd))] []) (kO AD) (oT (sF 65 [pt 0 0,ag [iv s.club,iv s.own,iv s.other,iv s.cards,bv s.away,bv s.both],ag [iv wi,iv dr,iv lo]] [ov (rd 2).cells] (tu []) [ov (AN wi dr lo s (rd 2)).cells]) (AP _ _ _ _ _) .nil) 0 2047 12
theorem WR:SemC prog globs' true (AQ) (frame 77 [(12,.ptr 2 0),(16,.ptr 11 0),(17,.ptr 8 0)]) (JJ n1 w wi dr lo rd r s) (xN,frame 77 [],AI 4 n1 w wi dr lo (Dr rd wi dr lo s) .busy [.var false true r.cells,.dead]):=
 kCm Al A3 [[]] (.mk [] [] [] [some ((Dq wi dr lo s rd))] []) (kO AD) (oT (sF 65 [pt 0 0,ag [iv s.club,iv s.own,iv s.other,iv s.cards,bv s.away,bv s.both],ag [iv wi,iv dr,iv lo]] [ov (rd 3).cells] (tu []) [ov (AN wi dr lo s (rd 3)).cells]) (AP _ _ _ _ _) .nil) 0 2047 12
theorem WS:SemC prog globs' true (AQ) (frame 77 [(12,.ptr 2 0),(16,.ptr 12 0),(17,.ptr 5 0)]) (JI n1 w wi dr lo rd r s) (xN,frame 77 [],AI 4 n1 w wi dr lo (Ci rd wi dr lo s) .busy [.var false true r.cells,.dead,.dead]):=
 kCm Al A3 [[]] (.mk [] [] [] [some ((Cj wi dr lo s rd))] []) (kO AD) (oT (sF 65 [pt 0 0,ag [iv s.club,iv s.own,iv s.other,iv s.cards,bv s.away,bv s.both],ag [iv wi,iv dr,iv lo]] [ov (rd 0).cells] (tu []) [ov (AN wi dr lo s (rd 0)).cells]) (AP _ _ _ _ _) .nil) 0 2047 13
theorem WT:SemC prog globs' true (AQ) (frame 77 [(12,.ptr 2 0),(16,.ptr 12 0),(17,.ptr 6 0)]) (JI n1 w wi dr lo rd r s) (xN,frame 77 [],AI 4 n1 w wi dr lo (Ck rd wi dr lo s) .busy [.var false true r.cells,.dead,.dead]):=
 kCm Al A3 [[]] (.mk [] [] [] [some ((Cl wi dr lo s rd))] []) (kO AD) (oT (sF 65 [pt 0 0,ag [iv s.club,iv s.own,iv s.other,iv s.cards,bv s.away,bv s.both],ag [iv wi,iv dr,iv lo]] [ov (rd 1).cells] (tu []) [ov (AN wi dr lo s (rd 1)).cells]) (AP _ _ _ _ _) .nil) 0 2047 13
theorem WU:SemC prog globs' true (AQ) (frame 77 [(12,.ptr 2 0),(16,.ptr 12 0),(17,.ptr 7 0)]) (JI n1 w wi dr lo rd r s) (xN,frame 77 [],AI 4 n1 w wi dr lo (DO rd wi dr lo s) .busy [.var false true r.cells,.dead,.dead]):=
 kCm Al A3 [[]] (.mk [] [] [] [some ((DP wi dr lo s rd))] []) (kO AD) (oT (sF 65 [pt 0 0,ag [iv s.club,iv s.own,iv s.other,iv s.cards,bv s.away,bv s.both],ag [iv wi,iv dr,iv lo]] [ov (rd 2).cells] (tu []) [ov (AN wi dr lo s (rd 2)).cells]) (AP _ _ _ _ _) .nil) 0 2047 13
theorem WV:SemC prog globs' true (AQ) (frame 77 [(12,.ptr 2 0),(16,.ptr 12 0),(17,.ptr 8 0)]) (JI n1 w wi dr lo rd r s) (xN,frame 77 [],AI 4 n1 w wi dr lo (Dr rd wi dr lo s) .busy [.var false true r.cells,.dead,.dead]):=
 kCm Al A3 [[]] (.mk [] [] [] [some ((Dq wi dr lo s rd))] []) (kO AD) (oT (sF 65 [pt 0 0,ag [iv s.club,iv s.own,iv s.other,iv s.cards,bv s.away,bv s.both],ag [iv wi,iv dr,iv lo]] [ov (rd 3).cells] (tu []) [ov (AN wi dr lo s (rd 3)).cells]) (AP _ _ _ _ _) .nil) 0 2047 13
theorem WW:SemC prog globs' true (AQ) (frame 77 [(12,.ptr 2 0),(16,.ptr 12 0),(17,.ptr 5 0)]) (Hz n1 w wi dr lo rd r s) (xN,frame 77 [],AI 5 n1 w wi dr lo (Ci rd wi dr lo s) .busy [.var false true r.cells,.dead]):=
 kCm Al A3 [[]] (.mk [] [] [] [some ((Cj wi dr lo s rd))] []) (kO AD) (oT (sF 65 [pt 0 0,ag [iv s.club,iv s.own,iv s.other,iv s.cards,bv s.away,bv s.both],ag [iv wi,iv dr,iv lo]] [ov (rd 0).cells] (tu []) [ov (AN wi dr lo s (rd 0)).cells]) (AP _ _ _ _ _) .nil) 0 4095 13
theorem WX:SemC prog globs' true (AQ) (frame 77 [(12,.ptr 2 0),(16,.ptr 12 0),(17,.ptr 6 0)]) (Hz n1 w wi dr lo rd r s) (xN,frame 77 [],AI 5 n1 w wi dr lo (Ck rd wi dr lo s) .busy [.var false true r.cells,.dead]):=
 kCm Al A3 [[]] (.mk [] [] [] [some ((Cl wi dr lo s rd))] []) (kO AD) (oT (sF 65 [pt 0 0,ag [iv s.club,iv s.own,iv s.other,iv s.cards,bv s.away,bv s.both],ag [iv wi,iv dr,iv lo]] [ov (rd 1).cells] (tu []) [ov (AN wi dr lo s (rd 1)).cells]) (AP _ _ _ _ _) .nil) 0 4095 13
theorem WY:SemC prog globs' true (AQ) (frame 77 [(12,.ptr 2 0),(16,.ptr 12 0),(17,.ptr 7 0)]) (Hz n1 w wi dr lo rd r s) (xN,frame 77 [],AI 5 n1 w wi dr lo (DO rd wi dr lo s) .busy [.var false true r.cells,.dead]):=
 kCm Al A3 [[]] (.mk [] [] [] [some ((DP wi dr lo s rd))] []) (kO AD) (oT (sF 65 [pt 0 0,ag [iv s.club,iv s.own,iv s.other,iv s.cards,bv s.away,bv s.both],ag [iv wi,iv dr,iv lo]] [ov (rd 2).cells] (tu []) [ov (AN wi dr lo s (rd 2)).cells]) (AP _ _ _ _ _) .nil) 0 4095 13
theorem WZ:SemC prog globs' true (AQ) (frame 77 [(12,.ptr 2 0),(16,.ptr 12 0),(17,.ptr 8 0)]) (Hz n1 w wi dr lo rd r s) (xN,frame 77 [],AI 5 n1 w wi dr lo (Dr rd wi dr lo s) .busy [.var false true r.cells,.dead]):=
 kCm Al A3 [[]] (.mk [] [] [] [some ((Dq wi dr lo s rd))] []) (kO AD) (oT (sF 65 [pt 0 0,ag [iv s.club,iv s.own,iv s.other,iv s.cards,bv s.away,bv s.both],ag [iv wi,iv dr,iv lo]] [ov (rd 3).cells] (tu []) [ov (AN wi dr lo s (rd 3)).cells]) (AP _ _ _ _ _) .nil) 0 4095 13
theorem Wa:SemC prog globs' true (AQ) (frame 77 [(12,.ptr 2 0),(16,.ptr 12 0),(17,.ptr 9 0)]) (Hz n1 w wi dr lo rd r s) (xN,frame 77 [],AI 5 n1 w wi dr lo (Ey rd wi dr lo s) .busy [.var false true r.cells,.dead]):=
 kCm Al A3 [[]] (.mk [] [] [] [some ((Ex wi dr lo s rd))] []) (kO AD) (oT (sF 65 [pt 0 0,ag [iv s.club,iv s.own,iv s.other,iv s.cards,bv s.away,bv s.both],ag [iv wi,iv dr,iv lo]] [ov (rd 4).cells] (tu []) [ov (AN wi dr lo s (rd 4)).cells]) (AP _ _ _ _ _) .nil) 0 4095 13
theorem Wb:SemC prog globs' true (AQ) (frame 77 [(12,.ptr 2 0),(16,.ptr 13 0),(17,.ptr 5 0)]) (Hy n1 w wi dr lo rd r s) (xN,frame 77 [],AI 5 n1 w wi dr lo (Ci rd wi dr lo s) .busy [.var false true r.cells,.dead,.dead]):=
 kCm Al A3 [[]] (.mk [] [] [] [some ((Cj wi dr lo s rd))] []) (kO AD) (oT (sF 65 [pt 0 0,ag [iv s.club,iv s.own,iv s.other,iv s.cards,bv s.away,bv s.both],ag [iv wi,iv dr,iv lo]] [ov (rd 0).cells] (tu []) [ov (AN wi dr lo s (rd 0)).cells]) (AP _ _ _ _ _) .nil) 0 4095 14
theorem Wc:SemC prog globs' true (AQ) (frame 77 [(12,.ptr 2 0),(16,.ptr 13 0),(17,.ptr 6 0)]) (Hy n1 w wi dr lo rd r s) (xN,frame 77 [],AI 5 n1 w wi dr lo (Ck rd wi dr lo s) .busy [.var false true r.cells,.dead,.dead]):=
 kCm Al A3 [[]] (.mk [] [] [] [some ((Cl wi dr lo s rd))] []) (kO AD) (oT (sF 65 [pt 0 0,ag [iv s.club,iv s.own,iv s.other,iv s.cards,bv s.away,bv s.both],ag [iv wi,iv dr,iv lo]] [ov (rd 1).cells] (tu []) [ov (AN wi dr lo s (rd 1)).cells]) (AP _ _ _ _ _) .nil) 0 4095 14
theorem Wd:SemC prog globs' true (AQ) (frame 77 [(12,.ptr 2 0),(16,.ptr 13 0),(17,.ptr 7 0)]) (Hy n1 w wi dr lo rd r s) (xN,frame 77 [],AI 5 n1 w wi dr lo (DO rd wi dr lo s) .busy [.var false true r.cells,.dead,.dead]):=
 kCm Al A3 [[]] (.mk [] [] [] [some ((DP wi dr lo s rd))] []) (kO AD) (oT (sF 65 [pt 0 0,ag [iv s.club,iv s.own,iv s.other,iv s.cards,bv s.away,bv s.both],ag [iv wi,iv dr,iv lo]] [ov (rd 2).cells] (tu []) [ov (AN wi dr lo s (rd 2)).cells]) (AP _ _ _ _ _) .nil) 0 4095 14
theorem We:SemC prog globs' true (AQ) (frame 77 [(12,.ptr 2 0),(16,.ptr 13 0),(17,.ptr 8 0)]) (Hy n1 w wi dr lo rd r s) (xN,frame 77 [],AI 5 n1 w wi dr lo (Dr rd wi dr lo s) .busy [.var false true r.cells,.dead,.dead]):=
 kCm Al A3 [[]] (.mk [] [] [] [some ((Dq wi dr lo s rd))] []) (kO AD) (oT (sF 65 [pt 0 0,ag [iv s.club,iv s.own,iv s.other,iv s.cards,bv s.away,bv s.both],ag [iv wi,iv dr,iv lo]] [ov (rd 3).cells] (tu []) [ov (AN wi dr lo s (rd 3)).cells]) (AP _ _ _ _ _) .nil) 0 4095 14
theorem Wf:SemC prog globs' true (AQ) (frame 77 [(12,.ptr 2 0),(16,.ptr 13 0),(17,.ptr 9 0)]) (Hy n1 w wi dr lo rd r s) (xN,frame 77 [],AI 5 n1 w wi dr lo (Ey rd wi dr lo s) .busy [.var false true r.cells,.dead,.dead]):=
 kCm Al A3 [[]] (.mk [] [] [] [some ((Ex wi dr lo s rd))] []) (kO AD) (oT (sF 65 [pt 0 0,ag [iv s.club,iv s.own,iv s.other,iv s.cards,bv s.away,bv s.both],ag [iv wi,iv dr,iv lo]] [ov (rd 4).cells] (tu []) [ov (AN wi dr lo s (rd 4)).cells]) (AP _ _ _ _ _) .nil) 0 4095 14
theorem Wg:SemC prog globs' true (AQ) (frame 77 [(12,.ptr 2 0),(16,.ptr 13 0),(17,.ptr 5 0)]) (Gq n1 w wi dr lo rd r s) (xN,frame 77 [],AI 6 n1 w wi dr lo (Ci rd wi dr lo s) .busy [.var false true r.cells,.dead]):=
 kCm Al A3 [[]] (.mk [] [] [] [some ((Cj wi dr lo s rd))] []) (kO AD) (oT (sF 65 [pt 0 0,ag [iv s.club,iv s.own,iv s.other,iv s.cards,bv s.away,bv s.both],ag [iv wi,iv dr,iv lo]] [ov (rd 0).cells] (tu []) [ov (AN wi dr lo s (rd 0)).cells]) (AP _ _ _ _ _) .nil) 0 8191 14
theorem Wh:SemC prog globs' true (AQ) (frame 77 [(12,.ptr 2 0),(16,.ptr 13 0),(17,.ptr 6 0)]) (Gq n1 w wi dr lo rd r s) (xN,frame 77 [],AI 6 n1 w wi dr lo (Ck rd wi dr lo s) .busy [.var false true r.cells,.dead]):=
 kCm Al A3 [[]] (.mk [] [] [] [some ((Cl wi dr lo s rd))] []) (kO AD) (oT (sF 65 [pt 0 0,ag [iv s.club,iv s.own,iv s.other,iv s.cards,bv s.away,bv s.both],ag [iv wi,iv dr,iv lo]] [ov (rd 1).cells] (tu []) [ov (AN wi dr lo s (rd 1)).cells]) (AP _ _ _ _ _) .nil) 0 8191 14
theorem Wi:SemC prog globs' true (AQ) (frame 77 [(12,.ptr 2 0),(16,.ptr 13 0),(17,.ptr 7 0)]) (Gq n1 w wi dr lo rd r s) (xN,frame 77 [],AI 6 n1 w wi dr lo (DO rd wi dr lo s) .busy [.var false true r.cells,.dead]):=
 kCm Al A3 [[]] (.mk [] [] [] [some ((DP wi dr lo s rd))] []) (kO AD) (oT (sF 65 [pt 0 0,ag [iv s.club,iv s.own,iv s.other,iv s.cards,bv s.away,bv s.both],ag [iv wi,iv dr,iv lo]] [ov (rd 2).cells] (tu []) [ov (AN wi dr lo s (rd 2)).cells]) (AP _ _ _ _ _) .nil) 0 8191 14
theorem Wj:SemC prog globs' true (AQ) (frame 77 [(12,.ptr 2 0),(16,.ptr 13 0),(17,.ptr 8 0)]) (Gq n1 w wi dr lo rd r s) (xN,frame 77 [],AI 6 n1 w wi dr lo (Dr rd wi dr lo s) .busy [.var false true r.cells,.dead]):=
 kCm Al A3 [[]] (.mk [] [] [] [some ((Dq wi dr lo s rd))] []) (kO AD) (oT (sF 65 [pt 0 0,ag [iv s.club,iv s.own,iv s.other,iv s.cards,bv s.away,bv s.both],ag [iv wi,iv dr,iv lo]] [ov (rd 3).cells] (tu []) [ov (AN wi dr lo s (rd 3)).cells]) (AP _ _ _ _ _) .nil) 0 8191 14
theorem Wk:SemC prog globs' true (AQ) (frame 77 [(12,.ptr 2 0),(16,.ptr 13 0),(17,.ptr 9 0)]) (Gq n1 w wi dr lo rd r s) (xN,frame 77 [],AI 6 n1 w wi dr lo (Ey rd wi dr lo s) .busy [.var false true r.cells,.dead]):=
 kCm Al A3 [[]] (.mk [] [] [] [some ((Ex wi dr lo s rd))] []) (kO AD) (oT (sF 65 [pt 0 0,ag [iv s.club,iv s.own,iv s.other,iv s.cards,bv s.away,bv s.both],ag [iv wi,iv dr,iv lo]] [ov (rd 4).cells] (tu []) [ov (AN wi dr lo s (rd 4)).cells]) (AP _ _ _ _ _) .nil) 0 8191 14
theorem Wl:SemC prog globs' true (AQ) (frame 77 [(12,.ptr 2 0),(16,.ptr 13 0),(17,.ptr 10 0)]) (Gq n1 w wi dr lo rd r s) (xN,frame 77 [],AI 6 n1 w wi dr lo (DB rd 5 (AN wi dr lo s (rd 5))) .busy [.var false true r.cells,.dead]):=
 kCm Al A3 [[]] (.mk [] [] [] [some ((Gp wi dr lo s rd))] []) (kO AD) (oT (sF 65 [pt 0 0,ag [iv s.club,iv s.own,iv s.other,iv s.cards,bv s.away,bv s.both],ag [iv wi,iv dr,iv lo]] [ov (rd 5).cells] (tu []) [ov (AN wi dr lo s (rd 5)).cells]) (AP _ _ _ _ _) .nil) 0 8191 14
theorem Wm:SemC prog globs' true (AQ) (frame 77 [(12,.ptr 2 0),(16,.ptr 14 0),(17,.ptr 5 0)]) (Gn n1 w wi dr lo rd r s) (xN,frame 77 [],AI 6 n1 w wi dr lo (Ci rd wi dr lo s) .busy [.var false true r.cells,.dead,.dead]):=
 kCm Al A3 [[]] (.mk [] [] [] [some ((Cj wi dr lo s rd))] []) (kO AD) (oT (sF 65 [pt 0 0,ag [iv s.club,iv s.own,iv s.other,iv s.cards,bv s.away,bv s.both],ag [iv wi,iv dr,iv lo]] [ov (rd 0).cells] (tu []) [ov (AN wi dr lo s (rd 0)).cells]) (AP _ _ _ _ _) .nil) 0 8191 15
theorem Wn:SemC prog globs' true (AQ) (frame 77 [(12,.ptr 2 0),(16,.ptr 14 0),(17,.ptr 6 0)]) (Gn n1 w wi dr lo rd r s) (xN,frame 77 [],AI 6 n1 w wi dr lo (Ck rd wi dr lo s) .busy [.var false true r.cells,.dead,.dead]):=
 kCm Al A3 [[]] (.mk [] [] [] [some ((Cl wi dr lo s rd))] []) (kO AD) (oT (sF 65 [pt 0 0,ag [iv s.club,iv s.own,iv s.other,iv s.cards,bv s.away,bv s.both],ag [iv wi,iv dr,iv lo]] [ov (rd 1).cells] (tu []) [ov (AN wi dr lo s (rd 1)).cells]) (AP _ _ _ _ _) .nil) 0 8191 15
theorem Wo:SemC prog globs' true (AQ) (frame 77 [(12,.ptr 2 0),(16,.ptr 14 0),(17,.ptr 7 0)]) (Gn n1 w wi dr lo rd r s) (xN,frame 77 [],AI 6 n1 w wi dr lo (DO rd wi dr lo s) .busy [.var false true r.cells,.dead,.dead]):=
 kCm Al A3 [[]] (.mk [] [] [] [some ((DP wi dr lo s rd))] []) (kO AD) (oT (sF 65 [pt 0 0,ag [iv s.club,iv s.own,iv s.other,iv s.cards,bv s.away,bv s.both],ag [iv wi,iv dr,iv lo]] [ov (rd 2).cells] (tu []) [ov (AN wi dr lo s (rd 2)).cells]) (AP _ _ _ _ _) .nil) 0 8191 15
theorem Wp:SemC prog globs' true (AQ) (frame 77 [(12,.ptr 2 0),(16,.ptr 14 0),(17,.ptr 8 0)]) (Gn n1 w wi dr lo rd r s) (xN,frame 77 [],AI 6 n1 w wi dr lo (Dr rd wi dr lo s) .busy [.var false true r.cells,.dead,.dead]):=
 kCm Al A3 [[]] (.mk [] [] [] [some ((Dq wi dr lo s rd))] []) (kO AD) (oT (sF 65 [pt 0 0,ag [iv s.club,iv s.own,iv s.other,iv s.cards,bv s.away,bv s.both],ag [iv wi,iv dr,iv lo]] [ov (rd 3).cells] (tu []) [ov (AN wi dr lo s (rd 3)).cells]) (AP _ _ _ _ _) .nil) 0 8191 15
theorem Wq:SemC prog globs' true (AQ) (frame 77 [(12,.ptr 2 0),(16,.ptr 14 0),(17,.ptr 9 0)]) (Gn n1 w wi dr lo rd r s) (xN,frame 77 [],AI 6 n1 w wi dr lo (Ey rd wi dr lo s) .busy [.var false true r.cells,.dead,.dead]):=
 kCm Al A3 [[]] (.mk [] [] [] [some ((Ex wi dr lo s rd))] []) (kO AD) (oT (sF 65 [pt 0 0,ag [iv s.club,iv s.own,iv s.other,iv s.cards,bv s.away,bv s.both],ag [iv wi,iv dr,iv lo]] [ov (rd 4).cells] (tu []) [ov (AN wi dr lo s (rd 4)).cells]) (AP _ _ _ _ _) .nil) 0 8191 15
theorem Ws:SemC prog globs' true (AQ) (frame 77 [(12,.ptr 2 0),(16,.ptr 14 0),(17,.ptr 10 0)]) (Gn n1 w wi dr lo rd r s) (xN,frame 77 [],AI 6 n1 w wi dr lo (DB rd 5 (AN wi dr lo s (rd 5))) .busy [.var false true r.cells,.dead,.dead]):=
 kCm Al A3 [[]] (.mk [] [] [] [some ((Gp wi dr lo s rd))] []) (kO AD) (oT (sF 65 [pt 0 0,ag [iv s.club,iv s.own,iv s.other,iv s.cards,bv s.away,bv s.both],ag [iv wi,iv dr,iv lo]] [ov (rd 5).cells] (tu []) [ov (AN wi dr lo s (rd 5)).cells]) (AP _ _ _ _ _) .nil) 0 8191 15
theorem Wt:SemC prog globs' true (AQ) (frame 77 [(12,.ptr 2 0),(16,.ptr 14 0),(17,.ptr 5 0)]) (Fl n1 w wi dr lo rd r s) (xN,frame 77 [],AI 7 n1 w wi dr lo (Ci rd wi dr lo s) .busy [.var false true r.cells,.dead]):=
 kCm Al A3 [[]] (.mk [] [] [] [some ((Cj wi dr lo s rd))] []) (kO AD) (oT (sF 65 [pt 0 0,ag [iv s.club,iv s.own,iv s.other,iv s.cards,bv s.away,bv s.both],ag [iv wi,iv dr,iv lo]] [ov (rd 0).cells] (tu []) [ov (AN wi dr lo s (rd 0)).cells]) (AP _ _ _ _ _) .nil) 0 16383 15
theorem Wu:SemC prog globs' true (AQ) (frame 77 [(12,.ptr 2 0),(16,.ptr 14 0),(17,.ptr 6 0)]) (Fl n1 w wi dr lo rd r s) (xN,frame 77 [],AI 7 n1 w wi dr lo (Ck rd wi dr lo s) .busy [.var false true r.cells,.dead]):=
 kCm Al A3 [[]] (.mk [] [] [] [some ((Cl wi dr lo s rd))] []) (kO AD) (oT (sF 65 [pt 0 0,ag [iv s.club,iv s.own,iv s.other,iv s.cards,bv s.away,bv s.both],ag [iv wi,iv dr,iv lo]] [ov (rd 1).cells] (tu []) [ov (AN wi dr lo s (rd 1)).cells]) (AP _ _ _ _ _) .nil) 0 16383 15
theorem Wv:SemC prog globs' true (AQ) (frame 77 [(12,.ptr 2 0),(16,.ptr 14 0),(17,.ptr 7 0)]) (Fl n1 w wi dr lo rd r s) (xN,frame 77 [],AI 7 n1 w wi dr lo (DO rd wi dr lo s) .busy [.var false true r.cells,.dead]):=
 kCm Al A3 [[]] (.mk [] [] [] [some ((DP wi dr lo s rd))] []) (kO AD) (oT (sF 65 [pt 0 0,ag [iv s.club,iv s.own,iv s.other,iv s.cards,bv s.away,bv s.both],ag [iv wi,iv dr,iv lo]] [ov (rd 2).cells] (tu []) [ov (AN wi dr lo s (rd 2)).cells]) (AP _ _ _ _ _) .nil) 0 16383 15
theorem Ww:SemC prog globs' true (AQ) (frame 77 [(12,.ptr 2 0),(16,.ptr 14 0),(17,.ptr 8 0)]) (Fl n1 w wi dr lo rd r s) (xN,frame 77 [],AI 7 n1 w wi dr lo (Dr rd wi dr lo s) .busy [.var false true r.cells,.dead]):=
 kCm Al A3 [[]] (.mk [] [] [] [some ((Dq wi dr lo s rd))] []) (kO AD) (oT (sF 65 [pt 0 0,ag [iv s.club,iv s.own,iv s.other,iv s.cards,bv s.away,bv s.both],ag [iv wi,iv dr,iv lo]] [ov (rd 3).cells] (tu []) [ov (AN wi dr lo s (rd 3)).cells]) (AP _ _ _ _ _) .nil) 0 16383 15
theorem Wx:SemC prog globs' true (AQ) (frame 77 [(12,.ptr 2 0),(16,.ptr 14 0),(17,.ptr 9 0)]) (Fl n1 w wi dr lo rd r s) (xN,frame 77 [],AI 7 n1 w wi dr lo (Ey rd wi dr lo s) .busy [.var false true r.cells,.dead]):=
 kCm Al A3 [[]] (.mk [] [] [] [some ((Ex wi dr lo s rd))] []) (kO AD) (oT (sF 65 [pt 0 0,ag [iv s.club,iv s.own,iv s.other,iv s.cards,bv s.away,bv s.both],ag [iv wi,iv dr,iv lo]] [ov (rd 4).cells] (tu []) [ov (AN wi dr lo s (rd 4)).cells]) (AP _ _ _ _ _) .nil) 0 16383 15
theorem Wy:SemC prog globs' true (AQ) (frame 77 [(12,.ptr 2 0),(16,.ptr 14 0),(17,.ptr 10 0)]) (Fl n1 w wi dr lo rd r s) (xN,frame 77 [],AI 7 n1 w wi dr lo (DB rd 5 (AN wi dr lo s (rd 5))) .busy [.var false true r.cells,.dead]):=
 kCm Al A3 [[]] (.mk [] [] [] [some ((Gp wi dr lo s rd))] []) (kO AD) (oT (sF 65 [pt 0 0,ag [iv s.club,iv s.own,iv s.other,iv s.cards,bv s.away,bv s.both],ag [iv wi,iv dr,iv lo]] [ov (rd 5).cells] (tu []) [ov (AN wi dr lo s (rd 5)).cells]) (AP _ _ _ _ _) .nil) 0 16383 15
theorem Wz:SemC prog globs' true (AQ) (frame 77 [(12,.ptr 2 0),(16,.ptr 14 0),(17,.ptr 11 0)]) (Fl n1 w wi dr lo rd r s) (xN,frame 77 [],AI 7 n1 w wi dr lo (DB rd 6 (AN wi dr lo s (rd 6))) .busy [.var false true r.cells,.dead]):=
 kCm Al A3 [[]] (.mk [] [] [] [some ((tu [],[ov (AN wi dr lo s (rd 6)).cells]))] []) (kO AD) (oT (sF 65 [pt 0 0,ag [iv s.club,iv s.own,iv s.other,iv s.cards,bv s.away,bv s.both],ag [iv wi,iv dr,iv lo]] [ov (rd 6).cells] (tu []) [ov (AN wi dr lo s (rd 6)).cells]) (AP _ _ _ _ _) .nil) 0 16383 15
theorem W0:SemC prog globs' true (AQ) (frame 77 [(12,.ptr 2 0),(16,.ptr 15 0),(17,.ptr 5 0)]) (Fk n1 w wi dr lo rd r s) (xN,frame 77 [],AI 7 n1 w wi dr lo (Ci rd wi dr lo s) .busy [.var false true r.cells,.dead,.dead]):=
 kCm Al A3 [[]] (.mk [] [] [] [some ((Cj wi dr lo s rd))] []) (kO AD) (oT (sF 65 [pt 0 0,ag [iv s.club,iv s.own,iv s.other,iv s.cards,bv s.away,bv s.both],ag [iv wi,iv dr,iv lo]] [ov (rd 0).cells] (tu []) [ov (AN wi dr lo s (rd 0)).cells]) (AP _ _ _ _ _) .nil) 0 16383 16
theorem W1:SemC prog globs' true (AQ) (frame 77 [(12,.ptr 2 0),(16,.ptr 15 0),(17,.ptr 6 0)]) (Fk n1 w wi dr lo rd r s) (xN,frame 77 [],AI 7 n1 w wi dr lo (Ck rd wi dr lo s) .busy [.var false true r.cells,.dead,.dead]):=
 kCm Al A3 [[]] (.mk [] [] [] [some ((Cl wi dr lo s rd))] []) (kO AD) (oT (sF 65 [pt 0 0,ag [iv s.club,iv s.own,iv s.other,iv s.cards,bv s.away,bv s.both],ag [iv wi,iv dr,iv lo]] [ov (rd 1).cells] (tu []) [ov (AN wi dr lo s (rd 1)).cells]) (AP _ _ _ _ _) .nil) 0 16383 16
theorem W2:SemC prog globs' true (AQ) (frame 77 [(12,.ptr 2 0),(16,.ptr 15 0),(17,.ptr 7 0)]) (Fk n1 w wi dr lo rd r s) (xN,frame 77 [],AI 7 n1 w wi dr lo (DO rd wi dr lo s) .busy [.var false true r.cells,.dead,.dead]):=
 kCm Al A3 [[]] (.mk [] [] [] [some ((DP wi dr lo s rd))] []) (kO AD) (oT (sF 65 [pt 0 0,ag [iv s.club,iv s.own,iv s.other,iv s.cards,bv s.away,bv s.both],ag [iv wi,iv dr,iv lo]] [ov (rd 2).cells] (tu []) [ov (AN wi dr lo s (rd 2)).cells]) (AP _ _ _ _ _) .nil) 0 16383 16
theorem W3:SemC prog globs' true (AQ) (frame 77 [(12,.ptr 2 0),(16,.ptr 15 0),(17,.ptr 8 0)]) (Fk n1 w wi dr lo rd r s) (xN,frame 77 [],AI 7 n1 w wi dr lo (Dr rd wi dr lo s) .busy [.var false true r.cells,.dead,.dead]):=
 kCm Al A3 [[]] (.mk [] [] [] [some ((Dq wi dr lo s rd))] []) (kO AD) (oT (sF 65 [pt 0 0,ag [iv s.club,iv s.own,iv s.other,iv s.cards,bv s.away,bv s.both],ag [iv wi,iv dr,iv lo]] [ov (rd 3).cells] (tu []) [ov (AN wi dr lo s (rd 3)).cells]) (AP _ _ _ _ _) .nil) 0 16383 16
theorem W4:SemC prog globs' true (AQ) (frame 77 [(12,.ptr 2 0),(16,.ptr 15 0),(17,.ptr 9 0)]) (Fk n1 w wi dr lo rd r s) (xN,frame 77 [],AI 7 n1 w wi dr lo (Ey rd wi dr lo s) .busy [.var false true r.cells,.dead,.dead]):=
 kCm Al A3 [[]] (.mk [] [] [] [some ((Ex wi dr lo s rd))] []) (kO AD) (oT (sF 65 [pt 0 0,ag [iv s.club,iv s.own,iv s.other,iv s.cards,bv s.away,bv s.both],ag [iv wi,iv dr,iv lo]] [ov (rd 4).cells] (tu []) [ov (AN wi dr lo s (rd 4)).cells]) (AP _ _ _ _ _) .nil) 0 16383 16
theorem W5:SemC prog globs' true (AQ) (frame 77 [(12,.ptr 2 0),(16,.ptr 15 0),(17,.ptr 10 0)]) (Fk n1 w wi dr lo rd r s) (xN,frame 77 [],AI 7 n1 w wi dr lo (DB rd 5 (AN wi dr lo s (rd 5))) .busy [.var false true r.cells,.dead,.dead]):=
 kCm Al A3 [[]] (.mk [] [] [] [some ((Gp wi dr lo s rd))] []) (kO AD) (oT (sF 65 [pt 0 0,ag [iv s.club,iv s.own,iv s.other,iv s.cards,bv s.away,bv s.both],ag [iv wi,iv dr,iv lo]] [ov (rd 5).cells] (tu []) [ov (AN wi dr lo s (rd 5)).cells]) (AP _ _ _ _ _) .nil) 0 16383 16
theorem W6:SemC prog globs' true (AQ) (frame 77 [(12,.ptr 2 0),(16,.ptr 15 0),(17,.ptr 11 0)]) (Fk n1 w wi dr lo rd r s) (xN,frame 77 [],AI 7 n1 w wi dr lo (DB rd 6 (AN wi dr lo s (rd 6))) .busy [.var false true r.cells,.dead,.dead]):=
 kCm Al A3 [[]] (.mk [] [] [] [some ((tu [],[ov (AN wi dr lo s (rd 6)).cells]))] []) (kO AD) (oT (sF 65 [pt 0 0,ag [iv s.club,iv s.own,iv s.other,iv s.cards,bv s.away,bv s.both],ag [iv wi,iv dr,iv lo]] [ov (rd 6).cells] (tu []) [ov (AN wi dr lo s (rd 6)).cells]) (AP _ _ _ _ _) .nil) 0 16383 16
theorem W7:SemC prog globs' true (AQ) (frame 77 [(12,.ptr 2 0),(16,.ptr 15 0),(17,.ptr 5 0)]) (Ew n1 w wi dr lo rd r s) (xN,frame 77 [],AI 8 n1 w wi dr lo (Ci rd wi dr lo s) .busy [.var false true r.cells,.dead]):=
 kCm Al A3 [[]] (.mk [] [] [] [some ((Cj wi dr lo s rd))] []) (kO AD) (oT (sF 65 [pt 0 0,ag [iv s.club,iv s.own,iv s.other,iv s.cards,bv s.away,bv s.both],ag [iv wi,iv dr,iv lo]] [ov (rd 0).cells] (tu []) [ov (AN wi dr lo s (rd 0)).cells]) (AP _ _ _ _ _) .nil) 0 32767 16
theorem W8:SemC prog globs' true (AQ) (frame 77 [(12,.ptr 2 0),(16,.ptr 15 0),(17,.ptr 6 0)]) (Ew n1 w wi dr lo rd r s) (xN,frame 77 [],AI 8 n1 w wi dr lo (Ck rd wi dr lo s) .busy [.var false true r.cells,.dead]):=
 kCm Al A3 [[]] (.mk [] [] [] [some ((Cl wi dr lo s rd))] []) (kO AD) (oT (sF 65 [pt 0 0,ag [iv s.club,iv s.own,iv s.other,iv s.cards,bv s.away,bv s.both],ag [iv wi,iv dr,iv lo]] [ov (rd 1).cells] (tu []) [ov (AN wi dr lo s (rd 1)).cells]) (AP _ _ _ _ _) .nil) 0 32767 16
theorem W9:SemC prog globs' true (AQ) (frame 77 [(12,.ptr 2 0),(16,.ptr 15 0),(17,.ptr 7 0)]) (Ew n1 w wi dr lo rd r s) (xN,frame 77 [],AI 8 n1 w wi dr lo (DO rd wi dr lo s) .busy [.var false true r.cells,.dead]):=
 kCm Al A3 [[]] (.mk [] [] [] [some ((DP wi dr lo s rd))] []) (kO AD) (oT (sF 65 [pt 0 0,ag [iv s.club,iv s.own,iv s.other,iv s.cards,bv s.away,bv s.both],ag [iv wi,iv dr,iv lo]] [ov (rd 2).cells] (tu []) [ov (AN wi dr lo s (rd 2)).cells]) (AP _ _ _ _ _) .nil) 0 32767 16
theorem XA:SemC prog globs' true (AQ) (frame 77 [(12,.ptr 2 0),(16,.ptr 15 0),(17,.ptr 8 0)]) (Ew n1 w wi dr lo rd r s) (xN,frame 77 [],AI 8 n1 w wi dr lo (Dr rd wi dr lo s) .busy [.var false true r.cells,.dead]):=
 kCm Al A3 [[]] (.mk [] [] [] [some ((Dq wi dr lo s rd))] []) (kO AD) (oT (sF 65 [pt 0 0,ag [iv s.club,iv s.own,iv s.other,iv s.cards,bv s.away,bv s.both],ag [iv wi,iv dr,iv lo]] [ov (rd 3).cells] (tu []) [ov (AN wi dr lo s (rd 3)).cells]) (AP _ _ _ _ _) .nil) 0 32767 16
theorem XB:SemC prog globs' true (AQ) (frame 77 [(12,.ptr 2 0),(16,.ptr 15 0),(17,.ptr 9 0)]) (Ew n1 w wi dr lo rd r s) (xN,frame 77 [],AI 8 n1 w wi dr lo (Ey rd wi dr lo s) .busy [.var false true r.cells,.dead]):=
 kCm Al A3 [[]] (.mk [] [] [] [some ((Ex wi dr lo s rd))] []) (kO AD) (oT (sF 65 [pt 0 0,ag [iv s.club,iv s.own,iv s.other,iv s.cards,bv s.away,bv s.both],ag [iv wi,iv dr,iv lo]] [ov (rd 4).cells] (tu []) [ov (AN wi dr lo s (rd 4)).cells]) (AP _ _ _ _ _) .nil) 0 32767 16
theorem XC:SemC prog globs' true (AQ) (frame 77 [(12,.ptr 2 0),(16,.ptr 15 0),(17,.ptr 10 0)]) (Ew n1 w wi dr lo rd r s) (xN,frame 77 [],AI 8 n1 w wi dr lo (DB rd 5 (AN wi dr lo s (rd 5))) .busy [.var false true r.cells,.dead]):=
 kCm Al A3 [[]] (.mk [] [] [] [some ((Gp wi dr lo s rd))] []) (kO AD) (oT (sF 65 [pt 0 0,ag [iv s.club,iv s.own,iv s.other,iv s.cards,bv s.away,bv s.both],ag [iv wi,iv dr,iv lo]] [ov (rd 5).cells] (tu []) [ov (AN wi dr lo s (rd 5)).cells]) (AP _ _ _ _ _) .nil) 0 32767 16
theorem XD:SemC prog globs' true (AQ) (frame 77 [(12,.ptr 2 0),(16,.ptr 15 0),(17,.ptr 11 0)]) (Ew n1 w wi dr lo rd r s) (xN,frame 77 [],AI 8 n1 w wi dr lo (DB rd 6 (AN wi dr lo s (rd 6))) .busy [.var false true r.cells,.dead]):=
 kCm Al A3 [[]] (.mk [] [] [] [some ((tu [],[ov (AN wi dr lo s (rd 6)).cells]))] []) (kO AD) (oT (sF 65 [pt 0 0,ag [iv s.club,iv s.own,iv s.other,iv s.cards,bv s.away,bv s.both],ag [iv wi,iv dr,iv lo]] [ov (rd 6).cells] (tu []) [ov (AN wi dr lo s (rd 6)).cells]) (AP _ _ _ _ _) .nil) 0 32767 16
theorem XE:SemC prog globs' true (AQ) (frame 77 [(12,.ptr 2 0),(16,.ptr 15 0),(17,.ptr 12 0)]) (Ew n1 w wi dr lo rd r s) (xN,frame 77 [],AI 8 n1 w wi dr lo (DB rd 7 (AN wi dr lo s (rd 7))) .busy [.var false true r.cells,.dead]):=
 kCm Al A3 [[]] (.mk [] [] [] [some ((tu [],[ov (AN wi dr lo s (rd 7)).cells]))] []) (kO AD) (oT (sF 65 [pt 0 0,ag [iv s.club,iv s.own,iv s.other,iv s.cards,bv s.away,bv s.both],ag [iv wi,iv dr,iv lo]] [ov (rd 7).cells] (tu []) [ov (AN wi dr lo s (rd 7)).cells]) (AP _ _ _ _ _) .nil) 0 32767 16
theorem XF:SemC prog globs' true (AQ) (frame 77 [(12,.ptr 2 0),(16,.ptr 16 0),(17,.ptr 5 0)]) (Eu n1 w wi dr lo rd r s) (xN,frame 77 [],AI 8 n1 w wi dr lo (Ci rd wi dr lo s) .busy [.var false true r.cells,.dead,.dead]):=
 kCm Al A3 [[]] (.mk [] [] [] [some ((Cj wi dr lo s rd))] []) (kO AD) (oT (sF 65 [pt 0 0,ag [iv s.club,iv s.own,iv s.other,iv s.cards,bv s.away,bv s.both],ag [iv wi,iv dr,iv lo]] [ov (rd 0).cells] (tu []) [ov (AN wi dr lo s (rd 0)).cells]) (AP _ _ _ _ _) .nil) 0 32767 17
theorem XG:SemC prog globs' true (AQ) (frame 77 [(12,.ptr 2 0),(16,.ptr 16 0),(17,.ptr 6 0)]) (Eu n1 w wi dr lo rd r s) (xN,frame 77 [],AI 8 n1 w wi dr lo (Ck rd wi dr lo s) .busy [.var false true r.cells,.dead,.dead]):=
 kCm Al A3 [[]] (.mk [] [] [] [some ((Cl wi dr lo s rd))] []) (kO AD) (oT (sF 65 [pt 0 0,ag [iv s.club,iv s.own,iv s.other,iv s.cards,bv s.away,bv s.both],ag [iv wi,iv dr,iv lo]] [ov (rd 1).cells] (tu []) [ov (AN wi dr lo s (rd 1)).cells]) (AP _ _ _ _ _) .nil) 0 32767 17
theorem XH:SemC prog globs' true (AQ) (frame 77 [(12,.ptr 2 0),(16,.ptr 16 0),(17,.ptr 7 0)]) (Eu n1 w wi dr lo rd r s) (xN,frame 77 [],AI 8 n1 w wi dr lo (DO rd wi dr lo s) .busy [.var false true r.cells,.dead,.dead]):=
 kCm Al A3 [[]] (.mk [] [] [] [some ((DP wi dr lo s rd))] []) (kO AD) (oT (sF 65 [pt 0 0,ag [iv s.club,iv s.own,iv s.other,iv s.cards,bv s.away,bv s.both],ag [iv wi,iv dr,iv lo]] [ov (rd 2).cells] (tu []) [ov (AN wi dr lo s (rd 2)).cells]) (AP _ _ _ _ _) .nil) 0 32767 17
theorem XI:SemC prog globs' true (AQ) (frame 77 [(12,.ptr 2 0),(16,.ptr 16 0),(17,.ptr 8 0)]) (Eu n1 w wi dr lo rd r s) (xN,frame 77 [],AI 8 n1 w wi dr lo (Dr rd wi dr lo s) .busy [.var false true r.cells,.dead,.dead]):=
 kCm Al A3 [[]] (.mk [] [] [] [some ((Dq wi dr lo s rd))] []) (kO AD) (oT (sF 65 [pt 0 0,ag [iv s.club,iv s.own,iv s.other,iv s.cards,bv s.away,bv s.both],ag [iv wi,iv dr,iv lo]] [ov (rd 3).cells] (tu []) [ov (AN wi dr lo s (rd 3)).cells]) (AP _ _ _ _ _) .nil) 0 32767 17
theorem XJ:SemC prog globs' true (AQ) (frame 77 [(12,.ptr 2 0),(16,.ptr 16 0),(17,.ptr 9 0)]) (Eu n1 w wi dr lo rd r s) (xN,frame 77 [],AI 8 n1 w wi dr lo (Ey rd wi dr lo s) .busy [.var false true r.cells,.dead,.dead]):=
 kCm Al A3 [[]] (.mk [] [] [] [some ((Ex wi dr lo s rd))] []) (kO AD) (oT (sF 65 [pt 0 0,ag [iv s.club,iv s.own,iv s.other,iv s.cards,bv s.away,bv s.both],ag [iv wi,iv dr,iv lo]] [ov (rd 4).cells] (tu []) [ov (AN wi dr lo s (rd 4)).cells]) (AP _ _ _ _ _) .nil) 0 32767 17
theorem XK:SemC prog globs' true (AQ) (frame 77 [(12,.ptr 2 0),(16,.ptr 16 0),(17,.ptr 10 0)]) (Eu n1 w wi dr lo rd r s) (xN,frame 77 [],AI 8 n1 w wi dr lo (DB rd 5 (AN wi dr lo s (rd 5))) .busy [.var false true r.cells,.dead,.dead]):=
 kCm Al A3 [[]] (.mk [] [] [] [some ((Gp wi dr lo s rd))] []) (kO AD) (oT (sF 65 [pt 0 0,ag [iv s.club,iv s.own,iv s.other,iv s.cards,bv s.away,bv s.both],ag [iv wi,iv dr,iv lo]] [ov (rd 5).cells] (tu []) [ov (AN wi dr lo s (rd 5)).cells]) (AP _ _ _ _ _) .nil) 0 32767 17
theorem XL:SemC prog globs' true (AQ) (frame 77 [(12,.ptr 2 0),(16,.ptr 16 0),(17,.ptr 11 0)]) (Eu n1 w wi dr lo rd r s) (xN,frame 77 [],AI 8 n1 w wi dr lo (DB rd 6 (AN wi dr lo s (rd 6))) .busy [.var false true r.cells,.dead,.dead]):=
 kCm Al A3 [[]] (.mk [] [] [] [some ((tu [],[ov (AN wi dr lo s (rd 6)).cells]))] []) (kO AD) (oT (sF 65 [pt 0 0,ag [iv s.club,iv s.own,iv s.other,iv s.cards,bv s.away,bv s.both],ag [iv wi,iv dr,iv lo]] [ov (rd 6).cells] (tu []) [ov (AN wi dr lo s (rd 6)).cells]) (AP _ _ _ _ _) .nil) 0 32767 17
theorem XM:SemC prog globs' true (AQ) (frame 77 [(12,.ptr 2 0),(16,.ptr 16 0),(17,.ptr 12 0)]) (Eu n1 w wi dr lo rd r s) (xN,frame 77 [],AI 8 n1 w wi dr lo (DB rd 7 (AN wi dr lo s (rd 7))) .busy [.var false true r.cells,.dead,.dead]):=
 kCm Al A3 [[]] (.mk [] [] [] [some ((tu [],[ov (AN wi dr lo s (rd 7)).cells]))] []) (kO AD) (oT (sF 65 [pt 0 0,ag [iv s.club,iv s.own,iv s.other,iv s.cards,bv s.away,bv s.both],ag [iv wi,iv dr,iv lo]] [ov (rd 7).cells] (tu []) [ov (AN wi dr lo s (rd 7)).cells]) (AP _ _ _ _ _) .nil) 0 32767 17
end
theorem AAv (nn:Bool)(N:Nat)(rs:Nat->ResD)(n1:Bool)(w:Nat->Int)(wi:Int)(dr:Int)(lo:Int)(rd2:Nat->RowD)(g0_1:w 0<w 1)(ihc:sP 63 [(AK nn N rs),nums n1 2 w,ag (Ak wi dr lo)] (iv 0))(ih:sF 100 [EV.it 7,pv [(AK nn N rs)] 0] (AI 2 n1 w wi dr lo (FJ w) .ready []) (tu []) (AI 2 n1 w wi dr lo rd2 .ready [])):sP 26 [AK nn N rs,sl n1 1 2 fun i=>[iv (w i)],iv wi,iv dr,iv lo] (tu [sl true 11 2 fun i=>AU 1 (fun i=>[(rd2 0).cells].getD (0+(0+i)) []) (fun i=>[(rd2 1).cells].getD (0+i) []) (0+i),iv 0]):=
 kP [[]] (.mk (dS 4622210700434410) [] [some (iv 0),none] [some ((tu [],[A5,ov [iv 0],ov (Ak wi dr lo),LU w,Bb,Bd rd2,Bc rd2,EObj.loop LoopState.ready (LS n1 w) #[47] BL An none]))] []) (kO AD) (oI ((w 1==w 1)=true) (oI ((w 1==w 0)=false) (oI ((w 0==w 0)=true) (oT (sF 100 [EV.it 7,pv [sl nn 13 N fun i=>(rs i).cells] 0] [ov [sl false 0 0 fun i=>[]],ov [iv 0],ov [iv wi,iv dr,iv lo],EObj.map false false [(iv (w 0),pt 5 0),(iv (w 1),pt 6 0)],EObj.var false false [EV.mm 3],ov [iv (w 0),iv 0,iv 0,iv 0,iv 0,iv 0,iv 0,iv 0,iv 0,iv 0,iv 0],ov [iv (w 1),iv 0,iv 0,iv 0,iv 0,iv 0,iv 0,iv 0,iv 0,iv 0,iv 0],EObj.loop LoopState.ready (frame 77 [(0,sl nn 13 N fun i=>(rs i).cells),(1,sl n1 1 2 fun i=>[iv (w i)]),(2,iv wi),(3,iv dr),(4,iv lo),(10,pt 0 0),(11,pt 1 0),(12,pt 2 0),(13,pt 4 0),(15,iv (w 1)),(21,iv wi),(22,iv dr),(23,iv lo),(24,ag [iv wi,iv dr,iv lo]),(25,sl nn 13 N fun i=>(rs i).cells),(26,sl n1 1 2 fun i=>[iv (w i)]),(27,ag [iv wi,iv dr,iv lo]),(28,iv 0),(29,iv 0),(30,bv false),(32,EV.mm 3),(33,sl n1 1 2 fun i=>[iv (w i)]),(34,iv 2),(35,iv 2),(36,bv false),(37,pv [iv (w 1)] 0),(38,iv (w 1)),(39,EV.mm 3),(40,iv (w 1)),(41,iv (w 1)),(42,ag [iv (w 1),iv 0,iv 0,iv 0,iv 0,iv 0,iv 0,iv 0,iv 0,iv 0,iv 0]),(43,pt 6 0),(44,iv 2),(45,sl nn 13 N fun i=>(rs i).cells),(46,fc (100) [] [pv [sl nn 13 N fun i=>(rs i).cells] 0])]) #[47] BL An none] (tu []) [ov [sl false 0 0 fun i=>[]],ov [iv 0],ov [iv wi,iv dr,iv lo],EObj.map false false [(iv (w 0),pt 5 0),(iv (w 1),pt 6 0)],EObj.var false false [EV.mm 3],ov (rd2 0).cells,ov (rd2 1).cells,EObj.loop LoopState.ready (frame 77 [(1,sl n1 1 2 fun i=>[iv (w i)]),(10,pt 0 0),(11,pt 1 0),(12,pt 2 0),(13,pt 4 0)]) #[47] BL An none]) (SemF.blur 15362 ih (by kernel_rfl)) (oI ((w 1==w 0)=false) (.cons ihc .nil))))))
section
variable (nn:Bool)(N:Nat)(rs:Nat->ResD)(n1:Bool)(w:Nat->Int)(wi:Int)(dr:Int)(lo:Int)(rd2:Nat->RowD)(g0_1:w 0<w 1)(g0_2:w 0<w 2)(g1_2:w 1<w 2)
include nn N rs n1 w wi dr lo rd2 g0_1 g0_2 g1_2
theorem AAw (ihc:sP 63 [(AK nn N rs),nums n1 3 w,ag (Ak wi dr lo)] (iv 0))(ih:sF 100 [EV.it 8,pv [(AK nn N rs)] 0] (AI 3 n1 w wi dr lo (FJ w) .ready []) (tu []) (AI 3 n1 w wi dr lo rd2 .ready [])):sP 26 [AK nn N rs,sl n1 1 3 fun i=>[iv (w i)],iv wi,iv dr,iv lo] (tu [sl true 11 3 fun i=>AU 2 (fun i=>AU 1 (fun i=>[(rd2 0).cells].getD (0+(0+i)) []) (fun i=>[(rd2 1).cells].getD (0+i) []) (0+i)) (fun i=>[(rd2 2).cells].getD (0+i) []) (0+i),iv 0]):=
 kP [[]] (.mk (dS 0x106be03beb04ae05bea04beba) [] [some (iv 0),none] [some ((tu [],[A5,ov [iv 0],ov (Ak wi dr lo),LW w,Bb,Bd rd2,Bc rd2,Bq rd2,EObj.loop LoopState.ready (LV n1 w) #[47] BL An none]))] []) (kO AD) (oI ((w 2==w 2)=true) (oI ((w 2==w 1)=false) (oI ((w 2==w 0)=false) (oI ((w 1==w 1)=true) (oI ((w 1==w 0)=false) (oI ((w 0==w 0)=true) (oT (sF 100 [EV.it 8,pv [sl nn 13 N fun i=>(rs i).cells] 0] [ov [sl false 0 0 fun i=>[]],ov [iv 0],ov [iv wi,iv dr,iv lo],EObj.map false false [(iv (w 0),pt 5 0),(iv (w 1),pt 6 0),(iv (w 2),pt 7 0)],EObj.var false false [EV.mm 3],ov [iv (w 0),iv 0,iv 0,iv 0,iv 0,iv 0,iv 0,iv 0,iv 0,iv 0,iv 0],ov [iv (w 1),iv 0,iv 0,iv 0,iv 0,iv 0,iv 0,iv 0,iv 0,iv 0,iv 0],ov [iv (w 2),iv 0,iv 0,iv 0,iv 0,iv 0,iv 0,iv 0,iv 0,iv 0,iv 0],EObj.loop LoopState.ready (frame 77 [(0,sl nn 13 N fun i=>(rs i).cells),(1,sl n1 1 3 fun i=>[iv (w i)]),(2,iv wi),(3,iv dr),(4,iv lo),(10,pt 0 0),(11,pt 1 0),(12,pt 2 0),(13,pt 4 0),(15,iv (w 2)),(21,iv wi),(22,iv dr),(23,iv lo),(24,ag [iv wi,iv dr,iv lo]),(25,sl nn 13 N fun i=>(rs i).cells),(26,sl n1 1 3 fun i=>[iv (w i)]),(27,ag [iv wi,iv dr,iv lo]),(28,iv 0),(29,iv 0),(30,bv false),(32,EV.mm 3),(33,sl n1 1 3 fun i=>[iv (w i)]),(34,iv 3),(35,iv 3),(36,bv false),(37,pv [iv (w 2)] 0),(38,iv (w 2)),(39,EV.mm 3),(40,iv (w 2)),(41,iv (w 2)),(42,ag [iv (w 2),iv 0,iv 0,iv 0,iv 0,iv 0,iv 0,iv 0,iv 0,iv 0,iv 0]),(43,pt 7 0),(44,iv 3),(45,sl nn 13 N fun i=>(rs i).cells),(46,fc (100) [] [pv [sl nn 13 N fun i=>(rs i).cells] 0])]) #[47] BL An none] (tu []) [ov [sl false 0 0 fun i=>[]],ov [iv 0],ov [iv wi,iv dr,iv lo],EObj.map false false [(iv (w 0),pt 5 0),(iv (w 1),pt 6 0),(iv (w 2),pt 7 0)],EObj.var false false [EV.mm 3],ov (rd2 0).cells,ov (rd2 1).cells,ov (rd2 2).cells,EObj.loop LoopState.ready (frame 77 [(1,sl n1 1 3 fun i=>[iv (w i)]),(10,pt 0 0),(11,pt 1 0),(12,pt 2 0),(13,pt 4 0)]) #[47] BL An none]) (SemF.blur 15362 ih (by kernel_rfl)) (oI ((w 2==w 1)=false) (oI ((w 2==w 0)=false) (oI ((w 1==w 0)=false) (.cons ihc .nil)))))))))))
theorem AAx (g0_3:w 0<w 3)(g1_3:w 1<w 3)(g2_3:w 2<w 3)(ihc:sP 63 [(AK nn N rs),nums n1 4 w,ag (Ak wi dr lo)] (iv 0))(ih:sF 100 [EV.it 9,pv [(AK nn N rs)] 0] (AI 4 n1 w wi dr lo (FJ w) .ready []) (tu []) (AI 4 n1 w wi dr lo rd2 .ready [])):sP 26 [AK nn N rs,sl n1 1 4 fun i=>[iv (w i)],iv wi,iv dr,iv lo] (tu [sl true 11 4 fun i=>AU 3 (fun i=>AU 2 (fun i=>AU 1 (fun i=>[(rd2 0).cells].getD (0+(0+i)) []) (fun i=>[(rd2 1).cells].getD (0+i) []) (0+i)) (fun i=>[(rd2 2).cells].getD (0+i) []) (0+i)) (fun i=>[(rd2 3).cells].getD (0+i) []) (0+i),iv 0]):=
 kP [[]] (.mk (dS 0x106be03beb03bebb04ae05bea04beba04bebba) [] [some (iv 0),none] [some ((tu [],[A5,ov [iv 0],ov (Ak wi dr lo),LY w,Bb,Bd rd2,Bc rd2,Bq rd2,ov (rd2 3).cells,EObj.loop LoopState.ready (LX n1 w) #[47] BL An none]))] []) (kO AD) (oI ((w 3==w 3)=true) (oI ((w 3==w 2)=false) (oI ((w 3==w 1)=false) (oI ((w 3==w 0)=false) (oI ((w 2==w 2)=true) (oI ((w 2==w 1)=false) (oI ((w 2==w 0)=false) (oI ((w 1==w 1)=true) (oI ((w 1==w 0)=false) (oI ((w 0==w 0)=true) (oT (sF 100 [EV.it 9,pv [sl nn 13 N fun i=>(rs i).cells] 0] [ov [sl false 0 0 fun i=>[]],ov [iv 0],ov [iv wi,iv dr,iv lo],EObj.map false false [(iv (w 0),pt 5 0),(iv (w 1),pt 6 0),(iv (w 2),pt 7 0),(iv (w 3),pt 8 0)],EObj.var false false [EV.mm 3],ov [iv (w 0),iv 0,iv 0,iv 0,iv 0,iv 0,iv 0,iv 0,iv 0,iv 0,iv 0],ov [iv (w 1),iv 0,iv 0,iv 0,iv 0,iv 0,iv 0,iv 0,iv 0,iv 0,iv 0],ov [iv (w 2),iv 0,iv 0,iv 0,iv 0,iv 0,iv 0,iv 0,iv 0,iv 0,iv 0],ov [iv (w 3),iv 0,iv 0,iv 0,iv 0,iv 0,iv 0,iv 0,iv 0,iv 0,iv 0],EObj.loop LoopState.ready (frame 77 [(0,sl nn 13 N fun i=>(rs i).cells),(1,sl n1 1 4 fun i=>[iv (w i)]),(2,iv wi),(3,iv dr),(4,iv lo),(10,pt 0 0),(11,pt 1 0),(12,pt 2 0),(13,pt 4 0),(15,iv (w 3)),(21,iv wi),(22,iv dr),(23,iv lo),(24,ag [iv wi,iv dr,iv lo]),(25,sl nn 13 N fun i=>(rs i).cells),(26,sl n1 1 4 fun i=>[iv (w i)]),(27,ag [iv wi,iv dr,iv lo]),(28,iv 0),(29,iv 0),(30,bv false),(32,EV.mm 3),(33,sl n1 1 4 fun i=>[iv (w i)]),(34,iv 4),(35,iv 4),(36,bv false),(37,pv [iv (w 3)] 0),(38,iv (w 3)),(39,EV.mm 3),(40,iv (w 3)),(41,iv (w 3)),(42,ag [iv (w 3),iv 0,iv 0,iv 0,iv 0,iv 0,iv 0,iv 0,iv 0,iv 0,iv 0]),(43,pt 8 0),(44,iv 4),(45,sl nn 13 N fun i=>(rs i).cells),(46,fc (100) [] [pv [sl nn 13 N fun i=>(rs i).cells] 0])]) #[47] BL An none] (tu []) [ov [sl false 0 0 fun i=>[]],ov [iv 0],ov [iv wi,iv dr,iv lo],EObj.map false false [(iv (w 0),pt 5 0),(iv (w 1),pt 6 0),(iv (w 2),pt 7 0),(iv (w 3),pt 8 0)],EObj.var false false [EV.mm 3],ov (rd2 0).cells,ov (rd2 1).cells,ov (rd2 2).cells,ov (rd2 3).cells,EObj.loop LoopState.ready (frame 77 [(1,sl n1 1 4 fun i=>[iv (w i)]),(10,pt 0 0),(11,pt 1 0),(12,pt 2 0),(13,pt 4 0)]) #[47] BL An none]) (SemF.blur 15362 ih (by kernel_rfl)) (oI ((w 3==w 2)=false) (oI ((w 3==w 1)=false) (oI ((w 3==w 0)=false) (oI ((w 2==w 1)=false) (oI ((w 2==w 0)=false) (oI ((w 1==w 0)=false) (.cons ihc .nil))))))))))))))))))
end
section
variable (nn:Bool)(N:Nat)(rs:Nat->ResD)(n1:Bool)(w:Nat->Int)(wi:Int)(dr:Int)(lo:Int)(rd2:Nat->RowD)(g0_1:w 0<w 1)(g0_2:w 0<w 2)(g1_2:w 1<w 2)(g0_3:w 0<w 3)(g1_3:w 1<w 3)(g2_3:w 2<w 3)(g0_4:w 0<w 4)(g1_4:w 1<w 4)(g2_4:w 2<w 4)(g3_4:w 3<w 4)
include nn N rs n1 w wi dr lo rd2 g0_1 g0_2 g1_2 g0_3 g1_3 g2_3 g0_4 g1_4 g2_4 g3_4
theorem AAy (ihc:sP 63 [(AK nn N rs),nums n1 5 w,ag (Ak wi dr lo)] (iv 0))(ih:sF 100 [EV.it 10,pv [(AK nn N rs)] 0] (AI 5 n1 w wi dr lo (FJ w) .ready []) (tu []) (AI 5 n1 w wi dr lo rd2 .ready [])):sP 26 [AK nn N rs,sl n1 1 5 fun i=>[iv (w i)],iv wi,iv dr,iv lo] (tu [sl true 11 5 fun i=>AU 4 (fun i=>AU 3 (fun i=>AU 2 (fun i=>AU 1 (fun i=>[(rd2 0).cells].getD (0+(0+i)) []) (fun i=>[(rd2 1).cells].getD (0+i) []) (0+i)) (fun i=>[(rd2 2).cells].getD (0+i) []) (0+i)) (fun i=>[(rd2 3).cells].getD (0+i) []) (0+i)) (fun i=>[(rd2 4).cells].getD (0+i) []) (0+i),iv 0]):=
 kP [[]] (.mk (dS 0x106be03beb03bebb03bebbb04ae05bea04beba04bebba04bebbba) [] [some (iv 0),none] [some ((tu [],[A5,ov [iv 0],ov (Ak wi dr lo),LZ w,Bb,Bd rd2,Bc rd2,Bq rd2,ov (rd2 3).cells,ov (rd2 4).cells,EObj.loop LoopState.ready (La n1 w) #[47] BL An none]))] []) (kO AD) (oI ((w 4==w 4)=true) (oI ((w 4==w 3)=false) (oI ((w 4==w 2)=false) (oI ((w 4==w 1)=false) (oI ((w 4==w 0)=false) (oI ((w 3==w 3)=true) (oI ((w 3==w 2)=false) (oI ((w 3==w 1)=false) (oI ((w 3==w 0)=false) (oI ((w 2==w 2)=true) (oI ((w 2==w 1)=false) (oI ((w 2==w 0)=false) (oI ((w 1==w 1)=true) (oI ((w 1==w 0)=false) (oI ((w 0==w 0)=true) (oT (sF 100 [EV.it 10,pv [sl nn 13 N fun i=>(rs i).cells] 0] [ov [sl false 0 0 fun i=>[]],ov [iv 0],ov [iv wi,iv dr,iv lo],EObj.map false false [(iv (w 0),pt 5 0),(iv (w 1),pt 6 0),(iv (w 2),pt 7 0),(iv (w 3),pt 8 0),(iv (w 4),pt 9 0)],EObj.var false false [EV.mm 3],ov [iv (w 0),iv 0,iv 0,iv 0,iv 0,iv 0,iv 0,iv 0,iv 0,iv 0,iv 0],ov [iv (w 1),iv 0,iv 0,iv 0,iv 0,iv 0,iv 0,iv 0,iv 0,iv 0,iv 0],ov [iv (w 2),iv 0,iv 0,iv 0,iv 0,iv 0,iv 0,iv 0,iv 0,iv 0,iv 0],ov [iv (w 3),iv 0,iv 0,iv 0,iv 0,iv 0,iv 0,iv 0,iv 0,iv 0,iv 0],ov [iv (w 4),iv 0,iv 0,iv 0,iv 0,iv 0,iv 0,iv 0,iv 0,iv 0,iv 0],EObj.loop LoopState.ready (frame 77 [(0,sl nn 13 N fun i=>(rs i).cells),(1,sl n1 1 5 fun i=>[iv (w i)]),(2,iv wi),(3,iv dr),(4,iv lo),(10,pt 0 0),(11,pt 1 0),(12,pt 2 0),(13,pt 4 0),(15,iv (w 4)),(21,iv wi),(22,iv dr),(23,iv lo),(24,ag [iv wi,iv dr,iv lo]),(25,sl nn 13 N fun i=>(rs i).cells),(26,sl n1 1 5 fun i=>[iv (w i)]),(27,ag [iv wi,iv dr,iv lo]),(28,iv 0),(29,iv 0),(30,bv false),(32,EV.mm 3),(33,sl n1 1 5 fun i=>[iv (w i)]),(34,iv 5),(35,iv 5),(36,bv false),(37,pv [iv (w 4)] 0),(38,iv (w 4)),(39,EV.mm 3),(40,iv (w 4)),(41,iv (w 4)),(42,ag [iv (w 4),iv 0,iv 0,iv 0,iv 0,iv 0,iv 0,iv 0,iv 0,iv 0,iv 0]),(43,pt 9 0),(44,iv 5),(45,sl nn 13 N fun i=>(rs i).cells),(46,fc (100) [] [pv [sl nn 13 N fun i=>(rs i).cells] 0])]) #[47] BL An none] (tu []) [ov [sl false 0 0 fun i=>[]],ov [iv 0],ov [iv wi,iv dr,iv lo],EObj.map false false [(iv (w 0),pt 5 0),(iv (w 1),pt 6 0),(iv (w 2),pt 7 0),(iv (w 3),pt 8 0),(iv (w 4),pt 9 0)],EObj.var false false [EV.mm 3],ov (rd2 0).cells,ov (rd2 1).cells,ov (rd2 2).cells,ov (rd2 3).cells,ov (rd2 4).cells,EObj.loop LoopState.ready (frame 77 [(1,sl n1 1 5 fun i=>[iv (w i)]),(10,pt 0 0),(11,pt 1 0),(12,pt 2 0),(13,pt 4 0)]) #[47] BL An none]) (SemF.blur 15362 ih (by kernel_rfl)) (oI ((w 4==w 3)=false) (oI ((w 4==w 2)=false) (oI ((w 4==w 1)=false) (oI ((w 4==w 0)=false) (oI ((w 3==w 2)=false) (oI ((w 3==w 1)=false) (oI ((w 3==w 0)=false) (oI ((w 2==w 1)=false) (oI ((w 2==w 0)=false) (oI ((w 1==w 0)=false) (.cons ihc .nil)))))))))))))))))))))))))))
theorem AAz (g0_5:w 0<w 5)(g1_5:w 1<w 5)(g2_5:w 2<w 5)(g3_5:w 3<w 5)(g4_5:w 4<w 5)(ihc:sP 63 [(AK nn N rs),nums n1 6 w,ag (Ak wi dr lo)] (iv 0))(ih:sF 100 [EV.it 11,pv [(AK nn N rs)] 0] (AI 6 n1 w wi dr lo (FJ w) .ready []) (tu []) (AI 6 n1 w wi dr lo rd2 .ready [])):sP 26 [AK nn N rs,sl n1 1 6 fun i=>[iv (w i)],iv wi,iv dr,iv lo] (tu [sl true 11 6 fun i=>AU 5 (fun i=>AU 4 (fun i=>AU 3 (fun i=>AU 2 (fun i=>AU 1 (fun i=>[(rd2 0).cells].getD (0+(0+i)) []) (fun i=>[(rd2 1).cells].getD (0+i) []) (0+i)) (fun i=>[(rd2 2).cells].getD (0+i) []) (0+i)) (fun i=>[(rd2 3).cells].getD (0+i) []) (0+i)) (fun i=>[(rd2 4).cells].getD (0+i) []) (0+i)) (fun i=>[(rd2 5).cells].getD (0+i) []) (0+i),iv 0]):=
 kP [[]] (.mk (dS 0x106be03beb03bebb03bebbb03bebbbb04ae05bea04beba04bebba04bebbba04bebbbba) [] [some (iv 0),none] [some ((tu [],[A5,ov [iv 0],ov (Ak wi dr lo),Lb w,Bb,Bd rd2,Bc rd2,Bq rd2,ov (rd2 3).cells,ov (rd2 4).cells,ov (rd2 5).cells,EObj.loop LoopState.ready (Lc n1 w) #[47] BL An none]))] []) (kO AD) (oI ((w 5==w 5)=true) (oI ((w 5==w 4)=false) (oI ((w 5==w 3)=false) (oI ((w 5==w 2)=false) (oI ((w 5==w 1)=false) (oI ((w 5==w 0)=false) (oI ((w 4==w 4)=true) (oI ((w 4==w 3)=false) (oI ((w 4==w 2)=false) (oI ((w 4==w 1)=false) (oI ((w 4==w 0)=false) (oI ((w 3==w 3)=true) (oI ((w 3==w 2)=false) (oI ((w 3==w 1)=false) (oI ((w 3==w 0)=false) (oI ((w 2==w 2)=true) (oI ((w 2==w 1)=false) (oI ((w 2==w 0)=false) (oI ((w 1==w 1)=true) (oI ((w 1==w 0)=false) (oI ((w 0==w 0)=true) (oT (sF 100 [EV.it 11,pv [sl nn 13 N fun i=>(rs i).cells] 0] [ov [sl false 0 0 fun i=>[]],ov [iv 0],ov [iv wi,iv dr,iv lo],EObj.map false false [(iv (w 0),pt 5 0),(iv (w 1),pt 6 0),(iv (w 2),pt 7 0),(iv (w 3),pt 8 0),(iv (w 4),pt 9 0),(iv (w 5),pt 10 0)],EObj.var false false [EV.mm 3],ov [iv (w 0),iv 0,iv 0,iv 0,iv 0,iv 0,iv 0,iv 0,iv 0,iv 0,iv 0],ov [iv (w 1),iv 0,iv 0,iv 0,iv 0,iv 0,iv 0,iv 0,iv 0,iv 0,iv 0],ov [iv (w 2),iv 0,iv 0,iv 0,iv 0,iv 0,iv 0,iv 0,iv 0,iv 0,iv 0],ov [iv (w 3),iv 0,iv 0,iv 0,iv 0,iv 0,iv 0,iv 0,iv 0,iv 0,iv 0],ov [iv (w 4),iv 0,iv 0,iv 0,iv 0,iv 0,iv 0,iv 0,iv 0,iv 0,iv 0],ov [iv (w 5),iv 0,iv 0,iv 0,iv 0,iv 0,iv 0,iv 0,iv 0,iv 0,iv 0],EObj.loop LoopState.ready (frame 77 [(0,sl nn 13 N fun i=>(rs i).cells),(1,sl n1 1 6 fun i=>[iv (w i)]),(2,iv wi),(3,iv dr),(4,iv lo),(10,pt 0 0),(11,pt 1 0),(12,pt 2 0),(13,pt 4 0),(15,iv (w 5)),(21,iv wi),(22,iv dr),(23,iv lo),(24,ag [iv wi,iv dr,iv lo]),(25,sl nn 13 N fun i=>(rs i).cells),(26,sl n1 1 6 fun i=>[iv (w i)]),(27,ag [iv wi,iv dr,iv lo]),(28,iv 0),(29,iv 0),(30,bv false),(32,EV.mm 3),(33,sl n1 1 6 fun i=>[iv (w i)]),(34,iv 6),(35,iv 6),(36,bv false),(37,pv [iv (w 5)] 0),(38,iv (w 5)),(39,EV.mm 3),(40,iv (w 5)),(41,iv (w 5)),(42,ag [iv (w 5),iv 0,iv 0,iv 0,iv 0,iv 0,iv 0,iv 0,iv 0,iv 0,iv 0]),(43,pt 10 0),(44,iv 6),(45,sl nn 13 N fun i=>(rs i).cells),(46,fc (100) [] [pv [sl nn 13 N fun i=>(rs i).cells] 0])]) #[47] BL An none] (tu []) [ov [sl false 0 0 fun i=>[]],ov [iv 0],ov [iv wi,iv dr,iv lo],EObj.map false false [(iv (w 0),pt 5 0),(iv (w 1),pt 6 0),(iv (w 2),pt 7 0),(iv (w 3),pt 8 0),(iv (w 4),pt 9 0),(iv (w 5),pt 10 0)],EObj.var false false [EV.mm 3],ov (rd2 0).cells,ov (rd2 1).cells,ov (rd2 2).cells,ov (rd2 3).cells,ov (rd2 4).cells,ov (rd2 5).cells,EObj.loop LoopState.ready (frame 77 [(1,sl n1 1 6 fun i=>[iv (w i)]),(10,pt 0 0),(11,pt 1 0),(12,pt 2 0),(13,pt 4 0)]) #[47] BL An none]) (SemF.blur 15362 ih (by kernel_rfl)) (oI ((w 5==w 4)=false) (oI ((w 5==w 3)=false) (oI ((w 5==w 2)=false) (oI ((w 5==w 1)=false) (oI ((w 5==w 0)=false) (oI ((w 4==w 3)=false) (oI ((w 4==w 2)=false) (oI ((w 4==w 1)=false) (oI ((w 4==w 0)=false) (oI ((w 3==w 2)=false) (oI ((w 3==w 1)=false) (oI ((w 3==w 0)=false) (oI ((w 2==w 1)=false) (oI ((w 2==w 0)=false) (oI ((w 1==w 0)=false) (.cons ihc .nil))))))))))))))))))))))))))))))))))))))
end
section
variable (nn:Bool)(N:Nat)(rs:Nat->ResD)(n1:Bool)(w:Nat->Int)(wi:Int)(dr:Int)(lo:Int)(rd2:Nat->RowD)(g0_1:w 0<w 1)(g0_2:w 0<w 2)(g1_2:w 1<w 2)(g0_3:w 0<w 3)(g1_3:w 1<w 3)(g2_3:w 2<w 3)(g0_4:w 0<w 4)(g1_4:w 1<w 4)(g2_4:w 2<w 4)(g3_4:w 3<w 4)(g0_5:w 0<w 5)(g1_5:w 1<w 5)(g2_5:w 2<w 5)(g3_5:w 3<w 5)(g4_5:w 4<w 5)(g0_6:w 0<w 6)(g1_6:w 1<w 6)(g2_6:w 2<w 6)(g3_6:w 3<w 6)(g4_6:w 4<w 6)(g5_6:w 5<w 6)
include nn N rs n1 w wi dr lo rd2 g0_1 g0_2 g1_2 g0_3 g1_3 g2_3 g0_4 g1_4 g2_4 g3_4 g0_5 g1_5 g2_5 g3_5 g4_5 g0_6 g1_6 g2_6 g3_6 g4_6 g5_6
theorem AA0 (ihc:sP 63 [(AK nn N rs),nums n1 7 w,ag (Ak wi dr lo)] (iv 0))(ih:sF 100 [EV.it 12,pv [(AK nn N rs)] 0] (AI 7 n1 w wi dr lo (FJ w) .ready []) (tu []) (AI 7 n1 w wi dr lo rd2 .ready [])):sP 26 [AK nn N rs,sl n1 1 7 fun i=>[iv (w i)],iv wi,iv dr,iv lo] (tu [sl true 11 7 fun i=>AU 6 (fun i=>AU 5 (fun i=>AU 4 (fun i=>AU 3 (fun i=>AU 2 (fun i=>AU 1 (fun i=>[(rd2 0).cells].getD (0+(0+i)) []) (fun i=>[(rd2 1).cells].getD (0+i) []) (0+i)) (fun i=>[(rd2 2).cells].getD (0+i) []) (0+i)) (fun i=>[(rd2 3).cells].getD (0+i) []) (0+i)) (fun i=>[(rd2 4).cells].getD (0+i) []) (0+i)) (fun i=>[(rd2 5).cells].getD (0+i) []) (0+i)) (fun i=>[(rd2 6).cells].getD (0+i) []) (0+i),iv 0]):=
 kP [[]] (.mk (dS 0x106be03beb03bebb03bebbb03bebbbb03bebbbbb04ae05bea04beba04bebba04bebbba04bebbbba04bebbbbba) [] [some (iv 0),none] [some ((tu [],[A5,ov [iv 0],ov (Ak wi dr lo),Ld w,Bb,Bd rd2,Bc rd2,Bq rd2,ov (rd2 3).cells,ov (rd2 4).cells,ov (rd2 5).cells,ov (rd2 6).cells,EObj.loop LoopState.ready (Le n1 w) #[47] BL An none]))] []) (kO AD) (oI ((w 6==w 6)=true) (oI ((w 6==w 5)=false) (oI ((w 6==w 4)=false) (oI ((w 6==w 3)=false) (oI ((w 6==w 2)=false) (oI ((w 6==w 1)=false) (oI ((w 6==w 0)=false) (oI ((w 5==w 5)=true) (oI ((w 5==w 4)=false) (oI ((w 5==w 3)=false) (oI ((w 5==w 2)=false) (oI ((w 5==w 1)=false) (oI ((w 5==w 0)=false) (oI ((w 4==w 4)=true) (oI ((w 4==w 3)=false) (oI ((w 4==w 2)=false) (oI ((w 4==w 1)=false) (oI ((w 4==w 0)=false) (oI ((w 3==w 3)=true) (oI ((w 3==w 2)=false) (oI ((w 3==w 1)=false) (oI ((w 3==w 0)=false) (oI ((w 2==w 2)=true) (oI ((w 2==w 1)=false) (oI ((w 2==w 0)=false) (oI ((w 1==w 1)=true) (oI ((w 1==w 0)=false) (oI ((w 0==w 0)=true) (oT (sF 100 [EV.it 12,pv [sl nn 13 N fun i=>(rs i).cells] 0] [ov [sl false 0 0 fun i=>[]],ov [iv 0],ov [iv wi,iv dr,iv lo],EObj.map false false [(iv (w 0),pt 5 0),(iv (w 1),pt 6 0),(iv (w 2),pt 7 0),(iv (w 3),pt 8 0),(iv (w 4),pt 9 0),(iv (w 5),pt 10 0),(iv (w 6),pt 11 0)],EObj.var false false [EV.mm 3],ov [iv (w 0),iv 0,iv 0,iv 0,iv 0,iv 0,iv 0,iv 0,iv 0,iv 0,iv 0],ov [iv (w 1),iv 0,iv 0,iv 0,iv 0,iv 0,iv 0,iv 0,iv 0,iv 0,iv 0],ov [iv (w 2),iv 0,iv 0,iv 0,iv 0,iv 0,iv 0,iv 0,iv 0,iv 0,iv 0],ov [iv (w 3),iv 0,iv 0,iv 0,iv 0,iv 0,iv 0,iv 0,iv 0,iv 0,iv 0],ov [iv (w 4),iv 0,iv 0,iv 0,iv 0,iv 0,iv 0,iv 0,iv 0,iv 0,iv 0],ov [iv (w 5),iv 0,iv 0,iv 0,iv 0,iv 0,iv 0,iv 0,iv 0,iv 0,iv 0],ov [iv (w 6),iv 0,iv 0,iv 0,iv 0,iv 0,iv 0,iv 0,iv 0,iv 0,iv 0],EObj.loop LoopState.ready (frame 77 [(0,sl nn 13 N fun i=>(rs i).cells),(1,sl n1 1 7 fun i=>[iv (w i)]),(2,iv wi),(3,iv dr),(4,iv lo),(10,pt 0 0),(11,pt 1 0),(12,pt 2 0),(13,pt 4 0),(15,iv (w 6)),(21,iv wi),(22,iv dr),(23,iv lo),(24,ag [iv wi,iv dr,iv lo]),(25,sl nn 13 N fun i=>(rs i).cells),(26,sl n1 1 7 fun i=>[iv (w i)]),(27,ag [iv wi,iv dr,iv lo]),(28,iv 0),(29,iv 0),(30,bv false),(32,EV.mm 3),(33,sl n1 1 7 fun i=>[iv (w i)]),(34,iv 7),(35,iv 7),(36,bv false),(37,pv [iv (w 6)] 0),(38,iv (w 6)),(39,EV.mm 3),(40,iv (w 6)),(41,iv (w 6)),(42,ag [iv (w 6),iv 0,iv 0,iv 0,iv 0,iv 0,iv 0,iv 0,iv 0,iv 0,iv 0]),(43,pt 11 0),(44,iv 7),(45,sl nn 13 N fun i=>(rs i).cells),(46,fc (100) [] [pv [sl nn 13 N fun i=>(rs i).cells] 0])]) #[47] BL An none] (tu []) [ov [sl false 0 0 fun i=>[]],ov [iv 0],ov [iv wi,iv dr,iv lo],EObj.map false false [(iv (w 0),pt 5 0),(iv (w 1),pt 6 0),(iv (w 2),pt 7 0),(iv (w 3),pt 8 0),(iv (w 4),pt 9 0),(iv (w 5),pt 10 0),(iv (w 6),pt 11 0)],EObj.var false false [EV.mm 3],ov (rd2 0).cells,ov (rd2 1).cells,ov (rd2 2).cells,ov (rd2 3).cells,ov (rd2 4).cells,ov (rd2 5).cells,ov (rd2 6).cells,EObj.loop LoopState.ready (frame 77 [(1,sl n1 1 7 fun i=>[iv (w i)]),(10,pt 0 0),(11,pt 1 0),(12,pt 2 0),(13,pt 4 0)]) #[47] BL An none]) (SemF.blur 15362 ih (by kernel_rfl)) (oI ((w 6==w 5)=false) (oI ((w 6==w 4)=false) (oI ((w 6==w 3)=false) (oI ((w 6==w 2)=false) (oI ((w 6==w 1)=false) (oI ((w 6==w 0)=false) (oI ((w 5==w 4)=false) (oI ((w 5==w 3)=false) (oI ((w 5==w 2)=false) (oI ((w 5==w 1)=false) (oI ((w 5==w 0)=false) (oI ((w 4==w 3)=false) (oI ((w 4==w 2)=false) (oI ((w 4==w 1)=false) (oI ((w 4==w 0)=false) (oI ((w 3==w 2)=false) (oI ((w 3==w 1)=false) (oI ((w 3==w 0)=false) (oI ((w 2==w 1)=false) (oI ((w 2==w 0)=false) (oI ((w 1==w 0)=false) (.cons ihc .nil)))))))))))))))))))))))))))))))))))))))))))))))))))
theorem AA1 (g0_7:w 0<w 7)(g1_7:w 1<w 7)(g2_7:w 2<w 7)(g3_7:w 3<w 7)(g4_7:w 4<w 7)(g5_7:w 5<w 7)(g6_7:w 6<w 7)(ihc:sP 63 [(AK nn N rs),nums n1 8 w,ag (Ak wi dr lo)] (iv 0))(ih:sF 100 [EV.it 13,pv [(AK nn N rs)] 0] (AI 8 n1 w wi dr lo (FJ w) .ready []) (tu []) (AI 8 n1 w wi dr lo rd2 .ready [])):sP 26 [AK nn N rs,sl n1 1 8 fun i=>[iv (w i)],iv wi,iv dr,iv lo] (tu [sl true 11 8 fun i=>AU 7 (fun i=>AU 6 (fun i=>AU 5 (fun i=>AU 4 (fun i=>AU 3 (fun i=>AU 2 (fun i=>AU 1 (fun i=>[(rd2 0).cells].getD (0+(0+i)) []) (fun i=>[(rd2 1).cells].getD (0+i) []) (0+i)) (fun i=>[(rd2 2).cells].getD (0+i) []) (0+i)) (fun i=>[(rd2 3).cells].getD (0+i) []) (0+i)) (fun i=>[(rd2 4).cells].getD (0+i) []) (0+i)) (fun i=>[(rd2 5).cells].getD (0+i) []) (0+i)) (fun i=>[(rd2 6).cells].getD (0+i) []) (0+i)) (fun i=>[(rd2 7).cells].getD (0+i) []) (0+i),iv 0]):=
 kP [[]] (.mk (dS 0x106be03beb03bebb03bebbb03bebbbb03bebbbbb03bebbbbbb04ae05bea04beba04bebba04bebbba04bebbbba04bebbbbba04bebbbbbba) [] [some (iv 0),none] [some ((tu [],[A5,ov [iv 0],ov (Ak wi dr lo),Lf w,Bb,Bd rd2,Bc rd2,Bq rd2,ov (rd2 3).cells,ov (rd2 4).cells,ov (rd2 5).cells,ov (rd2 6).cells,ov (rd2 7).cells,EObj.loop LoopState.ready (Lh n1 w) #[47] BL An none]))] []) (kO AD) (oI ((w 7==w 7)=true) (oI ((w 7==w 6)=false) (oI ((w 7==w 5)=false) (oI ((w 7==w 4)=false) (oI ((w 7==w 3)=false) (oI ((w 7==w 2)=false) (oI ((w 7==w 1)=false) (oI ((w 7==w 0)=false) (oI ((w 6==w 6)=true) (oI ((w 6==w 5)=false) (oI ((w 6==w 4)=false) (oI ((w 6==w 3)=false) (oI ((w 6==w 2)=false) (oI ((w 6==w 1)=false) (oI ((w 6==w 0)=false) (oI ((w 5==w 5)=true) (oI ((w 5==w 4)=false) (oI ((w 5==w 3)=false) (oI ((w 5==w 2)=false) (oI ((w 5==w 1)=false) (oI ((w 5==w 0)=false) (oI ((w 4==w 4)=true) (oI ((w 4==w 3)=false) (oI ((w 4==w 2)=false) (oI ((w 4==w 1)=false) (oI ((w 4==w 0)=false) (oI ((w 3==w 3)=true) (oI ((w 3==w 2)=false) (oI ((w 3==w 1)=false) (oI ((w 3==w 0)=false) (oI ((w 2==w 2)=true) (oI ((w 2==w 1)=false) (oI ((w 2==w 0)=false) (oI ((w 1==w 1)=true) (oI ((w 1==w 0)=false) (oI ((w 0==w 0)=true) (oT (sF 100 [EV.it 13,pv [sl nn 13 N fun i=>(rs i).cells] 0] [ov [sl false 0 0 fun i=>[]],ov [iv 0],ov [iv wi,iv dr,iv lo],EObj.map false false [(iv (w 0),pt 5 0),(iv (w 1),pt 6 0),(iv (w 2),pt 7 0),(iv (w 3),pt 8 0),(iv (w 4),pt 9 0),(iv (w 5),pt 10 0),(iv (w 6),pt 11 0),(iv (w 7),pt 12 0)],EObj.var false false [EV.mm 3],ov [iv (w 0),iv 0,iv 0,iv 0,iv 0,iv 0,iv 0,iv 0,iv 0,iv 0,iv 0],ov [iv (w 1),iv 0,iv 0,iv 0,iv 0,iv 0,iv 0,iv 0,iv 0,iv 0,iv 0],ov [iv (w 2),iv 0,iv 0,iv 0,iv 0,iv 0,iv 0,iv 0,iv 0,iv 0,iv 0],ov [iv (w 3),iv 0,iv 0,iv 0,iv 0,iv 0,iv 0,iv 0,iv 0,iv 0,iv 0],ov [iv (w 4),iv 0,iv 0,iv 0,iv 0,iv 0,iv 0,iv 0,iv 0,iv 0,iv 0],ov [iv (w 5),iv 0,iv 0,iv 0,iv 0,iv 0,iv 0,iv 0,iv 0,iv 0,iv 0],ov [iv (w 6),iv 0,iv 0,iv 0,iv 0,iv 0,iv 0,iv 0,iv 0,iv 0,iv 0],ov [iv (w 7),iv 0,iv 0,iv 0,iv 0,iv 0,iv 0,iv 0,iv 0,iv 0,iv 0],EObj.loop LoopState.ready (frame 77 [(0,sl nn 13 N fun i=>(rs i).cells),(1,sl n1 1 8 fun i=>[iv (w i)]),(2,iv wi),(3,iv dr),(4,iv lo),(10,pt 0 0),(11,pt 1 0),(12,pt 2 0),(13,pt 4 0),(15,iv (w 7)),(21,iv wi),(22,iv dr),(23,iv lo),(24,ag [iv wi,iv dr,iv lo]),(25,sl nn 13 N fun i=>(rs i).cells),(26,sl n1 1 8 fun i=>[iv (w i)]),(27,ag [iv wi,iv dr,iv lo]),(28,iv 0),(29,iv 0),(30,bv false),(32,EV.mm 3),(33,sl n1 1 8 fun i=>[iv (w i)]),(34,iv 8),(35,iv 8),(36,bv false),(37,pv [iv (w 7)] 0),(38,iv (w 7)),(39,EV.mm 3),(40,iv (w 7)),(41,iv (w 7)),(42,ag [iv (w 7),iv 0,iv 0,iv 0,iv 0,iv 0,iv 0,iv 0,iv 0,iv 0,iv 0]),(43,pt 12 0),(44,iv 8),(45,sl nn 13 N fun i=>(rs i).cells),(46,fc (100) [] [pv [sl nn 13 N fun i=>(rs i).cells] 0])]) #[47] BL An none] (tu []) [ov [sl false 0 0 fun i=>[]],ov [iv 0],ov [iv wi,iv dr,iv lo],EObj.map false false [(iv (w 0),pt 5 0),(iv (w 1),pt 6 0),(iv (w 2),pt 7 0),(iv (w 3),pt 8 0),(iv (w 4),pt 9 0),(iv (w 5),pt 10 0),(iv (w 6),pt 11 0),(iv (w 7),pt 12 0)],EObj.var false false [EV.mm 3],ov (rd2 0).cells,ov (rd2 1).cells,ov (rd2 2).cells,ov (rd2 3).cells,ov (rd2 4).cells,ov (rd2 5).cells,ov (rd2 6).cells,ov (rd2 7).cells,EObj.loop LoopState.ready (frame 77 [(1,sl n1 1 8 fun i=>[iv (w i)]),(10,pt 0 0),(11,pt 1 0),(12,pt 2 0),(13,pt 4 0)]) #[47] BL An none]) (SemF.blur 15362 ih (by kernel_rfl)) (oI ((w 7==w 6)=false) (oI ((w 7==w 5)=false) (oI ((w 7==w 4)=false) (oI ((w 7==w 3)=false) (oI ((w 7==w 2)=false) (oI ((w 7==w 1)=false) (oI ((w 7==w 0)=false) (oI ((w 6==w 5)=false) (oI ((w 6==w 4)=false) (oI ((w 6==w 3)=false) (oI ((w 6==w 2)=false) (oI ((w 6==w 1)=false) (oI ((w 6==w 0)=false) (oI ((w 5==w 4)=false) (oI ((w 5==w 3)=false) (oI ((w 5==w 2)=false) (oI ((w 5==w 1)=false) (oI ((w 5==w 0)=false) (oI ((w 4==w 3)=false) (oI ((w 4==w 2)=false) (oI ((w 4==w 1)=false) (oI ((w 4==w 0)=false) (oI ((w 3==w 2)=false) (oI ((w 3==w 1)=false) (oI ((w 3==w 0)=false) (oI ((w 2==w 1)=false) (oI ((w 2==w 0)=false) (oI ((w 1==w 0)=false) (.cons ihc .nil))))))))))))))))))))))))))))))))))))))))))))))))))))))))))))))))))
end
def Bk (n:Nat)(w:Nat->Int)(c:Int):Nat:=(List.range n).findIdx fun j=>w j==c
theorem Cv {n:Nat}{w:Nat->Int}{c:Int}(h:inW n w c=true):Bk n w c<n/\w (Bk n w c)=c:=by
 obtain ⟨i,hi,he⟩:=Km.1 h
 have hlt:Bk n w c<(List.range n).length:=List.findIdx_lt_length_of_exists ⟨i,by simpa using hi,by simpa using he⟩
 have h2:∀ (l:List Nat) (h:l.findIdx (fun j=>w j==c)<l.length),w (l[l.findIdx fun j=>w j==c]'h)=c:=fun l h=>by
  have:=List.findIdx_getElem (p:=fun j=>w j==c) (xs:=l) (w:=h)
  simpa using this
 have h3:(List.range n)[Bk n w c]? =some (Bk n w c):=by
  rw [List.getElem?_range (by simpa using hlt)]
 have h4:(List.range n)[Bk n w c]? =some ((List.range n)[Bk n w c]'hlt):=List.getElem?_eq_getElem hlt
 have h5:(List.range n)[Bk n w c]'hlt=Bk n w c:=Option.some.inj (h4.symm.trans h3)
 exact ⟨by simpa using hlt,(congrArg w h5).symm.trans (h2 _ hlt)⟩
theorem DW {n:Nat}{w:Nat->Int}(hI:Inc n w){c:Int}(h:inW n w c=true):Ai prog 3 (.int .i64 c) (Ct n w) 0 (some (Bk n w c,EV.ptr (5+Bk n w c) 0)):=by
 obtain ⟨h1,h2⟩:=Cv h
 have hm:MapOf EW (fun _=>True) (Ct n w):=by
  intro e he
  simp only [Ct,List.mem_map] at he
  obtain ⟨j,_,rfl⟩:=he
  exact ⟨⟨_,rfl⟩,trivial⟩
 have hh:BF (.int .i64 c) (Ct n w)=true:=by
  simp only [BF,Ct,List.any_map,List.any_eq_true]
  exact ⟨Bk n w c,by simpa using h1,by simp [Kn,h2]⟩
 have:=(HK (Ct n w) 0 (Rh hm c)).1 hh
 have hi:BD (.int .i64 c) (Ct n w)=Bk n w c:=by
  unfold BD Ct Bk
  rw [List.findIdx_map]
  congr 1
  funext j
  simp only [Function.comp,Kn]
  exact Bool.beq_comm
 rw [hi,Nat.zero_add] at this
 have hg:(Ct n w).getD (Bk n w c) (.undef,.undef)=(.int .i64 (w (Bk n w c)),.ptr (5+Bk n w c) 0):=by
  simp [Ct,List.getD_eq_getElem?_getD,h1]
 rw [hg] at this
 exact this
def NC (n:Nat)(w:Nat->Int)(wi dr lo:Int)(r:ResD)(rd:Nat->RowD):Nat->RowD:=
 DB (DB rd (Bk n w r.home) (AN wi dr lo r.homeS (rd (Bk n w r.home)))) (Bk n w r.away) (AN wi dr lo r.awayS (DB rd (Bk n w r.home) (AN wi dr lo r.homeS (rd (Bk n w r.home))) (Bk n w r.away)))
def Az (n:Nat)(w:Nat->Int)(wi dr lo:Int)(rs:Nat->ResD):Nat->Nat->RowD
 | 0=>FJ w
 | k+1=>NC n w wi dr lo (rs k) (Az n w wi dr lo rs k)
theorem ACt (n1:Bool)(w:Nat->Int)(wi dr lo:Int)(rd:Nat->RowD)(r:ResD)(s:SideD)(j:Nat)(hj:j<2):
  SemCL prog globs' true (cR (cR (cB An))) (frame 77 [(12,.ptr 2 0),(16,.ptr 9 0),(17,.ptr (5+j) 0)]) (AI 2 n1 w wi dr lo rd .busy [.var false true r.cells,.var false true s.cells]) (EX.normal,frame 77 [],AI 2 n1 w wi dr lo (DB rd j (AN wi dr lo s (rd j))) .busy [.var false true r.cells,.dead]):=by
 match j,hj with
 | 0,_=>exact (WC n1 w wi dr lo rd r s).toCL (by kernel_rfl)
 | 1,_=>exact (WD n1 w wi dr lo rd r s).toCL (by kernel_rfl)
theorem ACu (n1:Bool)(w:Nat->Int)(wi dr lo:Int)(rd:Nat->RowD)(r:ResD)(s:SideD)(j:Nat)(hj:j<2):
  SemCL prog globs' true (cR (cR (cB An))) (frame 77 [(12,.ptr 2 0),(16,.ptr 10 0),(17,.ptr (5+j) 0)]) (AI 2 n1 w wi dr lo rd .busy [.var false true r.cells,.dead,.var false true s.cells]) (EX.normal,frame 77 [],AI 2 n1 w wi dr lo (DB rd j (AN wi dr lo s (rd j))) .busy [.var false true r.cells,.dead,.dead]):=by
 match j,hj with
 | 0,_=>exact (WE n1 w wi dr lo rd r s).toCL (by kernel_rfl)
 | 1,_=>exact (WG n1 w wi dr lo rd r s).toCL (by kernel_rfl)
theorem TD (nn:Bool)(N:Nat)(rs:Nat->ResD)(n1:Bool)(w:Nat->Int)(wi dr lo:Int)(hN:N<=100000)(hI:Inc 2 w)
  (hw: -99<=lo/\lo<=dr/\dr<=wi/\wi<=99) (hr:∀ i,i<N->B5 (rs i)=0/\inW 2 w (rs i).home=true/\inW 2 w (rs i).away=true):
  sP 26 [EV.isl nn 13 N fun i=>(rs i).cells,nums n1 2 w,EV.int .i64 wi,EV.int .i64 dr,EV.int .i64 lo] (EV.tuple [EV.isl true 11 2 fun i=>(Az 2 w wi dr lo rs N i).cells,EV.int .i64 0]):=by
 obtain ⟨r_,rfl,h⟩:=SemL.ex (P:=prog) (G:=globs') (rnd:=false) (c:=cB (cB (cR (AB prog 100)))) (X:=Nat) (fun i=>frame 44 [(0,.it 7),(5,(EV.isl nn 13 N fun i=>(rs i).cells)),(6,.int .i64 N),(7,.int .i64 i)]) (fun i=>AI 2 n1 w wi dr lo (Az 2 w wi dr lo rs i) .ready []) N (fun i x=>x=i)
  (fun r=>r=(EX.leave 0,frame 44 [],AI 2 n1 w wi dr lo (Az 2 w wi dr lo rs N) .ready [])) (by
   rintro i j hi (hj:j=i)
   subst hj
   obtain ⟨_,h1,h2⟩:=hr j hi
   obtain ⟨r,h,⟨rfl,_⟩ | ⟨_,hx⟩⟩:=AAo nn N rs n1 w wi dr lo (Az 2 w wi dr lo rs j) (j:Int) (Bk 2 w (rs j).home) (Bk 2 w (rs j).away) _ _ (by omega) hN
    (fun _=>DW hI h1) (fun _=>DW hI h2) (fun _=>ACt n1 w wi dr lo _ (rs j) (rs j).homeS _ (Cv h1).1) (fun _=>ACu n1 w wi dr lo _ (rs j) (rs j).awayS _ (Cv h2).1)
   ·exact .inl ⟨j+1,rfl,h⟩
   ·omega) (by
   rintro j (hj:j=N)
   subst hj
   obtain ⟨r,h,⟨_,hx⟩ | ⟨rfl,_⟩⟩:=AAo nn j rs n1 w wi dr lo (Az 2 w wi dr lo rs j) (j:Int) 0 0 (FJ w) (FJ w) (by omega) hN (fun h=>by omega) (fun h=>by omega) (fun h=>by omega) (fun h=>by omega)
   ·omega
   ·exact ⟨_,rfl,by simp,h⟩) N 0 0 (by omega) rfl
 have hf:=sf2 nn N rs n1 w wi dr lo (FJ w) (Az 2 w wi dr lo rs N) (h.toCL (by kernel_rfl))
 have hc:=DA nn N rs n1 2 w wi dr lo hN hI (by omega) (by omega) hw (fun i hi=>(hr i hi).1)
 refine (AAv nn N rs n1 w wi dr lo (Az 2 w wi dr lo rs N) (hI.lt (i:=0) (j:=1) (by omega) (by omega)) hc hf).res (PLe.tuple2 (PLe.isl fun i hi=>?_) (.refl _))
 match i,hi with
  | 0,_=>rfl
  | 1,_=>rfl
theorem ACv (n1:Bool)(w:Nat->Int)(wi dr lo:Int)(rd:Nat->RowD)(r:ResD)(s:SideD)(j:Nat)(hj:j<3):
  SemCL prog globs' true (cR (cR (cB An))) (frame 77 [(12,.ptr 2 0),(16,.ptr 10 0),(17,.ptr (5+j) 0)]) (AI 3 n1 w wi dr lo rd .busy [.var false true r.cells,.var false true s.cells]) (EX.normal,frame 77 [],AI 3 n1 w wi dr lo (DB rd j (AN wi dr lo s (rd j))) .busy [.var false true r.cells,.dead]):=by
 match j,hj with
 | 0,_=>exact (WH n1 w wi dr lo rd r s).toCL (by kernel_rfl)
 | 1,_=>exact (WI n1 w wi dr lo rd r s).toCL (by kernel_rfl)
 | 2,_=>exact (WJ n1 w wi dr lo rd r s).toCL (by kernel_rfl)
theorem ACw (n1:Bool)(w:Nat->Int)(wi dr lo:Int)(rd:Nat->RowD)(r:ResD)(s:SideD)(j:Nat)(hj:j<3):
  SemCL prog globs' true (cR (cR (cB An))) (frame 77 [(12,.ptr 2 0),(16,.ptr 11 0),(17,.ptr (5+j) 0)]) (AI 3 n1 w wi dr lo rd .busy [.var false true r.cells,.dead,.var false true s.cells]) (EX.normal,frame 77 [],AI 3 n1 w wi dr lo (DB rd j (AN wi dr lo s (rd j))) .busy [.var false true r.cells,.dead,.dead]):=by
 match j,hj with
 | 0,_=>exact (WK n1 w wi dr lo rd r s).toCL (by kernel_rfl)
 | 1,_=>exact (WL n1 w wi dr lo rd r s).toCL (by kernel_rfl)
 | 2,_=>exact (WM n1 w wi dr lo rd r s).toCL (by kernel_rfl)
theorem TE (nn:Bool)(N:Nat)(rs:Nat->ResD)(n1:Bool)(w:Nat->Int)(wi dr lo:Int)(hN:N<=100000)(hI:Inc 3 w)
  (hw: -99<=lo/\lo<=dr/\dr<=wi/\wi<=99) (hr:∀ i,i<N->B5 (rs i)=0/\inW 3 w (rs i).home=true/\inW 3 w (rs i).away=true):
  sP 26 [EV.isl nn 13 N fun i=>(rs i).cells,nums n1 3 w,EV.int .i64 wi,EV.int .i64 dr,EV.int .i64 lo] (EV.tuple [EV.isl true 11 3 fun i=>(Az 3 w wi dr lo rs N i).cells,EV.int .i64 0]):=by
 obtain ⟨r_,rfl,h⟩:=SemL.ex (P:=prog) (G:=globs') (rnd:=false) (c:=cB (cB (cR (AB prog 100)))) (X:=Nat) (fun i=>frame 44 [(0,.it 8),(5,(EV.isl nn 13 N fun i=>(rs i).cells)),(6,.int .i64 N),(7,.int .i64 i)]) (fun i=>AI 3 n1 w wi dr lo (Az 3 w wi dr lo rs i) .ready []) N (fun i x=>x=i)
  (fun r=>r=(EX.leave 0,frame 44 [],AI 3 n1 w wi dr lo (Az 3 w wi dr lo rs N) .ready [])) (by
   rintro i j hi (hj:j=i)
   subst hj
   obtain ⟨_,h1,h2⟩:=hr j hi
   obtain ⟨r,h,⟨rfl,_⟩ | ⟨_,hx⟩⟩:=AAp nn N rs n1 w wi dr lo (Az 3 w wi dr lo rs j) (j:Int) (Bk 3 w (rs j).home) (Bk 3 w (rs j).away) _ _ (by omega) hN
    (fun _=>DW hI h1) (fun _=>DW hI h2) (fun _=>ACv n1 w wi dr lo _ (rs j) (rs j).homeS _ (Cv h1).1) (fun _=>ACw n1 w wi dr lo _ (rs j) (rs j).awayS _ (Cv h2).1)
   ·exact .inl ⟨j+1,rfl,h⟩
   ·omega) (by
   rintro j (hj:j=N)
   subst hj
   obtain ⟨r,h,⟨_,hx⟩ | ⟨rfl,_⟩⟩:=AAp nn j rs n1 w wi dr lo (Az 3 w wi dr lo rs j) (j:Int) 0 0 (FJ w) (FJ w) (by omega) hN (fun h=>by omega) (fun h=>by omega) (fun h=>by omega) (fun h=>by omega)
   ·omega
   ·exact ⟨_,rfl,by simp,h⟩) N 0 0 (by omega) rfl
 have hf:=sf3 nn N rs n1 w wi dr lo (FJ w) (Az 3 w wi dr lo rs N) (h.toCL (by kernel_rfl))
 have hc:=DA nn N rs n1 3 w wi dr lo hN hI (by omega) (by omega) hw (fun i hi=>(hr i hi).1)
 refine (AAw nn N rs n1 w wi dr lo (Az 3 w wi dr lo rs N) (hI.lt (i:=0) (j:=1) (by omega) (by omega)) (hI.lt (i:=0) (j:=2) (by omega) (by omega)) (hI.lt (i:=1) (j:=2) (by omega) (by omega)) hc hf).res (PLe.tuple2 (PLe.isl fun i hi=>?_) (.refl _))
 match i,hi with
  | 0,_=>rfl
  | 1,_=>rfl
  | 2,_=>rfl
theorem ACx (n1:Bool)(w:Nat->Int)(wi dr lo:Int)(rd:Nat->RowD)(r:ResD)(s:SideD)(j:Nat)(hj:j<4):
  SemCL prog globs' true (cR (cR (cB An))) (frame 77 [(12,.ptr 2 0),(16,.ptr 11 0),(17,.ptr (5+j) 0)]) (AI 4 n1 w wi dr lo rd .busy [.var false true r.cells,.var false true s.cells]) (EX.normal,frame 77 [],AI 4 n1 w wi dr lo (DB rd j (AN wi dr lo s (rd j))) .busy [.var false true r.cells,.dead]):=by
 match j,hj with
 | 0,_=>exact (WN n1 w wi dr lo rd r s).toCL (by kernel_rfl)
 | 1,_=>exact (WO n1 w wi dr lo rd r s).toCL (by kernel_rfl)
 | 2,_=>exact (WQ n1 w wi dr lo rd r s).toCL (by kernel_rfl)
 | 3,_=>exact (WR n1 w wi dr lo rd r s).toCL (by kernel_rfl)
theorem ACy (n1:Bool)(w:Nat->Int)(wi dr lo:Int)(rd:Nat->RowD)(r:ResD)(s:SideD)(j:Nat)(hj:j<4):
  SemCL prog globs' true (cR (cR (cB An))) (frame 77 [(12,.ptr 2 0),(16,.ptr 12 0),(17,.ptr (5+j) 0)]) (AI 4 n1 w wi dr lo rd .busy [.var false true r.cells,.dead,.var false true s.cells]) (EX.normal,frame 77 [],AI 4 n1 w wi dr lo (DB rd j (AN wi dr lo s (rd j))) .busy [.var false true r.cells,.dead,.dead]):=by
 match j,hj with
 | 0,_=>exact (WS n1 w wi dr lo rd r s).toCL (by kernel_rfl)
 | 1,_=>exact (WT n1 w wi dr lo rd r s).toCL (by kernel_rfl)
 | 2,_=>exact (WU n1 w wi dr lo rd r s).toCL (by kernel_rfl)
 | 3,_=>exact (WV n1 w wi dr lo rd r s).toCL (by kernel_rfl)
theorem TF (nn:Bool)(N:Nat)(rs:Nat->ResD)(n1:Bool)(w:Nat->Int)(wi dr lo:Int)(hN:N<=100000)(hI:Inc 4 w)
  (hw: -99<=lo/\lo<=dr/\dr<=wi/\wi<=99) (hr:∀ i,i<N->B5 (rs i)=0/\inW 4 w (rs i).home=true/\inW 4 w (rs i).away=true):
  sP 26 [EV.isl nn 13 N fun i=>(rs i).cells,nums n1 4 w,EV.int .i64 wi,EV.int .i64 dr,EV.int .i64 lo] (EV.tuple [EV.isl true 11 4 fun i=>(Az 4 w wi dr lo rs N i).cells,EV.int .i64 0]):=by
 obtain ⟨r_,rfl,h⟩:=SemL.ex (P:=prog) (G:=globs') (rnd:=false) (c:=cB (cB (cR (AB prog 100)))) (X:=Nat) (fun i=>frame 44 [(0,.it 9),(5,(EV.isl nn 13 N fun i=>(rs i).cells)),(6,.int .i64 N),(7,.int .i64 i)]) (fun i=>AI 4 n1 w wi dr lo (Az 4 w wi dr lo rs i) .ready []) N (fun i x=>x=i)
  (fun r=>r=(EX.leave 0,frame 44 [],AI 4 n1 w wi dr lo (Az 4 w wi dr lo rs N) .ready [])) (by
   rintro i j hi (hj:j=i)
   subst hj
   obtain ⟨_,h1,h2⟩:=hr j hi
   obtain ⟨r,h,⟨rfl,_⟩ | ⟨_,hx⟩⟩:=AAq nn N rs n1 w wi dr lo (Az 4 w wi dr lo rs j) (j:Int) (Bk 4 w (rs j).home) (Bk 4 w (rs j).away) _ _ (by omega) hN
    (fun _=>DW hI h1) (fun _=>DW hI h2) (fun _=>ACx n1 w wi dr lo _ (rs j) (rs j).homeS _ (Cv h1).1) (fun _=>ACy n1 w wi dr lo _ (rs j) (rs j).awayS _ (Cv h2).1)
   ·exact .inl ⟨j+1,rfl,h⟩
   ·omega) (by
   rintro j (hj:j=N)
   subst hj
   obtain ⟨r,h,⟨_,hx⟩ | ⟨rfl,_⟩⟩:=AAq nn j rs n1 w wi dr lo (Az 4 w wi dr lo rs j) (j:Int) 0 0 (FJ w) (FJ w) (by omega) hN (fun h=>by omega) (fun h=>by omega) (fun h=>by omega) (fun h=>by omega)
   ·omega
   ·exact ⟨_,rfl,by simp,h⟩) N 0 0 (by omega) rfl
 have hf:=sf4 nn N rs n1 w wi dr lo (FJ w) (Az 4 w wi dr lo rs N) (h.toCL (by kernel_rfl))
 have hc:=DA nn N rs n1 4 w wi dr lo hN hI (by omega) (by omega) hw (fun i hi=>(hr i hi).1)
 refine (AAx nn N rs n1 w wi dr lo (Az 4 w wi dr lo rs N) (hI.lt (i:=0) (j:=1) (by omega) (by omega)) (hI.lt (i:=0) (j:=2) (by omega) (by omega)) (hI.lt (i:=1) (j:=2) (by omega) (by omega)) (hI.lt (i:=0) (j:=3) (by omega) (by omega)) (hI.lt (i:=1) (j:=3) (by omega) (by omega)) (hI.lt (i:=2) (j:=3) (by omega) (by omega)) hc hf).res (PLe.tuple2 (PLe.isl fun i hi=>?_) (.refl _))
 match i,hi with
  | 0,_=>rfl
  | 1,_=>rfl
  | 2,_=>rfl
  | 3,_=>rfl
theorem ACz (n1:Bool)(w:Nat->Int)(wi dr lo:Int)(rd:Nat->RowD)(r:ResD)(s:SideD)(j:Nat)(hj:j<5):
  SemCL prog globs' true (cR (cR (cB An))) (frame 77 [(12,.ptr 2 0),(16,.ptr 12 0),(17,.ptr (5+j) 0)]) (AI 5 n1 w wi dr lo rd .busy [.var false true r.cells,.var false true s.cells]) (EX.normal,frame 77 [],AI 5 n1 w wi dr lo (DB rd j (AN wi dr lo s (rd j))) .busy [.var false true r.cells,.dead]):=by
 match j,hj with
 | 0,_=>exact (WW n1 w wi dr lo rd r s).toCL (by kernel_rfl)
 | 1,_=>exact (WX n1 w wi dr lo rd r s).toCL (by kernel_rfl)
 | 2,_=>exact (WY n1 w wi dr lo rd r s).toCL (by kernel_rfl)
 | 3,_=>exact (WZ n1 w wi dr lo rd r s).toCL (by kernel_rfl)
 | 4,_=>exact (Wa n1 w wi dr lo rd r s).toCL (by kernel_rfl)
theorem AC0 (n1:Bool)(w:Nat->Int)(wi dr lo:Int)(rd:Nat->RowD)(r:ResD)(s:SideD)(j:Nat)(hj:j<5):
  SemCL prog globs' true (cR (cR (cB An))) (frame 77 [(12,.ptr 2 0),(16,.ptr 13 0),(17,.ptr (5+j) 0)]) (AI 5 n1 w wi dr lo rd .busy [.var false true r.cells,.dead,.var false true s.cells]) (EX.normal,frame 77 [],AI 5 n1 w wi dr lo (DB rd j (AN wi dr lo s (rd j))) .busy [.var false true r.cells,.dead,.dead]):=by
 match j,hj with
 | 0,_=>exact (Wb n1 w wi dr lo rd r s).toCL (by kernel_rfl)
 | 1,_=>exact (Wc n1 w wi dr lo rd r s).toCL (by kernel_rfl)
 | 2,_=>exact (Wd n1 w wi dr lo rd r s).toCL (by kernel_rfl)
 | 3,_=>exact (We n1 w wi dr lo rd r s).toCL (by kernel_rfl)
 | 4,_=>exact (Wf n1 w wi dr lo rd r s).toCL (by kernel_rfl)
theorem TG (nn:Bool)(N:Nat)(rs:Nat->ResD)(n1:Bool)(w:Nat->Int)(wi dr lo:Int)(hN:N<=100000)(hI:Inc 5 w)
  (hw: -99<=lo/\lo<=dr/\dr<=wi/\wi<=99) (hr:∀ i,i<N->B5 (rs i)=0/\inW 5 w (rs i).home=true/\inW 5 w (rs i).away=true):
  sP 26 [EV.isl nn 13 N fun i=>(rs i).cells,nums n1 5 w,EV.int .i64 wi,EV.int .i64 dr,EV.int .i64 lo] (EV.tuple [EV.isl true 11 5 fun i=>(Az 5 w wi dr lo rs N i).cells,EV.int .i64 0]):=by
 obtain ⟨r_,rfl,h⟩:=SemL.ex (P:=prog) (G:=globs') (rnd:=false) (c:=cB (cB (cR (AB prog 100)))) (X:=Nat) (fun i=>frame 44 [(0,.it 10),(5,(EV.isl nn 13 N fun i=>(rs i).cells)),(6,.int .i64 N),(7,.int .i64 i)]) (fun i=>AI 5 n1 w wi dr lo (Az 5 w wi dr lo rs i) .ready []) N (fun i x=>x=i)
  (fun r=>r=(EX.leave 0,frame 44 [],AI 5 n1 w wi dr lo (Az 5 w wi dr lo rs N) .ready [])) (by
   rintro i j hi (hj:j=i)
   subst hj
   obtain ⟨_,h1,h2⟩:=hr j hi
   obtain ⟨r,h,⟨rfl,_⟩ | ⟨_,hx⟩⟩:=AAr nn N rs n1 w wi dr lo (Az 5 w wi dr lo rs j) (j:Int) (Bk 5 w (rs j).home) (Bk 5 w (rs j).away) _ _ (by omega) hN
    (fun _=>DW hI h1) (fun _=>DW hI h2) (fun _=>ACz n1 w wi dr lo _ (rs j) (rs j).homeS _ (Cv h1).1) (fun _=>AC0 n1 w wi dr lo _ (rs j) (rs j).awayS _ (Cv h2).1)
   ·exact .inl ⟨j+1,rfl,h⟩
   ·omega) (by
   rintro j (hj:j=N)
   subst hj
   obtain ⟨r,h,⟨_,hx⟩ | ⟨rfl,_⟩⟩:=AAr nn j rs n1 w wi dr lo (Az 5 w wi dr lo rs j) (j:Int) 0 0 (FJ w) (FJ w) (by omega) hN (fun h=>by omega) (fun h=>by omega) (fun h=>by omega) (fun h=>by omega)
   ·omega
   ·exact ⟨_,rfl,by simp,h⟩) N 0 0 (by omega) rfl
 have hf:=sf5 nn N rs n1 w wi dr lo (FJ w) (Az 5 w wi dr lo rs N) (h.toCL (by kernel_rfl))
 have hc:=DA nn N rs n1 5 w wi dr lo hN hI (by omega) (by omega) hw (fun i hi=>(hr i hi).1)
 refine (AAy nn N rs n1 w wi dr lo (Az 5 w wi dr lo rs N) (hI.lt (i:=0) (j:=1) (by omega) (by omega)) (hI.lt (i:=0) (j:=2) (by omega) (by omega)) (hI.lt (i:=1) (j:=2) (by omega) (by omega)) (hI.lt (i:=0) (j:=3) (by omega) (by omega)) (hI.lt (i:=1) (j:=3) (by omega) (by omega)) (hI.lt (i:=2) (j:=3) (by omega) (by omega)) (hI.lt (i:=0) (j:=4) (by omega) (by omega)) (hI.lt (i:=1) (j:=4) (by omega) (by omega)) (hI.lt (i:=2) (j:=4) (by omega) (by omega)) (hI.lt (i:=3) (j:=4) (by omega) (by omega)) hc hf).res (PLe.tuple2 (PLe.isl fun i hi=>?_) (.refl _))
 match i,hi with
  | 0,_=>rfl
  | 1,_=>rfl
  | 2,_=>rfl
  | 3,_=>rfl
  | 4,_=>rfl
theorem AC1 (n1:Bool)(w:Nat->Int)(wi dr lo:Int)(rd:Nat->RowD)(r:ResD)(s:SideD)(j:Nat)(hj:j<6):
  SemCL prog globs' true (cR (cR (cB An))) (frame 77 [(12,.ptr 2 0),(16,.ptr 13 0),(17,.ptr (5+j) 0)]) (AI 6 n1 w wi dr lo rd .busy [.var false true r.cells,.var false true s.cells]) (EX.normal,frame 77 [],AI 6 n1 w wi dr lo (DB rd j (AN wi dr lo s (rd j))) .busy [.var false true r.cells,.dead]):=by
 match j,hj with
 | 0,_=>exact (Wg n1 w wi dr lo rd r s).toCL (by kernel_rfl)
 | 1,_=>exact (Wh n1 w wi dr lo rd r s).toCL (by kernel_rfl)
 | 2,_=>exact (Wi n1 w wi dr lo rd r s).toCL (by kernel_rfl)
 | 3,_=>exact (Wj n1 w wi dr lo rd r s).toCL (by kernel_rfl)
 | 4,_=>exact (Wk n1 w wi dr lo rd r s).toCL (by kernel_rfl)
 | 5,_=>exact (Wl n1 w wi dr lo rd r s).toCL (by kernel_rfl)
theorem AC2 (n1:Bool)(w:Nat->Int)(wi dr lo:Int)(rd:Nat->RowD)(r:ResD)(s:SideD)(j:Nat)(hj:j<6):
  SemCL prog globs' true (cR (cR (cB An))) (frame 77 [(12,.ptr 2 0),(16,.ptr 14 0),(17,.ptr (5+j) 0)]) (AI 6 n1 w wi dr lo rd .busy [.var false true r.cells,.dead,.var false true s.cells]) (EX.normal,frame 77 [],AI 6 n1 w wi dr lo (DB rd j (AN wi dr lo s (rd j))) .busy [.var false true r.cells,.dead,.dead]):=by
 match j,hj with
 | 0,_=>exact (Wm n1 w wi dr lo rd r s).toCL (by kernel_rfl)
 | 1,_=>exact (Wn n1 w wi dr lo rd r s).toCL (by kernel_rfl)
 | 2,_=>exact (Wo n1 w wi dr lo rd r s).toCL (by kernel_rfl)
 | 3,_=>exact (Wp n1 w wi dr lo rd r s).toCL (by kernel_rfl)
 | 4,_=>exact (Wq n1 w wi dr lo rd r s).toCL (by kernel_rfl)
 | 5,_=>exact (Ws n1 w wi dr lo rd r s).toCL (by kernel_rfl)
theorem TH (nn:Bool)(N:Nat)(rs:Nat->ResD)(n1:Bool)(w:Nat->Int)(wi dr lo:Int)(hN:N<=100000)(hI:Inc 6 w)
  (hw: -99<=lo/\lo<=dr/\dr<=wi/\wi<=99) (hr:∀ i,i<N->B5 (rs i)=0/\inW 6 w (rs i).home=true/\inW 6 w (rs i).away=true):
  sP 26 [EV.isl nn 13 N fun i=>(rs i).cells,nums n1 6 w,EV.int .i64 wi,EV.int .i64 dr,EV.int .i64 lo] (EV.tuple [EV.isl true 11 6 fun i=>(Az 6 w wi dr lo rs N i).cells,EV.int .i64 0]):=by
 obtain ⟨r_,rfl,h⟩:=SemL.ex (P:=prog) (G:=globs') (rnd:=false) (c:=cB (cB (cR (AB prog 100)))) (X:=Nat) (fun i=>frame 44 [(0,.it 11),(5,(EV.isl nn 13 N fun i=>(rs i).cells)),(6,.int .i64 N),(7,.int .i64 i)]) (fun i=>AI 6 n1 w wi dr lo (Az 6 w wi dr lo rs i) .ready []) N (fun i x=>x=i)
  (fun r=>r=(EX.leave 0,frame 44 [],AI 6 n1 w wi dr lo (Az 6 w wi dr lo rs N) .ready [])) (by
   rintro i j hi (hj:j=i)
   subst hj
   obtain ⟨_,h1,h2⟩:=hr j hi
   obtain ⟨r,h,⟨rfl,_⟩ | ⟨_,hx⟩⟩:=AAs nn N rs n1 w wi dr lo (Az 6 w wi dr lo rs j) (j:Int) (Bk 6 w (rs j).home) (Bk 6 w (rs j).away) _ _ (by omega) hN
    (fun _=>DW hI h1) (fun _=>DW hI h2) (fun _=>AC1 n1 w wi dr lo _ (rs j) (rs j).homeS _ (Cv h1).1) (fun _=>AC2 n1 w wi dr lo _ (rs j) (rs j).awayS _ (Cv h2).1)
   ·exact .inl ⟨j+1,rfl,h⟩
   ·omega) (by
   rintro j (hj:j=N)
   subst hj
   obtain ⟨r,h,⟨_,hx⟩ | ⟨rfl,_⟩⟩:=AAs nn j rs n1 w wi dr lo (Az 6 w wi dr lo rs j) (j:Int) 0 0 (FJ w) (FJ w) (by omega) hN (fun h=>by omega) (fun h=>by omega) (fun h=>by omega) (fun h=>by omega)
   ·omega
   ·exact ⟨_,rfl,by simp,h⟩) N 0 0 (by omega) rfl
 have hf:=sf6 nn N rs n1 w wi dr lo (FJ w) (Az 6 w wi dr lo rs N) (h.toCL (by kernel_rfl))
 have hc:=DA nn N rs n1 6 w wi dr lo hN hI (by omega) (by omega) hw (fun i hi=>(hr i hi).1)
 refine (AAz nn N rs n1 w wi dr lo (Az 6 w wi dr lo rs N) (hI.lt (i:=0) (j:=1) (by omega) (by omega)) (hI.lt (i:=0) (j:=2) (by omega) (by omega)) (hI.lt (i:=1) (j:=2) (by omega) (by omega)) (hI.lt (i:=0) (j:=3) (by omega) (by omega)) (hI.lt (i:=1) (j:=3) (by omega) (by omega)) (hI.lt (i:=2) (j:=3) (by omega) (by omega)) (hI.lt (i:=0) (j:=4) (by omega) (by omega)) (hI.lt (i:=1) (j:=4) (by omega) (by omega)) (hI.lt (i:=2) (j:=4) (by omega) (by omega)) (hI.lt (i:=3) (j:=4) (by omega) (by omega)) (hI.lt (i:=0) (j:=5) (by omega) (by omega)) (hI.lt (i:=1) (j:=5) (by omega) (by omega)) (hI.lt (i:=2) (j:=5) (by omega) (by omega)) (hI.lt (i:=3) (j:=5) (by omega) (by omega)) (hI.lt (i:=4) (j:=5) (by omega) (by omega)) hc hf).res (PLe.tuple2 (PLe.isl fun i hi=>?_) (.refl _))
 match i,hi with
  | 0,_=>rfl
  | 1,_=>rfl
  | 2,_=>rfl
  | 3,_=>rfl
  | 4,_=>rfl
  | 5,_=>rfl
theorem AC3 (n1:Bool)(w:Nat->Int)(wi dr lo:Int)(rd:Nat->RowD)(r:ResD)(s:SideD)(j:Nat)(hj:j<7):
  SemCL prog globs' true (cR (cR (cB An))) (frame 77 [(12,.ptr 2 0),(16,.ptr 14 0),(17,.ptr (5+j) 0)]) (AI 7 n1 w wi dr lo rd .busy [.var false true r.cells,.var false true s.cells]) (EX.normal,frame 77 [],AI 7 n1 w wi dr lo (DB rd j (AN wi dr lo s (rd j))) .busy [.var false true r.cells,.dead]):=by
 match j,hj with
 | 0,_=>exact (Wt n1 w wi dr lo rd r s).toCL (by kernel_rfl)
 | 1,_=>exact (Wu n1 w wi dr lo rd r s).toCL (by kernel_rfl)
 | 2,_=>exact (Wv n1 w wi dr lo rd r s).toCL (by kernel_rfl)
 | 3,_=>exact (Ww n1 w wi dr lo rd r s).toCL (by kernel_rfl)
 | 4,_=>exact (Wx n1 w wi dr lo rd r s).toCL (by kernel_rfl)
 | 5,_=>exact (Wy n1 w wi dr lo rd r s).toCL (by kernel_rfl)
 | 6,_=>exact (Wz n1 w wi dr lo rd r s).toCL (by kernel_rfl)
theorem AC4 (n1:Bool)(w:Nat->Int)(wi dr lo:Int)(rd:Nat->RowD)(r:ResD)(s:SideD)(j:Nat)(hj:j<7):
  SemCL prog globs' true (cR (cR (cB An))) (frame 77 [(12,.ptr 2 0),(16,.ptr 15 0),(17,.ptr (5+j) 0)]) (AI 7 n1 w wi dr lo rd .busy [.var false true r.cells,.dead,.var false true s.cells]) (EX.normal,frame 77 [],AI 7 n1 w wi dr lo (DB rd j (AN wi dr lo s (rd j))) .busy [.var false true r.cells,.dead,.dead]):=by
 match j,hj with
 | 0,_=>exact (W0 n1 w wi dr lo rd r s).toCL (by kernel_rfl)
 | 1,_=>exact (W1 n1 w wi dr lo rd r s).toCL (by kernel_rfl)
 | 2,_=>exact (W2 n1 w wi dr lo rd r s).toCL (by kernel_rfl)
 | 3,_=>exact (W3 n1 w wi dr lo rd r s).toCL (by kernel_rfl)
 | 4,_=>exact (W4 n1 w wi dr lo rd r s).toCL (by kernel_rfl)
 | 5,_=>exact (W5 n1 w wi dr lo rd r s).toCL (by kernel_rfl)
 | 6,_=>exact (W6 n1 w wi dr lo rd r s).toCL (by kernel_rfl)
theorem TI (nn:Bool)(N:Nat)(rs:Nat->ResD)(n1:Bool)(w:Nat->Int)(wi dr lo:Int)(hN:N<=100000)(hI:Inc 7 w)
  (hw: -99<=lo/\lo<=dr/\dr<=wi/\wi<=99) (hr:∀ i,i<N->B5 (rs i)=0/\inW 7 w (rs i).home=true/\inW 7 w (rs i).away=true):
  sP 26 [EV.isl nn 13 N fun i=>(rs i).cells,nums n1 7 w,EV.int .i64 wi,EV.int .i64 dr,EV.int .i64 lo] (EV.tuple [EV.isl true 11 7 fun i=>(Az 7 w wi dr lo rs N i).cells,EV.int .i64 0]):=by
 obtain ⟨r_,rfl,h⟩:=SemL.ex (P:=prog) (G:=globs') (rnd:=false) (c:=cB (cB (cR (AB prog 100)))) (X:=Nat) (fun i=>frame 44 [(0,.it 12),(5,(EV.isl nn 13 N fun i=>(rs i).cells)),(6,.int .i64 N),(7,.int .i64 i)]) (fun i=>AI 7 n1 w wi dr lo (Az 7 w wi dr lo rs i) .ready []) N (fun i x=>x=i)
  (fun r=>r=(EX.leave 0,frame 44 [],AI 7 n1 w wi dr lo (Az 7 w wi dr lo rs N) .ready [])) (by
   rintro i j hi (hj:j=i)
   subst hj
   obtain ⟨_,h1,h2⟩:=hr j hi
   obtain ⟨r,h,⟨rfl,_⟩ | ⟨_,hx⟩⟩:=AAt nn N rs n1 w wi dr lo (Az 7 w wi dr lo rs j) (j:Int) (Bk 7 w (rs j).home) (Bk 7 w (rs j).away) _ _ (by omega) hN
    (fun _=>DW hI h1) (fun _=>DW hI h2) (fun _=>AC3 n1 w wi dr lo _ (rs j) (rs j).homeS _ (Cv h1).1) (fun _=>AC4 n1 w wi dr lo _ (rs j) (rs j).awayS _ (Cv h2).1)
   ·exact .inl ⟨j+1,rfl,h⟩
   ·omega) (by
   rintro j (hj:j=N)
   subst hj
   obtain ⟨r,h,⟨_,hx⟩ | ⟨rfl,_⟩⟩:=AAt nn j rs n1 w wi dr lo (Az 7 w wi dr lo rs j) (j:Int) 0 0 (FJ w) (FJ w) (by omega) hN (fun h=>by omega) (fun h=>by omega) (fun h=>by omega) (fun h=>by omega)
   ·omega
   ·exact ⟨_,rfl,by simp,h⟩) N 0 0 (by omega) rfl
 have hf:=sf7 nn N rs n1 w wi dr lo (FJ w) (Az 7 w wi dr lo rs N) (h.toCL (by kernel_rfl))
 have hc:=DA nn N rs n1 7 w wi dr lo hN hI (by omega) (by omega) hw (fun i hi=>(hr i hi).1)
 refine (AA0 nn N rs n1 w wi dr lo (Az 7 w wi dr lo rs N) (hI.lt (i:=0) (j:=1) (by omega) (by omega)) (hI.lt (i:=0) (j:=2) (by omega) (by omega)) (hI.lt (i:=1) (j:=2) (by omega) (by omega)) (hI.lt (i:=0) (j:=3) (by omega) (by omega)) (hI.lt (i:=1) (j:=3) (by omega) (by omega)) (hI.lt (i:=2) (j:=3) (by omega) (by omega)) (hI.lt (i:=0) (j:=4) (by omega) (by omega)) (hI.lt (i:=1) (j:=4) (by omega) (by omega)) (hI.lt (i:=2) (j:=4) (by omega) (by omega)) (hI.lt (i:=3) (j:=4) (by omega) (by omega)) (hI.lt (i:=0) (j:=5) (by omega) (by omega)) (hI.lt (i:=1) (j:=5) (by omega) (by omega)) (hI.lt (i:=2) (j:=5) (by omega) (by omega)) (hI.lt (i:=3) (j:=5) (by omega) (by omega)) (hI.lt (i:=4) (j:=5) (by omega) (by omega)) (hI.lt (i:=0) (j:=6) (by omega) (by omega)) (hI.lt (i:=1) (j:=6) (by omega) (by omega)) (hI.lt (i:=2) (j:=6) (by omega) (by omega)) (hI.lt (i:=3) (j:=6) (by omega) (by omega)) (hI.lt (i:=4) (j:=6) (by omega) (by omega)) (hI.lt (i:=5) (j:=6) (by omega) (by omega)) hc hf).res (PLe.tuple2 (PLe.isl fun i hi=>?_) (.refl _))
 match i,hi with
  | 0,_=>rfl
  | 1,_=>rfl
  | 2,_=>rfl
  | 3,_=>rfl
  | 4,_=>rfl
  | 5,_=>rfl
  | 6,_=>rfl
theorem AC5 (n1:Bool)(w:Nat->Int)(wi dr lo:Int)(rd:Nat->RowD)(r:ResD)(s:SideD)(j:Nat)(hj:j<8):
  SemCL prog globs' true (cR (cR (cB An))) (frame 77 [(12,.ptr 2 0),(16,.ptr 15 0),(17,.ptr (5+j) 0)]) (AI 8 n1 w wi dr lo rd .busy [.var false true r.cells,.var false true s.cells]) (EX.normal,frame 77 [],AI 8 n1 w wi dr lo (DB rd j (AN wi dr lo s (rd j))) .busy [.var false true r.cells,.dead]):=by
 match j,hj with
 | 0,_=>exact (W7 n1 w wi dr lo rd r s).toCL (by kernel_rfl)
 | 1,_=>exact (W8 n1 w wi dr lo rd r s).toCL (by kernel_rfl)
 | 2,_=>exact (W9 n1 w wi dr lo rd r s).toCL (by kernel_rfl)
 | 3,_=>exact (XA n1 w wi dr lo rd r s).toCL (by kernel_rfl)
 | 4,_=>exact (XB n1 w wi dr lo rd r s).toCL (by kernel_rfl)
 | 5,_=>exact (XC n1 w wi dr lo rd r s).toCL (by kernel_rfl)
 | 6,_=>exact (XD n1 w wi dr lo rd r s).toCL (by kernel_rfl)
 | 7,_=>exact (XE n1 w wi dr lo rd r s).toCL (by kernel_rfl)
theorem AC6 (n1:Bool)(w:Nat->Int)(wi dr lo:Int)(rd:Nat->RowD)(r:ResD)(s:SideD)(j:Nat)(hj:j<8):
  SemCL prog globs' true (cR (cR (cB An))) (frame 77 [(12,.ptr 2 0),(16,.ptr 16 0),(17,.ptr (5+j) 0)]) (AI 8 n1 w wi dr lo rd .busy [.var false true r.cells,.dead,.var false true s.cells]) (EX.normal,frame 77 [],AI 8 n1 w wi dr lo (DB rd j (AN wi dr lo s (rd j))) .busy [.var false true r.cells,.dead,.dead]):=by
 match j,hj with
 | 0,_=>exact (XF n1 w wi dr lo rd r s).toCL (by kernel_rfl)
 | 1,_=>exact (XG n1 w wi dr lo rd r s).toCL (by kernel_rfl)
 | 2,_=>exact (XH n1 w wi dr lo rd r s).toCL (by kernel_rfl)
 | 3,_=>exact (XI n1 w wi dr lo rd r s).toCL (by kernel_rfl)
 | 4,_=>exact (XJ n1 w wi dr lo rd r s).toCL (by kernel_rfl)
 | 5,_=>exact (XK n1 w wi dr lo rd r s).toCL (by kernel_rfl)
 | 6,_=>exact (XL n1 w wi dr lo rd r s).toCL (by kernel_rfl)
 | 7,_=>exact (XM n1 w wi dr lo rd r s).toCL (by kernel_rfl)
theorem TJ (nn:Bool)(N:Nat)(rs:Nat->ResD)(n1:Bool)(w:Nat->Int)(wi dr lo:Int)(hN:N<=100000)(hI:Inc 8 w)
  (hw: -99<=lo/\lo<=dr/\dr<=wi/\wi<=99) (hr:∀ i,i<N->B5 (rs i)=0/\inW 8 w (rs i).home=true/\inW 8 w (rs i).away=true):
  sP 26 [EV.isl nn 13 N fun i=>(rs i).cells,nums n1 8 w,EV.int .i64 wi,EV.int .i64 dr,EV.int .i64 lo] (EV.tuple [EV.isl true 11 8 fun i=>(Az 8 w wi dr lo rs N i).cells,EV.int .i64 0]):=by
 obtain ⟨r_,rfl,h⟩:=SemL.ex (P:=prog) (G:=globs') (rnd:=false) (c:=cB (cB (cR (AB prog 100)))) (X:=Nat) (fun i=>frame 44 [(0,.it 13),(5,(EV.isl nn 13 N fun i=>(rs i).cells)),(6,.int .i64 N),(7,.int .i64 i)]) (fun i=>AI 8 n1 w wi dr lo (Az 8 w wi dr lo rs i) .ready []) N (fun i x=>x=i)
  (fun r=>r=(EX.leave 0,frame 44 [],AI 8 n1 w wi dr lo (Az 8 w wi dr lo rs N) .ready [])) (by
   rintro i j hi (hj:j=i)
   subst hj
   obtain ⟨_,h1,h2⟩:=hr j hi
   obtain ⟨r,h,⟨rfl,_⟩ | ⟨_,hx⟩⟩:=AAu nn N rs n1 w wi dr lo (Az 8 w wi dr lo rs j) (j:Int) (Bk 8 w (rs j).home) (Bk 8 w (rs j).away) _ _ (by omega) hN
    (fun _=>DW hI h1) (fun _=>DW hI h2) (fun _=>AC5 n1 w wi dr lo _ (rs j) (rs j).homeS _ (Cv h1).1) (fun _=>AC6 n1 w wi dr lo _ (rs j) (rs j).awayS _ (Cv h2).1)
   ·exact .inl ⟨j+1,rfl,h⟩
   ·omega) (by
   rintro j (hj:j=N)
   subst hj
   obtain ⟨r,h,⟨_,hx⟩ | ⟨rfl,_⟩⟩:=AAu nn j rs n1 w wi dr lo (Az 8 w wi dr lo rs j) (j:Int) 0 0 (FJ w) (FJ w) (by omega) hN (fun h=>by omega) (fun h=>by omega) (fun h=>by omega) (fun h=>by omega)
   ·omega
   ·exact ⟨_,rfl,by simp,h⟩) N 0 0 (by omega) rfl
 have hf:=sf8 nn N rs n1 w wi dr lo (FJ w) (Az 8 w wi dr lo rs N) (h.toCL (by kernel_rfl))
 have hc:=DA nn N rs n1 8 w wi dr lo hN hI (by omega) (by omega) hw (fun i hi=>(hr i hi).1)
 refine (AA1 nn N rs n1 w wi dr lo (Az 8 w wi dr lo rs N) (hI.lt (i:=0) (j:=1) (by omega) (by omega)) (hI.lt (i:=0) (j:=2) (by omega) (by omega)) (hI.lt (i:=1) (j:=2) (by omega) (by omega)) (hI.lt (i:=0) (j:=3) (by omega) (by omega)) (hI.lt (i:=1) (j:=3) (by omega) (by omega)) (hI.lt (i:=2) (j:=3) (by omega) (by omega)) (hI.lt (i:=0) (j:=4) (by omega) (by omega)) (hI.lt (i:=1) (j:=4) (by omega) (by omega)) (hI.lt (i:=2) (j:=4) (by omega) (by omega)) (hI.lt (i:=3) (j:=4) (by omega) (by omega)) (hI.lt (i:=0) (j:=5) (by omega) (by omega)) (hI.lt (i:=1) (j:=5) (by omega) (by omega)) (hI.lt (i:=2) (j:=5) (by omega) (by omega)) (hI.lt (i:=3) (j:=5) (by omega) (by omega)) (hI.lt (i:=4) (j:=5) (by omega) (by omega)) (hI.lt (i:=0) (j:=6) (by omega) (by omega)) (hI.lt (i:=1) (j:=6) (by omega) (by omega)) (hI.lt (i:=2) (j:=6) (by omega) (by omega)) (hI.lt (i:=3) (j:=6) (by omega) (by omega)) (hI.lt (i:=4) (j:=6) (by omega) (by omega)) (hI.lt (i:=5) (j:=6) (by omega) (by omega)) (hI.lt (i:=0) (j:=7) (by omega) (by omega)) (hI.lt (i:=1) (j:=7) (by omega) (by omega)) (hI.lt (i:=2) (j:=7) (by omega) (by omega)) (hI.lt (i:=3) (j:=7) (by omega) (by omega)) (hI.lt (i:=4) (j:=7) (by omega) (by omega)) (hI.lt (i:=5) (j:=7) (by omega) (by omega)) (hI.lt (i:=6) (j:=7) (by omega) (by omega)) hc hf).res (PLe.tuple2 (PLe.isl fun i hi=>?_) (.refl _))
 match i,hi with
  | 0,_=>rfl
  | 1,_=>rfl
  | 2,_=>rfl
  | 3,_=>rfl
  | 4,_=>rfl
  | 5,_=>rfl
  | 6,_=>rfl
  | 7,_=>rfl
theorem QC (n:Nat)(hn:2<=n/\n<=8)(nn:Bool)(N:Nat)(rs:Nat->ResD)(n1:Bool)(w:Nat->Int)(wi dr lo:Int)(hN:N<=100000)(hI:Inc n w)
  (hw: -99<=lo/\lo<=dr/\dr<=wi/\wi<=99) (hr:∀ i,i<N->B5 (rs i)=0/\inW n w (rs i).home=true/\inW n w (rs i).away=true):
  sP 26 [EV.isl nn 13 N fun i=>(rs i).cells,nums n1 n w,EV.int .i64 wi,EV.int .i64 dr,EV.int .i64 lo] (EV.tuple [EV.isl true 11 n fun i=>(Az n w wi dr lo rs N i).cells,EV.int .i64 0]):=by
 match n,hn,hI,hr with
 | 2,_,hI,hr=>exact TD nn N rs n1 w wi dr lo hN hI hw hr
 | 3,_,hI,hr=>exact TE nn N rs n1 w wi dr lo hN hI hw hr
 | 4,_,hI,hr=>exact TF nn N rs n1 w wi dr lo hN hI hw hr
 | 5,_,hI,hr=>exact TG nn N rs n1 w wi dr lo hN hI hw hr
 | 6,_,hI,hr=>exact TH nn N rs n1 w wi dr lo hN hI hw hr
 | 7,_,hI,hr=>exact TI nn N rs n1 w wi dr lo hN hI hw hr
 | 8,_,hI,hr=>exact TJ nn N rs n1 w wi dr lo hN hI hw hr
def swB (n l h:Int):Bool:=bif Decidable.decide (l<=n) then Decidable.decide (n<=h) else false
theorem swi (n:Int)(l:Int)(h:Int):sP 345 (Ak n l h) (bv (bif decide (l<=n) then decide (n<=h) else false)):=
 kP [] (.mk [] [(3,.fork true (decide (l<=n)) 64 7 0 0 (.mk (dS 65536) [] [] [] []) (.mk (dS 65536) [] [] [] []))] [] [] []) KOk.nil .nil
abbrev C2:=EV.im [(iv 1,ag [fc (330) [] []]),(iv 2,ag [fc (331) [] []]),(iv 3,ag [fc (332) [] []]),(iv 5,ag [fc (333) [] []]),(iv 4,ag [fc (334) [] []]),(iv 6,ag [fc (335) [] []]),(iv 7,ag [fc (336) [] []]),(iv 8,ag [fc (330) [] []]),(iv 9,ag [fc (331) [] []]),(iv 10,ag [fc (332) [] []]),(iv 11,ag [fc (333) [] []])]
theorem MM:sP 297 [] (C2):=
 kP [] (.mk [] [] [] [] []) KOk.nil .nil
abbrev AE0 (a0:RowD):=IntKind.i64.wrap (120*a0.played)
abbrev CT (a0:RowD):=IntKind.i64.wrap (99*a0.played)
abbrev BP (a0:RowD):=bif !swB a0.club 0 191 then !swB a0.club 0 191 else bif !swB a0.played 0 1048576 then !swB a0.played 0 1048576 else bif !swB a0.won 0 a0.played then !swB a0.won 0 a0.played else bif !swB a0.drawn 0 a0.played then !swB a0.drawn 0 a0.played else bif !swB a0.lost 0 a0.played then !swB a0.lost 0 a0.played else bif IntKind.i64.wrap (IntKind.i64.wrap (a0.won+a0.drawn)+a0.lost) != a0.played then IntKind.i64.wrap (IntKind.i64.wrap (a0.won+a0.drawn)+a0.lost) != a0.played else bif !swB a0.for' 0 (IntKind.i64.wrap (99*a0.played)) then !swB a0.for' 0 (IntKind.i64.wrap (99*a0.played)) else bif !swB a0.against 0 (IntKind.i64.wrap (99*a0.played)) then !swB a0.against 0 (IntKind.i64.wrap (99*a0.played)) else bif !swB a0.awayFor 0 a0.for' then !swB a0.awayFor 0 a0.for' else bif !swB a0.awayWon 0 a0.won then !swB a0.awayWon 0 a0.won else bif !swB a0.cards 0 (IntKind.i64.wrap (120*a0.played)) then !swB a0.cards 0 (IntKind.i64.wrap (120*a0.played)) else !swB a0.points (IntKind.i64.wrap (-99*a0.played)) (IntKind.i64.wrap (99*a0.played))
abbrev Gs (a0:RowD):=!swB a0.awayWon 0 a0.won
abbrev Ez (a0:RowD):=!swB a0.awayFor 0 a0.for'
abbrev BR (a0:RowD):=!swB a0.club 0 191
abbrev Cm (a0:RowD):=!swB a0.lost 0 a0.played
abbrev CH (a0:RowD):=!swB a0.drawn 0 a0.played
abbrev Br (a0:RowD):=!swB a0.won 0 a0.played
abbrev Bi (a0:RowD):=!swB a0.played 0 1048576
abbrev E0 (a0:RowD):=!swB a0.against 0 (IntKind.i64.wrap (99*a0.played))
abbrev Ds (a0:RowD):=!swB a0.for' 0 (IntKind.i64.wrap (99*a0.played))
abbrev Cn (a0:RowD):=IntKind.i64.wrap (IntKind.i64.wrap (a0.won+a0.drawn)+a0.lost) != a0.played
theorem AC7 (r:RowD):sP 299 [ag r.cells] (iv (bif bif !swB r.club 0 191 then !swB r.club 0 191 else bif !swB r.played 0 1048576 then !swB r.played 0 1048576 else bif !swB r.won 0 r.played then !swB r.won 0 r.played else bif !swB r.drawn 0 r.played then !swB r.drawn 0 r.played else bif !swB r.lost 0 r.played then !swB r.lost 0 r.played else bif IntKind.i64.wrap (IntKind.i64.wrap (r.won+r.drawn)+r.lost) != r.played then IntKind.i64.wrap (IntKind.i64.wrap (r.won+r.drawn)+r.lost) != r.played else bif !swB r.for' 0 (CT r) then !swB r.for' 0 (CT r) else bif !swB r.against 0 (CT r) then !swB r.against 0 (CT r) else bif !swB r.awayFor 0 r.for' then !swB r.awayFor 0 r.for' else bif !swB r.awayWon 0 r.won then !swB r.awayWon 0 r.won else bif !swB r.cards 0 (AE0 r) then !swB r.cards 0 (AE0 r) else !swB r.points (IntKind.i64.wrap (-99*r.played)) (CT r) then 1 else 0)):=
 kP [] (.mk [] [(0,.fork true (BP r) 4 0 0 0 (.mk (dS 16) [(11,.fork true (BR r) 128 8063 0 1 (.mk (dS 16) [] [] [] []) (.mk (dS 16) [(3,.fork true (Bi r) 128 130943 0 1 (.mk (dS 16) [] [] [] []) (.mk (dS 16) [(3,.fork true (Br r) 128 8388479 0 1 (.mk (dS 16) [] [] [] []) (.mk (dS 16) [(3,.fork true (CH r) 128 536870783 0 1 (.mk (dS 16) [] [] [] []) (.mk (dS 16) [(3,.fork true (Cm r) 128 34359738239 0 1 (.mk (dS 16) [] [] [] []) (.mk (dS 4300) [(3,.fork true (Cn r) 128 35184372088703 0 1 (.mk (dS 16) [] [] [] []) (.mk (dS 268) [(3,.fork true (!swB r.for' 0 (CT r)) 128 4503599627370367 0 1 (.mk (dS 16) [] [] [] []) (.mk (dS 268) [(3,.fork true (!swB r.against 0 (CT r)) 128 576460752303423359 0 1 (.mk (dS 16) [] [] [] []) (.mk (dS 16) [(3,.fork true (Ez r) 128 73786976294838206335 0 1 (.mk (dS 16) [] [] [] []) (.mk (dS 16) [(3,.fork true (Gs r) 128 9444732965739290427263 0 1 (.mk (dS 16) [] [] [] []) (.mk (dS 268) [(3,.fork true (!swB r.cards 0 (AE0 r)) 128 1208925819614629174706047 0 1 (.mk (dS 16) [] [] [] []) (.mk (dS 4300) [] [some (bv (swB r.points (IntKind.i64.wrap (-99*r.played)) (CT r)))] [] []))] [some (bv (swB r.cards 0 (AE0 r)))] [] []))] [some (bv (swB r.awayWon 0 r.won))] [] []))] [some (bv (swB r.awayFor 0 r.for'))] [] []))] [some (bv (swB r.against 0 (CT r)))] [] []))] [some (bv (swB r.for' 0 (CT r)))] [] []))] [] [] []))] [some (bv (swB r.lost 0 r.played))] [] []))] [some (bv (swB r.drawn 0 r.played))] [] []))] [some (bv (swB r.won 0 r.played))] [] []))] [some (bv (swB r.played 0 1048576))] [] []))] [some (bv (swB r.club 0 191))] [] []) (.mk (dS 16) [(11,.fork true (BR r) 128 8063 0 1 (.mk (dS 16) [] [] [] []) (.mk (dS 16) [(3,.fork true (Bi r) 128 130943 0 1 (.mk (dS 16) [] [] [] []) (.mk (dS 16) [(3,.fork true (Br r) 128 8388479 0 1 (.mk (dS 16) [] [] [] []) (.mk (dS 16) [(3,.fork true (CH r) 128 536870783 0 1 (.mk (dS 16) [] [] [] []) (.mk (dS 16) [(3,.fork true (Cm r) 128 34359738239 0 1 (.mk (dS 16) [] [] [] []) (.mk (dS 4300) [(3,.fork true (Cn r) 128 35184372088703 0 1 (.mk (dS 16) [] [] [] []) (.mk (dS 268) [(3,.fork true (!swB r.for' 0 (CT r)) 128 4503599627370367 0 1 (.mk (dS 16) [] [] [] []) (.mk (dS 268) [(3,.fork true (!swB r.against 0 (CT r)) 128 576460752303423359 0 1 (.mk (dS 16) [] [] [] []) (.mk (dS 16) [(3,.fork true (Ez r) 128 73786976294838206335 0 1 (.mk (dS 16) [] [] [] []) (.mk (dS 16) [(3,.fork true (Gs r) 128 9444732965739290427263 0 1 (.mk (dS 16) [] [] [] []) (.mk (dS 268) [(3,.fork true (!swB r.cards 0 (AE0 r)) 128 1208925819614629174706047 0 1 (.mk (dS 16) [] [] [] []) (.mk (dS 4300) [] [some (bv (swB r.points (IntKind.i64.wrap (-99*r.played)) (CT r)))] [] []))] [some (bv (swB r.cards 0 (AE0 r)))] [] []))] [some (bv (swB r.awayWon 0 r.won))] [] []))] [some (bv (swB r.awayFor 0 r.for'))] [] []))] [some (bv (swB r.against 0 (CT r)))] [] []))] [some (bv (swB r.for' 0 (CT r)))] [] []))] [] [] []))] [some (bv (swB r.lost 0 r.played))] [] []))] [some (bv (swB r.drawn 0 r.played))] [] []))] [some (bv (swB r.won 0 r.played))] [] []))] [some (bv (swB r.played 0 1048576))] [] []))] [some (bv (swB r.club 0 191))] [] []))] [] [] []) KOk.nil (oT ((BP r)=true->((BR r)=false->((Bi r)=false->((Br r)=false->((CH r)=false->((Cm r)=false->((Cn r)=false->((Ds r)=false->((E0 r)=false->((Ez r)=false->((Gs r)=false->((!swB r.cards 0 (IntKind.i64.wrap (120*r.played)))=false->sP 345 [iv r.points,iv (IntKind.i64.wrap (-99*r.played)),iv (IntKind.i64.wrap (99*r.played))] (bv (swB r.points (IntKind.i64.wrap (-99*r.played)) (IntKind.i64.wrap (99*r.played)))))))))))))))) (fun _=>(fun _=>(fun _=>(fun _=>(fun _=>(fun _=>(fun _=>(fun _=>(fun _=>(fun _=>(fun _=>(fun _=>(swi _ _ _))))))))))))) (oT ((BP r)=true->((BR r)=false->((Bi r)=false->((Br r)=false->((CH r)=false->((Cm r)=false->((Cn r)=false->((Ds r)=false->((E0 r)=false->((Ez r)=false->((Gs r)=false->sP 345 [iv r.cards,iv 0,iv (IntKind.i64.wrap (120*r.played))] (bv (swB r.cards 0 (IntKind.i64.wrap (120*r.played))))))))))))))) (fun _=>(fun _=>(fun _=>(fun _=>(fun _=>(fun _=>(fun _=>(fun _=>(fun _=>(fun _=>(fun _=>(swi _ _ _)))))))))))) (oT ((BP r)=true->((BR r)=false->((Bi r)=false->((Br r)=false->((CH r)=false->((Cm r)=false->((Cn r)=false->((Ds r)=false->((E0 r)=false->((Ez r)=false->sP 345 [iv r.awayWon,iv 0,iv r.won] (bv (swB r.awayWon 0 r.won)))))))))))) (fun _=>(fun _=>(fun _=>(fun _=>(fun _=>(fun _=>(fun _=>(fun _=>(fun _=>(fun _=>(swi _ _ _))))))))))) (oT ((BP r)=true->((BR r)=false->((Bi r)=false->((Br r)=false->((CH r)=false->((Cm r)=false->((Cn r)=false->((Ds r)=false->((E0 r)=false->sP 345 [iv r.awayFor,iv 0,iv r.for'] (bv (swB r.awayFor 0 r.for'))))))))))) (fun _=>(fun _=>(fun _=>(fun _=>(fun _=>(fun _=>(fun _=>(fun _=>(fun _=>(swi _ _ _)))))))))) (oT ((BP r)=true->((BR r)=false->((Bi r)=false->((Br r)=false->((CH r)=false->((Cm r)=false->((Cn r)=false->((Ds r)=false->sP 345 [iv r.against,iv 0,iv (IntKind.i64.wrap (99*r.played))] (bv (swB r.against 0 (IntKind.i64.wrap (99*r.played)))))))))))) (fun _=>(fun _=>(fun _=>(fun _=>(fun _=>(fun _=>(fun _=>(fun _=>(swi _ _ _))))))))) (oT ((BP r)=true->((BR r)=false->((Bi r)=false->((Br r)=false->((CH r)=false->((Cm r)=false->((Cn r)=false->sP 345 [iv r.for',iv 0,iv (IntKind.i64.wrap (99*r.played))] (bv (swB r.for' 0 (IntKind.i64.wrap (99*r.played))))))))))) (fun _=>(fun _=>(fun _=>(fun _=>(fun _=>(fun _=>(fun _=>(swi _ _ _)))))))) (oT ((BP r)=true->((BR r)=false->((Bi r)=false->((Br r)=false->((CH r)=false->sP 345 [iv r.lost,iv 0,iv r.played] (bv (swB r.lost 0 r.played))))))) (fun _=>(fun _=>(fun _=>(fun _=>(fun _=>(swi _ _ _)))))) (oT ((BP r)=true->((BR r)=false->((Bi r)=false->((Br r)=false->sP 345 [iv r.drawn,iv 0,iv r.played] (bv (swB r.drawn 0 r.played)))))) (fun _=>(fun _=>(fun _=>(fun _=>(swi _ _ _))))) (oT ((BP r)=true->((BR r)=false->((Bi r)=false->sP 345 [iv r.won,iv 0,iv r.played] (bv (swB r.won 0 r.played))))) (fun _=>(fun _=>(fun _=>(swi _ _ _)))) (oT ((BP r)=true->((BR r)=false->sP 345 [iv r.played,iv 0,iv 1048576] (bv (swB r.played 0 1048576)))) (fun _=>(fun _=>(swi _ _ _))) (oT ((BP r)=true->sP 345 [iv r.club,iv 0,iv 191] (bv (swB r.club 0 191))) (fun _=>(swi _ _ _)) (oT ((BP r)=false->((BR r)=false->((Bi r)=false->((Br r)=false->((CH r)=false->((Cm r)=false->((Cn r)=false->((Ds r)=false->((E0 r)=false->((Ez r)=false->((Gs r)=false->((!swB r.cards 0 (IntKind.i64.wrap (120*r.played)))=false->sP 345 [iv r.points,iv (IntKind.i64.wrap (-99*r.played)),iv (IntKind.i64.wrap (99*r.played))] (bv (swB r.points (IntKind.i64.wrap (-99*r.played)) (IntKind.i64.wrap (99*r.played)))))))))))))))) (fun _=>(fun _=>(fun _=>(fun _=>(fun _=>(fun _=>(fun _=>(fun _=>(fun _=>(fun _=>(fun _=>(fun _=>(swi _ _ _))))))))))))) (oT ((BP r)=false->((BR r)=false->((Bi r)=false->((Br r)=false->((CH r)=false->((Cm r)=false->((Cn r)=false->((Ds r)=false->((E0 r)=false->((Ez r)=false->((Gs r)=false->sP 345 [iv r.cards,iv 0,iv (IntKind.i64.wrap (120*r.played))] (bv (swB r.cards 0 (IntKind.i64.wrap (120*r.played))))))))))))))) (fun _=>(fun _=>(fun _=>(fun _=>(fun _=>(fun _=>(fun _=>(fun _=>(fun _=>(fun _=>(fun _=>(swi _ _ _)))))))))))) (oT ((BP r)=false->((BR r)=false->((Bi r)=false->((Br r)=false->((CH r)=false->((Cm r)=false->((Cn r)=false->((Ds r)=false->((E0 r)=false->((Ez r)=false->sP 345 [iv r.awayWon,iv 0,iv r.won] (bv (swB r.awayWon 0 r.won)))))))))))) (fun _=>(fun _=>(fun _=>(fun _=>(fun _=>(fun _=>(fun _=>(fun _=>(fun _=>(fun _=>(swi _ _ _))))))))))) (oT ((BP r)=false->((BR r)=false->((Bi r)=false->((Br r)=false->((CH r)=false->((Cm r)=false->((Cn r)=false->((Ds r)=false->((E0 r)=false->sP 345 [iv r.awayFor,iv 0,iv r.for'] (bv (swB r.awayFor 0 r.for'))))))))))) (fun _=>(fun _=>(fun _=>(fun _=>(fun _=>(fun _=>(fun _=>(fun _=>(fun _=>(swi _ _ _)))))))))) (oT ((BP r)=false->((BR r)=false->((Bi r)=false->((Br r)=false->((CH r)=false->((Cm r)=false->((Cn r)=false->((Ds r)=false->sP 345 [iv r.against,iv 0,iv (IntKind.i64.wrap (99*r.played))] (bv (swB r.against 0 (IntKind.i64.wrap (99*r.played)))))))))))) (fun _=>(fun _=>(fun _=>(fun _=>(fun _=>(fun _=>(fun _=>(fun _=>(swi _ _ _))))))))) (oT ((BP r)=false->((BR r)=false->((Bi r)=false->((Br r)=false->((CH r)=false->((Cm r)=false->((Cn r)=false->sP 345 [iv r.for',iv 0,iv (IntKind.i64.wrap (99*r.played))] (bv (swB r.for' 0 (IntKind.i64.wrap (99*r.played))))))))))) (fun _=>(fun _=>(fun _=>(fun _=>(fun _=>(fun _=>(fun _=>(swi _ _ _)))))))) (oT ((BP r)=false->((BR r)=false->((Bi r)=false->((Br r)=false->((CH r)=false->sP 345 [iv r.lost,iv 0,iv r.played] (bv (swB r.lost 0 r.played))))))) (fun _=>(fun _=>(fun _=>(fun _=>(fun _=>(swi _ _ _)))))) (oT ((BP r)=false->((BR r)=false->((Bi r)=false->((Br r)=false->sP 345 [iv r.drawn,iv 0,iv r.played] (bv (swB r.drawn 0 r.played)))))) (fun _=>(fun _=>(fun _=>(fun _=>(swi _ _ _))))) (oT ((BP r)=false->((BR r)=false->((Bi r)=false->sP 345 [iv r.won,iv 0,iv r.played] (bv (swB r.won 0 r.played))))) (fun _=>(fun _=>(fun _=>(swi _ _ _)))) (oT ((BP r)=false->((BR r)=false->sP 345 [iv r.played,iv 0,iv 1048576] (bv (swB r.played 0 1048576)))) (fun _=>(fun _=>(swi _ _ _))) (oT ((BP r)=false->sP 345 [iv r.club,iv 0,iv 191] (bv (swB r.club 0 191))) (fun _=>(swi _ _ _)) .nil))))))))))))))))))))))
abbrev TK (a0:RowD)(a1:Int):=[ag a0.cells,iv a1]
abbrev TL (a0:RowD)(a1:Int):=TK a0 a1
abbrev CI (a0:RowD)(a1:Int):=TL a0 a1
theorem Zg (r:RowD)(b:Int)(q0:DK b):sP 276 (CI r b) (iv r.points):=
 kP [[(b==1,true)]] (.mk (dS 16) [] [some (C2),none] [] []) (kO (kz q0 AD)) (.cons MM .nil)
theorem Zh (r:RowD)(b:Int)(q0:BG b)(q1:(b==2)=true):sP 276 (CI r b) (iv (IntKind.i64.wrap (r.for' - r.against))):=
 kP [[Ar b,(b==2,true)]] (.mk (dS 16843214) [] [some (C2),none] [] []) (kO (kz q0 (kz q1 AD))) (.cons MM .nil)
theorem Zi (r:RowD)(b:Int)(q0:BG b)(q1:(b==2)=false)(q2:(b==3)=true):sP 276 (CI r b) (iv r.for'):=
 kP [[Ar b,Bp b,(b==3,true)]] (.mk (dS 4114) [] [some (C2),none] [] []) (kO (kz q0 (kz q1 (kz q2 AD)))) (.cons MM .nil)
theorem Zj (r:RowD)(b:Int)(q0:BG b)(q1:(b==2)=false)(q2:(b==3)=false)(q3:(b==5)=true):sP 276 (CI r b) (iv r.awayFor):=
 kP [[Ar b,Bp b,(DL b),(b==5,true)]] (.mk (dS 65827) [] [some (C2),none] [] []) (kO (kz q0 (kz q1 (kz q2 (kz q3 AD))))) (.cons MM .nil)
section
variable (r:RowD)(b:Int)(q0:BG b)(q1:(b==2)=false)(q2:(b==3)=false)(q3:(b==5)=false)
include r b q0 q1 q2 q3
theorem Zk (q4:(b==4)=true):sP 276 (CI r b) (iv r.won):=
 kP [[Ar b,Bp b,(DL b),(b==5,false),(b==4,true)]] (.mk (dS 1053236) [] [some (C2),none] [] []) (kO (kz q0 (kz q1 (kz q2 (kz q3 (kz q4 AD)))))) (.cons MM .nil)
theorem Zl (q4:Cc b)(q5:(b==6)=true):sP 276 (CI r b) (iv r.awayWon):=
 kP [[Ar b,Bp b,(DL b),(b==5,false),BZ b,(b==6,true)]] (.mk (dS 16851781) [] [some (C2),none] [] []) (kO (kz q0 (kz q1 (kz q2 (kz q3 (kz q4 (kz q5 AD))))))) (.cons MM .nil)
theorem Zm (q4:Cc b)(q5:(b==6)=false)(q6:(b==7)=true):sP 276 (CI r b) (iv (IntKind.i64.wrap (0 - r.cards))):=
 kP [[Ar b,Bp b,(DL b),(b==5,false),BZ b,(b==6,false),(b==7,true)]] (.mk (dS 17670373507534) [] [some (C2),none] [] []) (kO (kz q0 (kz q1 (kz q2 (kz q3 (kz q4 (kz q5 (kz q6 AD)))))))) (.cons MM .nil)
theorem Zn (q4:Cc b)(q5:(b==6)=false)(q6:(b==7)=false)(q7:(b==8)=true):sP 276 (CI r b) (iv r.points):=
 kP [[Ar b,Bp b,(DL b),(b==5,false),BZ b,(b==6,false),(b==7,false),(b==8,true)]] (.mk (dS 4314056039) [] [some (C2),none] [] []) (kO (kz q0 (kz q1 (kz q2 (kz q3 (kz q4 (kz q5 (kz q6 (kz q7 AD))))))))) (.cons MM .nil)
end
section
variable (r:RowD)(b:Int)(q0:BG b)(q1:(b==2)=false)(q2:(b==3)=false)(q3:(b==5)=false)(q4:Cc b)(q5:(b==6)=false)(q6:(b==7)=false)(q7:(b==8)=false)
include r b q0 q1 q2 q3 q4 q5 q6 q7
theorem Zo (q8:(b==9)=true):sP 276 (CI r b) (iv (IntKind.i64.wrap (r.for' - r.against))):=
 kP [[Ar b,Bp b,(DL b),(b==5,false),BZ b,(b==6,false),(b==7,false),(b==8,false),(b==9,true)]] (.mk (dS 4523615625675214) [] [some (C2),none] [] []) (kO (kz q0 (kz q1 (kz q2 (kz q3 (kz q4 (kz q5 (kz q6 (kz q7 (kz q8 AD)))))))))) (.cons MM .nil)
theorem Zp (q8:(b==9)=false)(q9:(b==10)=true):sP 276 (CI r b) (iv r.for'):=
 kP [[Ar b,Bp b,(DL b),(b==5,false),BZ b,(b==6,false),(b==7,false),(b==8,false),(b==9,false),(b==10,true)]] (.mk (dS 1104398346121) [] [some (C2),none] [] []) (kO (kz q0 (kz q1 (kz q2 (kz q3 (kz q4 (kz q5 (kz q6 (kz q7 (kz q8 (kz q9 AD))))))))))) (.cons MM .nil)
theorem XN (q8:(b==9)=false)(q9:(b==10)=false)(q10:(b==11)=true):sP 276 (CI r b) (iv r.awayFor):=
 kP [[Ar b,Bp b,(DL b),(b==5,false),BZ b,(b==6,false),(b==7,false),(b==8,false),(b==9,false),(b==10,false),(b==11,true)]] (.mk [(0,.kn 0 0),(0,.kn 0 1),(0,.kn 0 2),(0,.kn 0 3),(0,.kn 0 4),(0,.kn 0 5),(0,.kn 0 6),(0,.kn 0 7),(0,.kn 0 8),(0,.kn 0 9),(0,.kn 0 10)] [] [some (C2),none] [] []) (kO (kz q0 (kz q1 (kz q2 (kz q3 (kz q4 (kz q5 (kz q6 (kz q7 (kz q8 (kz q9 (kz q10 AD)))))))))))) (.cons MM .nil)
theorem XO (q8:(b==9)=false)(q9:(b==10)=false)(q10:(b==11)=false):sP 276 (CI r b) (iv 0):=
 kP [[Ar b,Bp b,(DL b),(b==5,false),BZ b,(b==6,false),(b==7,false),(b==8,false),(b==9,false),(b==10,false),(b==11,false)]] (.mk [(0,.kn 0 0),(0,.kn 0 1),(0,.kn 0 2),(0,.kn 0 3),(0,.kn 0 4),(0,.kn 0 5),(0,.kn 0 6),(0,.kn 0 7),(0,.kn 0 8),(0,.kn 0 9),(0,.kn 0 10)] [] [some (C2)] [] []) (kO (kz q0 (kz q1 (kz q2 (kz q3 (kz q4 (kz q5 (kz q6 (kz q7 (kz q8 (kz q9 (kz q10 AD)))))))))))) (.cons MM .nil)
end
theorem Ur (r:RowD)(b:Int):∃ v,sP 276 [ag r.cells,iv b] (iv v):=by
 rcases bT (b==1) with q0 | q0
 ·exact ⟨_,(Zg r b q0)⟩
 ·rcases bT (b==2) with q1 | q1
  ·exact ⟨_,(Zh r b q0 q1)⟩
  ·rcases bT (b==3) with q2 | q2
   ·exact ⟨_,(Zi r b q0 q1 q2)⟩
   ·rcases bT (b==5) with q3 | q3
    ·exact ⟨_,(Zj r b q0 q1 q2 q3)⟩
    ·rcases bT (b==4) with q4 | q4
     ·exact ⟨_,(Zk r b q0 q1 q2 q3 q4)⟩
     ·rcases bT (b==6) with q5 | q5
      ·exact ⟨_,(Zl r b q0 q1 q2 q3 q4 q5)⟩
      ·rcases bT (b==7) with q6 | q6
       ·exact ⟨_,(Zm r b q0 q1 q2 q3 q4 q5 q6)⟩
       ·rcases bT (b==8) with q7 | q7
        ·exact ⟨_,(Zn r b q0 q1 q2 q3 q4 q5 q6 q7)⟩
        ·rcases bT (b==9) with q8 | q8
         ·exact ⟨_,(Zo r b q0 q1 q2 q3 q4 q5 q6 q7 q8)⟩
         ·rcases bT (b==10) with q9 | q9
          ·exact ⟨_,(Zp r b q0 q1 q2 q3 q4 q5 q6 q7 q8 q9)⟩
          ·rcases bT (b==11) with q10 | q10
           ·exact ⟨_,(XN r b q0 q1 q2 q3 q4 q5 q6 q7 q8 q9 q10)⟩
           ·exact ⟨_,(XO r b q0 q1 q2 q3 q4 q5 q6 q7 q8 q9 q10)⟩
abbrev JK:=ag [iv 0,iv 0,iv 0,iv 0,iv 0,iv 0,iv 0,iv 0,iv 0,iv 0,iv 0]
theorem Us (a:RowD)(b:RowD)(E:RowD->Int)(ih:∀ r:RowD,sP 299 [ag r.cells] (iv (E r)))(q0:(E a != 0)=true):sP 279 [ag a.cells,ag b.cells] (tu [JK,iv (E a)]):=
 kP [[(E a != 0,true)]] (.mk (dS 66062) [] [some (iv (E a))] [] []) (kO (kz q0 AD)) (oT (sP 299 [ag a.cells] (iv (E a))) (ih (a)) .nil)
theorem Ut (a:RowD)(b:RowD)(E:RowD->Int)(ih:∀ r:RowD,sP 299 [ag r.cells] (iv (E r)))(q0:(E a != 0)=false)(q1:(E b != 0)=true):sP 279 [ag a.cells,ag b.cells] (tu [JK,iv (E b)]):=
 kP [[(E a != 0,false),(E b != 0,true)]] (.mk (dS 4329440030) [] [some (iv (E a)),some (iv (E b))] [] []) (kO (kz q0 (kz q1 AD))) (oT (sP 299 [ag b.cells] (iv (E b))) (ih (b)) (oT (sP 299 [ag a.cells] (iv (E a))) (ih (a)) .nil))
abbrev Fm (a0:RowD)(a1:RowD):=RowD.mk a0.club (IntKind.i64.wrap (a0.played+a1.played)) (IntKind.i64.wrap (a0.won+a1.won)) (IntKind.i64.wrap (a0.drawn+a1.drawn)) (IntKind.i64.wrap (a0.lost+a1.lost)) (IntKind.i64.wrap (a0.for'+a1.for')) (IntKind.i64.wrap (a0.against+a1.against)) (IntKind.i64.wrap (a0.awayFor+a1.awayFor)) (IntKind.i64.wrap (a0.awayWon+a1.awayWon)) (IntKind.i64.wrap (a0.cards+a1.cards)) (IntKind.i64.wrap (a0.points+a1.points))
abbrev OD (a0:RowD->Int)(a1:RowD)(a2:RowD):=a0 (RowD.mk a1.club (IntKind.i64.wrap (a1.played+a2.played)) (IntKind.i64.wrap (a1.won+a2.won)) (IntKind.i64.wrap (a1.drawn+a2.drawn)) (IntKind.i64.wrap (a1.lost+a2.lost)) (IntKind.i64.wrap (a1.for'+a2.for')) (IntKind.i64.wrap (a1.against+a2.against)) (IntKind.i64.wrap (a1.awayFor+a2.awayFor)) (IntKind.i64.wrap (a1.awayWon+a2.awayWon)) (IntKind.i64.wrap (a1.cards+a2.cards)) (IntKind.i64.wrap (a1.points+a2.points))) != 0
section
variable (a:RowD)(b:RowD)(E:RowD->Int)(ih:∀ r:RowD,sP 299 [ag r.cells] (iv (E r)))(q0:(E a != 0)=false)(q1:(E b != 0)=false)
include a b E ih q0 q1
theorem Uu (q2:(a.club != b.club)=true):sP 279 [ag a.cells,ag b.cells] (tu [JK,iv 190]):=
 kP [[(E a != 0,false),(E b != 0,false),(a.club != b.club,true)]] (.mk (dS 283734181806638) [] [some (iv (E a)),some (iv (E b))] [] []) (kO (kz q0 (kz q1 (kz q2 AD)))) (oT (sP 299 [ag b.cells] (iv (E b))) (ih (b)) (oT (sP 299 [ag a.cells] (iv (E a))) (ih (a)) .nil))
theorem Uv (q2:(a.club != b.club)=false)(q3:(OD E a b)=true):sP 279 [ag a.cells,ag b.cells] (tu [JK,iv (E (Fm a b))]):=
 kP [[(E a != 0,false),(E b != 0,false),(a.club != b.club,false),(E (Fm a b) != 0,true)]] (.mk (dS 0x1020e031e022ecccccccccc3) [] [some (iv (E a)),some (iv (E b)),some (iv (E (Fm a b)))] [] []) (kO (kz q0 (kz q1 (kz q2 (kz q3 AD))))) (oT (sP 299 [ag [iv a.club,iv (IntKind.i64.wrap (a.played+b.played)),iv (IntKind.i64.wrap (a.won+b.won)),iv (IntKind.i64.wrap (a.drawn+b.drawn)),iv (IntKind.i64.wrap (a.lost+b.lost)),iv (IntKind.i64.wrap (a.for'+b.for')),iv (IntKind.i64.wrap (a.against+b.against)),iv (IntKind.i64.wrap (a.awayFor+b.awayFor)),iv (IntKind.i64.wrap (a.awayWon+b.awayWon)),iv (IntKind.i64.wrap (a.cards+b.cards)),iv (IntKind.i64.wrap (a.points+b.points))]] (iv (E (RowD.mk a.club (IntKind.i64.wrap (a.played+b.played)) (IntKind.i64.wrap (a.won+b.won)) (IntKind.i64.wrap (a.drawn+b.drawn)) (IntKind.i64.wrap (a.lost+b.lost)) (IntKind.i64.wrap (a.for'+b.for')) (IntKind.i64.wrap (a.against+b.against)) (IntKind.i64.wrap (a.awayFor+b.awayFor)) (IntKind.i64.wrap (a.awayWon+b.awayWon)) (IntKind.i64.wrap (a.cards+b.cards)) (IntKind.i64.wrap (a.points+b.points)))))) (ih (Fm a b)) (oT (sP 299 [ag b.cells] (iv (E b))) (ih (b)) (oT (sP 299 [ag a.cells] (iv (E a))) (ih (a)) .nil)))
theorem Uw (q2:(a.club != b.club)=false)(q3:(OD E a b)=false):sP 279 [ag a.cells,ag b.cells] (tu [ag [iv a.club,iv (IntKind.i64.wrap (a.played+b.played)),iv (IntKind.i64.wrap (a.won+b.won)),iv (IntKind.i64.wrap (a.drawn+b.drawn)),iv (IntKind.i64.wrap (a.lost+b.lost)),iv (IntKind.i64.wrap (a.for'+b.for')),iv (IntKind.i64.wrap (a.against+b.against)),iv (IntKind.i64.wrap (a.awayFor+b.awayFor)),iv (IntKind.i64.wrap (a.awayWon+b.awayWon)),iv (IntKind.i64.wrap (a.cards+b.cards)),iv (IntKind.i64.wrap (a.points+b.points))],iv 0]):=
 kP [[(E a != 0,false),(E b != 0,false),(a.club != b.club,false),(E (Fm a b) != 0,false)]] (.mk (dS 0x1020e031e022ecccccccccc3) [] [some (iv (E a)),some (iv (E b)),some (iv (E (Fm a b)))] [] []) (kO (kz q0 (kz q1 (kz q2 (kz q3 AD))))) (oT (sP 299 [ag [iv a.club,iv (IntKind.i64.wrap (a.played+b.played)),iv (IntKind.i64.wrap (a.won+b.won)),iv (IntKind.i64.wrap (a.drawn+b.drawn)),iv (IntKind.i64.wrap (a.lost+b.lost)),iv (IntKind.i64.wrap (a.for'+b.for')),iv (IntKind.i64.wrap (a.against+b.against)),iv (IntKind.i64.wrap (a.awayFor+b.awayFor)),iv (IntKind.i64.wrap (a.awayWon+b.awayWon)),iv (IntKind.i64.wrap (a.cards+b.cards)),iv (IntKind.i64.wrap (a.points+b.points))]] (iv (E (RowD.mk a.club (IntKind.i64.wrap (a.played+b.played)) (IntKind.i64.wrap (a.won+b.won)) (IntKind.i64.wrap (a.drawn+b.drawn)) (IntKind.i64.wrap (a.lost+b.lost)) (IntKind.i64.wrap (a.for'+b.for')) (IntKind.i64.wrap (a.against+b.against)) (IntKind.i64.wrap (a.awayFor+b.awayFor)) (IntKind.i64.wrap (a.awayWon+b.awayWon)) (IntKind.i64.wrap (a.cards+b.cards)) (IntKind.i64.wrap (a.points+b.points)))))) (ih (Fm a b)) (oT (sP 299 [ag b.cells] (iv (E b))) (ih (b)) (oT (sP 299 [ag a.cells] (iv (E a))) (ih (a)) .nil)))
end
theorem AC8 (a:RowD)(b:RowD)(E:RowD->Int)(ih:∀ r:RowD,sP 299 [ag r.cells] (iv (E r))):∃ x e,sP 279 [ag a.cells,ag b.cells] (tu [.agg (RowD.cells x),.int .i64 e]):=by
 rcases bT (E a != 0) with q0 | q0
 ·first | exact ⟨default,_,(Us a b E ih q0)⟩ | exact ⟨RowD.mk a.club (wr (a.played+b.played)) (wr (a.won+b.won)) (wr (a.drawn+b.drawn)) (wr (a.lost+b.lost)) (wr (a.for'+b.for')) (wr (a.against+b.against)) (wr (a.awayFor+b.awayFor)) (wr (a.awayWon+b.awayWon)) (wr (a.cards+b.cards)) (wr (a.points+b.points)),_,(Us a b E ih q0)⟩
 ·rcases bT (E b != 0) with q1 | q1
  ·first | exact ⟨default,_,(Ut a b E ih q0 q1)⟩ | exact ⟨RowD.mk a.club (wr (a.played+b.played)) (wr (a.won+b.won)) (wr (a.drawn+b.drawn)) (wr (a.lost+b.lost)) (wr (a.for'+b.for')) (wr (a.against+b.against)) (wr (a.awayFor+b.awayFor)) (wr (a.awayWon+b.awayWon)) (wr (a.cards+b.cards)) (wr (a.points+b.points)),_,(Ut a b E ih q0 q1)⟩
  ·rcases bT (a.club != b.club) with q2 | q2
   ·first | exact ⟨default,_,(Uu a b E ih q0 q1 q2)⟩ | exact ⟨RowD.mk a.club (wr (a.played+b.played)) (wr (a.won+b.won)) (wr (a.drawn+b.drawn)) (wr (a.lost+b.lost)) (wr (a.for'+b.for')) (wr (a.against+b.against)) (wr (a.awayFor+b.awayFor)) (wr (a.awayWon+b.awayWon)) (wr (a.cards+b.cards)) (wr (a.points+b.points)),_,(Uu a b E ih q0 q1 q2)⟩
   ·rcases bT (E (RowD.mk a.club (IntKind.i64.wrap (a.played+b.played)) (IntKind.i64.wrap (a.won+b.won)) (IntKind.i64.wrap (a.drawn+b.drawn)) (IntKind.i64.wrap (a.lost+b.lost)) (IntKind.i64.wrap (a.for'+b.for')) (IntKind.i64.wrap (a.against+b.against)) (IntKind.i64.wrap (a.awayFor+b.awayFor)) (IntKind.i64.wrap (a.awayWon+b.awayWon)) (IntKind.i64.wrap (a.cards+b.cards)) (IntKind.i64.wrap (a.points+b.points))) != 0) with q3 | q3
    ·first | exact ⟨default,_,(Uv a b E ih q0 q1 q2 q3)⟩ | exact ⟨RowD.mk a.club (wr (a.played+b.played)) (wr (a.won+b.won)) (wr (a.drawn+b.drawn)) (wr (a.lost+b.lost)) (wr (a.for'+b.for')) (wr (a.against+b.against)) (wr (a.awayFor+b.awayFor)) (wr (a.awayWon+b.awayWon)) (wr (a.cards+b.cards)) (wr (a.points+b.points)),_,(Uv a b E ih q0 q1 q2 q3)⟩
    ·first | exact ⟨default,_,(Uw a b E ih q0 q1 q2 q3)⟩ | exact ⟨RowD.mk a.club (wr (a.played+b.played)) (wr (a.won+b.won)) (wr (a.drawn+b.drawn)) (wr (a.lost+b.lost)) (wr (a.for'+b.for')) (wr (a.against+b.against)) (wr (a.awayFor+b.awayFor)) (wr (a.awayWon+b.awayWon)) (wr (a.cards+b.cards)) (wr (a.points+b.points)),_,(Uw a b E ih q0 q1 q2 q3)⟩
theorem XP:∃ E:RowD->Int,∀ r,sP 299 [EV.agg r.cells] (EV.int .i64 (E r)):=⟨_,fun r=>AC7 r⟩
theorem Zq (a b:RowD):∃ x e,sP 279 [EV.agg a.cells,EV.agg b.cells] (EV.tuple [.agg (RowD.cells x),.int .i64 e]):=by
 obtain ⟨E,hE⟩:=XP
 exact AC8 a b E hE
def FQ (f:FuncId):Bool:=pures f || f==278 || f==298 || f==337
def HY (f:FuncId):Bool:=f==278 || f==298 || f==337
abbrev Kt (a b:Int):EObj:=.arr false true 1 true 2 fun i=>[[EV.int .i64 a],[EV.int .i64 b]].getD i []
abbrev Fo:=EV.ms 0 1 0 2 (some 2)
theorem XQ (a:Int)(b:Int)(q0:(B1 b a)=true):sF 337 [Fo,iv 0,iv 2] [Kt a b] (tu []) [oA 1 true 2 (A4 (A4 (fun i=>[[iv a],[iv b]].getD i []) 1 [iv a]) 0 [iv b])]:=
 kFm FQ HY [[(decide (b<a),true)]] (.mk (dS 69646) [] [some (bv (B1 b a))] [] []) (kO (kz q0 AD)) (oT (sP 66 [iv b,iv a] (bv (B1 b a))) (Rg _ _) .nil) 1 [0]
theorem XR (a:Int)(b:Int)(q0:(B1 b a)=false):sF 337 [Fo,iv 0,iv 2] [Kt a b] (tu []) [oA 1 true 2 fun i=>[[iv a],[iv b]].getD i []]:=
 kFm FQ HY [[(decide (b<a),false)]] (.mk (dS 69646) [] [some (bv (B1 b a))] [] []) (kO (kz q0 AD)) (oT (sP 66 [iv b,iv a] (bv (B1 b a))) (Rg _ _) .nil) 1 [0]
abbrev Dt (a0:Int)(a1:Int):=(tu [],[oA 1 true 2 fun i=>[[iv a0],[iv a1]].getD i []])
theorem XS (a:Int)(b:Int)(a1:Int)(b1:Int)(lim:Int)(ih:sF 337 [Fo,iv 0,iv 2] [Kt a b] (tu []) [Kt a1 b1]):sF 298 [Fo,iv 0,iv 2,iv lim] [Kt a b] (tu []) [oA 1 true 2 fun i=>[[iv a1],[iv b1]].getD i []]:=
 kFm FQ HY [[]] (.mk [] [] [] [some ((Dt a1 b1))] []) (kO AD) (.cons ih .nil) 1 [0]
theorem XT (a:Int)(b:Int)(a1:Int)(b1:Int)(lim:Int)(ih:∀ lim:Int,sF 298 [Fo,iv 0,iv 2,iv lim] [Kt a b] (tu []) [Kt a1 b1]):sF 278 [Fo] [Kt a b] (tu []) [oA 1 true 2 fun i=>[[iv a1],[iv b1]].getD i []]:=
 kFm FQ HY [[]] (.mk [] [] [] [some ((Dt a1 b1))] []) (kO AD) (oT (sF 298 [EV.ms 0 1 0 2 (some 2),iv 0,iv 2,iv 2] [oA 1 true 2 fun i=>[[iv a],[iv b]].getD i []] (tu []) [oA 1 true 2 fun i=>[[iv a1],[iv b1]].getD i []]) (ih _) .nil) 1 [0]
abbrev JL:=dS 0x10a11111101aea022e033e02ae
abbrev E1 (a0:Int)(a1:Nat):=decide (0<=a0) && decide (a0<=a0+1) && decide (a0+1<=(↑a1:Int)) && decide ((↑a1:Int)<=(↑a1:Int))
abbrev E2 (a0:Nat->RowD):=tu [sl true 11 2 fun i=>(a0 i).cells,iv 0]
noncomputable abbrev Du:=cB (cB (cR (cL (cR (cR (AB prog 222))))))
abbrev TM (a0:Nat)(a1:Nat->ResD):=sl true 13 a0 fun i=>(a1 i).cells
abbrev JM:=dS 0x10a1111112aa023e034e02ae
abbrev OE (a0:Bool)(a1:Nat)(a2:Nat->ResD)(a3:Bool)(a4:Nat)(a5:Nat->Int)(a6:List (EV×EV))(a7:RulesV)(a8:List (EV×EV)):=[LG a0 a1 a2,Nx a3 a4 a5,.im a6,.str a7.name,.int .i64 a7.win,.int .i64 a7.draw,.int .i64 a7.loss,.isl a7.onn 8 a7.on a7.orow,.isl a7.znn 3 a7.zn fun i=>(a7.zs i).cells,.im a8]
abbrev E3 (a0:Nat)(a1:Nat->ResD):=TM a0 a1
noncomputable abbrev Dv (a0:Bool)(a1:Nat)(a2:Nat->ResD)(a3:Bool)(a4:Nat)(a5:Nat->Int)(a6:List (EV×EV))(a7:RulesV)(a8:List (EV×EV))(a9:Nat)(a10:Nat->ResD)(a11:Int)(a12:Int):=frame 88 [(0,pv (OE a0 a1 a2 a3 a4 a5 a6 a7 a8) 0),(1,(E3 a9 a10)),(2,.int .i64 a11),(6,.ptr 0 0),(16,(E3 a9 a10)),(17,.int .i64 a9),(18,.int .i64 a12)]
section
variable (n0:Bool)(n:Nat)(rs:Nat->ResD)(n1:Bool)(m:Nat)(w:Nat->Int)(e1:List (EV×EV))(R:RulesV)(e3:List (EV×EV))(k:Nat)(qs:Nat->ResD)(c:Int)(rd:RowD)(i:Int)(a1:Int)(b1:Int)(ro:Nat->RowD)(AX:RowD->RowD->RowD)(AE:RowD->RowD->Int)(h0:0<=i)(h3:k<=100000)(ihs:i<k->sF 278 [Fo] [Kt (qs i.toNat).home (qs i.toNat).away] (tu []) [Kt a1 b1])(ihr:i<k->sP 26 [sl true 13 ((i+1).toNat - i.toNat) fun j=>(qs (i.toNat+j)).cells,sl true 1 2 fun j=>[[iv a1],[iv b1]].getD (0+j) [],iv R.win,iv R.draw,iv R.loss] (tu [sl true 11 2 fun j=>(ro j).cells,iv 0]))(iha:∀ a b:RowD,sP 279 [ag a.cells,ag b.cells] (tu [.agg (AX a b).cells,.int .i64 (AE a b)]))
include n0 n rs n1 m w e1 R e3 k qs c rd i a1 b1 ro AX AE h0 h3 ihs ihr iha
theorem AA2 (q0:AH i k)(q1:((qs i.toNat).home != c)=true)(q2:((qs i.toNat).away != c)=true):sC (Du) (Dv n0 n rs n1 m w e1 R e3 k qs c i) ([IT rd]) (xN,(frame 88 [(0,pv (Dl n0 n rs n1 m w e1 R e3) 0),(1,sl true 13 k fun i=>(qs i).cells),(2,iv c),(6,pt 0 0),(16,sl true 13 k fun i=>(qs i).cells),(17,iv ↑k),(18,iv (i+1))]),[ov rd.cells]):=
 kCm FQ HY [[AG i k,((qs i.toNat).home != c,true),((qs i.toNat).away != c,true)]] (.mk (dS 1142747631914) [] [] [] []) (kO (kz q0 (kz q1 (kz q2 AD)))) (oI ((inR IntKind.i64 (i+1))=true) (oJ ((inB i k)=true) .nil)) 458823 1 1
theorem AA3 (q0:AH i k)(q1:((qs i.toNat).home != c)=true)(q2:((qs i.toNat).away != c)=false)(q3:((ro 0).club==c)=true)(q4:((ro 1).club==c)=true):sC (Du) (Dv n0 n rs n1 m w e1 R e3 k qs c i) ([IT rd]) (xN,(frame 88 [(0,pv (Dl n0 n rs n1 m w e1 R e3) 0),(1,sl true 13 k fun i=>(qs i).cells),(2,iv c),(6,pt 0 0),(16,sl true 13 k fun i=>(qs i).cells),(17,iv ↑k),(18,iv (i+1))]),[ov (AX (AX rd (ro 0)) (ro 1)).cells]):=
 kCm FQ HY [[AG i k,((qs i.toNat).home != c,true),((qs i.toNat).away != c,false),((ro 0).club==c,true),((ro 1).club==c,true)]] (.mk (JM) [] [some (E2 ro),some (tu [ag (AX rd (ro 0)).cells,iv (AE rd (ro 0))]),some (tu [ag (AX (AX rd (ro 0)) (ro 1)).cells,iv (AE (AX rd (ro 0)) (ro 1))])] [some ((Dt a1 b1))] []) (kO (kz q0 (kz q1 (kz q2 (kz q3 (kz q4 AD)))))) (oI ((inR IntKind.i64 (i+1))=true) (oT (sP 279 [ag (AX rd (ro 0)).cells,ag (ro 1).cells] (tu [ag (AX (AX rd (ro 0)) (ro 1)).cells,iv (AE (AX rd (ro 0)) (ro 1))])) (iha _ _) (oT (sP 279 [ag rd.cells,ag (ro 0).cells] (tu [ag (AX rd (ro 0)).cells,iv (AE rd (ro 0))])) (iha _ _) (.cons (ihr (by simp_all)) (oJ ((E1 i k)=true) (oI ((inR IntKind.i64 (i+1))=true) (.cons (ihs (by simp_all)) (oJ ((inB i k)=true) .nil)))))))) 458823 1 1
theorem AA4 (q0:AH i k)(q1:((qs i.toNat).home != c)=true)(q2:((qs i.toNat).away != c)=false)(q3:((ro 0).club==c)=true)(q4:((ro 1).club==c)=false):sC (Du) (Dv n0 n rs n1 m w e1 R e3 k qs c i) ([IT rd]) (xN,(frame 88 [(0,pv (Dl n0 n rs n1 m w e1 R e3) 0),(1,sl true 13 k fun i=>(qs i).cells),(2,iv c),(6,pt 0 0),(16,sl true 13 k fun i=>(qs i).cells),(17,iv ↑k),(18,iv (i+1))]),[ov (AX rd (ro 0)).cells]):=
 kCm FQ HY [[AG i k,((qs i.toNat).home != c,true),((qs i.toNat).away != c,false),((ro 0).club==c,true),((ro 1).club==c,false)]] (.mk (JM) [] [some (E2 ro),some (tu [ag (AX rd (ro 0)).cells,iv (AE rd (ro 0))])] [some ((Dt a1 b1))] []) (kO (kz q0 (kz q1 (kz q2 (kz q3 (kz q4 AD)))))) (oI ((inR IntKind.i64 (i+1))=true) (oT (sP 279 [ag rd.cells,ag (ro 0).cells] (tu [ag (AX rd (ro 0)).cells,iv (AE rd (ro 0))])) (iha _ _) (.cons (ihr (by simp_all)) (oJ ((E1 i k)=true) (oI ((inR IntKind.i64 (i+1))=true) (.cons (ihs (by simp_all)) (oJ ((inB i k)=true) .nil))))))) 458823 1 1
theorem AA5 (q0:AH i k)(q1:((qs i.toNat).home != c)=true)(q2:((qs i.toNat).away != c)=false)(q3:((ro 0).club==c)=false)(q4:((ro 1).club==c)=true):sC (Du) (Dv n0 n rs n1 m w e1 R e3 k qs c i) ([IT rd]) (xN,(frame 88 [(0,pv (Dl n0 n rs n1 m w e1 R e3) 0),(1,sl true 13 k fun i=>(qs i).cells),(2,iv c),(6,pt 0 0),(16,sl true 13 k fun i=>(qs i).cells),(17,iv ↑k),(18,iv (i+1))]),[ov (AX rd (ro 1)).cells]):=
 kCm FQ HY [[AG i k,((qs i.toNat).home != c,true),((qs i.toNat).away != c,false),((ro 0).club==c,false),((ro 1).club==c,true)]] (.mk (JM) [] [some (E2 ro),some (tu [ag (AX rd (ro 1)).cells,iv (AE rd (ro 1))])] [some ((Dt a1 b1))] []) (kO (kz q0 (kz q1 (kz q2 (kz q3 (kz q4 AD)))))) (oI ((inR IntKind.i64 (i+1))=true) (oT (sP 279 [ag rd.cells,ag (ro 1).cells] (tu [ag (AX rd (ro 1)).cells,iv (AE rd (ro 1))])) (iha _ _) (.cons (ihr (by simp_all)) (oJ ((E1 i k)=true) (oI ((inR IntKind.i64 (i+1))=true) (.cons (ihs (by simp_all)) (oJ ((inB i k)=true) .nil))))))) 458823 1 1
theorem AA6 (q0:AH i k)(q1:((qs i.toNat).home != c)=true)(q2:((qs i.toNat).away != c)=false)(q3:((ro 0).club==c)=false)(q4:((ro 1).club==c)=false):sC (Du) (Dv n0 n rs n1 m w e1 R e3 k qs c i) ([IT rd]) (xN,(frame 88 [(0,pv (Dl n0 n rs n1 m w e1 R e3) 0),(1,sl true 13 k fun i=>(qs i).cells),(2,iv c),(6,pt 0 0),(16,sl true 13 k fun i=>(qs i).cells),(17,iv ↑k),(18,iv (i+1))]),[ov rd.cells]):=
 kCm FQ HY [[AG i k,((qs i.toNat).home != c,true),((qs i.toNat).away != c,false),((ro 0).club==c,false),((ro 1).club==c,false)]] (.mk (JM) [] [some (E2 ro)] [some ((Dt a1 b1))] []) (kO (kz q0 (kz q1 (kz q2 (kz q3 (kz q4 AD)))))) (oI ((inR IntKind.i64 (i+1))=true) (.cons (ihr (by simp_all)) (oJ ((E1 i k)=true) (oI ((inR IntKind.i64 (i+1))=true) (.cons (ihs (by simp_all)) (oJ ((inB i k)=true) .nil)))))) 458823 1 1
theorem AA7 (q0:AH i k)(q1:((qs i.toNat).home != c)=false)(q2:((ro 0).club==c)=true)(q3:((ro 1).club==c)=true):sC (Du) (Dv n0 n rs n1 m w e1 R e3 k qs c i) ([IT rd]) (xN,(frame 88 [(0,pv (Dl n0 n rs n1 m w e1 R e3) 0),(1,sl true 13 k fun i=>(qs i).cells),(2,iv c),(6,pt 0 0),(16,sl true 13 k fun i=>(qs i).cells),(17,iv ↑k),(18,iv (i+1))]),[ov (AX (AX rd (ro 0)) (ro 1)).cells]):=
 kCm FQ HY [[AG i k,((qs i.toNat).home != c,false),((ro 0).club==c,true),((ro 1).club==c,true)]] (.mk (JL) [] [some (E2 ro),some (tu [ag (AX rd (ro 0)).cells,iv (AE rd (ro 0))]),some (tu [ag (AX (AX rd (ro 0)) (ro 1)).cells,iv (AE (AX rd (ro 0)) (ro 1))])] [some ((Dt a1 b1))] []) (kO (kz q0 (kz q1 (kz q2 (kz q3 AD))))) (oI ((inR IntKind.i64 (i+1))=true) (oT (sP 279 [ag (AX rd (ro 0)).cells,ag (ro 1).cells] (tu [ag (AX (AX rd (ro 0)) (ro 1)).cells,iv (AE (AX rd (ro 0)) (ro 1))])) (iha _ _) (oT (sP 279 [ag rd.cells,ag (ro 0).cells] (tu [ag (AX rd (ro 0)).cells,iv (AE rd (ro 0))])) (iha _ _) (.cons (ihr (by simp_all)) (oJ ((E1 i k)=true) (oI ((inR IntKind.i64 (i+1))=true) (.cons (ihs (by simp_all)) (oJ ((inB i k)=true) .nil)))))))) 458823 1 1
theorem AA8 (q0:AH i k)(q1:((qs i.toNat).home != c)=false)(q2:((ro 0).club==c)=true)(q3:((ro 1).club==c)=false):sC (Du) (Dv n0 n rs n1 m w e1 R e3 k qs c i) ([IT rd]) (xN,(frame 88 [(0,pv (Dl n0 n rs n1 m w e1 R e3) 0),(1,sl true 13 k fun i=>(qs i).cells),(2,iv c),(6,pt 0 0),(16,sl true 13 k fun i=>(qs i).cells),(17,iv ↑k),(18,iv (i+1))]),[ov (AX rd (ro 0)).cells]):=
 kCm FQ HY [[AG i k,((qs i.toNat).home != c,false),((ro 0).club==c,true),((ro 1).club==c,false)]] (.mk (JL) [] [some (E2 ro),some (tu [ag (AX rd (ro 0)).cells,iv (AE rd (ro 0))])] [some ((Dt a1 b1))] []) (kO (kz q0 (kz q1 (kz q2 (kz q3 AD))))) (oI ((inR IntKind.i64 (i+1))=true) (oT (sP 279 [ag rd.cells,ag (ro 0).cells] (tu [ag (AX rd (ro 0)).cells,iv (AE rd (ro 0))])) (iha _ _) (.cons (ihr (by simp_all)) (oJ ((E1 i k)=true) (oI ((inR IntKind.i64 (i+1))=true) (.cons (ihs (by simp_all)) (oJ ((inB i k)=true) .nil))))))) 458823 1 1
theorem AA9 (q0:AH i k)(q1:((qs i.toNat).home != c)=false)(q2:((ro 0).club==c)=false)(q3:((ro 1).club==c)=true):sC (Du) (Dv n0 n rs n1 m w e1 R e3 k qs c i) ([IT rd]) (xN,(frame 88 [(0,pv (Dl n0 n rs n1 m w e1 R e3) 0),(1,sl true 13 k fun i=>(qs i).cells),(2,iv c),(6,pt 0 0),(16,sl true 13 k fun i=>(qs i).cells),(17,iv ↑k),(18,iv (i+1))]),[ov (AX rd (ro 1)).cells]):=
 kCm FQ HY [[AG i k,((qs i.toNat).home != c,false),((ro 0).club==c,false),((ro 1).club==c,true)]] (.mk (JL) [] [some (E2 ro),some (tu [ag (AX rd (ro 1)).cells,iv (AE rd (ro 1))])] [some ((Dt a1 b1))] []) (kO (kz q0 (kz q1 (kz q2 (kz q3 AD))))) (oI ((inR IntKind.i64 (i+1))=true) (oT (sP 279 [ag rd.cells,ag (ro 1).cells] (tu [ag (AX rd (ro 1)).cells,iv (AE rd (ro 1))])) (iha _ _) (.cons (ihr (by simp_all)) (oJ ((E1 i k)=true) (oI ((inR IntKind.i64 (i+1))=true) (.cons (ihs (by simp_all)) (oJ ((inB i k)=true) .nil))))))) 458823 1 1
theorem ABA (q0:AH i k)(q1:((qs i.toNat).home != c)=false)(q2:((ro 0).club==c)=false)(q3:((ro 1).club==c)=false):sC (Du) (Dv n0 n rs n1 m w e1 R e3 k qs c i) ([IT rd]) (xN,(frame 88 [(0,pv (Dl n0 n rs n1 m w e1 R e3) 0),(1,sl true 13 k fun i=>(qs i).cells),(2,iv c),(6,pt 0 0),(16,sl true 13 k fun i=>(qs i).cells),(17,iv ↑k),(18,iv (i+1))]),[ov rd.cells]):=
 kCm FQ HY [[AG i k,((qs i.toNat).home != c,false),((ro 0).club==c,false),((ro 1).club==c,false)]] (.mk (JL) [] [some (E2 ro)] [some ((Dt a1 b1))] []) (kO (kz q0 (kz q1 (kz q2 (kz q3 AD))))) (oI ((inR IntKind.i64 (i+1))=true) (.cons (ihr (by simp_all)) (oJ ((E1 i k)=true) (oI ((inR IntKind.i64 (i+1))=true) (.cons (ihs (by simp_all)) (oJ ((inB i k)=true) .nil)))))) 458823 1 1
theorem ABB (q0:Af i k):sC (Du) (Dv n0 n rs n1 m w e1 R e3 k qs c i) ([IT rd]) (xL 0,(frame 88 [(6,pt 0 0)]),[ov rd.cells]):=
 kCm FQ HY (Ae i k) (.mk (dS 16) [] [] [] []) (kO (kz q0 AD)) .nil 64 1 1
theorem rwB:∃ r_:RC,sC (cB (cB (cR (cL (cR (cR (AB prog 222))))))) (frame 88 [(0,pv [sl n0 13 n fun i=>(rs i).cells,nums n1 m w,.im e1,.str R.name,.int .i64 R.win,.int .i64 R.draw,.int .i64 R.loss,.isl R.onn 8 R.on R.orow,.isl R.znn 3 R.zn fun i=>(R.zs i).cells,.im e3] 0),(1,(sl true 13 k fun i=>(qs i).cells)),(2,.int .i64 c),(6,.ptr 0 0),(16,(sl true 13 k fun i=>(qs i).cells)),(17,.int .i64 k),(18,.int .i64 i)]) [IT rd] r_/\((∃ rd',r_=(xN,frame 88 [(0,pv [sl n0 13 n fun i=>(rs i).cells,nums n1 m w,.im e1,.str R.name,.int .i64 R.win,.int .i64 R.draw,.int .i64 R.loss,.isl R.onn 8 R.on R.orow,.isl R.znn 3 R.zn fun i=>(R.zs i).cells,.im e3] 0),(1,(sl true 13 k fun i=>(qs i).cells)),(2,.int .i64 c),(6,.ptr 0 0),(16,(sl true 13 k fun i=>(qs i).cells)),(17,.int .i64 k),(18,.int .i64 (i+1))],[IT rd'])/\i<k)∨(r_=(xL 0,frame 88 [(6,.ptr 0 0)],[IT rd])/\k<=i)):=by
 rcases bT (decide (i<↑k)) with q0 | q0
 ·rcases bT ((qs i.toNat).home != c) with q1 | q1
  ·rcases bT ((qs i.toNat).away != c) with q2 | q2
   ·exact ⟨_,(AA2 n0 n rs n1 m w e1 R e3 k qs c rd i a1 b1 ro AX AE h0 h3 ihs ihr iha q0 q1 q2),by first | exact .inl ⟨_,rfl,by simp_all⟩ | exact .inl ⟨rd,rfl,by simp_all⟩ | exact .inr ⟨rfl,by simp_all⟩⟩
   ·rcases bT ((ro 0).club==c) with q3 | q3
    ·rcases bT ((ro 1).club==c) with q4 | q4
     ·exact ⟨_,(AA3 n0 n rs n1 m w e1 R e3 k qs c rd i a1 b1 ro AX AE h0 h3 ihs ihr iha q0 q1 q2 q3 q4),by first | exact .inl ⟨_,rfl,by simp_all⟩ | exact .inl ⟨rd,rfl,by simp_all⟩ | exact .inr ⟨rfl,by simp_all⟩⟩
     ·exact ⟨_,(AA4 n0 n rs n1 m w e1 R e3 k qs c rd i a1 b1 ro AX AE h0 h3 ihs ihr iha q0 q1 q2 q3 q4),by first | exact .inl ⟨_,rfl,by simp_all⟩ | exact .inl ⟨rd,rfl,by simp_all⟩ | exact .inr ⟨rfl,by simp_all⟩⟩
    ·rcases bT ((ro 1).club==c) with q4 | q4
     ·exact ⟨_,(AA5 n0 n rs n1 m w e1 R e3 k qs c rd i a1 b1 ro AX AE h0 h3 ihs ihr iha q0 q1 q2 q3 q4),by first | exact .inl ⟨_,rfl,by simp_all⟩ | exact .inl ⟨rd,rfl,by simp_all⟩ | exact .inr ⟨rfl,by simp_all⟩⟩
     ·exact ⟨_,(AA6 n0 n rs n1 m w e1 R e3 k qs c rd i a1 b1 ro AX AE h0 h3 ihs ihr iha q0 q1 q2 q3 q4),by first | exact .inl ⟨_,rfl,by simp_all⟩ | exact .inl ⟨rd,rfl,by simp_all⟩ | exact .inr ⟨rfl,by simp_all⟩⟩
  ·rcases bT ((ro 0).club==c) with q2 | q2
   ·rcases bT ((ro 1).club==c) with q3 | q3
    ·exact ⟨_,(AA7 n0 n rs n1 m w e1 R e3 k qs c rd i a1 b1 ro AX AE h0 h3 ihs ihr iha q0 q1 q2 q3),by first | exact .inl ⟨_,rfl,by simp_all⟩ | exact .inl ⟨rd,rfl,by simp_all⟩ | exact .inr ⟨rfl,by simp_all⟩⟩
    ·exact ⟨_,(AA8 n0 n rs n1 m w e1 R e3 k qs c rd i a1 b1 ro AX AE h0 h3 ihs ihr iha q0 q1 q2 q3),by first | exact .inl ⟨_,rfl,by simp_all⟩ | exact .inl ⟨rd,rfl,by simp_all⟩ | exact .inr ⟨rfl,by simp_all⟩⟩
   ·rcases bT ((ro 1).club==c) with q3 | q3
    ·exact ⟨_,(AA9 n0 n rs n1 m w e1 R e3 k qs c rd i a1 b1 ro AX AE h0 h3 ihs ihr iha q0 q1 q2 q3),by first | exact .inl ⟨_,rfl,by simp_all⟩ | exact .inl ⟨rd,rfl,by simp_all⟩ | exact .inr ⟨rfl,by simp_all⟩⟩
    ·exact ⟨_,(ABA n0 n rs n1 m w e1 R e3 k qs c rd i a1 b1 ro AX AE h0 h3 ihs ihr iha q0 q1 q2 q3),by first | exact .inl ⟨_,rfl,by simp_all⟩ | exact .inl ⟨rd,rfl,by simp_all⟩ | exact .inr ⟨rfl,by simp_all⟩⟩
 ·exact ⟨_,(ABB n0 n rs n1 m w e1 R e3 k qs c rd i a1 b1 ro AX AE h0 h3 ihs ihr iha q0),by first | exact .inl ⟨_,rfl,by simp_all⟩ | exact .inl ⟨rd,rfl,by simp_all⟩ | exact .inr ⟨rfl,by simp_all⟩⟩
end
theorem ABC (n0:Bool)(n:Nat)(rs:Nat->ResD)(n1:Bool)(m:Nat)(w:Nat->Int)(e1:List (EV×EV))(R:RulesV)(e3:List (EV×EV))(k:Nat)(qs:Nat->ResD)(c:Int)(rd:RowD)(ih:sL (cB (cR (cL (cR (cR (AB prog 222)))))) (frame 88 [(0,pv (OE n0 n rs n1 m w e1 R e3) 0),(1,(E3 k qs)),(2,.int .i64 c),(6,.ptr 0 0),(16,(E3 k qs)),(17,.int .i64 k),(18,.int .i64 0)]) [IT { (default:RowD) with club:=c }] ((xL 0,frame 88 [(6,.ptr 0 0)],[IT rd]):RC)):sP 222 [Aq n0 n rs n1 m w e1 R e3,E3 k qs,iv c] (ag rd.cells):=
 kP [[]] (.mk [] [(8,.is 458823 1 (xL 0,(frame 88 [(6,pt 0 0)]),[ov rd.cells]))] [] [] []) (kO AD) (.cons ih .nil)
theorem ABD (n0:Bool)(n:Nat)(rs:Nat->ResD)(n1:Bool)(m:Nat)(w:Nat->Int)(e1:List (EV×EV))(R:RulesV)(e3:List (EV×EV))(row:Nat->List EV)(c:Int):sP 222 [Aq n0 n rs n1 m w e1 R e3,sl false 13 0 row,iv c] (ag [iv c,iv 0,iv 0,iv 0,iv 0,iv 0,iv 0,iv 0,iv 0,iv 0,iv 0]):=
 kP [[]] (.mk [] [] [] [] []) (kO AD) .nil
theorem Ux (a b:Int):sF 278 [EV.ms 0 1 0 2 (some 2)] [Kt a b] (EV.tuple []) [Kt (min a b) (max a b)]:=by
 have key:sF 337 [EV.ms 0 1 0 2 (some 2),EV.int .i64 0,EV.int .i64 2] [Kt a b] (EV.tuple []) [Kt (min a b) (max a b)]:=by
  cases h:decide (b<a) with
  | true=>
   have hlt:b<a:=of_decide_eq_true h
   rw [show min a b=b by omega,show max a b=a by omega]
   refine (XQ a b h).weaken (VLes.refl _) (HLe.refl _) (VLe.refl _) (.cons (OLe.arr fun i hi=>?_) .nil)
   match i,hi with
   | 0,_=>rfl
   | 1,_=>rfl
  | false=>
   have hlt:¬ b<a:=of_decide_eq_false h
   rw [show min a b=a by omega,show max a b=b by omega]
   exact XR a b h
 exact XT a b _ _ 0 fun lim=>XS a b _ _ lim key
theorem AC9 {a b:Int}(ha:0<=a/\a<192)(hb:0<=b/\b<192)(hab:a≠b):Inc 2 (fun j=>[min a b,max a b].getD j 0):=by
 intro i hi
 match i,hi with
 | 0,_=>simp; omega
 | 1,_=>simp; omega
theorem XU:∃ AX:RowD->RowD->RowD,∃ AE:RowD->RowD->Int,∀ a b,sP 279 [EV.agg a.cells,EV.agg b.cells] (EV.tuple [.agg (AX a b).cells,.int .i64 (AE a b)]):=by
 have h:∀ a b:RowD,∃ q:RowD×Int,sP 279 [EV.agg a.cells,EV.agg b.cells] (EV.tuple [.agg q.1.cells,.int .i64 q.2]):=fun a b=>by
  obtain ⟨x,e,h⟩:=Zq a b
  exact ⟨(x,e),h⟩
 obtain ⟨q,hq⟩:=Classical.axiomOfChoice fun a=>Classical.axiomOfChoice (h a)
 exact ⟨fun a b=>(q a b).1,fun a b=>(q a b).2,hq⟩
theorem Li (n0:Bool)(n:Nat)(rs:Nat->ResD)(n1:Bool)(m:Nat)(w:Nat->Int)(e1:List (EV×EV))(R:RulesV)(e3:List (EV×EV))(n2:Bool)(k:Nat)(qs:Nat->ResD)(c:Int)
  (hk:k<=100000) (hn2:n2=true∨k=0) (hw: -99<=R.loss/\R.loss<=R.draw/\R.draw<=R.win/\R.win<=99) (hq:∀ i,i<k->B5 (qs i)=0):
  ∃ x:RowD,sP 222 [CM n0 n rs n1 m w e1 R e3,EV.isl n2 13 k fun i=>(qs i).cells,EV.int .i64 c] (EV.agg x.cells):=by
 by_cases hn:n2=true
 ·subst hn
  obtain ⟨AX,AE,hA⟩:=XU
  obtain ⟨r,⟨x,rfl⟩,h⟩:=SemL.ex (P:=prog) (G:=globs') (rnd:=false) (c:=(cB (cB (cR (cL (cR (cR (AB prog 222)))))))) (X:=Nat×RowD) (fun x=>frame 88 [(0,CM n0 n rs n1 m w e1 R e3),(1,(EV.isl true 13 k fun i=>(qs i).cells)),(2,.int .i64 c),(6,.ptr 0 0),(16,(EV.isl true 13 k fun i=>(qs i).cells)),(17,.int .i64 k),(18,.int .i64 x.1)]) (fun x=>[IT x.2]) k (fun i x=>x.1=i)
   (fun r=>∃ x,r=(EX.leave 0,frame 88 [(6,.ptr 0 0)],[IT x])) (by
    rintro i ⟨j,rd⟩ hi hj
    obtain rfl:j=i:=hj
    have hO:=LH (hq j hi)
    have hr:sP 26 [EV.isl true 13 (((j:Int)+1).toNat - (j:Int).toNat) fun l=>(qs ((j:Int).toNat+l)).cells,EV.isl true 1 2 fun l=>[[EV.int .i64 (min (qs j).home (qs j).away)],[EV.int .i64 (max (qs j).home (qs j).away)]].getD (0+l) [],EV.int .i64 R.win,EV.int .i64 R.draw,EV.int .i64 R.loss]
      (EV.tuple [EV.isl true 11 2 fun l=>(Az 2 (fun j_1=>[min (qs j).home (qs j).away,max (qs j).home (qs j).away].getD j_1 0) R.win R.draw R.loss (fun l=>qs (j+l)) 1 l).cells,EV.int .i64 0]):=by
     have h2:=QC 2 (by omega) true 1 (fun l=>qs (j+l)) true (fun j_1=>[min (qs j).home (qs j).away,max (qs j).home (qs j).away].getD j_1 0) R.win R.draw R.loss (by omega) (AC9 hO.home hO.away hO.two) hw (fun i hi=>by
      obtain rfl:i=0:=by omega
      refine ⟨hq j (by omega),Km.2 ?_,Km.2 ?_⟩
      ·by_cases hlt:(qs j).home<=(qs j).away
       ·exact ⟨0,by omega,by simp; omega⟩
       ·exact ⟨1,by omega,by simp; omega⟩
      ·by_cases hlt:(qs j).home<=(qs j).away
       ·exact ⟨1,by omega,by simp; omega⟩
       ·exact ⟨0,by omega,by simp; omega⟩)
     rw [show ((j:Int)+1).toNat - (j:Int).toNat=1 by omega]
     refine h2.weaken (.cons (PLe.isl fun l hl=>by rw [Int.toNat_natCast]) (.cons (PLe.isl fun l hl=>?_) (PLes.refl _))) (.refl _)
     match l,hl with
     | 0,_=>rfl
     | 1,_=>rfl
    obtain ⟨r,h,⟨rd',rfl,_⟩ | ⟨_,hx⟩⟩:=rwB n0 n rs n1 m w e1 R e3 k qs c rd (j:Int) _ _ _ AX AE (by omega) hk (fun _=>by rw [Int.toNat_natCast]; exact Ux _ _) (fun _=>hr) hA
    ·exact .inl ⟨(j+1,rd'),rfl,h⟩
    ·omega) (by
    rintro ⟨j,rd⟩ hj
    obtain rfl:j=k:=hj
    obtain ⟨r,h,⟨_,_,hx⟩ | ⟨rfl,_⟩⟩:=rwB n0 n rs n1 m w e1 R e3 j qs c rd (j:Int) 0 0 (FJ w) AX AE (by omega) hk (fun h=>by omega) (fun h=>by omega) hA
    ·omega
    ·exact ⟨_,⟨rd,rfl⟩,by simp,h⟩) k 0 (0,{ (default:RowD) with club:=c }) (by omega) rfl
  exact ⟨x,ABC n0 n rs n1 m w e1 R e3 k qs c x (h.toCL (by kernel_rfl))⟩
 ·have h1:n2=false:=by simpa using hn
  have h2:k=0:=hn2.resolve_left hn
  subst h1 h2
  exact ⟨{ (default:RowD) with club:=c },ABD n0 n rs n1 m w e1 R e3 _ c⟩
theorem vwh (n0:Bool)(n:Nat)(rs:Nat->ResD)(n1:Bool)(m:Nat)(w:Nat->Int)(e1:List (EV×EV))(R:RulesV)(e3:List (EV×EV))(n2:Bool)(g:Nat)(gw:Nat->Int)(c:Int)(b:Int)(x:RowD)(v:Int)(ihr:sP 222 [CM n0 n rs n1 m w e1 R e3,AK n0 n rs,iv c] (ag (RowD.cells x)))(ihv:sP 276 (CI x b) (iv v)):sP 277 [Aq n0 n rs n1 m w e1 R e3,AA n2 g gw,iv c,pv [iv b] 0] (iv v):=
 kP [] (.mk [] [] [some (ag x.cells),some (iv v)] [] []) KOk.nil (.cons ihv (.cons ihr .nil))
section
variable (n0:Bool)(n:Nat)(rs:Nat->ResD)(n1:Bool)(m:Nat)(w:Nat->Int)(e1:List (EV×EV))(R:RulesV)(e3:List (EV×EV))(n2:Bool)(g:Nat)(gw:Nat->Int)(c:Int)(x:RowD)(he1:MapOf EW Cu e1)(ihr:sP 222 [CM n0 n rs n1 m w e1 R e3,AK n0 n rs,iv c] (ag (RowD.cells x)))
include n0 n rs n1 m w e1 R e3 n2 g gw c x he1 ihr
theorem ABE (q0:(BF (iv c) e1)=true):sP 221 [Aq n0 n rs n1 m w e1 R e3,AA n2 g gw,iv c] (iv (IntKind.i64.wrap (x.points - CY (iv c) e1))):=
 kP [[(BF (iv c) e1,true)]] (.mk (dS 28) [] [some (ag x.cells)] [] [some (some (BD (iv c) e1,iv (CY (iv c) e1)))]) (kO (kz q0 AD)) (oT (Ai prog 3 (iv c) e1 0 (some (BD (iv c) e1,iv (CY (iv c) e1)))) (CD mT (by assumption)) (.cons ihr .nil))
theorem ABF (q0:(BF (iv c) e1)=false):sP 221 [Aq n0 n rs n1 m w e1 R e3,AA n2 g gw,iv c] (iv (IntKind.i64.wrap (x.points - 0))):=
 kP [[(BF (iv c) e1,false)]] (.mk (dS 28) [] [some (ag x.cells)] [] [some (none)]) (kO (kz q0 AD)) (oT (Ai prog 3 (iv c) e1 0 none) (B2 (V:=Cu) mT (by assumption)) (.cons ihr .nil))
theorem vpt:∃ v,sP 221 [CM n0 n rs n1 m w e1 R e3,nums n2 g gw,iv c] (iv v):=by
 rcases bT (BF (iv c) e1) with q0 | q0
 ·exact ⟨_,(ABE n0 n rs n1 m w e1 R e3 n2 g gw c x he1 ihr q0)⟩
 ·exact ⟨_,(ABF n0 n rs n1 m w e1 R e3 n2 g gw c x he1 ihr q0)⟩
end
section
variable (n0:Bool)(n:Nat)(rs:Nat->ResD)(n1:Bool)(m:Nat)(w:Nat->Int)(e1:List (EV×EV))(R:RulesV)(e3:List (EV×EV))(n2:Bool)(g:Nat)(gw:Nat->Int)(c:Int)(he3:MapOf EW Cu e3)
include n0 n rs n1 m w e1 R e3 n2 g gw c he3
theorem ABG (q0:(BF (iv c) e3)=true):sP 223 [Aq n0 n rs n1 m w e1 R e3,AA n2 g gw,iv c] (iv (IntKind.i64.wrap (0 - CY (iv c) e3))):=
 kP [[(BF (iv c) e3,true)]] (.mk (dS 28) [] [] [] [some (some (BD (iv c) e3,iv (CY (iv c) e3)))]) (kO (kz q0 AD)) (oT (Ai prog 3 (iv c) e3 0 (some (BD (iv c) e3,iv (CY (iv c) e3)))) (CD mT (by assumption)) .nil)
theorem ABH (q0:(BF (iv c) e3)=false):sP 223 [Aq n0 n rs n1 m w e1 R e3,AA n2 g gw,iv c] (iv 0):=
 kP [[(BF (iv c) e3,false)]] (.mk [] [] [] [] [some (none)]) (kO (kz q0 AD)) (oT (Ai prog 3 (iv c) e3 0 none) (B2 (V:=Cu) mT (by assumption)) .nil)
theorem vlo:∃ v,sP 223 [CM n0 n rs n1 m w e1 R e3,nums n2 g gw,iv c] (iv v):=by
 rcases bT (BF (iv c) e3) with q0 | q0
 ·exact ⟨_,(ABG n0 n rs n1 m w e1 R e3 n2 g gw c he3 q0)⟩
 ·exact ⟨_,(ABH n0 n rs n1 m w e1 R e3 n2 g gw c he3 q0)⟩
end
def EP (f:FuncId):Bool:=pures f || f==36 || f==37 || f==70 || f==275
def HZ (f:FuncId):Bool:=f==36 || f==37 || f==70 || f==275
def RE (f:FuncId):Bool:=HZ f || f==0
abbrev inO (n2:Bool)(g:Nat)(gw:Nat->Int):EObj:=.var false true [.func (.func 90) [] [.ip [nums n2 g gw] 0]]
abbrev IH (n:Nat)(qs:Nat->ResD):EObj:=.arr false true 13 false n fun i=>(qs i).cells
section
variable (n2:Bool)(g:Nat)(gw:Nat->Int)(r:ResD)(b1:Bool)(b2:Bool)(ih1:sP 90 [iv r.home,pv [AM n2 g gw] 0] (bv b1))(ih2:sP 90 [iv r.away,pv [AM n2 g gw] 0] (bv b2))
include n2 g gw r b1 b2 ih1 ih2
theorem Zr (q0:(!b1)=true):sF 275 [ag r.cells,pt 0 0] [inO n2 g gw] (bv true) [ov [fc (90) [] [pv [AA n2 g gw] 0]]]:=
 kFm EP HZ [[(!b1,true)]] (.mk (dS 268435456) [] [some (bv b1)] [] []) (kO (kz q0 AD)) (.cons ih1 .nil) 1 [0]
theorem Zs (q0:BA b1):sF 275 [ag r.cells,pt 0 0] [inO n2 g gw] (bv !b2) [ov [fc (90) [] [pv [AA n2 g gw] 0]]]:=
 kFm EP HZ [[A9 b1]] (.mk (dS 268435456) [] [some (bv b1),some (bv b2)] [] []) (kO (kz q0 AD)) (.cons ih2 (.cons ih1 .nil)) 1 [0]
theorem ADA:∃ b,sF 275 [ag r.cells,pt 0 0] [inO n2 g gw] (bv b) [inO n2 g gw]:=by
 rcases bT (!b1) with q0 | q0
 ·exact ⟨_,(Zr n2 g gw r b1 b2 ih1 ih2 q0)⟩
 ·exact ⟨_,(Zs n2 g gw r b1 b2 ih1 ih2 q0)⟩
end
theorem Zt (n:Nat)(rs:Nat->ResD)(h3:n<=100000)(h1:0<n):sF 37 [E3 n rs] [] (EV.ms 0 13 0 (0+n) none) [oA 13 false (0+n) (AU 0 (fun i=>[]) fun i=>(rs i).cells)]:=
 kFm EP HZ [[]] (.mk (dS 1055467) [] [] [] []) (kO AD) (oI ((decide (0+n<=0))=false) (oJ ((decide ((0+n)*96<=70368744177664) && decide (0+n<4611686018427387904))=true) .nil)) 1 [1]
noncomputable abbrev Lj (a0:Nat)(a1:Int):=frame 19 [(0,.ms 0 13 0 a0 none),(1,(fc (275) [] [.ptr 1 0])),(6,.ms 0 13 0 a0 none),(7,.int .i64 a0),(8,.int .i64 a1)]
abbrev TN (a0:Nat)(a1:Nat->ResD)(a2:Bool)(a3:Nat)(a4:Nat->Int):=[IH a0 a1,inO a2 a3 a4]
noncomputable abbrev H0:=cB (cR (cL (cR (AB prog 70))))
abbrev TO (a0:Nat)(a1:Nat->ResD)(a2:Bool)(a3:Nat)(a4:Nat->Int):=TN a0 a1 a2 a3 a4
abbrev BS (a0:Nat)(a1:Nat->ResD)(a2:Bool)(a3:Nat)(a4:Nat->Int):=TO a0 a1 a2 a3 a4
section
variable (n2:Bool)(g:Nat)(gw:Nat->Int)(n:Nat)(qs:Nat->ResD)(v:Nat->Bool)(i:Int)(h0:0<=i)(h3:n<=100000)(ihd:∀ j,j<n->sF 275 [ag (qs (0+j)).cells,pt 0 0] [inO n2 g gw] (bv (v j)) [inO n2 g gw])
include n2 g gw n qs v i h0 h3 ihd
theorem Zu (q0:AH i n)(q1:(v i.toNat)=true):sC (cB (H0)) (Lj n i) ((BS n qs n2 g gw)) (EX.ret,(frame 19 [(4,iv i)]),[oA 13 false n fun i=>(qs i).cells,ov [fc (90) [] [pv [AA n2 g gw] 0]]]):=
 kCm EP HZ [[AG i n,(v i.toNat,true)]] (.mk (dS 4257) [] [] [some ((bv (v i.toNat),[ov [fc (90) [] [pv [AA n2 g gw] 0]]]))] []) (kO (kz q0 (kz q1 AD))) (oT (sF 275 [ag (qs (0+i.toNat)).cells,pt 0 0] [ov [fc (90) [] [pv [sl n2 1 g fun i=>[iv (gw i)]] 0]]] (bv (v i.toNat)) [ov [fc (90) [] [pv [sl n2 1 g fun i=>[iv (gw i)]] 0]]]) (ihd _ (by simp_all<;>omega)) (oJ ((inB i n)=true) .nil)) 16 3 2
theorem Zv (q0:AH i n)(q1:(v i.toNat)=false):sC (cB (H0)) (Lj n i) ((BS n qs n2 g gw)) (xN,(frame 19 [(0,EV.ms 0 13 0 n none),(1,fc (275) [] [pt 1 0]),(6,EV.ms 0 13 0 n none),(7,iv ↑n),(8,iv (i+1))]),[oA 13 false n fun i=>(qs i).cells,ov [fc (90) [] [pv [AA n2 g gw] 0]]]):=
 kCm EP HZ [[AG i n,(v i.toNat,false)]] (.mk (dS 68122) [] [] [some ((bv (v i.toNat),[ov [fc (90) [] [pv [AA n2 g gw] 0]]]))] []) (kO (kz q0 (kz q1 AD))) (oI ((inR IntKind.i64 (i+1))=true) (oT (sF 275 [ag (qs (0+i.toNat)).cells,pt 0 0] [ov [fc (90) [] [pv [sl n2 1 g fun i=>[iv (gw i)]] 0]]] (bv (v i.toNat)) [ov [fc (90) [] [pv [sl n2 1 g fun i=>[iv (gw i)]] 0]]]) (ihd _ (by simp_all<;>omega)) (oJ ((inB i n)=true) .nil))) 451 3 2
theorem Zw (q0:Af i n):sC (cB (H0)) (Lj n i) ((BS n qs n2 g gw)) (xL 0,(frame 19 []),[oA 13 false n fun i=>(qs i).cells,ov [fc (90) [] [pv [AA n2 g gw] 0]]]):=
 kCm EP HZ (Ae i n) (.mk (dS 16) [] [] [] []) (kO (kz q0 AD)) .nil 0 3 2
theorem ADB:∃ r_:RC,sC (cB (cB (cR (cL (cR (AB prog 70)))))) (frame 19 [(0,.ms 0 13 0 n none),(1,(fc (275) [] [.ptr 1 0])),(6,.ms 0 13 0 n none),(7,.int .i64 n),(8,.int .i64 i)]) ([IH n qs,inO n2 g gw]) r_/\((r_=(xN,frame 19 [(0,.ms 0 13 0 n none),(1,(fc (275) [] [.ptr 1 0])),(6,.ms 0 13 0 n none),(7,.int .i64 n),(8,.int .i64 (i+1))],[IH n qs,inO n2 g gw])/\i<n/\True)∨(r_=(EX.ret,frame 19 [(4,iv i)],[IH n qs,inO n2 g gw])/\i<n/\True)∨(r_=(xL 0,frame 19 [],[IH n qs,inO n2 g gw])/\n<=i)):=by
 rcases bT (decide (i<↑n)) with q0 | q0
 ·rcases bT (v i.toNat) with q1 | q1
  ·exact e1 (Zu n2 g gw n qs v i h0 h3 ihd q0 q1)
  ·exact e1 (Zv n2 g gw n qs v i h0 h3 ihd q0 q1)
 ·exact e1 (Zw n2 g gw n qs v i h0 h3 ihd q0)
end
abbrev Gt:=fc (275) [] [.ptr 1 0]
abbrev Fp (a0:Nat):=EV.ms 0 13 0 a0 none
noncomputable abbrev OF (a0:Nat):=frame 19 [(0,.ms 0 13 0 a0 none),(1,(Gt)),(6,.ms 0 13 0 a0 none),(7,.int .i64 a0),(8,.int .i64 0)]
abbrev JN (a0:Nat):=[Fp a0,fc (275) [] [pt 1 0]]
section
variable (n2:Bool)(g:Nat)(gw:Nat->Int)(n:Nat)(qs:Nat->ResD)(x:Int)
include n2 g gw n qs x
theorem Zx (ih:sL (H0) (OF n) (BS n qs n2 g gw) ((xL 0,frame 19 [],(BS n qs n2 g gw)):RC)):sF 70 (JN n) (BS n qs n2 g gw) (iv (-1)) [oA 13 false n fun i=>(qs i).cells,ov [fc (90) [] [pv [AA n2 g gw] 0]]]:=
 kFm EP HZ [[]] (.mk [] [(6,.is 451 3 (xL 0,(frame 19 []),[oA 13 false n fun i=>(qs i).cells,ov [fc (90) [] [pv [AA n2 g gw] 0]]]))] [] [] []) (kO AD) (.cons ih .nil) 3 [0,1]
theorem Zy (ih:sL (H0) (OF n) (BS n qs n2 g gw) ((EX.ret,frame 19 [(4,iv x)],(BS n qs n2 g gw)):RC)):sF 70 (JN n) (BS n qs n2 g gw) (iv x) [oA 13 false n fun i=>(qs i).cells,ov [fc (90) [] [pv [AA n2 g gw] 0]]]:=
 kFm EP HZ [[]] (.mk [] [(6,.is 451 3 (EX.ret,(frame 19 [(4,iv x)]),[oA 13 false n fun i=>(qs i).cells,ov [fc (90) [] [pv [AA n2 g gw] 0]]]))] [] [] []) (kO AD) (.cons ih .nil) 3 [0,1]
end
noncomputable abbrev JO:=cB (cR (cL (cR (cR (cR (AB prog 36))))))
noncomputable abbrev Lk (a0:Nat)(a1:Int)(a2:Int):=frame 42 [(0,.ms 0 13 0 a0 none),(1,(Gt)),(5,.int .i64 a1),(6,.int .i64 a2)]
section
variable (n2:Bool)(g:Nat)(gw:Nat->Int)(n:Nat)(qs:Nat->ResD)(v:Bool)(a:Int)(j:Int)(h0:0<=a)(h1:a<j)(h3:n<=100000)(ihd:j<n->sF 275 [ag (qs (0+j.toNat)).cells,pt 0 0] [inO n2 g gw] (bv v) [inO n2 g gw])
include n2 g gw n qs v a j h0 h1 h3 ihd
theorem Zz (q0:AH j n)(q1:(!v)=true):sC (cB (JO)) (Lk n a j) ((BS n qs n2 g gw)) (xN,(frame 42 [(0,EV.ms 0 13 0 n none),(1,fc (275) [] [pt 1 0]),(5,iv (a+1)),(6,iv (j+1))]),[oA 13 false n (A4 (fun i=>(qs i).cells) (0+a.toNat) (qs (0+j.toNat)).cells),ov [fc (90) [] [pv [AA n2 g gw] 0]]]):=
 kCm EP HZ [[AG j n,(!v,true)]] (.mk (dS 17439402) [] [] [some ((bv v,[ov [fc (90) [] [pv [AA n2 g gw] 0]]]))] []) (kO (kz q0 (kz q1 AD))) (oI ((inR IntKind.i64 (j+1))=true) (oI ((inR IntKind.i64 (a+1))=true) (oJ ((inB a n)=true) (oT (sF 275 [ag (qs (0+j.toNat)).cells,pt 0 0] [ov [fc (90) [] [pv [sl n2 1 g fun i=>[iv (gw i)]] 0]]] (bv v) [ov [fc (90) [] [pv [sl n2 1 g fun i=>[iv (gw i)]] 0]]]) (ihd (by simp_all<;>omega)) (oJ ((inB j n)=true) .nil))))) 99 3 2
theorem Z0 (q0:AH j n)(q1:BA v):sC (cB (JO)) (Lk n a j) ((BS n qs n2 g gw)) (xN,(frame 42 [(0,EV.ms 0 13 0 n none),(1,fc (275) [] [pt 1 0]),(5,iv a),(6,iv (j+1))]),[oA 13 false n fun i=>(qs i).cells,ov [fc (90) [] [pv [AA n2 g gw] 0]]]):=
 kCm EP HZ [[AG j n,A9 v]] (.mk (dS 68122) [] [] [some ((bv v,[ov [fc (90) [] [pv [AA n2 g gw] 0]]]))] []) (kO (kz q0 (kz q1 AD))) (oI ((inR IntKind.i64 (j+1))=true) (oT (sF 275 [ag (qs (0+j.toNat)).cells,pt 0 0] [ov [fc (90) [] [pv [sl n2 1 g fun i=>[iv (gw i)]] 0]]] (bv v) [ov [fc (90) [] [pv [sl n2 1 g fun i=>[iv (gw i)]] 0]]]) (ihd (by simp_all<;>omega)) (oJ ((inB j n)=true) .nil))) 99 3 2
theorem Z1 (q0:Af j n):sC (cB (JO)) (Lk n a j) ((BS n qs n2 g gw)) (xL 0,(frame 42 [(0,EV.ms 0 13 0 n none),(5,iv a)]),[oA 13 false n fun i=>(qs i).cells,ov [fc (90) [] [pv [AA n2 g gw] 0]]]):=
 kCm EP HZ (Ae j n) (.mk (dS 16) [] [] [] []) (kO (kz q0 AD)) .nil 33 3 2
theorem ABI:∃ r_:RC,sC (cB (cB (cR (cL (cR (cR (cR (AB prog 36)))))))) (frame 42 [(0,.ms 0 13 0 n none),(1,(fc (275) [] [.ptr 1 0])),(5,.int .i64 a),(6,.int .i64 j)]) [IH n qs,inO n2 g gw] r_/\((r_=(xN,frame 42 [(0,.ms 0 13 0 n none),(1,(fc (275) [] [.ptr 1 0])),(5,.int .i64 a),(6,.int .i64 (j+1))],[IH n qs,inO n2 g gw])/\j<n)∨(r_=(xN,frame 42 [(0,.ms 0 13 0 n none),(1,(fc (275) [] [.ptr 1 0])),(5,.int .i64 (a+1)),(6,.int .i64 (j+1))],[oA 13 false n (A4 (fun x=>(qs x).cells) (0+a.toNat) (qs (0+j.toNat)).cells),inO n2 g gw])/\j<n)∨(r_=(xL 0,frame 42 [(0,.ms 0 13 0 n none),(5,.int .i64 a)],[IH n qs,inO n2 g gw])/\n<=j)):=by
 rcases bT (decide (j<↑n)) with q0 | q0
 ·rcases bT (!v) with q1 | q1
  ·exact e5 (Zz n2 g gw n qs v a j h0 h1 h3 ihd q0 q1)
  ·exact e5 (Z0 n2 g gw n qs v a j h0 h1 h3 ihd q0 q1)
 ·exact e5 (Z1 n2 g gw n qs v a j h0 h1 h3 ihd q0)
end
theorem Z2 (n2:Bool)(g:Nat)(gw:Nat->Int)(n:Nat)(qs:Nat->ResD)(x:Int)(hx:x= -1)(ihx:sF 70 [Fp n,(Gt)] (BS n qs n2 g gw) (iv x) (BS n qs n2 g gw)):sF 36 (JN n) (BS n qs n2 g gw) (Fp n) [oA 13 false n fun i=>(qs i).cells,ov [fc (90) [] [pv [AA n2 g gw] 0]]]:=
 kFm EP HZ [[]] (.mk (dS 26) [] [] [some ((iv x,[oA 13 false n fun i=>(qs i).cells,ov [fc (90) [] [pv [AA n2 g gw] 0]]]))] []) (kO AD) (oI ((x== -1)=true) (.cons ihx .nil)) 3 [0,1]
theorem Z3 (n2:Bool)(g:Nat)(gw:Nat->Int)(n:Nat)(qs:Nat->ResD)(qs1:Nat->ResD)(x:Int)(a:Int)(hx:0<=x)(hx2:x<n)(h3:n<=100000)(ha:0<=a)(ha2:a<=n)(ihx:sF 70 [Fp n,(Gt)] (BS n qs n2 g gw) (iv x) (BS n qs n2 g gw))(ih:sL (JO) (frame 42 [(0,.ms 0 13 0 n none),(1,(Gt)),(5,.int .i64 x),(6,.int .i64 (x+1))]) (BS n qs n2 g gw) ((xL 0,frame 42 [(0,.ms 0 13 0 n none),(5,.int .i64 a)],(BS n qs1 n2 g gw)):RC)):sF 36 (JN n) (BS n qs n2 g gw) (EV.ms 0 13 0 (a.toNat - 0) none) [oA 13 false n (CX (0+a.toNat) ((↑n:Int).toNat - a.toNat) (fun i=>(qs1 i).cells) fun i=>[iv 0,iv 0,iv 0,iv 0,iv 0,iv 0,iv 0,iv 0,iv 0,iv 0,iv 0,bv false,bv false]),ov [fc (90) [] [pv [AA n2 g gw] 0]]]:=
 kFm EP HZ [[]] (.mk (dS 113322) [(13,.is 99 3 (xL 0,(frame 42 [(0,EV.ms 0 13 0 n none),(5,iv a)]),[oA 13 false n fun i=>(qs1 i).cells,ov [fc (90) [] [pv [AA n2 g gw] 0]]]))] [] [some ((iv x,[oA 13 false n fun i=>(qs i).cells,ov [fc (90) [] [pv [AA n2 g gw] 0]]]))] []) (kO AD) (oT ((true && decide (0<=a) && decide (a<=↑n))=true) (by simp_all; done) (oT ((decide (0<=a) && decide (a<=↑n) && decide ((↑n:Int)<=(↑n:Int)))=true) (by simp_all; done) (.cons ih (oI ((inR IntKind.i64 (x+1))=true) (oI ((x== -1)=false) (.cons ihx .nil)))))) 3 [0,1]
theorem ABJ (rs:Nat->ResD)(n1:Bool)(m:Nat)(w:Nat->Int)(e1:List (EV×EV))(R:RulesV)(e3:List (EV×EV))(n2:Bool)(g:Nat)(gw:Nat->Int)(n:Nat)(c:Int)(b:Int)(k:Nat)(q:Nat->ResD)(x:RowD)(v:Int)(ihc:sF 37 [E3 n rs] [] (Fp n) [IH n rs])(ihd:sF 36 [Fp n,(Gt)] (BS n rs n2 g gw) (Fp k) (BS n q n2 g gw))(ihr:sP 222 [CM true n rs n1 m w e1 R e3,sl true 13 k fun i=>(q (0+i)).cells,iv c] (ag (RowD.cells x)))(ihv:sP 276 (CI x b) (iv v)):sP 274 [pv [E3 n rs,AA n1 m w,EV.im e1,sv R.name,iv R.win,iv R.draw,iv R.loss,Dk R,Fe R,EV.im e3] 0,AA n2 g gw,iv c,pv [iv b] 0] (iv v):=
 kPm EP RE [[]] (.mk [] [] [some (fc (90) [] [pv [AA n2 g gw] 0]),some (ag x.cells),some (iv v)] [some ((EV.ms 0 13 0 n none,[oA 13 false n fun i=>(rs i).cells])),some ((EV.ms 0 13 0 k none,[oA 13 false n fun i=>(q i).cells,ov [fc (90) [] [pv [AA n2 g gw] 0]]]))] []) (kO AD) (.cons ihv (.cons ihr (.cons ihd (.cons ihc (oT (sP 49 [sl n2 1 g fun i=>[iv (gw i)]] (fc (90) [] [pv [sl n2 1 g fun i=>[iv (gw i)]] 0])) (Ya _ _ _) .nil)))))
theorem ABK (rs:Nat->ResD)(n1:Bool)(m:Nat)(w:Nat->Int)(e1:List (EV×EV))(R:RulesV)(e3:List (EV×EV))(n2:Bool)(g:Nat)(gw:Nat->Int)(c:Int)(b:Int)(x:RowD)(v:Int)(ihr:sP 222 [CM false 0 rs n1 m w e1 R e3,AHF,iv c] (ag (RowD.cells x)))(ihv:sP 276 (CI x b) (iv v)):sP 274 [pv [sl false 13 0 fun i=>(rs i).cells,AA n1 m w,EV.im e1,sv R.name,iv R.win,iv R.draw,iv R.loss,Dk R,Fe R,EV.im e3] 0,AA n2 g gw,iv c,pv [iv b] 0] (iv v):=
 kPm EP RE [[]] (.mk [] [] [some (fc (90) [] [pv [AA n2 g gw] 0]),some (ag x.cells),some (iv v)] [] []) (kO AD) (.cons ihv (.cons ihr (oT (sP 49 [sl n2 1 g fun i=>[iv (gw i)]] (fc (90) [] [pv [sl n2 1 g fun i=>[iv (gw i)]] 0])) (Ya _ _ _) .nil)))
theorem YA (rs:Nat->ResD)(n1:Bool)(m:Nat)(w:Nat->Int)(e1:List (EV×EV))(R:RulesV)(e3:List (EV×EV))(n2:Bool)(g:Nat)(gw:Nat->Int)(rw:Nat->List EV)(c:Int)(b:Int)(x:RowD)(v:Int)(ihr:sP 222 [CM true 0 rs n1 m w e1 R e3,sl true 13 0 rw,iv c] (ag (RowD.cells x)))(ihv:sP 276 (CI x b) (iv v)):sP 274 [pv [sl true 13 0 fun i=>(rs i).cells,AA n1 m w,EV.im e1,sv R.name,iv R.win,iv R.draw,iv R.loss,Dk R,Fe R,EV.im e3] 0,AA n2 g gw,iv c,pv [iv b] 0] (iv v):=
 kPm EP RE [[]] (.mk [] [] [some (fc (90) [] [pv [AA n2 g gw] 0]),some (ag x.cells),some (iv v)] [] []) (kO AD) (.cons ihv (oT (sP 222 [pv [sl true 13 0 fun i=>(rs i).cells,sl n1 1 m fun i=>[iv (w i)],EV.im e1,sv R.name,iv R.win,iv R.draw,iv R.loss,sl R.onn 8 R.on R.orow,sl R.znn 3 R.zn fun i=>(R.zs i).cells,EV.im e3] 0,sl true 13 0 fun i=>[],iv c] (ag x.cells)) (ihr.weaken (.cons (.refl _) (.cons (PLe.isl fun i hi=>by omega) (PLes.refl _))) (.refl _)) (oT (sP 49 [sl n2 1 g fun i=>[iv (gw i)]] (fc (90) [] [pv [sl n2 1 g fun i=>[iv (gw i)]] 0])) (Ya _ _ _) .nil)))
theorem RF (n2:Bool)(g:Nat)(gw:Nat->Int)(hg:g<=100000)(r:ResD):∃ b,sF 275 [EV.agg r.cells,EV.ptr 0 0] [inO n2 g gw] (EV.bool b) [inO n2 g gw]:=
 ADA n2 g gw r _ _ (I3 n2 g gw r.home hg) (I3 n2 g gw r.away hg)
theorem TP (n2:Bool)(g:Nat)(gw:Nat->Int)(hg:g<=100000)(n:Nat)(qs:Nat->ResD)(hn:n<=100000)(P:ResD->Prop)(hP:∀ i,i<n->P (qs i)):
  ∃ k q,k<=n/\(∀ i,i<k->P (q i))/\sF 36 [EV.ms 0 13 0 n none,EV.func (.func 275) [] [.ptr 1 0]] [IH n qs,inO n2 g gw] (EV.ms 0 13 0 k none) [IH n q,inO n2 g gw]:=by
 obtain ⟨v,hv⟩:=Classical.axiomOfChoice fun j=>RF n2 g gw hg (qs j)
 have H:=SemL.all (P:=prog) (G:=globs') (rnd:=false) (c:=cB (cB (cR (cL (cR (AB prog 70)))))) (fun i=>frame 19 [(0,.ms 0 13 0 n none),(1,(EV.func (.func 275) [] [.ptr 1 0])),(6,.ms 0 13 0 n none),(7,.int .i64 n),(8,.int .i64 i)]) (fun _=>[IH n qs,inO n2 g gw]) n (fun _=>True) (fun _=>True)
  (fun i=>(EX.ret,frame 19 [(4,EV.int .i64 i)],[IH n qs,inO n2 g gw])) (EX.leave 0,frame 19 [],[IH n qs,inO n2 g gw]) (fun _=>by simp) (by simp) (fun i=>by
   obtain ⟨r,h,h1⟩:=ADB n2 g gw n qs v i (by omega) hn (fun j _=>by rw [Nat.zero_add]; exact hv j)
   exact ⟨r,h,h1.imp (fun x=>⟨x.1,by omega,trivial⟩) (Or.imp (fun x=>⟨x.1,by omega,trivial⟩) fun x=>⟨x.1,by omega⟩)⟩)
 rcases H with ⟨h,_⟩ | ⟨i,hi,_,_,h⟩
 ·exact ⟨n,qs,Nat.le_refl _,hP,Z2 n2 g gw n qs (-1) rfl (Zx n2 g gw n qs 0 (h.toCL (by kernel_rfl)))⟩
 ·have hx:=Zy n2 g gw n qs i (h.toCL (by kernel_rfl))
  obtain ⟨r,⟨a,q,rfl,ha,hq⟩,hl⟩:=SemL.ex (P:=prog) (G:=globs') (rnd:=false) (c:=(cB (cB (cR (cL (cR (cR (cR (AB prog 36))))))))) (X:=Nat×Nat×(Nat->ResD)) (fun x=>frame 42 [(0,.ms 0 13 0 n none),(1,(EV.func (.func 275) [] [.ptr 1 0])),(5,.int .i64 x.2.1),(6,.int .i64 ((i:Int)+1+x.1))]) (fun x=>[IH n x.2.2,inO n2 g gw]) (n - (i+1))
   (fun j x=>x.1=j/\x.2.1<i+1+j/\∀ l,l<n->P (x.2.2 l))
   (fun r=>∃ a q,r=(EX.leave 0,frame 42 [(0,.ms 0 13 0 n none),(5,.int .i64 (a:Nat))],[IH n q,inO n2 g gw])/\a<=n/\∀ l,l<n->P (q l)) (by
    rintro j ⟨j',a,q⟩ hj ⟨hj',ha,hq⟩
    obtain rfl:j'=j:=hj'
    have hidx:(0+((i:Int)+1+j').toNat)=i+1+j':=by omega
    obtain ⟨b,hb⟩:=RF n2 g gw hg (q (0+((i:Int)+1+j').toNat))
    obtain ⟨r,h,h1⟩:=ABI n2 g gw n q b (a:Int) ((i:Int)+1+j') (by omega) (by simp only at ha; omega) hn (fun _=>hb)
    rcases h1 with ⟨rfl,_⟩ | ⟨rfl,_⟩ | ⟨_,hx⟩
    ·exact .inl ⟨(j'+1,a,q),⟨rfl,by simp only at ha ⊢; omega,hq⟩,h⟩
    ·refine .inl ⟨(j'+1,a+1,fun x=>if x=a then q (i+1+j') else q x),⟨rfl,by simp only at ha ⊢; omega,fun l hl=>?_⟩,?_⟩
     ·simp only
      split
      ·exact hq _ (by omega)
      ·exact hq l hl
     ·refine SemC.weaken (VLes.refl _) (HLe.refl _) h (VLes.refl _) (.cons (OLe.arr fun l hl=>?_) (.cons (OLe.refl _) .nil))
      rw [hidx]
      simp only [A4,Nat.zero_add,Int.toNat_natCast]
      split<;>rfl
    ·omega) (by
    rintro ⟨j',a,q⟩ ⟨hj',ha,hq⟩
    have hj':j'=n - (i+1):=hj'
    obtain ⟨b,hb⟩:=RF n2 g gw hg (q (0+((i:Int)+1+j').toNat))
    obtain ⟨r,h,h1⟩:=ABI n2 g gw n q b (a:Int) ((i:Int)+1+j') (by omega) (by simp only at ha; omega) hn (fun _=>hb)
    rcases h1 with ⟨_,hx⟩ | ⟨_,hx⟩ | ⟨rfl,_⟩
    ·omega
    ·omega
    ·exact ⟨_,⟨a,q,rfl,by simp only at ha; omega,hq⟩,by simp,h⟩) (n - (i+1)) 0 (0,i,qs) (by omega) ⟨rfl,by simp,hP⟩
  have hl':SemL prog globs' false (cB (cB (cR (cL (cR (cR (cR (AB prog 36)))))))) (frame 42 [(0,.ms 0 13 0 n none),(1,(EV.func (.func 275) [] [.ptr 1 0])),(5,.int .i64 (i:Nat)),(6,.int .i64 ((i:Int)+1))]) [IH n qs,inO n2 g gw] (EX.leave 0,frame 42 [(0,.ms 0 13 0 n none),(5,.int .i64 (a:Nat))],[IH n q,inO n2 g gw]):=by
   have e:(i:Int)+1+((0:Nat):Int)=(i:Int)+1:=by omega
   simpa only [e] using hl
  have hf:=Z3 n2 g gw n qs q i (a:Int) (by omega) (by omega) hn (by omega) (by omega) hx (hl'.toCL (by kernel_rfl))
  refine ⟨a,fun x=>if x<a then q x else default,ha,fun l hl=>?_,?_⟩
  ·simp only [hl,if_true]
   exact hq l (by omega)
  ·rw [show (a:Int).toNat - 0=a by omega] at hf
   refine hf.weaken (VLes.refl _) (HLe.refl _) (VLe.refl _) (.cons (OLe.arr fun l hl=>?_) (.cons (OLe.refl _) .nil))
   simp only [CX,Nat.zero_add,Int.toNat_natCast]
   by_cases h1:l<a
   ·simp [h1]
   ·have h2:l<a+(n - a):=by omega
    simp only [h1,h2,if_true,if_false]
    rfl
structure CompOk (n0:Bool) (n:Nat) (rs:Nat->ResD) (e1:List (EV×EV)) (R:RulesV) (e3:List (EV×EV)):Prop where
 nil:n0=true∨n=0
 le:n<=100000
 m1:MapOf EW Cu e1
 m3:MapOf EW Cu e3
 wo: -99<=R.loss/\R.loss<=R.draw/\R.draw<=R.win/\R.win<=99
 res:∀ i,i<n->B5 (rs i)=0
section
variable {n0:Bool}{n:Nat}{rs:Nat->ResD}{n1:Bool}{m:Nat}{w:Nat->Int}{e1:List (EV×EV)}{R:RulesV}{e3:List (EV×EV)}
theorem Uy (h:CompOk n0 n rs e1 R e3)(n2:Bool)(g:Nat)(gw:Nat->Int)(c b:Int):∃ v,sP 277 [CM n0 n rs n1 m w e1 R e3,nums n2 g gw,EV.int .i64 c,EV.ip [EV.int .i64 b] 0] (EV.int .i64 v):=by
 obtain ⟨x,hx⟩:=Li n0 n rs n1 m w e1 R e3 n0 n rs c h.le h.nil h.wo h.res
 obtain ⟨v,hv⟩:=Ur x b
 exact ⟨v,vwh n0 n rs n1 m w e1 R e3 n2 g gw c b x v hx hv⟩
theorem TQ (h:CompOk n0 n rs e1 R e3)(n2:Bool)(g:Nat)(gw:Nat->Int)(c:Int):∃ v,sP 221 [CM n0 n rs n1 m w e1 R e3,nums n2 g gw,EV.int .i64 c] (EV.int .i64 v):=by
 obtain ⟨x,hx⟩:=Li n0 n rs n1 m w e1 R e3 n0 n rs c h.le h.nil h.wo h.res
 exact vpt n0 n rs n1 m w e1 R e3 n2 g gw c x h.m1 hx
theorem XV (h:CompOk n0 n rs e1 R e3)(n2:Bool)(g:Nat)(gw:Nat->Int)(c:Int):∃ v,sP 223 [CM n0 n rs n1 m w e1 R e3,nums n2 g gw,EV.int .i64 c] (EV.int .i64 v):=
 vlo n0 n rs n1 m w e1 R e3 n2 g gw c h.m3
theorem XW (h:CompOk n0 n rs e1 R e3)(n2:Bool)(g:Nat)(gw:Nat->Int)(hg:g<=100000)(c b:Int):∃ v,sP 274 [CM n0 n rs n1 m w e1 R e3,nums n2 g gw,EV.int .i64 c,EV.ip [EV.int .i64 b] 0] (EV.int .i64 v):=by
 rcases h.nil with h0 | h0
 ·subst h0
  obtain ⟨k,q,hk,hq,hd⟩:=TP n2 g gw hg n rs h.le (fun r=>B5 r=0) h.res
  obtain ⟨x,hx⟩:=Li true n rs n1 m w e1 R e3 true k q c (by have:=h.le; omega) (.inl rfl) h.wo hq
  obtain ⟨v,hv⟩:=Ur x b
  by_cases hn:0<n
  ·have hc:sF 37 [EV.isl true 13 n fun i=>(rs i).cells] [] (EV.ms 0 13 0 n none) [IH n rs]:=by
    have:=Zt n rs h.le hn
    rw [Nat.zero_add] at this
    exact this.weaken (VLes.refl _) (HLe.refl _) (VLe.refl _) (.cons (OLe.arr fun i hi=>by simp [AU]) .nil)
   exact ⟨v,ABJ rs n1 m w e1 R e3 n2 g gw n c b k q x v hc hd (hx.weaken (.cons (.refl _) (.cons (PLe.isl fun i _=>by rw [Nat.zero_add]) (PLes.refl _))) (.refl _)) hv⟩
  ·have h0:n=0:=by omega
   subst h0
   obtain ⟨x,hx⟩:=Li true 0 rs n1 m w e1 R e3 true 0 rs c (by omega) (.inl rfl) h.wo (fun i hi=>by omega)
   obtain ⟨v,hv⟩:=Ur x b
   exact ⟨v,YA rs n1 m w e1 R e3 n2 g gw _ c b x v hx hv⟩
 ·subst h0
  cases n0 with
  | true=>
   obtain ⟨x,hx⟩:=Li true 0 rs n1 m w e1 R e3 true 0 rs c (by omega) (.inl rfl) h.wo (fun i hi=>by omega)
   obtain ⟨v,hv⟩:=Ur x b
   exact ⟨v,YA rs n1 m w e1 R e3 n2 g gw _ c b x v hx hv⟩
  | false=>
   obtain ⟨x,hx⟩:=Li false 0 rs n1 m w e1 R e3 false 0 rs c (by omega) (.inr rfl) h.wo (fun i hi=>by omega)
   obtain ⟨v,hv⟩:=Ur x b
   exact ⟨v,ABK rs n1 m w e1 R e3 n2 g gw c b x v (hx.weaken (.cons (.refl _) (.cons PLe.isl0 (PLes.refl _))) (.refl _)) hv⟩
end
theorem Rl (b:Int):sP 219 [iv b] (fc (274) [] [pv [iv b] 0]):=
 kP [] (.mk [] [] [] [] []) KOk.nil .nil
theorem II (b:Int):sP 220 [iv b] (fc (277) [] [pv [iv b] 0]):=
 kP [] (.mk [] [] [] [] []) KOk.nil .nil
abbrev C3:=ag [fc (277) [] [pv [iv 0] 0],fc (221) [] [],fc (277) [] [pv [iv 2] 0],fc (277) [] [pv [iv 3] 0],fc (277) [] [pv [iv 4] 0],fc (277) [] [pv [iv 5] 0],fc (277) [] [pv [iv 6] 0],fc (277) [] [pv [iv 7] 0],fc (274) [] [pv [iv 8] 0],fc (274) [] [pv [iv 9] 0],fc (274) [] [pv [iv 10] 0],fc (274) [] [pv [iv 11] 0],fc (223) [] []]
theorem IQ:sP 163 [] (C3):=
 kP [] (.mk [] [] [some (fc (277) [] [pv [iv 0] 0]),some (fc (277) [] [pv [iv 1] 0]),some (fc (277) [] [pv [iv 2] 0]),some (fc (277) [] [pv [iv 3] 0]),some (fc (277) [] [pv [iv 4] 0]),some (fc (277) [] [pv [iv 5] 0]),some (fc (277) [] [pv [iv 6] 0]),some (fc (277) [] [pv [iv 7] 0]),some (fc (274) [] [pv [iv 8] 0]),some (fc (274) [] [pv [iv 9] 0]),some (fc (274) [] [pv [iv 10] 0]),some (fc (274) [] [pv [iv 11] 0]),some (fc (277) [] [pv [iv 12] 0])] [] []) KOk.nil (oT (sP 220 [iv 12] (fc (277) [] [pv [iv 12] 0])) (II _) (oT (sP 219 [iv 11] (fc (274) [] [pv [iv 11] 0])) (Rl _) (oT (sP 219 [iv 10] (fc (274) [] [pv [iv 10] 0])) (Rl _) (oT (sP 219 [iv 9] (fc (274) [] [pv [iv 9] 0])) (Rl _) (oT (sP 219 [iv 8] (fc (274) [] [pv [iv 8] 0])) (Rl _) (oT (sP 220 [iv 7] (fc (277) [] [pv [iv 7] 0])) (II _) (oT (sP 220 [iv 6] (fc (277) [] [pv [iv 6] 0])) (II _) (oT (sP 220 [iv 5] (fc (277) [] [pv [iv 5] 0])) (II _) (oT (sP 220 [iv 4] (fc (277) [] [pv [iv 4] 0])) (II _) (oT (sP 220 [iv 3] (fc (277) [] [pv [iv 3] 0])) (II _) (oT (sP 220 [iv 2] (fc (277) [] [pv [iv 2] 0])) (II _) (oT (sP 220 [iv 1] (fc (277) [] [pv [iv 1] 0])) (II _) (oT (sP 220 [iv 0] (fc (277) [] [pv [iv 0] 0])) (II _) .nil)))))))))))))
theorem ADC (a:Int)(b:Int)(c:Int)(d:Int):sP 225 [ag [iv a,iv b],ag [iv c,iv d]] (iv (bif d != d then 0 else bif b != b then 1 else bif decide (d<b) then -1 else bif decide (d>b) then 1 else 0)):=
 kP [] (.mk [] [(3,.fork true (d != d) 16 15 0 3 (.mk (dS 266) [] [] [] []) (.mk [] [(0,.fork false (b != b) 16 15 0 3 (.mk (dS 257) [] [] [] []) (.mk [] [(0,.fork false (B1 d b) 16 15 0 3 (.mk (dS 4114) [] [] [] []) (.mk [] [(0,.fork false (decide (d>b)) 16 15 0 3 (.mk (dS 65827) [] [] [] []) (.mk (dS 65827) [] [] [] []))] [] [] []))] [] [] []))] [] [] []))] [] [] []) KOk.nil (oF ((d != d)=true->(b != b)=true) .nil)
def NZ (x y:Int):Int:=bif decide (y<x) then -1 else bif decide (y>x) then 1 else 0
theorem QD (a b c d:Int):sP 225 [EV.agg [EV.int IntKind.i64 a,EV.int IntKind.i64 b],EV.agg [EV.int IntKind.i64 c,EV.int IntKind.i64 d]] (EV.int IntKind.i64 (NZ b d)):=by
 have:=ADC a b c d
 simpa [NZ] using this
theorem Uz {x y:Int}:decide (NZ x y<0)=decide (y<x):=by
 unfold NZ
 by_cases h:y<x
 ·simp [h]
 ·by_cases h2:y>x<;>simp [h,h2]
abbrev CN (n:Nat)(f:Nat->Int×Int):EObj:=.arr false true 2 false n fun i=>[.int .i64 (f i).1,.int .i64 (f i).2]
noncomputable def TR (n:Nat)(i j:Int):List EV:=frame 53 [(0,.ms 0 2 0 n none),(1,.int .i64 0),(2,.int .i64 n),(3,.func (.func 225) [] []),(8,.int .i64 i),(9,.int .i64 j)]
def MS (f:FuncId):Bool:=pures f || f==224 || f==280 || f==300
def Pb (f:FuncId):Bool:=f==224 || f==280 || f==300
noncomputable abbrev Ll (a0:Nat)(a1:Int):=frame 53 [(0,EV.ms 0 2 0 a0 none),(1,iv 0),(2,iv ↑a0),(3,fc (225) [] []),(8,iv a1)]
abbrev TS (a0:Nat->Int×Int)(a1:Nat):=[iv (a0 a1).fst,iv (a0 a1).snd]
abbrev JP (a0:Nat->Int×Int)(a1:Int):=NZ (a0 (0+a1.toNat)).snd (a0 (0+(a1 - 1).toNat)).snd<0
noncomputable abbrev Lm:=cB (cB (cR (cB (cL (cR (cB (cB (cR (AB prog 300)))))))))
abbrev TT (a0:Nat->Int×Int)(a1:Nat):=TS a0 a1
abbrev A0 (a0:Nat->Int×Int)(a1:Nat):=TT a0 a1
section
variable (n:Nat)(f:Nat->Int×Int)(i:Int)(j:Int)(h0:0<=j)(h1:j<n)(h3:n<=100000)
include n f i j h0 h1 h3
theorem ABL (q0:(Ap j)=true)(q1:(decide (JP f j))=true):sC (Lm) (TR n i j) ([CN n f]) (xN,(frame 53 [(0,EV.ms 0 2 0 n none),(1,iv 0),(2,iv ↑n),(3,fc (225) [] []),(8,iv i),(9,iv (j - 1))]),[oA 2 false n (A4 (A4 (fun i=>(A0 f i)) (0+j.toNat) [iv (f (0+(j - 1).toNat)).fst,iv (f (0+(j - 1).toNat)).snd]) (0+(j - 1).toNat) [iv (f (0+j.toNat)).fst,iv (f (0+j.toNat)).snd])]):=
 kC [[(GW j),(decide (JP f j),true)]] (.mk (dS 0x10000a0000a0a00001aaaaaaa) [] [some (iv (NZ (f (0+j.toNat)).snd (f (0+(j - 1).toNat)).snd))] [] []) (kO (kz q0 (kz q1 AD))) (oI ((inR IntKind.i64 (j - 1))=true) (oJ ((inB (j - 1) n)=true) (oJ ((inB j n)=true) (oJ ((inB j n)=true) (oJ ((inB (j - 1) n)=true) (oI ((inR IntKind.i64 (j - 1))=true) (oI ((inR IntKind.i64 (j - 1))=true) (oT (sP 225 [ag [iv (f (0+j.toNat)).fst,iv (f (0+j.toNat)).snd],ag [iv (f (0+(j - 1).toNat)).fst,iv (f (0+(j - 1).toNat)).snd]] (iv (NZ (f (0+j.toNat)).snd (f (0+(j - 1).toNat)).snd))) (QD _ _ _ _) (oJ ((inB (j - 1) n)=true) (oI ((inR IntKind.i64 (j - 1))=true) (oJ ((inB j n)=true) .nil))))))))))) 783 1 1
theorem ABM (q0:(Ap j)=true)(q1:(decide (JP f j))=false):sC (Lm) (TR n i j) ([CN n f]) (xL 2,(Ll n i),[oA 2 false n fun i=>(A0 f i)]):=
 kC [[(GW j),(decide (JP f j),false)]] (.mk (dS 0x10000a0000a0a00001) [] [some (iv (NZ (f (0+j.toNat)).snd (f (0+(j - 1).toNat)).snd))] [] []) (kO (kz q0 (kz q1 AD))) (oT (sP 225 [ag [iv (f (0+j.toNat)).fst,iv (f (0+j.toNat)).snd],ag [iv (f (0+(j - 1).toNat)).fst,iv (f (0+(j - 1).toNat)).snd]] (iv (NZ (f (0+j.toNat)).snd (f (0+(j - 1).toNat)).snd))) (QD _ _ _ _) (oJ ((inB (j - 1) n)=true) (oI ((inR IntKind.i64 (j - 1))=true) (oJ ((inB j n)=true) .nil)))) 271 1 1
theorem ABN (q0:(Ap j)=false):sC (Lm) (TR n i j) ([CN n f]) (xL 2,(Ll n i),[oA 2 false n fun i=>(A0 f i)]):=
 kC [[(decide (j>0),false)]] (.mk (dS 4503599627370496) [] [] [] []) (kO (kz q0 AD)) .nil 271 1 1
end
noncomputable abbrev OG (a0:Nat)(a1:Int):=frame 53 [(0,.ms 0 2 0 a0 none),(1,.int .i64 0),(2,.int .i64 a0),(3,.func (.func 225) [] []),(8,.int .i64 a1)]
section
variable (n:Nat)(f:Nat->Int×Int)(f1:Nat->Int×Int)(i:Int)(h0:0<=i)(h3:n<=100000)(ih:i<n->sL (cB (cR (cB (cL (cR (cB (cB (cR (AB prog 300))))))))) (TR n i i) [CN n f] ((xL 2,frame 53 [(0,.ms 0 2 0 n none),(1,.int .i64 0),(2,.int .i64 n),(3,.func (.func 225) [] []),(8,.int .i64 i)],[CN n f1]):RC))
include n f f1 i h0 h3 ih
theorem ABO (q0:AH i n):sC (cB (cB (cR (AB prog 300)))) (OG n i) ([CN n f]) (xN,(frame 53 [(0,EV.ms 0 2 0 n none),(1,iv 0),(2,iv ↑n),(3,fc (225) [] []),(8,iv (i+1))]),[oA 2 false n fun i=>(A0 f1 i)]):=
 kC [[AG i n]] (.mk (dS 266) [(10,.is 783 1 (xL 2,(Ll n i),[oA 2 false n fun i=>(A0 f1 i)]))] [] [] []) (kO (kz q0 AD)) (oI ((inR IntKind.i64 (i+1))=true) (.cons (ih (by simp_all)) .nil)) 271 1 1
theorem ABP (q0:Af i n):sC (cB (cB (cR (AB prog 300)))) (OG n i) ([CN n f]) (xL 0,(frame 53 []),[oA 2 false n fun i=>(A0 f i)]):=
 kC (Ae i n) (.mk (dS 16) [] [] [] []) (kO (kz q0 AD)) .nil 0 1 1
theorem ioB:∃ r_:RC,sC (cB (cB (cR (AB prog 300)))) (frame 53 [(0,.ms 0 2 0 n none),(1,.int .i64 0),(2,.int .i64 n),(3,.func (.func 225) [] []),(8,.int .i64 i)]) [CN n f] r_/\((r_=(xN,frame 53 [(0,.ms 0 2 0 n none),(1,.int .i64 0),(2,.int .i64 n),(3,.func (.func 225) [] []),(8,.int .i64 (i+1))],[CN n f1])/\i<n)∨(r_=(xL 0,frame 53 [],[CN n f])/\n<=i)):=by
 rcases bT (decide (i<↑n)) with q0 | q0
 ·exact e3 (ABO n f f1 i h0 h3 ih q0)
 ·exact e3 (ABP n f f1 i h0 h3 ih q0)
end
theorem ABQ (n:Nat)(f:Nat->Int×Int)(f1:Nat->Int×Int)(h3:n<=8)(ih:sL (cB (cR (AB prog 300))) (frame 53 [(0,.ms 0 2 0 n none),(1,.int .i64 0),(2,.int .i64 n),(3,.func (.func 225) [] []),(8,.int .i64 1)]) [CN n f] ((xL 0,frame 53 [],[CN n f1]):RC)):sF 300 [EV.ms 0 2 0 n none,iv 0,iv ↑n,fc (225) [] []] [CN n f] (tu []) [oA 2 false n fun i=>(A0 f1 i)]:=
 kFm MS Pb [[]] (.mk [] [(3,.is 271 1 (xL 0,(frame 53 []),[oA 2 false n fun i=>(A0 f1 i)]))] [] [] []) (kO AD) (.cons ih .nil) 1 [0]
theorem ABR (n:Nat)(f:Nat->Int×Int)(f1:Nat->Int×Int)(h3:n<=8)(ih:sF 300 [EV.ms 0 2 0 n none,iv 0,iv n,fc (225) [] []] [CN n f] (tu []) [CN n f1]):sF 280 [EV.ms 0 2 0 n none,iv ↑n,fc (225) [] []] [CN n f] (tu []) [oA 2 false n fun i=>(A0 f1 i)]:=
 kFm MS Pb [[]] (.mk (dS 443) [] [] [some ((tu [],[oA 2 false n fun i=>(A0 f1 i)]))] []) (kO AD) (oI ((decide (20<(↑n:Int)))=false) (.cons ih (oI ((decide (20<=(↑n:Int)))=false) .nil))) 1 [0]
theorem ABS (n:Nat)(f:Nat->Int×Int)(f1:Nat->Int×Int)(h3:n<=8)(ih:sF 280 [EV.ms 0 2 0 n none,iv n,fc (225) [] []] [CN n f] (tu []) [CN n f1]):sF 224 [EV.ms 0 2 0 n none,fc (225) [] []] [CN n f] (tu []) [oA 2 false n fun i=>(A0 f1 i)]:=
 kFm MS Pb [[]] (.mk [] [] [] [some ((tu [],[oA 2 false n fun i=>(A0 f1 i)]))] []) (kO AD) (.cons ih .nil) 1 [0]
def Ha (f:Nat->Int×Int)(j:Nat):Nat->Int×Int:=fun i=>if i=j - 1 then f j else if i=j then f (j - 1) else f i
inductive Swaps (n:Nat):(Nat->Int×Int)->(Nat->Int×Int)->Prop where
 | refl (f):Swaps n f f
 | step (f) (j:Nat) (hj:0<j) (hn:j<n) (h:(f (j - 1)).2<(f j).2) (g) (t:Swaps n (Ha f j) g):Swaps n f g
theorem Swaps.trans {n:Nat}{f g h:Nat->Int×Int}(a:Swaps n f g)(b:Swaps n g h):Swaps n f h:=by
 induction a with
 | refl=>exact b
 | step f j hj hn hlt g _ ih=>exact .step f j hj hn hlt h (ih b)
theorem QE (n:Nat)(hn:n<=100000)(i:Nat):∀ (j:Nat) (f:Nat->Int×Int),j<n->
  ∃ g,Swaps n f g/\SemL prog globs' false (cB (cB (cR (cB (cL (cR (cB (cB (cR (AB prog 300)))))))))) (TR n i j) [CN n f] (EX.leave 2,frame 53 [(0,.ms 0 2 0 n none),(1,.int .i64 0),(2,.int .i64 n),(3,.func (.func 225) [] []),(8,.int .i64 i)],[CN n g])
 | 0,f,hj=>⟨f,.refl f,SemL.last (ABN n f i (0:Nat) (by omega) (by omega) hn (by simp)) (by simp)⟩
 | j+1,f,hj=>by
  have e1:(0+((j+1:Nat):Int).toNat)=j+1:=by omega
  have e2:(0+(((j+1:Nat):Int) - 1).toNat)=j:=by omega
  cases hb:decide (NZ (f (0+((j+1:Nat):Int).toNat)).2 (f (0+(((j+1:Nat):Int) - 1).toNat)).2<0) with
  | false=>exact ⟨f,.refl f,SemL.last (ABM n f i ((j+1:Nat):Int) (by omega) (by omega) hn (by simp) hb) (by simp)⟩
  | true=>
   have h:=ABL n f i ((j+1:Nat):Int) (by omega) (by omega) hn (by simp) hb
   rw [e1,e2,Uz] at hb
   have hlt:(f j).2<(f (j+1)).2:=of_decide_eq_true hb
   obtain ⟨g,hg,hl⟩:=QE n hn i j (Ha f (j+1)) (by omega)
   refine ⟨g,.step f (j+1) (by omega) hj (by simpa using hlt) g hg,SemL.step (t:=TR n i j) (s:=[CN n (Ha f (j+1))]) (SemC.weaken (VLes.refl _) (HLe.refl _) h ?_ (.cons (OLe.arr fun l hl=>?_) .nil)) hl⟩
   ·rw [show (((j+1:Nat):Int) - 1)=(j:Int) by omega]
    exact VLes.refl _
   ·rw [e1,e2]
    simp only [A4,Ha,Nat.add_sub_cancel]
    split
    ·rfl
    ·split<;>rfl
theorem XX (n:Nat)(hn:n<=8)(f:Nat->Int×Int):∃ g,Swaps n f g/\sF 224 [EV.ms 0 2 0 n none,EV.func (.func 225) [] []] [CN n f] (EV.tuple []) [CN n g]:=by
 have outer:∀ k i f,(n<=i∨i+k=n)->∃ g,Swaps n f g/\SemL prog globs' false (cB (cB (cR (AB prog 300)))) (frame 53 [(0,.ms 0 2 0 n none),(1,.int .i64 0),(2,.int .i64 n),(3,.func (.func 225) [] []),(8,.int .i64 (i:Nat))]) [CN n f] (EX.leave 0,frame 53 [],[CN n g]):=by
  intro k
  induction k with
  | zero=>
   intro i f hi
   obtain ⟨r,h,⟨_,hx⟩ | ⟨rfl,_⟩⟩:=ioB n f f i (by omega) (by omega) (fun h=>by omega)
   ·omega
   ·exact ⟨f,.refl f,SemL.last h (by simp)⟩
  | succ k ih=>
   intro i f hi
   by_cases hlt:i<n
   ·obtain ⟨g,hg,hl⟩:=QE n (by omega) i i f hlt
    obtain ⟨r,h,⟨rfl,_⟩ | ⟨_,hx⟩⟩:=ioB n f g i (by omega) (by omega) (fun _=>hl.toCL (by kernel_rfl))
    ·obtain ⟨g2,hg2,hl2⟩:=ih (i+1) g (by omega)
     exact ⟨g2,hg.trans hg2,SemL.step h hl2⟩
    ·omega
   ·obtain ⟨r,h,⟨_,hx⟩ | ⟨rfl,_⟩⟩:=ioB n f f i (by omega) (by omega) (fun h=>by omega)
    ·omega
    ·exact ⟨f,.refl f,SemL.last h (by simp)⟩
 obtain ⟨g,hg,hl⟩:=outer (n - 1) 1 f (by omega)
 have h1:=ABQ n f g hn (hl.toCL (by kernel_rfl))
 exact ⟨g,hg,ABS n f g hn (ABR n f g hn h1)⟩
def Ord (n:Nat)(f:Nat->Int×Int):Prop:=∀ a b,a<b->b<n->(f a).2=(f b).2->(f a).1<(f b).1
theorem Swaps.ord {n:Nat}{f g:Nat->Int×Int}(s:Swaps n f g):Ord n f->Ord n g:=by
 induction s with
 | refl=>exact id
 | step f j hj hn hlt g _ ih=>
  intro h
  refine ih fun a b hab hb=>?_
  unfold Ha
  by_cases a1:a=j - 1<;>by_cases a2:a=j<;>by_cases b1:b=j - 1<;>by_cases b2:b=j<;>simp only [a1,a2,b1,b2,if_true,if_false]<;>intro he
  all_goals first
   | omega
   | exact absurd he (by subst_vars; simp_all; omega)
   | (subst_vars; first | exact h _ _ (by omega) (by omega) he | (simp_all; done) | (simp_all; exact h _ _ (by omega) (by omega) he))
   | exact h _ _ (by omega) (by omega) he
theorem swap_perm (f:Nat->Int×Int):∀ (n j:Nat),0<j->j<n->((List.range n).map (Ha f j)).Perm ((List.range n).map f)
 | 0,j,_,h=>by omega
 | n+1,j,h0,h=>by
  by_cases hj:j<n
  ·have ih:=swap_perm f n j h0 hj
   rw [List.range_succ,List.map_append,List.map_append]
   have e:Ha f j n=f n:=by
    unfold Ha
    rw [if_neg (by omega),if_neg (by omega)]
   simp only [List.map_cons,List.map_nil,e]
   exact ih.append_right _
  ·obtain rfl:j=n:=by omega
   obtain ⟨m,rfl⟩:∃ m,j=m+1:=⟨j - 1,by omega⟩
   rw [List.range_succ,List.range_succ,List.map_append,List.map_append,List.map_append,List.map_append]
   have e:(List.range m).map (Ha f (m+1))=(List.range m).map f:=List.map_congr_left fun x hx=>by
    have:=List.mem_range.1 hx
    unfold Ha
    rw [if_neg (by omega),if_neg (by omega)]
   have e1:Ha f (m+1) m=f (m+1):=by simp [Ha]
   have e2:Ha f (m+1) (m+1)=f m:=by simp [Ha]
   simp only [List.map_cons,List.map_nil,e,e1,e2,List.append_assoc,List.singleton_append]
   exact List.Perm.append_left _ (List.Perm.swap ..)
theorem Swaps.perm {n:Nat}{f g:Nat->Int×Int}(s:Swaps n f g):((List.range n).map g).Perm ((List.range n).map f):=by
 induction s with
 | refl=>exact List.Perm.refl _
 | step f j hj hn _ g _ ih=>exact ih.trans (swap_perm f n j hj hn)
section
variable (n0:Bool)(n:Nat)(rs:Nat->ResD)(n1:Bool)(m:Nat)(w:Nat->Int)(e1:List (EV×EV))(R:RulesV)(e3:List (EV×EV))(n2:Bool)(g:Nat)(gw:Nat->Int)(c:Int)(b:Int)(v:Int)
include n0 n rs n1 m w e1 R e3 n2 g gw c b v
theorem ABT (ih:sP 277 [CM n0 n rs n1 m w e1 R e3,AM n2 g gw,iv c,pv [iv b] 0] (iv v)):sP 165 [iv c,pv [fc (277) [] [pv [iv b] 0]] 0,pv [Aq n0 n rs n1 m w e1 R e3] 0,pv [AA n2 g gw] 0] (iv v):=
 kP [] (.mk [] [] [some (iv v)] [] []) KOk.nil (.cons ih .nil)
theorem ABU (ih:sP 221 [CM n0 n rs n1 m w e1 R e3,AM n2 g gw,iv c] (iv v)):sP 165 [iv c,pv [fc (221) [] []] 0,pv [Aq n0 n rs n1 m w e1 R e3] 0,pv [AA n2 g gw] 0] (iv v):=
 kP [] (.mk [] [] [some (iv v)] [] []) KOk.nil (.cons ih .nil)
theorem ABV (ih:sP 274 [CM n0 n rs n1 m w e1 R e3,AM n2 g gw,iv c,pv [iv b] 0] (iv v)):sP 165 [iv c,pv [fc (274) [] [pv [iv b] 0]] 0,pv [Aq n0 n rs n1 m w e1 R e3] 0,pv [AA n2 g gw] 0] (iv v):=
 kP [] (.mk [] [] [some (iv v)] [] []) KOk.nil (.cons ih .nil)
theorem ABW (ih:sP 223 [CM n0 n rs n1 m w e1 R e3,AM n2 g gw,iv c] (iv v)):sP 165 [iv c,pv [fc (223) [] []] 0,pv [Aq n0 n rs n1 m w e1 R e3] 0,pv [AA n2 g gw] 0] (iv v):=
 kP [] (.mk [] [] [some (iv v)] [] []) KOk.nil (.cons ih .nil)
end
def Ku:Nat->EV
 | 1=>.func (.func 221) [] []
 | 8=>.func (.func 274) [] [.ip [.int .i64 8] 0]
 | 9=>.func (.func 274) [] [.ip [.int .i64 9] 0]
 | 10=>.func (.func 274) [] [.ip [.int .i64 10] 0]
 | 11=>.func (.func 274) [] [.ip [.int .i64 11] 0]
 | 12=>.func (.func 223) [] []
 | b=>.func (.func 277) [] [.ip [.int .i64 b] 0]
section
variable {n0:Bool}{n:Nat}{rs:Nat->ResD}{n1:Bool}{m:Nat}{w:Nat->Int}{e1:List (EV×EV)}{R:RulesV}{e3:List (EV×EV)}
theorem TU (h:CompOk n0 n rs e1 R e3)(n2:Bool)(g:Nat)(gw:Nat->Int)(hg:g<=100000)(b:Nat)(hb:1<=b/\b<=12):
  ∃ v:Int->Int,∀ c,sP 165 [EV.int .i64 c,EV.ip [Ku b] 0,EV.ip [CM n0 n rs n1 m w e1 R e3] 0,EV.ip [nums n2 g gw] 0] (EV.int .i64 (v c)):=by
 have key:∀ c:Int,∃ y:Int,sP 165 [EV.int .i64 c,EV.ip [Ku b] 0,EV.ip [CM n0 n rs n1 m w e1 R e3] 0,EV.ip [nums n2 g gw] 0] (EV.int .i64 y):=by
  intro c
  have hw:∀ k:Int,∃ y,sP 165 [EV.int .i64 c,EV.ip [.func (.func 277) [] [.ip [.int .i64 k] 0]] 0,EV.ip [CM n0 n rs n1 m w e1 R e3] 0,EV.ip [nums n2 g gw] 0] (EV.int .i64 y):=fun k=>by
   obtain ⟨v,hv⟩:=Uy (n1:=n1) (m:=m) (w:=w) h n2 g gw c k
   exact ⟨v,ABT n0 n rs n1 m w e1 R e3 n2 g gw c k v hv⟩
  have hh:∀ k:Int,∃ y,sP 165 [EV.int .i64 c,EV.ip [.func (.func 274) [] [.ip [.int .i64 k] 0]] 0,EV.ip [CM n0 n rs n1 m w e1 R e3] 0,EV.ip [nums n2 g gw] 0] (EV.int .i64 y):=fun k=>by
   obtain ⟨v,hv⟩:=XW (n1:=n1) (m:=m) (w:=w) h n2 g gw hg c k
   exact ⟨v,ABV n0 n rs n1 m w e1 R e3 n2 g gw c k v hv⟩
  match b,hb with
  | 1,_=>
   obtain ⟨v,hv⟩:=TQ (n1:=n1) (m:=m) (w:=w) h n2 g gw c
   exact ⟨v,ABU n0 n rs n1 m w e1 R e3 n2 g gw c 0 v hv⟩
  | 2,_=>exact hw 2
  | 3,_=>exact hw 3
  | 4,_=>exact hw 4
  | 5,_=>exact hw 5
  | 6,_=>exact hw 6
  | 7,_=>exact hw 7
  | 8,_=>exact hh 8
  | 9,_=>exact hh 9
  | 10,_=>exact hh 10
  | 11,_=>exact hh 11
  | 12,_=>
   obtain ⟨v,hv⟩:=XV (n1:=n1) (m:=m) (w:=w) h n2 g gw c
   exact ⟨v,ABW n0 n rs n1 m w e1 R e3 n2 g gw c 0 v hv⟩
 obtain ⟨v,hv⟩:=Classical.axiomOfChoice key
 exact ⟨v,hv⟩
end
end Go.Ev
namespace Go.Ev
theorem Rel.swap {K:KM}{σ:AL}{w:World}(hR:Rel K σ w){q:Nat}{o o':EObj}(ho:σ[q]? =some o)(h:OR K w q o->OR K w q o')(hl:o'.live=true->o.live=true)(ht:o'.there=true->o.there=true):
  Ext K σ w K (σ.set q o') w/\Rel K (σ.set q o') w:=by
 have hget:∀ r x,(σ.set q o')[r]? =some x->(r=q/\x=o')∨(r≠q/\σ[r]? =some x):=by
  intro r x hx
  by_cases hr:r=q
  ·subst hr
   have hlt:=(List.getElem?_eq_some_iff.1 ho).1
   rw [List.getElem?_set_self hlt] at hx
   exact .inl ⟨rfl,(Option.some.inj hx).symm⟩
  ·rw [List.getElem?_set_ne (Ne.symm hr)] at hx
   exact .inr ⟨hr,hx⟩
 have hown:∀ b,Owned K (σ.set q o') b->Owned K σ b:=by
  rintro b ⟨r,x,h1,h2,h3⟩
  rcases hget r x h1 with ⟨rfl,rfl⟩ | ⟨_,h4⟩
  ·exact ⟨r,o,ho,hl h2,h3⟩
  ·exact ⟨r,x,h4,h2,h3⟩
 refine ⟨⟨by simp,fun _ h=>h,fun _ _=>⟨rfl,rfl,rfl,rfl⟩,fun _ h=>h,fun _ h=>.inl h,fun b hb=>.inr (hown b hb),fun _ _ _=>rfl,Nat.le_refl _,rfl,rfl,rfl⟩,?_⟩
 refine ⟨fun r x hx=>?_,fun r r' x x' h1 h2 l1 l2 hb=>?_,fun b hb=>hR.notF b (hown b hb),fun r x hx hth=>?_,hR.Flt,fun r ha=>by simpa using hR.alt r ha⟩
 ·rcases hget r x hx with ⟨rfl,rfl⟩ | ⟨_,h4⟩
  ·exact h (hR.obj r o ho)
  ·exact hR.obj r x h4
 ·rcases hget r x h1 with ⟨rfl,rfl⟩ | ⟨_,h4⟩<;>rcases hget r' x' h2 with ⟨rfl,rfl⟩ | ⟨_,h5⟩
  ·rfl
  ·exact hR.inj _ _ _ _ ho h5 (hl l1) l2 hb
  ·exact hR.inj _ _ _ _ h4 ho l1 (hl l2) hb
  ·exact hR.inj _ _ _ _ h4 h5 l1 l2 hb
 ·rcases hget r x hx with ⟨rfl,rfl⟩ | ⟨_,h4⟩
  ·exact hR.lt r o ho (ht hth)
  ·exact hR.lt r x h4 hth
theorem Rel.frzRow {K:KM}{σ:AL}{w:World}(hR:Rel K σ w){r q esz len l c i0:Nat}{ex exq:Bool}{row rows:Nat->List EV}(hr:σ[r]? =some (.arr false true esz ex len row))(hq:σ[q]? =some (.arr false false 1 exq c rows))
  (hrq:r≠q) (hi:rows i0=[.ms r esz 0 l none]):
  ∃ K',Ext K σ w K' ((σ.set r (.arr true true esz ex len row)).set q (.arr false false 1 exq c (A4 rows i0 [.isl true esz l row]))) w/\Rel K' ((σ.set r (.arr true true esz ex len row)).set q (.arr false false 1 exq c (A4 rows i0 [.isl true esz l row]))) w:=by
 obtain ⟨e1,r1⟩:=hR.freeze hr rfl
 have hq1:(σ.set r (Bf (.arr false true esz ex len row)))[q]? =some (.arr false false 1 exq c rows):=by rw [List.getElem?_set_ne hrq]; exact hq
 have hr1:(σ.set r (Bf (.arr false true esz ex len row)))[r]? =some (.arr true true esz ex len row):=by
  rw [List.getElem?_set_self (List.getElem?_eq_some_iff.1 hr).1]; rfl
 have hlook:GH (fun x=>(σ.set r (Bf (.arr false true esz ex len row)))[x]?) (K.frz (K.blk r)) w:=fun x o ho=>r1.obj x o ho
 have hval:∀ mv,VR (K.frz (K.blk r)) w (.ms r esz 0 l none) mv->VR (K.frz (K.blk r)) w (.isl true esz l row) mv:=by
  intro mv hv
  have hp:BX (fun x=>(σ.set r (Bf (.arr false true esz ex len row)))[x]?) (0+1) (.ms r esz 0 l none)=some (.isl true esz l fun i=>row (0+i),[r]):=by
   simp only [BX]
   rw [hr1]
   simp
  have:=Ia hlook (fun _ h=>h) (0+1) _ _ _ mv hp hv (fun x hx=>by
   obtain rfl:=List.mem_singleton.1 hx
   exact .inr rfl)
  have e:(fun i=>row (0+i))=row:=by funext i; rw [Nat.zero_add]
  rw [e] at this
  exact .pure _ _ this
 obtain ⟨e2,r2⟩:=r1.swap hq1 (o':=.arr false false 1 exq c (A4 rows i0 [.isl true esz l row])) (fun ho=>by
  obtain ⟨h1,h2,cc,e,fz,q2,q3,q4,q5,q6,q7,q8,q9,q10,q11⟩:=ho
  refine ⟨h1,h2,cc,e,fz,q2,q3,q4,q5,q6,q7,q8,fun i hc=>?_,fun i hc j hj hs=>?_,(fun h=>by cases h)⟩
  ·unfold A4
   split
   ·rfl
   ·exact q9 i hc
  ·by_cases h:i=i0
   ·subst h
    have hu:A4 rows i [.isl true esz l row] i=[.isl true esz l row]:=by simp [A4]
    have hj0:j=0:=by rw [hu] at hj; simpa using hj
    subst hj0
    have:=q10 i hc 0 (by rw [hi]; simp) hs
    simp only [hi,List.getElem_cons_zero] at this
    simp only [hu,List.getElem_cons_zero]
    exact hval _ this
   ·have hu:A4 rows i0 [.isl true esz l row] i=rows i:=by simp [A4,h]
    have hj':j<(rows i).length:=by rw [hu] at hj; exact hj
    simp only [hu]
    exact q10 i hc j hj' hs) (fun h=>h) (fun h=>h)
 exact ⟨_,e1.trans e2,r2⟩
section
variable {P:Program}{G:Nat->Option (List EV)}{rnd:Bool}{c:Code}
theorem SemLR.frzRow {m:Nat}{t:List EV}{σ:AL}{rc:RC}{r q esz len l n i0:Nat}{ex exq:Bool}{row rows:Nat->List EV}(hr:σ[r]? =some (.arr false true esz ex len row))(hq:σ[q]? =some (.arr false false 1 exq n rows))
  (hrq:r≠q) (hi:rows i0=[.ms r esz 0 l none])
  (h:SemLR P G rnd m c t ((σ.set r (.arr true true esz ex len row)).set q (.arr false false 1 exq n (A4 rows i0 [.isl true esz l row]))) rc):SemLR P G rnd m c t σ rc:=by
 intro ro K0 σ0 w0 ds0 a w hro hm hR hG hA
 obtain ⟨K,bs,e1,r1,v1,m1⟩:=hA
 obtain ⟨K',e2,r2⟩:=r1.frzRow hr hq hrq hi
 refine h ro K0 σ0 w0 ds0 a w hro hm hR hG ⟨K',[]++bs,e1.trans e2,r2,v1.ext e2 r1,?_⟩
 exact Marks.trans e1.size e2 m1 Marks.none
end
end Go.Ev
namespace Go.Ev
section
variable {P:Program}{G:Nat->Option (List EV)}{rnd:Bool}{c:Code}
theorem SemLR.ren {m:Nat}{t t2:List EV}{σ s2 s3:AL}{r:RC}(L:List Nat)(hL:FO m L=true)(hr:HI σ L L=some s2)(ht:VLes (t.map (M0 L)) t2)(hh:HLe s2 s3)(hl:SemLR P G rnd m c t2 s3 r):SemLR P G rnd m c t σ r:=by
 simp only [FO,Bool.and_eq_true,decide_eq_true_eq] at hL
 intro ro K0 σ0 w0 ds0 a w hro hm hR hG hA
 exact hl ro K0 σ0 w0 ds0 a w hro hm hR hG ((hA.ren hm (fun r ha=>Nat.lt_of_lt_of_le (hR.alt r ha) hm) hL.1 hL.2 hr).weaken ht hh)
theorem SemLR.le {m:Nat}{t t2:List EV}{σ s2:AL}{r:RC}(ht:VLes t t2)(hh:HLe σ s2)(hl:SemLR P G rnd m c t2 s2 r):SemLR P G rnd m c t σ r:=by
 intro ro K0 σ0 w0 ds0 a w hro hm hR hG hA
 exact hl ro K0 σ0 w0 ds0 a w hro hm hR hG (hA.weaken ht hh)
theorem SemLR.frz {m:Nat}{t:List EV}{σ:AL}{rc:RC}{r:Nat}{o:EObj}(hr:σ[r]? =some o)(hf:o.frz=true)(h:SemLR P G rnd m c t (σ.set r (Bf o)) rc):SemLR P G rnd m c t σ rc:=by
 intro ro K0 σ0 w0 ds0 a w hro hm hR hG hA
 obtain ⟨K,bs,e1,r1,v1,m1⟩:=hA
 obtain ⟨e2,r2⟩:=r1.freeze hr hf
 refine h ro K0 σ0 w0 ds0 a w hro hm hR hG ⟨_,[]++bs,e1.trans e2,r2,v1.ext e2 r1,?_⟩
 exact Marks.trans e1.size e2 m1 Marks.none
end
end Go.Ev
namespace Go.Ev
open Go.Proofs.Tryz (prog)
set_option maxRecDepth 100000
set_option maxHeartbeats 0
noncomputable abbrev OH:=cR (cR (AB prog 164))
noncomputable abbrev JQ:=cB (cR (cL (OH)))
section
variable (V:EV)(C:EV)(n2:Bool)(g:Nat)(gw:Nat->Int)(v:Int->Int)(i:Int)(k:Nat)(f:Nat->Int×Int)(h0:0<=i)(h3:g<=100000)(h4:k<=100000)(ih:∀ c,sP 165 [iv c,.ip [V] 0,.ip [C] 0,.ip [AM n2 g gw] 0] (iv (v c)))
include V C n2 g gw v i k f h0 h3 h4 ih
theorem ABX (q0:AH i g):sR 0 (cB (JQ)) (frame 67 [(1,(fc (165) [] [.ip [V] 0,.ip [C] 0,.ip [AM n2 g gw] 0])),(4,.isl false 0 0 fun _=>[]),(5,.isl false 0 0 fun _=>[]),(10,nums n2 g gw),(11,.int .i64 g),(12,.int .i64 i)]) ([]) (xN,(frame 67 [(1,fc (165) [] [pv [V] 0,pv [C] 0,pv [AA n2 g gw] 0]),(4,sl false 0 0 fun i=>[]),(5,EV.ms 0 2 0 1 none),(10,sl n2 1 g fun i=>(BN gw i)),(11,iv ↑g),(12,iv (i+1))]),[oA 2 false 1 fun i_1=>[[Ah gw i,iv (v (gw i.toNat))]].getD (0+i_1) []]):=
 kR [[AG i g]] (.mk (dS 17433262) [] [some (iv (v (gw i.toNat)))] [] []) (kO (kz q0 AD)) (oI ((inR IntKind.i64 (i+1))=true) (oT (sP 165 [iv (gw i.toNat),pv [V] 0,pv [C] 0,pv [sl n2 1 g fun i=>[iv (gw i)]] 0] (iv (v (gw i.toNat)))) (ih _) (oJ ((inB i g)=true) .nil))) 7218 1 [1] 0
theorem ABY (q0:AH i g):sR 0 (cB (JQ)) (frame 67 [(1,(fc (165) [] [.ip [V] 0,.ip [C] 0,.ip [AM n2 g gw] 0])),(4,.isl false 0 0 fun _=>[]),(5,.ms 0 2 0 k none),(10,nums n2 g gw),(11,.int .i64 g),(12,.int .i64 i)]) ([CN k f]) (xN,(frame 67 [(1,fc (165) [] [pv [V] 0,pv [C] 0,pv [AA n2 g gw] 0]),(4,sl false 0 0 fun i=>[]),(5,EV.ms 0 2 0 (k+1) none),(10,sl n2 1 g fun i=>(BN gw i)),(11,iv ↑g),(12,iv (i+1))]),[oA 2 false (k+1) (AU k (fun i=>[iv (f (0+i)).fst,iv (f (0+i)).snd]) fun i_1=>[[Ah gw i,iv (v (gw i.toNat))]].getD (0+i_1) [])]):=
 kR [[AG i g]] (.mk (dS 68266) [] [some (iv (v (gw i.toNat)))] [] []) (kO (kz q0 AD)) (oI ((inR IntKind.i64 (i+1))=true) (oL ((LJ k)=true) (oT (sP 165 [iv (gw i.toNat),pv [V] 0,pv [C] 0,pv [sl n2 1 g fun i=>[iv (gw i)]] 0] (iv (v (gw i.toNat)))) (ih _) (oJ ((inB i g)=true) .nil)))) 7218 1 [2] 0
theorem ABZ (q0:Af i g):sR 0 (cB (JQ)) (frame 67 [(1,(fc (165) [] [.ip [V] 0,.ip [C] 0,.ip [AM n2 g gw] 0])),(4,.isl false 0 0 fun _=>[]),(5,.ms 0 2 0 k none),(10,nums n2 g gw),(11,.int .i64 g),(12,.int .i64 i)]) ([CN k f]) (xL 0,(frame 67 [(4,sl false 0 0 fun i=>[]),(5,EV.ms 0 2 0 k none)]),[oA 2 false k fun i=>(A0 f i)]):=
 kR (Ae i g) (.mk (dS 16) [] [] [] []) (kO (kz q0 AD)) .nil 48 1 [0] 0
end
abbrev ABa (V C:EV)(n2:Bool)(g:Nat)(gw:Nat->Int):EV:=.func (.func 165) [] [.ip [V] 0,.ip [C] 0,.ip [nums n2 g gw] 0]
abbrev QF (gw:Nat->Int)(v:Int->Int):Nat->Int×Int:=fun i=>(gw i,v (gw i))
noncomputable def Z4 (V C:EV)(n2:Bool)(g:Nat)(gw:Nat->Int)(o:EV)(i:Int):List EV:=frame 67 [(1,ABa V C n2 g gw),(4,.isl false 0 0 fun _=>[]),(5,o),(10,nums n2 g gw),(11,.int .i64 g),(12,.int .i64 i)]
section
variable (V C:EV)(n2:Bool)(g:Nat)(gw:Nat->Int)(v:Int->Int)(h3:g<=100000)(ih:∀ c,sP 165 [EV.int .i64 c,.ip [V] 0,.ip [C] 0,.ip [AM n2 g gw] 0] (EV.int .i64 (v c)))
include h3 ih
theorem ABb:∀ k i,i+1+k=g->sLR 0 (cB (cB (cR (cL (cR (cR (AB prog 164))))))) (Z4 V C n2 g gw (.ms 0 2 0 (i+1) none) ((i+1:Nat):Int)) [CN (i+1) (QF gw v)]
  (EX.leave 0,frame 67 [(4,.isl false 0 0 fun _=>[]),(5,.ms 0 2 0 g none)],[CN g (QF gw v)])
 | 0,i,h=>by
  have e:i+1=g:=by omega
  rw [e]
  exact SemLR.lastR (ABZ V C n2 g gw v (g:Int) g (QF gw v) (by omega) h3 (by omega) ih (by simp)) (by simp)
 | k+1,i,h=>by
  refine SemLR.stepR (SemCR.weaken (ABY V C n2 g gw v ((i+1:Nat):Int) (i+1) (QF gw v) (by omega) h3 (by omega) ih (by simp; omega)) (VLes.refl _) (.cons (OLe.arr fun j hj=>?_) .nil)) (ABb k (i+1) (by omega))
  unfold AU
  split
  ·simp
  ·obtain rfl:j=i+1:=by omega
   simp
theorem ADD (hg:0<g):sL (cB (cR (cL (cR (cR (AB prog 164)))))) (Z4 V C n2 g gw (.isl false 0 0 fun _=>[]) 0) []
  (EX.leave 0,frame 67 [(4,.isl false 0 0 fun _=>[]),(5,.ms 0 2 0 g none)],[CN g (QF gw v)]):=by
 refine SemLR.cl (m:=0) (c:=(cB (cB (cR (cL (cR (cR (AB prog 164)))))))) ?_ rfl (by kernel_rfl)
 refine SemLR.stepR (SemCR.weaken (ABX V C n2 g gw v 0 0 (fun _=>(0,0)) (by omega) h3 (by omega) ih (by simp; omega)) (VLes.refl _) (.cons (OLe.arr fun j hj=>?_) .nil)) (ABb V C n2 g gw v h3 ih (g - 1) 0 (by omega))
 obtain rfl:j=0:=by omega
 simp
end
noncomputable abbrev OI (a0:Nat)(a1:Int):=frame 67 [(4,EV.ms 1 1 0 1 none),(5,EV.ms 0 2 0 a0 none),(27,EV.ms 0 2 0 a0 none),(28,iv ↑a0),(29,iv (a1+1))]
noncomputable abbrev TV (a0:Nat)(a1:Int):=frame 67 [(4,.isl false 0 0 fun _=>[]),(5,.ms 0 2 0 a0 none),(27,.ms 0 2 0 a0 none),(28,.int .i64 a0),(29,.int .i64 a1)]
abbrev CU (a0:Nat->Int×Int)(a1:Int):=[[iv (a0 (0+a1.toNat)).fst]]
noncomputable abbrev CV:=cB (cB (cR (cL (cR (cR (cR (cR (AB prog 164))))))))
theorem ABc (g:Nat)(f:Nat->Int×Int)(i:Int)(h0:i=0)(h3:g<=100000)(q0:AH i g):sR 1 (CV) (TV g i) ([CN g f]) (xN,(OI g i),[oA 2 false g fun i=>(A0 f i),EObj.arr false false 1 false 1 fun i=>List.map (EV.ren fun (x:Nat)=>List.idxOf x [0,3,5]) (A4 (fun i=>[[BC]].getD (0+i) []) 0 [EV.ms 5 1 0 1 none] i),oA 1 false 1 fun i_1=>(CU f i).getD (0+i_1) []]):=
 kR [[AG i g]] (.mk (dS 0x10aaaaaaaaaaa09ae) [] [] [] []) (kO (kz q0 AD)) (oI ((inR IntKind.i64 (i+1))=true) (oI ((i==0)=true) (oI ((i==0)=true) (oI ((i==0)=true) (oI ((i==0)=true) (oI ((i==0)=true) (oI ((i==0)=true) (oI ((i==0)=true) (oI ((i==0)=true) (oI ((i==0)=true) (oI ((i==0)=true) (oJ ((inB i g)=true) .nil)))))))))))) 939524144 7 [0,3,5] 1
noncomputable abbrev OJ (a0:Nat)(a1:Int):=frame 67 [(4,.ms 1 1 0 7 none),(5,.ms 0 2 0 a0 none),(27,.ms 0 2 0 a0 none),(28,.int .i64 a0),(29,.int .i64 a1)]
noncomputable abbrev OK (a0:Nat)(a1:Int):=frame 67 [(4,.ms 1 1 0 6 none),(5,.ms 0 2 0 a0 none),(27,.ms 0 2 0 a0 none),(28,.int .i64 a0),(29,.int .i64 a1)]
noncomputable abbrev OL (a0:Nat)(a1:Int):=frame 67 [(4,.ms 1 1 0 5 none),(5,.ms 0 2 0 a0 none),(27,.ms 0 2 0 a0 none),(28,.int .i64 a0),(29,.int .i64 a1)]
abbrev Fq:=[EV.ms 7 1 0 1 none]
noncomputable abbrev OM (a0:Nat)(a1:Int):=frame 67 [(4,.ms 1 1 0 1 none),(5,.ms 0 2 0 a0 none),(27,.ms 0 2 0 a0 none),(28,.int .i64 a0),(29,.int .i64 a1)]
abbrev Fs (a0:Nat->Nat)(a1:Nat)(a2:Nat->Nat->Int):=[sl true 1 (a0 (0+a1)) fun i_1=>[iv (a2 (0+a1) i_1)]]
abbrev Ft:=EV.ren fun (x:Nat)=>List.idxOf x [0,2,5,7]
abbrev Fu (a0:Nat->Nat)(a1:Nat)(a2:Nat->Nat->Int):=[sl true 1 (a0 a1) fun i=>[iv (a2 a1 i)]]
abbrev Co (a0:Nat->Int×Int)(a1:Int):=(a0 (0+a1.toNat)).snd != (a0 (0+(a1 - 1).toNat)).snd
abbrev E4 (a0:Nat):=[EV.ms 2 1 0 (a0+1) none]
noncomputable abbrev ON (a0:Nat)(a1:Int):=frame 67 [(4,.ms 1 1 0 4 none),(5,.ms 0 2 0 a0 none),(27,.ms 0 2 0 a0 none),(28,.int .i64 a0),(29,.int .i64 a1)]
abbrev Fv:=dS 0x10abbbbbababbbb107ae
abbrev Fw (a0:Nat->Int×Int)(a1:Int):=((a0 (0+a1.toNat)).snd != (a0 (0+(a1 - 1).toNat)).snd,true)
noncomputable abbrev OO (a0:Nat)(a1:Int):=frame 67 [(4,.ms 1 1 0 3 none),(5,.ms 0 2 0 a0 none),(27,.ms 0 2 0 a0 none),(28,.int .i64 a0),(29,.int .i64 a1)]
abbrev Fx (a0:Nat):=[EV.ms 5 1 0 (a0+1+1) none]
abbrev Fy:=EV.ren fun (x:Nat)=>List.idxOf x [0,1,5]
abbrev Fz (a0:Nat->Nat)(a1:Nat)(a2:Nat->Nat->Int):=[sl true 1 (a0 a1) fun i_1=>[iv (a2 a1 i_1)]]
noncomputable abbrev OP (a0:Nat)(a1:Int):=frame 67 [(4,.ms 1 1 0 2 none),(5,.ms 0 2 0 a0 none),(27,.ms 0 2 0 a0 none),(28,.int .i64 a0),(29,.int .i64 a1)]
abbrev F0:=dS 0x10abbbbbababbbb103ae01ae
abbrev F1 (a0:Nat->Int×Int)(a1:Int):=((a0 (0+a1.toNat)).snd != (a0 (0+(a1 - 1).toNat)).snd,false)
abbrev F2 (a0:Nat):=decide ((a0+1+1)*8<=70368744177664) && decide (a0+1+1<4611686018427387904)
abbrev OQ (a0:Nat)(a1:Nat->Int×Int)(a2:Nat)(a3:Nat->Nat)(a4:Nat->Nat->Int)(a5:Nat->Int):=[CN a0 a1,EObj.arr false false 1 false 7 (fun j=>if j=6 then (E4 a2) else (Fu a3 j a4)),oA 1 false (a2+1) fun j=>[iv (a5 j)]]
abbrev OS (a0:Nat)(a1:Nat->Int×Int)(a2:Nat)(a3:Nat->Nat)(a4:Nat->Nat->Int)(a5:Nat->Int):=[CN a0 a1,EObj.arr false false 1 false 6 (fun j=>if j=5 then (E4 a2) else (Fu a3 j a4)),oA 1 false (a2+1) fun j=>[iv (a5 j)]]
abbrev OT (a0:Nat)(a1:Nat->Int×Int)(a2:Nat)(a3:Nat->Nat)(a4:Nat->Nat->Int)(a5:Nat->Int):=[CN a0 a1,EObj.arr false false 1 false 5 (fun j=>if j=4 then (E4 a2) else (Fu a3 j a4)),oA 1 false (a2+1) fun j=>[iv (a5 j)]]
abbrev TW (a0:Nat):=E4 a0
abbrev OU (a0:Nat)(a1:Nat->Int×Int)(a2:Nat)(a3:Nat->Nat)(a4:Nat->Nat->Int)(a5:Nat->Int):=[CN a0 a1,EObj.arr false false 1 false 1 (fun j=>if j=0 then (E4 a2) else (Fu a3 j a4)),oA 1 false (a2+1) fun j=>[iv (a5 j)]]
abbrev OV (a0:Nat)(a1:Nat->Int×Int)(a2:Nat)(a3:Nat->Nat)(a4:Nat->Nat->Int)(a5:Nat->Int):=[CN a0 a1,EObj.arr false false 1 false 4 (fun j=>if j=3 then (E4 a2) else (Fu a3 j a4)),oA 1 false (a2+1) fun j=>[iv (a5 j)]]
abbrev OW (a0:Nat)(a1:Nat->Int×Int)(a2:Nat)(a3:Nat->Nat)(a4:Nat->Nat->Int)(a5:Nat->Int):=[CN a0 a1,EObj.arr false false 1 false 3 (fun j=>if j=2 then (E4 a2) else (Fu a3 j a4)),oA 1 false (a2+1) fun j=>[iv (a5 j)]]
abbrev OX (a0:Nat)(a1:Nat->Int×Int)(a2:Nat)(a3:Nat->Nat)(a4:Nat->Nat->Int)(a5:Nat->Int):=[CN a0 a1,EObj.arr false false 1 false 2 (fun j=>if j=1 then (E4 a2) else (Fu a3 j a4)),oA 1 false (a2+1) fun j=>[iv (a5 j)]]
abbrev Cp (a0:Nat):=TW a0
section
variable (g:Nat)(f:Nat->Int×Int)(i:Int)(ls:Nat->Nat)(ws:Nat->Nat->Int)(l:Nat)(w:Nat->Int)(h0:0<i)(h3:g<=100000)(h5:l<=100000)
include g f i ls ws l w h0 h3 h5
theorem XY (q0:AH i g)(q1:(Co f i)=true):sR 1 (CV) (OM g i) ((OU g f l ls ws w)) (xN,(frame 67 [(4,EV.ms 2 1 0 2 none),(5,EV.ms 0 2 0 g none),(27,EV.ms 0 2 0 g none),(28,iv ↑g),(29,iv (i+1))]),[oA 2 false g fun i=>(A0 f i),oA 1 false (l+1) fun i=>[iv (w i)],EObj.arr false false 1 false 2 fun i=>List.map (Ft) (A4 (AU 1 (fun i=>if 0+i=0 then (Cp l) else (Fs ls i ws)) fun i=>[[BC]].getD (0+i) []) 1 Fq i),oA 1 false 1 fun i_1=>(CU f i).getD (0+i_1) []]):=
 kR [[AG i g,(Fw f i)]] (.mk (Fv) [] [] [] []) (kO (kz q0 (kz q1 AD))) (oI ((inR IntKind.i64 (i+1))=true) (oI ((i==0)=false) (oI ((i==0)=false) (oI ((i==0)=false) (oI ((i==0)=false) (oJ ((inB (i - 1) g)=true) (oI ((i==0)=false) (oI ((inR IntKind.i64 (i - 1))=true) (oI ((i==0)=false) (oI ((i==0)=false) (oI ((i==0)=false) (oI ((i==0)=false) (oI ((i==0)=false) (oJ ((inB i g)=true) .nil)))))))))))))) 939524144 15 [0,2,5,7] 1
theorem XZ (q0:AH i g)(q1:(Co f i)=false):sR 1 (CV) (OM g i) ((OU g f l ls ws w)) (xN,(OI g i),[oA 2 false g fun i=>(A0 f i),EObj.arr false false 1 false 1 fun i=>List.map (Fy) (A4 (fun i=>if i=0 then (Cp l) else (Fz ls i ws)) 0 (Fx l) i),oA 1 false (l+1+1) (AU (l+1) (fun i=>(Cd w i)) fun i_1=>(CU f i).getD (0+i_1) [])]):=
 kR [[AG i g,(F1 f i)]] (.mk (F0) [] [] [] []) (kO (kz q0 (kz q1 AD))) (oI ((inR IntKind.i64 (i+1))=true) (oL ((F2 l)=true) (oI ((i==0)=false) (oI ((i==0)=false) (oI ((i==0)=false) (oI ((i==0)=false) (oJ ((inB (i - 1) g)=true) (oI ((i==0)=false) (oI ((inR IntKind.i64 (i - 1))=true) (oI ((i==0)=false) (oI ((i==0)=false) (oI ((i==0)=false) (oI ((i==0)=false) (oI ((i==0)=false) (oJ ((inB i g)=true) .nil))))))))))))))) 939524144 7 [0,1,5] 1
theorem Xa (q0:AH i g)(q1:(Co f i)=true):sR 1 (CV) (OP g i) ((OX g f l ls ws w)) (xN,(frame 67 [(4,EV.ms 2 1 0 3 none),(5,EV.ms 0 2 0 g none),(27,EV.ms 0 2 0 g none),(28,iv ↑g),(29,iv (i+1))]),[oA 2 false g fun i=>(A0 f i),oA 1 false (l+1) fun i=>[iv (w i)],EObj.arr false false 1 false 3 fun i=>List.map (Ft) (A4 (AU 2 (fun i=>if 0+i=1 then (Cp l) else (Fs ls i ws)) fun i=>[[BC]].getD (0+i) []) 2 Fq i),oA 1 false 1 fun i_1=>(CU f i).getD (0+i_1) []]):=
 kR [[AG i g,(Fw f i)]] (.mk (Fv) [] [] [] []) (kO (kz q0 (kz q1 AD))) (oI ((inR IntKind.i64 (i+1))=true) (oI ((i==0)=false) (oI ((i==0)=false) (oI ((i==0)=false) (oI ((i==0)=false) (oJ ((inB (i - 1) g)=true) (oI ((i==0)=false) (oI ((inR IntKind.i64 (i - 1))=true) (oI ((i==0)=false) (oI ((i==0)=false) (oI ((i==0)=false) (oI ((i==0)=false) (oI ((i==0)=false) (oJ ((inB i g)=true) .nil)))))))))))))) 939524144 15 [0,2,5,7] 1
theorem Xb (q0:AH i g)(q1:(Co f i)=false):sR 1 (CV) (OP g i) ((OX g f l ls ws w)) (xN,(frame 67 [(4,EV.ms 1 1 0 2 none),(5,EV.ms 0 2 0 g none),(27,EV.ms 0 2 0 g none),(28,iv ↑g),(29,iv (i+1))]),[oA 2 false g fun i=>(A0 f i),EObj.arr false false 1 false 2 fun i=>List.map (Fy) (A4 (fun i=>if i=1 then (Cp l) else (Fz ls i ws)) 1 (Fx l) i),oA 1 false (l+1+1) (AU (l+1) (fun i=>(Cd w i)) fun i_1=>(CU f i).getD (0+i_1) [])]):=
 kR [[AG i g,(F1 f i)]] (.mk (F0) [] [] [] []) (kO (kz q0 (kz q1 AD))) (oI ((inR IntKind.i64 (i+1))=true) (oL ((F2 l)=true) (oI ((i==0)=false) (oI ((i==0)=false) (oI ((i==0)=false) (oI ((i==0)=false) (oJ ((inB (i - 1) g)=true) (oI ((i==0)=false) (oI ((inR IntKind.i64 (i - 1))=true) (oI ((i==0)=false) (oI ((i==0)=false) (oI ((i==0)=false) (oI ((i==0)=false) (oI ((i==0)=false) (oJ ((inB i g)=true) .nil))))))))))))))) 939524144 7 [0,1,5] 1
theorem Xc (q0:AH i g)(q1:(Co f i)=true):sR 1 (CV) (OO g i) ((OW g f l ls ws w)) (xN,(frame 67 [(4,EV.ms 2 1 0 4 none),(5,EV.ms 0 2 0 g none),(27,EV.ms 0 2 0 g none),(28,iv ↑g),(29,iv (i+1))]),[oA 2 false g fun i=>(A0 f i),oA 1 false (l+1) fun i=>[iv (w i)],EObj.arr false false 1 false 4 fun i=>List.map (Ft) (A4 (AU 3 (fun i=>if 0+i=2 then (Cp l) else (Fs ls i ws)) fun i=>[[BC]].getD (0+i) []) 3 Fq i),oA 1 false 1 fun i_1=>(CU f i).getD (0+i_1) []]):=
 kR [[AG i g,(Fw f i)]] (.mk (Fv) [] [] [] []) (kO (kz q0 (kz q1 AD))) (oI ((inR IntKind.i64 (i+1))=true) (oI ((i==0)=false) (oI ((i==0)=false) (oI ((i==0)=false) (oI ((i==0)=false) (oJ ((inB (i - 1) g)=true) (oI ((i==0)=false) (oI ((inR IntKind.i64 (i - 1))=true) (oI ((i==0)=false) (oI ((i==0)=false) (oI ((i==0)=false) (oI ((i==0)=false) (oI ((i==0)=false) (oJ ((inB i g)=true) .nil)))))))))))))) 939524144 15 [0,2,5,7] 1
theorem Xd (q0:AH i g)(q1:(Co f i)=false):sR 1 (CV) (OO g i) ((OW g f l ls ws w)) (xN,(frame 67 [(4,EV.ms 1 1 0 3 none),(5,EV.ms 0 2 0 g none),(27,EV.ms 0 2 0 g none),(28,iv ↑g),(29,iv (i+1))]),[oA 2 false g fun i=>(A0 f i),EObj.arr false false 1 false 3 fun i=>List.map (Fy) (A4 (fun i=>if i=2 then (Cp l) else (Fz ls i ws)) 2 (Fx l) i),oA 1 false (l+1+1) (AU (l+1) (fun i=>(Cd w i)) fun i_1=>(CU f i).getD (0+i_1) [])]):=
 kR [[AG i g,(F1 f i)]] (.mk (F0) [] [] [] []) (kO (kz q0 (kz q1 AD))) (oI ((inR IntKind.i64 (i+1))=true) (oL ((F2 l)=true) (oI ((i==0)=false) (oI ((i==0)=false) (oI ((i==0)=false) (oI ((i==0)=false) (oJ ((inB (i - 1) g)=true) (oI ((i==0)=false) (oI ((inR IntKind.i64 (i - 1))=true) (oI ((i==0)=false) (oI ((i==0)=false) (oI ((i==0)=false) (oI ((i==0)=false) (oI ((i==0)=false) (oJ ((inB i g)=true) .nil))))))))))))))) 939524144 7 [0,1,5] 1
theorem Xe (q0:AH i g)(q1:(Co f i)=true):sR 1 (CV) (ON g i) ((OV g f l ls ws w)) (xN,(frame 67 [(4,EV.ms 2 1 0 5 none),(5,EV.ms 0 2 0 g none),(27,EV.ms 0 2 0 g none),(28,iv ↑g),(29,iv (i+1))]),[oA 2 false g fun i=>(A0 f i),oA 1 false (l+1) fun i=>[iv (w i)],EObj.arr false false 1 false 5 fun i=>List.map (Ft) (A4 (AU 4 (fun i=>if 0+i=3 then (Cp l) else (Fs ls i ws)) fun i=>[[BC]].getD (0+i) []) 4 Fq i),oA 1 false 1 fun i_1=>(CU f i).getD (0+i_1) []]):=
 kR [[AG i g,(Fw f i)]] (.mk (Fv) [] [] [] []) (kO (kz q0 (kz q1 AD))) (oI ((inR IntKind.i64 (i+1))=true) (oI ((i==0)=false) (oI ((i==0)=false) (oI ((i==0)=false) (oI ((i==0)=false) (oJ ((inB (i - 1) g)=true) (oI ((i==0)=false) (oI ((inR IntKind.i64 (i - 1))=true) (oI ((i==0)=false) (oI ((i==0)=false) (oI ((i==0)=false) (oI ((i==0)=false) (oI ((i==0)=false) (oJ ((inB i g)=true) .nil)))))))))))))) 939524144 15 [0,2,5,7] 1
theorem Xf (q0:AH i g)(q1:(Co f i)=false):sR 1 (CV) (ON g i) ((OV g f l ls ws w)) (xN,(frame 67 [(4,EV.ms 1 1 0 4 none),(5,EV.ms 0 2 0 g none),(27,EV.ms 0 2 0 g none),(28,iv ↑g),(29,iv (i+1))]),[oA 2 false g fun i=>(A0 f i),EObj.arr false false 1 false 4 fun i=>List.map (Fy) (A4 (fun i=>if i=3 then (Cp l) else (Fz ls i ws)) 3 (Fx l) i),oA 1 false (l+1+1) (AU (l+1) (fun i=>(Cd w i)) fun i_1=>(CU f i).getD (0+i_1) [])]):=
 kR [[AG i g,(F1 f i)]] (.mk (F0) [] [] [] []) (kO (kz q0 (kz q1 AD))) (oI ((inR IntKind.i64 (i+1))=true) (oL ((F2 l)=true) (oI ((i==0)=false) (oI ((i==0)=false) (oI ((i==0)=false) (oI ((i==0)=false) (oJ ((inB (i - 1) g)=true) (oI ((i==0)=false) (oI ((inR IntKind.i64 (i - 1))=true) (oI ((i==0)=false) (oI ((i==0)=false) (oI ((i==0)=false) (oI ((i==0)=false) (oI ((i==0)=false) (oJ ((inB i g)=true) .nil))))))))))))))) 939524144 7 [0,1,5] 1
theorem Xg (q0:AH i g)(q1:(Co f i)=true):sR 1 (CV) (OL g i) ((OT g f l ls ws w)) (xN,(frame 67 [(4,EV.ms 2 1 0 6 none),(5,EV.ms 0 2 0 g none),(27,EV.ms 0 2 0 g none),(28,iv ↑g),(29,iv (i+1))]),[oA 2 false g fun i=>(A0 f i),oA 1 false (l+1) fun i=>[iv (w i)],EObj.arr false false 1 false 6 fun i=>List.map (Ft) (A4 (AU 5 (fun i=>if 0+i=4 then (Cp l) else (Fs ls i ws)) fun i=>[[BC]].getD (0+i) []) 5 Fq i),oA 1 false 1 fun i_1=>(CU f i).getD (0+i_1) []]):=
 kR [[AG i g,(Fw f i)]] (.mk (Fv) [] [] [] []) (kO (kz q0 (kz q1 AD))) (oI ((inR IntKind.i64 (i+1))=true) (oI ((i==0)=false) (oI ((i==0)=false) (oI ((i==0)=false) (oI ((i==0)=false) (oJ ((inB (i - 1) g)=true) (oI ((i==0)=false) (oI ((inR IntKind.i64 (i - 1))=true) (oI ((i==0)=false) (oI ((i==0)=false) (oI ((i==0)=false) (oI ((i==0)=false) (oI ((i==0)=false) (oJ ((inB i g)=true) .nil)))))))))))))) 939524144 15 [0,2,5,7] 1
theorem Xh (q0:AH i g)(q1:(Co f i)=false):sR 1 (CV) (OL g i) ((OT g f l ls ws w)) (xN,(frame 67 [(4,EV.ms 1 1 0 5 none),(5,EV.ms 0 2 0 g none),(27,EV.ms 0 2 0 g none),(28,iv ↑g),(29,iv (i+1))]),[oA 2 false g fun i=>(A0 f i),EObj.arr false false 1 false 5 fun i=>List.map (Fy) (A4 (fun i=>if i=4 then (Cp l) else (Fz ls i ws)) 4 (Fx l) i),oA 1 false (l+1+1) (AU (l+1) (fun i=>(Cd w i)) fun i_1=>(CU f i).getD (0+i_1) [])]):=
 kR [[AG i g,(F1 f i)]] (.mk (F0) [] [] [] []) (kO (kz q0 (kz q1 AD))) (oI ((inR IntKind.i64 (i+1))=true) (oL ((F2 l)=true) (oI ((i==0)=false) (oI ((i==0)=false) (oI ((i==0)=false) (oI ((i==0)=false) (oJ ((inB (i - 1) g)=true) (oI ((i==0)=false) (oI ((inR IntKind.i64 (i - 1))=true) (oI ((i==0)=false) (oI ((i==0)=false) (oI ((i==0)=false) (oI ((i==0)=false) (oI ((i==0)=false) (oJ ((inB i g)=true) .nil))))))))))))))) 939524144 7 [0,1,5] 1
theorem Xi (q0:AH i g)(q1:(Co f i)=true):sR 1 (CV) (OK g i) ((OS g f l ls ws w)) (xN,(frame 67 [(4,EV.ms 2 1 0 7 none),(5,EV.ms 0 2 0 g none),(27,EV.ms 0 2 0 g none),(28,iv ↑g),(29,iv (i+1))]),[oA 2 false g fun i=>(A0 f i),oA 1 false (l+1) fun i=>[iv (w i)],EObj.arr false false 1 false 7 fun i=>List.map (Ft) (A4 (AU 6 (fun i=>if 0+i=5 then (Cp l) else (Fs ls i ws)) fun i=>[[BC]].getD (0+i) []) 6 Fq i),oA 1 false 1 fun i_1=>(CU f i).getD (0+i_1) []]):=
 kR [[AG i g,(Fw f i)]] (.mk (Fv) [] [] [] []) (kO (kz q0 (kz q1 AD))) (oI ((inR IntKind.i64 (i+1))=true) (oI ((i==0)=false) (oI ((i==0)=false) (oI ((i==0)=false) (oI ((i==0)=false) (oJ ((inB (i - 1) g)=true) (oI ((i==0)=false) (oI ((inR IntKind.i64 (i - 1))=true) (oI ((i==0)=false) (oI ((i==0)=false) (oI ((i==0)=false) (oI ((i==0)=false) (oI ((i==0)=false) (oJ ((inB i g)=true) .nil)))))))))))))) 939524144 15 [0,2,5,7] 1
theorem Xj (q0:AH i g)(q1:(Co f i)=false):sR 1 (CV) (OK g i) ((OS g f l ls ws w)) (xN,(frame 67 [(4,EV.ms 1 1 0 6 none),(5,EV.ms 0 2 0 g none),(27,EV.ms 0 2 0 g none),(28,iv ↑g),(29,iv (i+1))]),[oA 2 false g fun i=>(A0 f i),EObj.arr false false 1 false 6 fun i=>List.map (Fy) (A4 (fun i=>if i=5 then (Cp l) else (Fz ls i ws)) 5 (Fx l) i),oA 1 false (l+1+1) (AU (l+1) (fun i=>(Cd w i)) fun i_1=>(CU f i).getD (0+i_1) [])]):=
 kR [[AG i g,(F1 f i)]] (.mk (F0) [] [] [] []) (kO (kz q0 (kz q1 AD))) (oI ((inR IntKind.i64 (i+1))=true) (oL ((F2 l)=true) (oI ((i==0)=false) (oI ((i==0)=false) (oI ((i==0)=false) (oI ((i==0)=false) (oJ ((inB (i - 1) g)=true) (oI ((i==0)=false) (oI ((inR IntKind.i64 (i - 1))=true) (oI ((i==0)=false) (oI ((i==0)=false) (oI ((i==0)=false) (oI ((i==0)=false) (oI ((i==0)=false) (oJ ((inB i g)=true) .nil))))))))))))))) 939524144 7 [0,1,5] 1
theorem Xk (q0:AH i g)(q1:(Co f i)=true):sR 1 (CV) (OJ g i) ((OQ g f l ls ws w)) (xN,(frame 67 [(4,EV.ms 2 1 0 8 none),(5,EV.ms 0 2 0 g none),(27,EV.ms 0 2 0 g none),(28,iv ↑g),(29,iv (i+1))]),[oA 2 false g fun i=>(A0 f i),oA 1 false (l+1) fun i=>[iv (w i)],EObj.arr false false 1 false 8 fun i=>List.map (Ft) (A4 (AU 7 (fun i=>if 0+i=6 then (Cp l) else (Fs ls i ws)) fun i=>[[BC]].getD (0+i) []) 7 Fq i),oA 1 false 1 fun i_1=>(CU f i).getD (0+i_1) []]):=
 kR [[AG i g,(Fw f i)]] (.mk (Fv) [] [] [] []) (kO (kz q0 (kz q1 AD))) (oI ((inR IntKind.i64 (i+1))=true) (oI ((i==0)=false) (oI ((i==0)=false) (oI ((i==0)=false) (oI ((i==0)=false) (oJ ((inB (i - 1) g)=true) (oI ((i==0)=false) (oI ((inR IntKind.i64 (i - 1))=true) (oI ((i==0)=false) (oI ((i==0)=false) (oI ((i==0)=false) (oI ((i==0)=false) (oI ((i==0)=false) (oJ ((inB i g)=true) .nil)))))))))))))) 939524144 15 [0,2,5,7] 1
theorem Xl (q0:AH i g)(q1:(Co f i)=false):sR 1 (CV) (OJ g i) ((OQ g f l ls ws w)) (xN,(frame 67 [(4,EV.ms 1 1 0 7 none),(5,EV.ms 0 2 0 g none),(27,EV.ms 0 2 0 g none),(28,iv ↑g),(29,iv (i+1))]),[oA 2 false g fun i=>(A0 f i),EObj.arr false false 1 false 7 fun i=>List.map (Fy) (A4 (fun i=>if i=6 then (Cp l) else (Fz ls i ws)) 6 (Fx l) i),oA 1 false (l+1+1) (AU (l+1) (fun i=>(Cd w i)) fun i_1=>(CU f i).getD (0+i_1) [])]):=
 kR [[AG i g,(F1 f i)]] (.mk (F0) [] [] [] []) (kO (kz q0 (kz q1 AD))) (oI ((inR IntKind.i64 (i+1))=true) (oL ((F2 l)=true) (oI ((i==0)=false) (oI ((i==0)=false) (oI ((i==0)=false) (oI ((i==0)=false) (oJ ((inB (i - 1) g)=true) (oI ((i==0)=false) (oI ((inR IntKind.i64 (i - 1))=true) (oI ((i==0)=false) (oI ((i==0)=false) (oI ((i==0)=false) (oI ((i==0)=false) (oI ((i==0)=false) (oJ ((inB i g)=true) .nil))))))))))))))) 939524144 7 [0,1,5] 1
end
def Na (D:List (List Int))(j:Nat):Nat:=(D.getD j []).length
def Nb (D:List (List Int))(j i:Nat):Int:=(D.getD j []).getD i 0
def D6 (D:List (List Int)):Nat->List EV:=fun j=>[EV.isl true 1 (Na D j) fun i=>[.int .i64 (Nb D j i)]]
noncomputable abbrev cmB:Code:=cB (cB (cR (cL (cR (cR (cR (cR (AB prog 164))))))))
noncomputable def cmT (g c:Nat)(i:Int):List EV:=frame 67 [(4,.ms 1 1 0 c none),(5,.ms 0 2 0 g none),(27,.ms 0 2 0 g none),(28,.int .i64 g),(29,.int .i64 i)]
def cmX (c:Nat)(ls:Nat->Nat)(ws:Nat->Nat->Int)(l:Nat):EObj:=.arr false false 1 false (c+1) (fun j=>if j=c then [EV.ms 2 1 0 (l+1) none] else [EV.isl true 1 (ls j) fun i=>[EV.int .i64 (ws j i)]])
abbrev cmI (l:Nat)(w:Nat->Int):EObj:=.arr false true 1 false l fun j=>[EV.int .i64 (w j)]
theorem OLe.arrp {fr ex:Bool}{esz len:Nat}{row:Nat->List EV}(h:∀ i,i<len->∀ v∈row i,v.plain=true):OLe (.arr fr false esz ex len row) (.arr fr true esz ex len row):=
 ⟨fun K w r ho=>by
  obtain ⟨h1,h2,cc,e,fz,q2,q3,q4,q5,q6,q7,q8,q9,q10,q11⟩:=ho
  exact ⟨h1,h2,cc,e,fz,q2,q3,q4,q5,q6,q7,q8,q9,q10,fun _ i hi j hj hs=>(q10 i hi j hj hs).toPR (h i hi _ (List.getElem_mem hj))⟩,id,id⟩
theorem J6 (c l:Nat)(ls:Nat->Nat)(ws:Nat->Nat->Int)(j:Nat)(hj:j<c+2):
  List.map (EV.ren fun x=>List.idxOf x [0,2,5,7]) (A4 (AU (c+1) (fun i=>if 0+i=c then [EV.ms 2 1 0 (l+1) none] else [EV.isl true 1 (ls (0+i)) fun i_1=>[EV.int .i64 (ws (0+i) i_1)]]) fun i=>[[EV.isl false 0 0 fun _=>[]]].getD (0+i) []) (c+1) [EV.ms 7 1 0 1 none] j)
   =if j=c+1 then [EV.ms 3 1 0 1 none] else if j=c then [EV.ms 1 1 0 (l+1) none] else [EV.isl true 1 (ls j) fun i=>[EV.int .i64 (ws j i)]]:=by
 unfold A4 AU
 by_cases h1:j=c+1
 ·rw [if_pos h1,if_pos h1]
  rfl
 ·rw [if_neg h1,if_neg h1,if_pos (show j<c+1 by omega)]
  dsimp only
  rw [Nat.zero_add]
  by_cases h3:j=c
  ·rw [if_pos h3,if_pos h3]
   rfl
  ·rw [if_neg h3,if_neg h3]
   rfl
theorem IJ (c l:Nat)(ls:Nat->Nat)(ws:Nat->Nat->Int)(j:Nat)(hj:j<c+1):
  List.map (EV.ren fun x=>List.idxOf x [0,1,5]) (A4 (fun i=>if i=c then [EV.ms 2 1 0 (l+1) none] else [EV.isl true 1 (ls i) fun i_1=>[EV.int .i64 (ws i i_1)]]) c [EV.ms 5 1 0 (l+1+1) none] j)
   =if j=c then [EV.ms 2 1 0 (l+1+1) none] else [EV.isl true 1 (ls j) fun i=>[EV.int .i64 (ws j i)]]:=by
 unfold A4
 by_cases h3:j=c
 ·rw [if_pos h3,if_pos h3]
  rfl
 ·rw [if_neg h3,if_neg h3]
  dsimp only
  rw [if_neg h3]
  rfl
section
variable (g:Nat)(f:Nat->Int×Int)
theorem ABd (c:Nat)(hc:c<=6)(i:Int)(ls:Nat->Nat)(ws:Nat->Nat->Int)(l:Nat)(w:Nat->Int)(h0:0<i)(h3:g<=100000)(h5:l<=100000)(q0:(decide (i<(↑g:Int)))=true)(q1:((f (0+i.toNat)).snd != (f (0+(i - 1).toNat)).snd)=true):
  sR 1 cmB (cmT g (c+1) i) [CN g f,cmX c ls ws l,cmI (l+1) w] (EX.normal,frame 67 [(4,EV.ms 2 1 0 (c+2) none),(5,EV.ms 0 2 0 g none),(27,EV.ms 0 2 0 g none),(28,EV.int .i64 g),(29,EV.int .i64 (i+1))],
   [CN g f,cmI (l+1) w,.arr false false 1 false (c+2) (fun j=>if j=c+1 then [EV.ms 3 1 0 1 none] else if j=c then [EV.ms 1 1 0 (l+1) none] else [EV.isl true 1 (ls j) fun i=>[EV.int .i64 (ws j i)]]),cmI 1 (fun _=>(f i.toNat).1)]):=by
 have fin:∀ j,j<1->[[EV.int IntKind.i64 (f (0+i.toNat)).fst]].getD (0+j) []=[EV.int .i64 (f i.toNat).1]:=fun j hj=>by
  obtain rfl:j=0:=by omega
  simp
 match c,hc with
 | 0,_=>exact SemCR.weaken (XY g f i ls ws l w h0 h3 h5 q0 q1) (VLes.refl _) (.cons (OLe.refl _) (.cons (OLe.refl _) (.cons (OLe.arr fun j hj=>J6 0 l ls ws j hj) (.cons (OLe.arr fin) .nil))))
 | 1,_=>exact SemCR.weaken (Xa g f i ls ws l w h0 h3 h5 q0 q1) (VLes.refl _) (.cons (OLe.refl _) (.cons (OLe.refl _) (.cons (OLe.arr fun j hj=>J6 1 l ls ws j hj) (.cons (OLe.arr fin) .nil))))
 | 2,_=>exact SemCR.weaken (Xc g f i ls ws l w h0 h3 h5 q0 q1) (VLes.refl _) (.cons (OLe.refl _) (.cons (OLe.refl _) (.cons (OLe.arr fun j hj=>J6 2 l ls ws j hj) (.cons (OLe.arr fin) .nil))))
 | 3,_=>exact SemCR.weaken (Xe g f i ls ws l w h0 h3 h5 q0 q1) (VLes.refl _) (.cons (OLe.refl _) (.cons (OLe.refl _) (.cons (OLe.arr fun j hj=>J6 3 l ls ws j hj) (.cons (OLe.arr fin) .nil))))
 | 4,_=>exact SemCR.weaken (Xg g f i ls ws l w h0 h3 h5 q0 q1) (VLes.refl _) (.cons (OLe.refl _) (.cons (OLe.refl _) (.cons (OLe.arr fun j hj=>J6 4 l ls ws j hj) (.cons (OLe.arr fin) .nil))))
 | 5,_=>exact SemCR.weaken (Xi g f i ls ws l w h0 h3 h5 q0 q1) (VLes.refl _) (.cons (OLe.refl _) (.cons (OLe.refl _) (.cons (OLe.arr fun j hj=>J6 5 l ls ws j hj) (.cons (OLe.arr fin) .nil))))
 | 6,_=>exact SemCR.weaken (Xk g f i ls ws l w h0 h3 h5 q0 q1) (VLes.refl _) (.cons (OLe.refl _) (.cons (OLe.refl _) (.cons (OLe.arr fun j hj=>J6 6 l ls ws j hj) (.cons (OLe.arr fin) .nil))))
theorem Z5 (c:Nat)(hc:c<=6)(i:Int)(ls:Nat->Nat)(ws:Nat->Nat->Int)(l:Nat)(w w':Nat->Int)(h0:0<i)(h3:g<=100000)(h5:l<=100000)(q0:(decide (i<(↑g:Int)))=true)(q1:((f (0+i.toNat)).snd != (f (0+(i - 1).toNat)).snd)=false)
  (hw:∀ j,j<l+1->w' j=w j) (hl:w' (l+1)=(f i.toNat).1):
  sR 1 cmB (cmT g (c+1) i) [CN g f,cmX c ls ws l,cmI (l+1) w] (EX.normal,cmT g (c+1) (i+1),[CN g f,cmX c ls ws (l+1),cmI (l+1+1) w']):=by
 have fin:∀ j,j<l+1+1->AU (l+1) (fun i=>[EV.int IntKind.i64 (w (0+i))]) (fun i_1=>[[EV.int IntKind.i64 (f (0+i.toNat)).fst]].getD (0+i_1) []) j=[EV.int .i64 (w' j)]:=fun j hj=>by
  unfold AU
  by_cases h:j<l+1
  ·rw [if_pos h,hw j h]
   dsimp only
   rw [Nat.zero_add]
  ·obtain rfl:j=l+1:=by omega
   rw [if_neg h,hl]
   simp
 match c,hc with
 | 0,_=>exact SemCR.weaken (XZ g f i ls ws l w h0 h3 h5 q0 q1) (VLes.refl _) (.cons (OLe.refl _) (.cons (OLe.arr fun j hj=>IJ 0 l ls ws j hj) (.cons (OLe.arr fin) .nil)))
 | 1,_=>exact SemCR.weaken (Xb g f i ls ws l w h0 h3 h5 q0 q1) (VLes.refl _) (.cons (OLe.refl _) (.cons (OLe.arr fun j hj=>IJ 1 l ls ws j hj) (.cons (OLe.arr fin) .nil)))
 | 2,_=>exact SemCR.weaken (Xd g f i ls ws l w h0 h3 h5 q0 q1) (VLes.refl _) (.cons (OLe.refl _) (.cons (OLe.arr fun j hj=>IJ 2 l ls ws j hj) (.cons (OLe.arr fin) .nil)))
 | 3,_=>exact SemCR.weaken (Xf g f i ls ws l w h0 h3 h5 q0 q1) (VLes.refl _) (.cons (OLe.refl _) (.cons (OLe.arr fun j hj=>IJ 3 l ls ws j hj) (.cons (OLe.arr fin) .nil)))
 | 4,_=>exact SemCR.weaken (Xh g f i ls ws l w h0 h3 h5 q0 q1) (VLes.refl _) (.cons (OLe.refl _) (.cons (OLe.arr fun j hj=>IJ 4 l ls ws j hj) (.cons (OLe.arr fin) .nil)))
 | 5,_=>exact SemCR.weaken (Xj g f i ls ws l w h0 h3 h5 q0 q1) (VLes.refl _) (.cons (OLe.refl _) (.cons (OLe.arr fun j hj=>IJ 5 l ls ws j hj) (.cons (OLe.arr fin) .nil)))
 | 6,_=>exact SemCR.weaken (Xl g f i ls ws l w h0 h3 h5 q0 q1) (VLes.refl _) (.cons (OLe.refl _) (.cons (OLe.arr fun j hj=>IJ 6 l ls ws j hj) (.cons (OLe.arr fin) .nil)))
theorem ABe (i:Int)(n:Nat)(row:Nat->List EV)(q0:(decide (i<(↑g:Int)))=false):
  sR 1 cmB (cmT g n i) [CN g f,.arr false true 1 false n row] (EX.leave 2,frame 67 [(4,EV.ms 1 1 0 n none)],[CN g f,.arr false true 1 false n row]):=
 J2 (modes:=pures) (news:=news) (n:=60) (fuel:=100000) (F:=[[(decide (i<(↑g:Int)),false)]]) (s:=(.mk (dS 16) [] [] [] [])) (ow:=[]) 16 3 [0,1] 1 B7 (KOk.one (X5 q0 AD)) (by kernel_rfl) (by kernel_rfl) (by kernel_rfl) .nil
theorem Jl (D:List (List Int))(cur:List Int)(j:Nat)(hj:j<D.length):D6 (D++[cur]) j=D6 D j:=by
 unfold D6 Na Nb
 simp [List.getD_eq_getElem?_getD,List.getElem?_append_left hj]
theorem Jm (D:List (List Int))(cur:List Int):D6 (D++[cur]) D.length=[EV.isl true 1 cur.length fun i=>[.int .i64 (cur.getD i 0)]]:=by
 unfold D6 Na Nb
 simp [List.getD_eq_getElem?_getD]
def FU (f:Nat->Int×Int):List (List Int)->List Int->Nat->Nat->List (List Int)
 | D,cur,_,0=>D++[cur]
 | D,cur,i,k+1=>if (f i).2=(f (i - 1)).2 then FU f D (cur++[(f i).1]) (i+1) k else FU f (D++[cur]) [(f i).1] (i+1) k
abbrev cmH (D:List (List Int))(cur:List Int)(l:Nat):AL:=[CN g f,cmX D.length (Na D) (Nb D) l,cmI (l+1) fun j=>cur.getD j 0]
theorem Z6 (hg:g<=8):∀ (k i:Nat) (D:List (List Int)) (cur:List Int) (l:Nat),i+k=g->D.length+1<=i->cur.length=l+1->l+1<=i->
  sLR 1 cmB (cmT g (D.length+1) i) (cmH g f D cur l)
   (EX.leave 2,frame 67 [(4,EV.ms 1 1 0 (FU f D cur i k).length none)],[CN g f,.arr false true 1 false (FU f D cur i k).length (D6 (FU f D cur i k))])
 | 0,i,D,cur,l,hk,hi,hl,hli=>by
  obtain rfl:i=g:=by omega
  have e:FU f D cur i 0=D++[cur]:=rfl
  rw [e]
  refine SemLR.frzRow (r:=2) (q:=1) (i0:=D.length) (l:=l+1) rfl rfl (by omega) (by simp) ?_
  refine SemLR.le (VLes.refl _) (s2:=[CN i f,.arr false true 1 false (D.length+1) (D6 (D++[cur])),.arr true true 1 false (l+1) fun j=>[EV.int .i64 (cur.getD j 0)]]) (.cons (OLe.refl _) (.cons (OLe.trans' (OLe.arr fun j hj=>?_) (OLe.arrp fun j hj v hv=>?_)) (.cons (OLe.refl _) .nil))) ?_
  ·unfold A4
   by_cases h:j=D.length
   ·rw [if_pos h,h,Jm,hl]
   ·rw [if_neg h]
    dsimp only
    rw [if_neg h,Jl D cur j (by omega)]
    rfl
  ·unfold D6 at hv
   obtain rfl:=List.mem_singleton.1 hv
   rfl
  ·refine SemLR.ren (t2:=cmT i (D.length+1) i) [0,1] (by rfl) rfl (VLes.refl _) (HLe.refl _) ?_
   have:=ABe i f (i:Int) (D.length+1) (D6 (D++[cur])) (by simp)
   rw [List.length_append]
   exact SemLR.lastR this (by simp)
 | k+1,i,D,cur,l,hk,hi,hl,hli=>by
  have e1:(i:Int).toNat=i:=by omega
  have e2:((i:Int) - 1).toNat=i - 1:=by omega
  by_cases hq:(f i).2=(f (i - 1)).2
  ·have e:FU f D cur i (k+1)=FU f D (cur++[(f i).1]) (i+1) k:=by rw [FU,if_pos hq]
   rw [e]
   have h:=Z5 g f D.length (by omega) (i:Int) (Na D) (Nb D) l (fun j=>cur.getD j 0) (fun j=>(cur++[(f i).1]).getD j 0) (by omega) (by omega) (by omega) (by simp; omega) (by rw [Nat.zero_add,Nat.zero_add,e1,e2,hq]; simp)
    (fun j hj=>by
     show (cur++[(f i).1]).getD j 0=cur.getD j 0
     rw [List.getD_eq_getElem?_getD,List.getD_eq_getElem?_getD,List.getElem?_append_left (by omega)]) (by
     show (cur++[(f i).1]).getD (l+1) 0=_
     rw [List.getD_eq_getElem?_getD,List.getElem?_append_right (by omega),hl,e1]
     simp)
   exact SemLR.stepR h (Z6 hg k (i+1) D (cur++[(f i).1]) (l+1) (by omega) (by omega) (by simp [hl]) (by omega))
  ·have e:FU f D cur i (k+1)=FU f (D++[cur]) [(f i).1] (i+1) k:=by rw [FU,if_neg hq]
   rw [e]
   have h:=ABd g f D.length (by omega) (i:Int) (Na D) (Nb D) l (fun j=>cur.getD j 0) (by omega) (by omega) (by omega) (by simp; omega) (by rw [Nat.zero_add,Nat.zero_add,e1,e2]; simpa using hq)
   refine SemLR.stepR h ?_
   refine SemLR.frzRow (r:=1) (q:=2) (i0:=D.length) (l:=l+1) rfl rfl (by omega) (by simp) ?_
   refine SemLR.ren (s2:=[CN g f,.arr false false 1 false (D.length+2) (fun i_1=>List.map (EV.ren fun x=>List.idxOf x [0,2,3]) (A4 (fun j=>if j=D.length+1 then [EV.ms 3 1 0 1 none] else if j=D.length then [EV.ms 1 1 0 (l+1) none] else [EV.isl true 1 (Na D j) fun i=>[EV.int .i64 (Nb D j i)]]) D.length [.isl true 1 (l+1) fun j=>[EV.int .i64 (cur.getD j 0)]] i_1)),cmI 1 (fun _=>(f (i:Int).toNat).1)])
    (t2:=cmT g (D.length+2) ((i+1:Nat):Int)) [0,2,3] (by rfl) ?_ (VLes.refl _) (.cons (OLe.refl _) (.cons (OLe.arr (row':=fun j=>if j=(D++[cur]).length then [EV.ms 2 1 0 (0+1) none] else [EV.isl true 1 (Na (D++[cur]) j) fun i=>[EV.int .i64 (Nb (D++[cur]) j i)]]) fun j hj=>?_) (.cons (OLe.arr (row':=fun j=>[EV.int .i64 ([(f i).1].getD j 0)]) fun j hj=>?_) .nil))) ?_
   ·have hall:(((List.range (D.length+2)).flatMap fun i_1=>(A4 (fun j=>if j=D.length+1 then [EV.ms 3 1 0 1 none] else if j=D.length then [EV.ms 1 1 0 (l+1) none] else [EV.isl true 1 (Na D j) fun i=>[EV.int .i64 (Nb D j i)]]) D.length [.isl true 1 (l+1) fun j=>[EV.int .i64 (cur.getD j 0)]] i_1).flatMap EV.refs).all fun x=>[0,2,3].contains x)=true:=by
     refine List.all_eq_true.2 fun x hx=>?_
     obtain ⟨j,_,hj⟩:=List.mem_flatMap.1 hx
     unfold A4 at hj
     by_cases a1:j=D.length
     ·rw [if_pos a1] at hj
      simp [EV.refs] at hj
     ·rw [if_neg a1] at hj
      dsimp only at hj
      by_cases a2:j=D.length+1
      ·rw [if_pos a2] at hj
       simp [EV.refs] at hj
       subst hj
       rfl
      ·rw [if_neg a2,if_neg a1] at hj
       simp [EV.refs] at hj
    simp only [HI,List.set,List.getElem?_cons_zero,List.getElem?_cons_succ,EObj.frz,EObj.refs,EObj.ren,List.all_nil,Bool.and_true,if_true,hall,Option.map_some,cond_false,cond_true]
   ·unfold A4
    have hlen:(D++[cur]).length=D.length+1:=by simp
    rw [hlen]
    by_cases a1:j=D.length
    ·rw [if_pos a1,if_neg (by omega),a1]
     exact Eq.trans (by rw [<-hl]; rfl) (Jm D cur).symm
    ·rw [if_neg a1]
     dsimp only
     by_cases a2:j=D.length+1
     ·rw [if_pos a2,if_pos a2]
      rfl
     ·rw [if_neg a2,if_neg a1,if_neg a2]
      exact (Jl D cur j (by omega)).symm
   ·obtain rfl:j=0:=by omega
    rw [e1]
    rfl
   ·have:=Z6 hg k (i+1) (D++[cur]) [(f i).1] 0 (by omega) (by simp; omega) rfl (by omega)
    have hlen:(D++[cur]).length=D.length+1:=by simp
    unfold cmH cmX at this
    rw [hlen] at this ⊢
    exact this
end
structure PartsOf (l:List Int) (R:List (List Int)):Prop where
 all:R.flatten.Perm l
 ne:∀ p∈R,p≠[]
 inc:∀ p∈R,p.Pairwise (·<·)
theorem TX (f:Nat->Int×Int)(g:Nat)(ho:Ord g f):∀ (k i:Nat) (D:List (List Int)) (cur:List Int),i+k=g->0<cur.length->cur.length<=i->
  (∀ j,j<cur.length->cur[j]? =some (f (i - cur.length+j)).1/\(f (i - cur.length+j)).2=(f (i - 1)).2)->(∀ p∈D,p≠[]/\p.Pairwise (·<·))->
  (FU f D cur i k).flatten=D.flatten++cur++(List.range' i k).map (fun j=>(f j).1)/\∀ p∈FU f D cur i k,p≠[]/\p.Pairwise (·<·):=by
 have hcur:∀ (i:Nat) (cur:List Int),i<=g->0<cur.length->cur.length<=i->
   (∀ j,j<cur.length->cur[j]? =some (f (i - cur.length+j)).1/\(f (i - cur.length+j)).2=(f (i - 1)).2)->cur≠[]/\cur.Pairwise (·<·):=by
  intro i cur hi h0 hle hc
  refine ⟨fun h=>by simp [h] at h0,List.pairwise_iff_getElem.2 fun a b ha hb hab=>?_⟩
  have ea:=(hc a ha).1
  have eb:=(hc b hb).1
  rw [List.getElem?_eq_getElem ha] at ea
  rw [List.getElem?_eq_getElem hb] at eb
  rw [Option.some.inj ea,Option.some.inj eb]
  exact ho _ _ (by omega) (by omega) ((hc a ha).2.trans (hc b hb).2.symm)
 intro k
 induction k with
 | zero=>
  intro i D cur hk h0 hle hc hD
  refine ⟨by simp [FU],fun p hp=>?_⟩
  rw [FU,List.mem_append] at hp
  rcases hp with hp | hp
  ·exact hD p hp
  ·obtain rfl:=List.mem_singleton.1 hp
   exact hcur i p (by omega) h0 hle hc
 | succ k ih=>
  intro i D cur hk h0 hle hc hD
  rw [FU]
  split
  ·rename_i hq
   obtain ⟨h1,h2⟩:=ih (i+1) D (cur++[(f i).1]) (by omega) (by simp) (by simp; omega) (fun j hj=>by
    rw [List.length_append,List.length_singleton] at hj ⊢
    have e:i+1 - (cur.length+1)=i - cur.length:=by omega
    rw [e]
    rcases Nat.lt_or_ge j cur.length with hlt | hge
    ·rw [List.getElem?_append_left hlt]
     exact ⟨(hc j hlt).1,(hc j hlt).2.trans hq.symm⟩
    ·obtain rfl:j=cur.length:=by omega
     have e2:i - cur.length+cur.length=i:=by omega
     rw [e2]
     simp) hD
   refine ⟨?_,h2⟩
   rw [h1,List.range'_succ]
   simp
  ·obtain ⟨h1,h2⟩:=ih (i+1) (D++[cur]) [(f i).1] (by omega) (by simp) (by simp) (fun j hj=>by
    obtain rfl:j=0:=by simpa using hj
    simp) (fun p hp=>by
    rcases List.mem_append.1 hp with hp | hp
    ·exact hD p hp
    ·obtain rfl:=List.mem_singleton.1 hp
     exact hcur i p (by omega) h0 hle hc)
   refine ⟨?_,h2⟩
   rw [h1,List.range'_succ]
   simp
def OY (f:Nat->Int×Int)(g:Nat):List (List Int):=FU f [] [(f 0).1] 1 (g - 1)
theorem TY (f:Nat->Int×Int)(g:Nat)(hg:0<g)(ho:Ord g f):PartsOf ((List.range g).map fun i=>(f i).1) (OY f g):=by
 obtain ⟨h1,h2⟩:=TX f g ho (g - 1) 1 [] [(f 0).1] (by omega) (by simp) (by simp) (fun j hj=>by
  obtain rfl:j=0:=by simpa using hj
  simp) (fun p hp=>by cases hp)
 refine ⟨?_,fun p hp=>(h2 p hp).1,fun p hp=>(h2 p hp).2⟩
 have e:(List.range g).map (fun i=>(f i).1)=[]++[(f 0).1]++(List.range' 1 (g - 1)).map (fun j=>(f j).1):=by
  obtain ⟨n,rfl⟩:∃ n,g=n+1:=⟨g - 1,by omega⟩
  rw [List.range_eq_range',List.range'_succ]
  simp
 unfold OY
 rw [h1,e]
 simp
theorem Z7 (V:EV)(C:EV)(n2:Bool)(g:Nat)(gw:Nat->Int)(f:Nat->Int×Int)(f1:Nat->Int×Int)(n:Nat)(row:Nat->List EV)(h3:g<=8)(ih3:sL (JQ) (Z4 V C n2 g gw (.isl false 0 0 fun _=>[]) 0) [] ((xL 0,frame 67 [(4,.isl false 0 0 fun _=>[]),(5,.ms 0 2 0 g none)],[CN g f]):RC))(ihs:sF 224 [EV.ms 0 2 0 g none,fc (225) [] []] [CN g f] (tu []) [CN g f1])(ih9:sL (cB (cR (cL (cR (cR (OH)))))) (frame 67 [(4,.isl false 0 0 fun _=>[]),(5,.ms 0 2 0 g none),(27,.ms 0 2 0 g none),(28,.int .i64 g),(29,.int .i64 0)]) [CN g f1] ((xL 2,frame 67 [(4,EV.ms 1 1 0 n none)],[CN g f1,.arr false true 1 false n row]):RC)):sP 164 [AA n2 g gw,fc (165) [] [pv [V] 0,pv [C] 0,pv [AA n2 g gw] 0]] (sl true 1 n fun i=>row (0+i)):=
 kPm MS Pb [[]] (.mk [] [(8,.is 7218 0 (xL 0,(frame 67 [(4,sl false 0 0 fun i=>[]),(5,EV.ms 0 2 0 g none)]),[oA 2 false g fun i=>(A0 f i)])),(6,.is 939524144 1 (xL 2,(frame 67 [(4,EV.ms 1 1 0 n none)]),[oA 2 false g fun i=>(A0 f1 i),oA 1 false n row]))] [] [some ((tu [],[oA 2 false g fun i=>(A0 f1 i)]))] []) (kO AD) (.cons ih9 (.cons ihs (.cons ih3 .nil)))
abbrev TZ (a0:Nat)(a1:Nat->List EV):=sl true 1 a0 a1
abbrev Ta (a0:Nat)(a1:Nat->List EV):=TZ a0 a1
abbrev Ao (a0:Nat)(a1:Nat->List EV):=Ta a0 a1
section
variable (n0:Bool)(n:Nat)(rs:Nat->ResD)(n1:Bool)(m:Nat)(w:Nat->Int)(e1:List (EV×EV))(R:RulesV)(e3:List (EV×EV))(n2:Bool)(g:Nat)(gw:Nat->Int)(k:Nat)(row:Nat->List EV)
include n0 n rs n1 m w e1 R e3 n2 g gw k row
theorem ADE (ih:sP 164 [AM n2 g gw,(fc (165) [] [pv [Ku 1] 0,pv [CM n0 n rs n1 m w e1 R e3] 0,pv [AM n2 g gw] 0])] (Ao k row)):sP 94 [Aq n0 n rs n1 m w e1 R e3,AA n2 g gw,iv 1] (Ao k row):=
 kP [] (.mk [] [] [some (C3),some (Ao k row)] [] []) KOk.nil (.cons ih (.cons IQ .nil))
theorem ADF (ih:sP 164 [AM n2 g gw,(fc (165) [] [pv [Ku 2] 0,pv [CM n0 n rs n1 m w e1 R e3] 0,pv [AM n2 g gw] 0])] (Ao k row)):sP 94 [Aq n0 n rs n1 m w e1 R e3,AA n2 g gw,iv 2] (Ao k row):=
 kP [] (.mk [] [] [some (C3),some (Ao k row)] [] []) KOk.nil (.cons ih (.cons IQ .nil))
theorem ADG (ih:sP 164 [AM n2 g gw,(fc (165) [] [pv [Ku 3] 0,pv [CM n0 n rs n1 m w e1 R e3] 0,pv [AM n2 g gw] 0])] (Ao k row)):sP 94 [Aq n0 n rs n1 m w e1 R e3,AA n2 g gw,iv 3] (Ao k row):=
 kP [] (.mk [] [] [some (C3),some (Ao k row)] [] []) KOk.nil (.cons ih (.cons IQ .nil))
theorem ADH (ih:sP 164 [AM n2 g gw,(fc (165) [] [pv [Ku 4] 0,pv [CM n0 n rs n1 m w e1 R e3] 0,pv [AM n2 g gw] 0])] (Ao k row)):sP 94 [Aq n0 n rs n1 m w e1 R e3,AA n2 g gw,iv 4] (Ao k row):=
 kP [] (.mk [] [] [some (C3),some (Ao k row)] [] []) KOk.nil (.cons ih (.cons IQ .nil))
theorem ADI (ih:sP 164 [AM n2 g gw,(fc (165) [] [pv [Ku 5] 0,pv [CM n0 n rs n1 m w e1 R e3] 0,pv [AM n2 g gw] 0])] (Ao k row)):sP 94 [Aq n0 n rs n1 m w e1 R e3,AA n2 g gw,iv 5] (Ao k row):=
 kP [] (.mk [] [] [some (C3),some (Ao k row)] [] []) KOk.nil (.cons ih (.cons IQ .nil))
theorem ADJ (ih:sP 164 [AM n2 g gw,(fc (165) [] [pv [Ku 6] 0,pv [CM n0 n rs n1 m w e1 R e3] 0,pv [AM n2 g gw] 0])] (Ao k row)):sP 94 [Aq n0 n rs n1 m w e1 R e3,AA n2 g gw,iv 6] (Ao k row):=
 kP [] (.mk [] [] [some (C3),some (Ao k row)] [] []) KOk.nil (.cons ih (.cons IQ .nil))
theorem ADK (ih:sP 164 [AM n2 g gw,(fc (165) [] [pv [Ku 7] 0,pv [CM n0 n rs n1 m w e1 R e3] 0,pv [AM n2 g gw] 0])] (Ao k row)):sP 94 [Aq n0 n rs n1 m w e1 R e3,AA n2 g gw,iv 7] (Ao k row):=
 kP [] (.mk [] [] [some (C3),some (Ao k row)] [] []) KOk.nil (.cons ih (.cons IQ .nil))
theorem ADL (ih:sP 164 [AM n2 g gw,(fc (165) [] [pv [Ku 8] 0,pv [CM n0 n rs n1 m w e1 R e3] 0,pv [AM n2 g gw] 0])] (Ao k row)):sP 94 [Aq n0 n rs n1 m w e1 R e3,AA n2 g gw,iv 8] (Ao k row):=
 kP [] (.mk [] [] [some (C3),some (Ao k row)] [] []) KOk.nil (.cons ih (.cons IQ .nil))
theorem ADM (ih:sP 164 [AM n2 g gw,(fc (165) [] [pv [Ku 9] 0,pv [CM n0 n rs n1 m w e1 R e3] 0,pv [AM n2 g gw] 0])] (Ao k row)):sP 94 [Aq n0 n rs n1 m w e1 R e3,AA n2 g gw,iv 9] (Ao k row):=
 kP [] (.mk [] [] [some (C3),some (Ao k row)] [] []) KOk.nil (.cons ih (.cons IQ .nil))
theorem ABf (ih:sP 164 [AM n2 g gw,(fc (165) [] [pv [Ku 10] 0,pv [CM n0 n rs n1 m w e1 R e3] 0,pv [AM n2 g gw] 0])] (Ao k row)):sP 94 [Aq n0 n rs n1 m w e1 R e3,AA n2 g gw,iv 10] (Ao k row):=
 kP [] (.mk [] [] [some (C3),some (Ao k row)] [] []) KOk.nil (.cons ih (.cons IQ .nil))
theorem ABg (ih:sP 164 [AM n2 g gw,(fc (165) [] [pv [Ku 11] 0,pv [CM n0 n rs n1 m w e1 R e3] 0,pv [AM n2 g gw] 0])] (Ao k row)):sP 94 [Aq n0 n rs n1 m w e1 R e3,AA n2 g gw,iv 11] (Ao k row):=
 kP [] (.mk [] [] [some (C3),some (Ao k row)] [] []) KOk.nil (.cons ih (.cons IQ .nil))
theorem ABh (ih:sP 164 [AM n2 g gw,(fc (165) [] [pv [Ku 12] 0,pv [CM n0 n rs n1 m w e1 R e3] 0,pv [AM n2 g gw] 0])] (Ao k row)):sP 94 [Aq n0 n rs n1 m w e1 R e3,AA n2 g gw,iv 12] (Ao k row):=
 kP [] (.mk [] [] [some (C3),some (Ao k row)] [] []) KOk.nil (.cons ih (.cons IQ .nil))
end
abbrev FV (l:List Int):EV:=nums true l.length (fun i=>l.getD i 0)
def J7 (R:List (List Int)):EV:=.isl true 1 R.length (D6 R)
theorem RG (G:List Int):(List.range G.length).map (fun i=>G.getD i 0)=G:=by
 refine List.ext_getElem (by simp) fun i h1 h2=>?_
 simp only [List.getElem_map,List.getElem_range,List.getD_eq_getElem?_getD,List.getElem?_eq_getElem h2,Option.getD_some]
theorem RH (V C:EV)(G:List Int)(h0:0<G.length)(h8:G.length<=8)(hp:G.Pairwise (·<·))(v:Int->Int)(ih:∀ c,sP 165 [EV.int .i64 c,.ip [V] 0,.ip [C] 0,.ip [FV G] 0] (EV.int .i64 (v c))):
  ∃ R,PartsOf G R/\sP 164 [FV G,ABa V C true G.length (fun i=>G.getD i 0)] (J7 R):=by
 obtain ⟨f,hs,hsort⟩:=XX G.length h8 (QF (fun i=>G.getD i 0) v)
 have ho:Ord G.length (QF (fun i=>G.getD i 0) v):=fun a b hab hb _=>by
  show G.getD a 0<G.getD b 0
  rw [List.getD_eq_getElem?_getD,List.getD_eq_getElem?_getD,List.getElem?_eq_getElem hb,List.getElem?_eq_getElem (show a<G.length by omega)]
  exact List.pairwise_iff_getElem.1 hp a b (by omega) hb hab
 have hl:=TY f G.length h0 (hs.ord ho)
 have hperm:((List.range G.length).map fun i=>(f i).1).Perm G:=by
  have h:=hs.perm.map Prod.fst
  rw [List.map_map,List.map_map] at h
  have e:(List.range G.length).map (Prod.fst ∘ QF (fun i=>G.getD i 0) v)=G:=RG G
  rw [e] at h
  exact h
 refine ⟨OY f G.length,⟨hl.all.trans hperm,hl.ne,hl.inc⟩,?_⟩
 have q0:(decide ((0:Int)<(G.length:Int)))=true:=decide_eq_true (by omega)
 have h3:=ADD V C true G.length (fun i=>G.getD i 0) v (by omega) ih h0
 have h9:sLR 1 cmB (frame 67 [(4,.isl false 0 0 fun _=>[]),(5,.ms 0 2 0 G.length none),(27,.ms 0 2 0 G.length none),(28,.int .i64 G.length),(29,.int .i64 0)]) [CN G.length f]
   (EX.leave 2,frame 67 [(4,EV.ms 1 1 0 (OY f G.length).length none)],[CN G.length f,.arr false true 1 false (OY f G.length).length (D6 (OY f G.length))]):=by
  refine SemLR.stepR (SemCR.weaken (ABc G.length f 0 rfl (by omega) q0) (VLes.refl _) (.cons (OLe.refl _) (.cons (OLe.arr (row':=fun j=>if j=0 then [EV.ms 2 1 0 (0+1) none] else [EV.isl true 1 (Na [] j) fun i=>[EV.int .i64 (Nb [] j i)]]) fun j hj=>?_) (.cons (OLe.arr (row':=fun j=>[EV.int .i64 ([(f 0).1].getD j 0)]) fun j hj=>?_) .nil)))) (Z6 G.length f h8 (G.length - 1) 1 [] [(f 0).1] 0 (by omega) (by simp) rfl (by omega))
  ·obtain rfl:j=0:=by omega
   rfl
  ·obtain rfl:j=0:=by omega
   rfl
 have h9':=SemLR.cl (path:=cB (cR (cL (cR (cR (cR (cR (AB prog 164)))))))) h9 rfl (by kernel_rfl)
 have h:=Z7 V C true G.length (fun i=>G.getD i 0) _ f _ _ h8 h3 hsort h9'
 refine SemP.res h (PLe.isl fun i _=>?_)
 rw [Nat.zero_add]
section
variable {n0:Bool}{n:Nat}{rs:Nat->ResD}{n1:Bool}{m:Nat}{w:Nat->Int}{e1:List (EV×EV)}{R:RulesV}{e3:List (EV×EV)}
theorem U0 (h:CompOk n0 n rs e1 R e3)(G:List Int)(h0:0<G.length)(h8:G.length<=8)(hp:G.Pairwise (·<·))(b:Int)(hb:1<=b/\b<=12):
  ∃ D,PartsOf G D/\sP 94 [CM n0 n rs n1 m w e1 R e3,FV G,EV.int .i64 b] (J7 D):=by
 obtain ⟨k,rfl⟩:∃ k:Nat,b=k:=⟨b.toNat,by omega⟩
 obtain ⟨v,hv⟩:=TU (n1:=n1) (m:=m) (w:=w) h true G.length (fun i=>G.getD i 0) (by omega) k (by omega)
 obtain ⟨D,hD,hc⟩:=RH _ _ G h0 h8 hp v hv
 refine ⟨D,hD,?_⟩
 have hk:1<=k/\k<=12:=by omega
 match k,hk,hc with
 | 1,_,hc=>exact ADE n0 n rs n1 m w e1 R e3 true G.length (fun i=>G.getD i 0) _ _ hc
 | 2,_,hc=>exact ADF n0 n rs n1 m w e1 R e3 true G.length (fun i=>G.getD i 0) _ _ hc
 | 3,_,hc=>exact ADG n0 n rs n1 m w e1 R e3 true G.length (fun i=>G.getD i 0) _ _ hc
 | 4,_,hc=>exact ADH n0 n rs n1 m w e1 R e3 true G.length (fun i=>G.getD i 0) _ _ hc
 | 5,_,hc=>exact ADI n0 n rs n1 m w e1 R e3 true G.length (fun i=>G.getD i 0) _ _ hc
 | 6,_,hc=>exact ADJ n0 n rs n1 m w e1 R e3 true G.length (fun i=>G.getD i 0) _ _ hc
 | 7,_,hc=>exact ADK n0 n rs n1 m w e1 R e3 true G.length (fun i=>G.getD i 0) _ _ hc
 | 8,_,hc=>exact ADL n0 n rs n1 m w e1 R e3 true G.length (fun i=>G.getD i 0) _ _ hc
 | 9,_,hc=>exact ADM n0 n rs n1 m w e1 R e3 true G.length (fun i=>G.getD i 0) _ _ hc
 | 10,_,hc=>exact ABf n0 n rs n1 m w e1 R e3 true G.length (fun i=>G.getD i 0) _ _ hc
 | 11,_,hc=>exact ABg n0 n rs n1 m w e1 R e3 true G.length (fun i=>G.getD i 0) _ _ hc
 | 12,_,hc=>exact ABh n0 n rs n1 m w e1 R e3 true G.length (fun i=>G.getD i 0) _ _ hc
end
def IK (f:FuncId):Bool:=pures f || f==91
def J8 (f:FuncId):Bool:=f==91 || f==0
abbrev rkV:EObj:=.var false false [.func (.func 91) [] [.ptr 0 0,.ptr 1 0,.ptr 2 0,.ptr 3 0,.ptr 4 0]]
abbrev rkG (k:Nat)(gs:Nat->List Int):EObj:=.arr false true 1 false k fun j=>[EV.isl true 1 (gs j).length fun i=>[EV.int .i64 ((gs j).getD i 0)]]
abbrev rkB (k:Nat)(bs:Nat->Int):EObj:=.arr false true 1 false k fun j=>[EV.int .i64 (bs j)]
abbrev rkN (C:List EV)(fin:Bool):AL:=[.var false true [.ip C 0],.var false true [.bool fin],.var false true [.func (.func 51) [] []],rkV,.var false true [.isl false 0 0 fun _=>[],.isl false 0 0 fun _=>[]]]
abbrev rkS (C:List EV)(fin:Bool)(k:Nat)(gs:Nat->List Int)(bs:Nat->Int):AL:=[.var false true [.ip C 0],.var false true [.bool fin],.var false true [.func (.func 51) [] []],rkV,.var false false [.ms 5 1 0 k none,.ms 6 1 0 k none],rkG k gs,rkB k bs]
abbrev rkC (C:List EV)(fin:Bool)(k:Nat)(gs:Nat->List Int)(bs:Nat->Int):AL:=[.var false true [.ip C 0],.var false true [.bool fin],.var false true [.func (.func 51) [] []],rkV,.var false false [.ms 7 1 0 k none,.ms 8 1 0 k none],.dead,.dead,rkG k gs,rkB k bs]
abbrev rkA (p:EV)(b:Int):List EV:=[p,.int .i64 b,.ptr 0 0,.ptr 1 0,.ptr 2 0,.ptr 3 0,.ptr 4 0]
abbrev rkP (n:Nat)(ds:Nat->List Int):EV:=.isl true 1 n fun j=>[EV.isl true 1 (ds j).length fun i=>[EV.int .i64 ((ds j).getD i 0)]]
noncomputable def rkI (b c:Int)(n:Nat)(ds:Nat->List Int)(i:Int):List EV:=frame 84 [(1,.int .i64 b),(5,.ptr 3 0),(11,.int .i64 c),(56,rkP n ds),(57,.int .i64 n),(58,.int .i64 i)]
noncomputable def rkO (g:EV)(b:Int)(cs:EV)(k:Nat)(i:Int):List EV:=frame 84 [(0,g),(1,.int .i64 b),(2,.ptr 0 0),(4,.ptr 2 0),(5,.ptr 3 0),(6,.ptr 4 0),(39,cs),(40,.int .i64 k),(41,.int .i64 i)]
abbrev Bw (n0:Bool)(n:Nat)(rs:Nat->ResD)(n1:Bool)(m:Nat)(w:Nat->Int)(e1:List (EV×EV))(R:RulesV)(e3:List (EV×EV)):List EV:=
 [EV.isl n0 13 n fun i=>(rs i).cells,nums n1 m w,.im e1,.str R.name,.int .i64 R.win,.int .i64 R.draw,.int .i64 R.loss,.isl R.onn 8 R.on R.orow,.isl R.znn 3 R.zn fun i=>(R.zs i).cells,.im e3]
end Go.Ev
