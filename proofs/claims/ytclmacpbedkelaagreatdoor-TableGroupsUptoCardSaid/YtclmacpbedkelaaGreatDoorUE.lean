/- A part of the proof. -/
import Derived.Test.YtclmacpbedkelaaGreatDoorUD
set_option linter.unusedSimpArgs false
set_option linter.unusedVariables false
set_option linter.unusedSectionVars false
namespace Go.Ev
open Go.Proofs.Tryz (prog)
set_option maxRecDepth 100000
set_option maxHeartbeats 0
abbrev Bn (a0:Int)(a1:Int):=[ov [iv a0,iv a1]]
abbrev Sw (a0:Int):=IntKind.i64.wrap (a0+1)
noncomputable abbrev Ej (a0:Int)(a1:Int):RC:=(EX.ret,(frame 83 [(6,bv false)]),[ov [iv a0,iv a1]])
abbrev ED (a0:Int):=(decide (a0>64),false)
noncomputable abbrev Ge:=frame 83 [(6,bv false)]
noncomputable abbrev CR:=cB (cB (cR (cL (cR (cR (AB prog 270))))))
abbrev DM (a0:Int):=IntKind.i64.wrap (a0+1)>256
abbrev EE (a0:Int):=(decide (a0>64))=false
noncomputable abbrev Gf (a0:Int)(a1:Int):RC:=(xL 0,(frame 83 []),(Bn a0 a1))
abbrev Sx (a0:Int):=Sw a0
abbrev BO (a0:Int):=Sx a0
section
variable (n:Nat)(ps:Nat->CondV)(d:Int)(a:Int)(b:Int)(i:Int)(m:Nat)(qs:Nat->CondV)(rb:Bool)(a1:Int)(b1:Int)(h0:0<=i)(h3:n<=1048576)(ihp:i<n->sP 328 [ag (ps i.toNat).cells] (EO m qs))(ih:i<n->sF 270 [pt 0 0,EO m qs,iv (BO d)] [cnt a (BO b)] (bv rb) [cnt a1 b1])
include n ps d a b i m qs rb a1 b1 h0 h3 ihp ih
theorem wP (q0:AH i n)(q1:(decide (a>64))=true):sC (CR) (wcT n ps d i) ([cnt a b]) (EX.ret,(Ge),[ov [iv a,iv (BO b)]]):=
 kCm By C9 [[AG i n,(decide (a>64),true)]] (.mk (dS 292477845180689) [] [] [] []) (kO (kz q0 (kz q1 AD))) (oJ ((inB i n)=true) .nil) 64 1 1
theorem wQ (q0:AH i n)(q1:EE a)(q2:(decide (DM b))=true):sC (CR) (wcT n ps d i) ([cnt a b]) (EX.ret,(Ge),[ov [iv a,iv (BO b)]]):=
 kCm By C9 [[AG i n,(ED a),(decide (DM b),true)]] (.mk (dS 0x10a01ce11111122222222) [] [] [] []) (kO (kz q0 (kz q1 (kz q2 AD)))) (oJ ((inB i n)=true) .nil) 64 1 1
theorem wR (q0:AH i n)(q1:EE a)(q2:(decide (DM b))=false)(q3:(!rb)=true):sC (CR) (wcT n ps d i) ([cnt a b]) (Ej a1 b1):=
 kCm By C9 [[AG i n,(ED a),(decide (DM b),false),(!rb,true)]] (.mk (dS 0x10a01ce11111122222c2223) [] [some (CE m qs)] [some ((bv rb,(Bn a1 b1)))] []) (kO (kz q0 (kz q1 (kz q2 (kz q3 AD))))) (.cons (ih (by simp_all)) (.cons (ihp (by simp_all)) (oJ ((inB i n)=true) .nil))) 64 1 1
theorem wS (q0:AH i n)(q1:EE a)(q2:(decide (DM b))=false)(q3:BA rb):sC (CR) (wcT n ps d i) ([cnt a b]) (xN,(frame 83 [(0,pt 0 0),(2,iv d),(19,sl (!n.beq 0) 1 n fun i=>(I8 ps i)),(20,iv ↑n),(21,iv (i+1))]),(Bn a1 b1)):=
 kCm By C9 [[AG i n,(ED a),(decide (DM b),false),A9 rb]] (.mk (dS 0x10a01ce11111122222c2223a) [] [some (CE m qs)] [some ((bv rb,(Bn a1 b1)))] []) (kO (kz q0 (kz q1 (kz q2 (kz q3 AD))))) (oI ((inR IntKind.i64 (i+1))=true) (.cons (ih (by simp_all)) (.cons (ihp (by simp_all)) (oJ ((inB i n)=true) .nil)))) 3670021 1 1
theorem wU (q0:Af i n):sC (CR) (wcT n ps d i) ([cnt a b]) (Gf a b):=
 kCm By C9 (Ae i n) (.mk (dS 16) [] [] [] []) (kO (kz q0 AD)) .nil 0 1 1
theorem wcB:∃ r_:RC,sC (cB (cB (cR (cL (cR (cR (AB prog 270))))))) (wcT n ps d i) [cnt a b] r_/\((∃ a_ b_,r_=(xN,wcT n ps d (i+1),[cnt a_ b_])/\i<n)∨(∃ a_ b_,r_=(EX.ret,frame 83 [(6,bv false)],[cnt a_ b_])/\i<n)∨(r_=(xL 0,frame 83 [],[cnt a b])/\n<=i)):=by
 rcases bT (decide (i<↑n)) with q0 | q0
 ·rcases bT (decide (a>64)) with q1 | q1
  ·exact e4 (wP n ps d a b i m qs rb a1 b1 h0 h3 ihp ih q0 q1)
  ·rcases bT (decide (IntKind.i64.wrap (b+1)>256)) with q2 | q2
   ·exact e4 (wQ n ps d a b i m qs rb a1 b1 h0 h3 ihp ih q0 q1 q2)
   ·rcases bT (!rb) with q3 | q3
    ·exact e4 (wR n ps d a b i m qs rb a1 b1 h0 h3 ihp ih q0 q1 q2 q3)
    ·exact e4 (wS n ps d a b i m qs rb a1 b1 h0 h3 ihp ih q0 q1 q2 q3)
 ·exact e4 (wU n ps d a b i m qs rb a1 b1 h0 h3 ihp ih q0)
end
abbrev Ek (a0:Int):=(decide (a0>16),false)
abbrev El (a0:Int):=(decide (a0>16))=false
section
variable (n:Nat)(ps:Nat->CondV)(d:Int)(a:Int)(b:Int)(a1:Int)(b1:Int)(e:Bool)(h3:n<=1048576)(ih1:e=true->sL (cB (cR (cL (cR (cR (AB prog 270)))))) (wcT n ps d 0) [cnt a b] ((xL 0,frame 83 [],[cnt a1 b1]):RC))(ih2:e=false->sL (cB (cR (cL (cR (cR (AB prog 270)))))) (wcT n ps d 0) [cnt a b] ((EX.ret,frame 83 [(6,bv false)],[cnt a1 b1]):RC))
include n ps d a b a1 b1 e h3 ih1 ih2
theorem wV (q0:Db n)(q1:(decide (d>16))=true):sF 270 [pt 0 0,CE n ps,iv d] [cnt a b] (bv false) (Bn a b):=
 kFm By C9 [[(Da n),(decide (d>16),true)]] (.mk (dS 65537) [] [] [] []) (kO (kz q0 (kz q1 AD))) .nil 1 [0]
theorem wW (q0:Db n)(q1:El d)(q2:(e)=true):sF 270 [pt 0 0,CE n ps,iv d] [cnt a b] (bv true) (Bn a1 b1):=
 kFm By C9 [[(Da n),(Ek d),(e,true)]] (.mk (dS 65537) [(11,.is 3670021 1 (Gf a1 b1))] [] [] []) (kO (kz q0 (kz q1 (kz q2 AD)))) (.cons (ih1 (by assumption)) .nil) 1 [0]
theorem wX (q0:Db n)(q1:El d)(q2:Av e):sF 270 [pt 0 0,CE n ps,iv d] [cnt a b] (bv false) (Bn a1 b1):=
 kFm By C9 [[(Da n),(Ek d),(e,false)]] (.mk (dS 65537) [(11,.is 3670021 1 (Ej a1 b1))] [] [] []) (kO (kz q0 (kz q1 (kz q2 AD)))) (.cons (ih2 (by assumption)) .nil) 1 [0]
theorem wY (q0:Fh n)(q1:(e)=true):sF 270 [pt 0 0,CE n ps,iv d] [cnt a b] (bv true) (Bn a1 b1):=
 kFm By C9 [[(Fg n),(e,true)]] (.mk (dS 4096) [(11,.is 3670021 1 (Gf a1 b1))] [] [] []) (kO (kz q0 (kz q1 AD))) (.cons (ih1 (by assumption)) .nil) 1 [0]
theorem wZ (q0:Fh n)(q1:Av e):sF 270 [pt 0 0,CE n ps,iv d] [cnt a b] (bv false) (Bn a1 b1):=
 kFm By C9 [[(Fg n),(e,false)]] (.mk (dS 4096) [(11,.is 3670021 1 (Ej a1 b1))] [] [] []) (kO (kz q0 (kz q1 AD))) (.cons (ih2 (by assumption)) .nil) 1 [0]
theorem wcF:∃ rb_:Bool,∃ a_ b_:Int,sF 270 [pt 0 0,EO n ps,iv d] [cnt a b] (bv rb_) [cnt a_ b_]:=by
 rcases bT (decide ((↑n:Int)>0)) with q0 | q0
 ·rcases bT (decide (d>16)) with q1 | q1
  ·exact ⟨_,_,_,(wV n ps d a b a1 b1 e h3 ih1 ih2 q0 q1)⟩
  ·rcases bT (e) with q2 | q2
   ·exact ⟨_,_,_,(wW n ps d a b a1 b1 e h3 ih1 ih2 q0 q1 q2)⟩
   ·exact ⟨_,_,_,(wX n ps d a b a1 b1 e h3 ih1 ih2 q0 q1 q2)⟩
 ·rcases bT (e) with q1 | q1
  ·exact ⟨_,_,_,(wY n ps d a b a1 b1 e h3 ih1 ih2 q0 q1)⟩
  ·exact ⟨_,_,_,(wZ n ps d a b a1 b1 e h3 ih1 ih2 q0 q1)⟩
end
section
variable (n:Nat)(ps:Nat->StepV)(d:Int)(a:Int)(b:Int)(a1:Int)(b1:Int)(e:Bool)(h3:n<=1048576)(ih1:e=true->sL (cB (cR (cL (cR (cR (AB prog 270)))))) (wsT n ps d 0) [cnt a b] ((xL 0,frame 83 [],[cnt a1 b1]):RC))(ih2:e=false->sL (cB (cR (cL (cR (cR (AB prog 270)))))) (wsT n ps d 0) [cnt a b] ((EX.ret,frame 83 [(6,bv false)],[cnt a1 b1]):RC))
include n ps d a b a1 b1 e h3 ih1 ih2
theorem w4 (q0:Db n)(q1:(decide (d>16))=true):sF 270 [pt 0 0,Cy n ps,iv d] [cnt a b] (bv false) (Bn a b):=
 kFm By C9 [[(Da n),(decide (d>16),true)]] (.mk (dS 65537) [] [] [] []) (kO (kz q0 (kz q1 AD))) .nil 1 [0]
theorem w5 (q0:Db n)(q1:El d)(q2:(e)=true):sF 270 [pt 0 0,Cy n ps,iv d] [cnt a b] (bv true) (Bn a1 b1):=
 kFm By C9 [[(Da n),(Ek d),(e,true)]] (.mk (dS 65537) [(11,.is 3670021 1 (Gf a1 b1))] [] [] []) (kO (kz q0 (kz q1 (kz q2 AD)))) (.cons (ih1 (by assumption)) .nil) 1 [0]
theorem w6 (q0:Db n)(q1:El d)(q2:Av e):sF 270 [pt 0 0,Cy n ps,iv d] [cnt a b] (bv false) (Bn a1 b1):=
 kFm By C9 [[(Da n),(Ek d),(e,false)]] (.mk (dS 65537) [(11,.is 3670021 1 (Ej a1 b1))] [] [] []) (kO (kz q0 (kz q1 (kz q2 AD)))) (.cons (ih2 (by assumption)) .nil) 1 [0]
theorem w7 (q0:Fh n)(q1:(e)=true):sF 270 [pt 0 0,Cy n ps,iv d] [cnt a b] (bv true) (Bn a1 b1):=
 kFm By C9 [[(Fg n),(e,true)]] (.mk (dS 4096) [(11,.is 3670021 1 (Gf a1 b1))] [] [] []) (kO (kz q0 (kz q1 AD))) (.cons (ih1 (by assumption)) .nil) 1 [0]
theorem w8 (q0:Fh n)(q1:Av e):sF 270 [pt 0 0,Cy n ps,iv d] [cnt a b] (bv false) (Bn a1 b1):=
 kFm By C9 [[(Fg n),(e,false)]] (.mk (dS 4096) [(11,.is 3670021 1 (Ej a1 b1))] [] [] []) (kO (kz q0 (kz q1 AD))) (.cons (ih2 (by assumption)) .nil) 1 [0]
theorem wsF:∃ rb_:Bool,∃ a_ b_:Int,sF 270 [pt 0 0,Dz n ps,iv d] [cnt a b] (bv rb_) [cnt a_ b_]:=by
 rcases bT (decide ((↑n:Int)>0)) with q0 | q0
 ·rcases bT (decide (d>16)) with q1 | q1
  ·exact ⟨_,_,_,(w4 n ps d a b a1 b1 e h3 ih1 ih2 q0 q1)⟩
  ·rcases bT (e) with q2 | q2
   ·exact ⟨_,_,_,(w5 n ps d a b a1 b1 e h3 ih1 ih2 q0 q1 q2)⟩
   ·exact ⟨_,_,_,(w6 n ps d a b a1 b1 e h3 ih1 ih2 q0 q1 q2)⟩
 ·rcases bT (e) with q1 | q1
  ·exact ⟨_,_,_,(w7 n ps d a b a1 b1 e h3 ih1 ih2 q0 q1)⟩
  ·exact ⟨_,_,_,(w8 n ps d a b a1 b1 e h3 ih1 ih2 q0 q1)⟩
end
abbrev Hr (a0:Int)(a1:Int)(a2:CondV):=[cnt a0 a1,oA 1 true 1 fun i=>[[HW a2]].getD i []]
abbrev Hs (a0:Int):=[pt 0 0,EV.ms 1 1 0 1 (some 1),iv a0]
abbrev Em (a0:Int)(a1:Int):=[ov [iv a0,iv a1],oD]
section
variable (c:CondV)(d:Int)(a:Int)(b:Int)(m:Nat)(qs:Nat->CondV)(rb:Bool)(a1:Int)(b1:Int)(ihp:sP 328 [ag c.cells] (EO m qs))(ih:sF 270 [pt 0 0,EO m qs,iv (BO d)] [cnt a (BO b)] (bv rb) [cnt a1 b1])
include c d a b m qs rb a1 b1 ihp ih
theorem w9 (q0:(decide (d>16))=true):sF 270 (Hs d) (Hr a b c) (bv false) (Em a b):=
 kFm By C9 [[(decide (d>16),true)]] (.mk (dS 66318) [] [] [] []) (kO (kz q0 AD)) .nil 1 [0,1]
theorem vA (q0:El d)(q1:(decide (a>64))=true):sF 270 (Hs d) (Hr a b c) (bv false) [ov [iv a,iv (BO b)],oD]:=
 kFm By C9 [[(Ek d),(decide (a>64),true)]] (.mk (dS 72917428472975633) [] [] [] []) (kO (kz q0 (kz q1 AD))) .nil 1 [0,1]
theorem vB (q0:El d)(q1:EE a)(q2:(decide (DM b))=true):sF 270 (Hs d) (Hr a b c) (bv false) [ov [iv a,iv (BO b)],oD]:=
 kFm By C9 [[(Ek d),(ED a),(decide (DM b),true)]] (.mk (dS 0x1030e03ce11111122222222) [] [] [] []) (kO (kz q0 (kz q1 (kz q2 AD)))) .nil 1 [0,1]
theorem vC (q0:El d)(q1:EE a)(q2:(decide (DM b))=false)(q3:(!rb)=true):sF 270 (Hs d) (Hr a b c) (bv false) (Em a1 b1):=
 kFm By C9 [[(Ek d),(ED a),(decide (DM b),false),(!rb,true)]] (.mk (dS 0x1030e03ce11111122222c2223) [] [some (CE m qs)] [some ((bv rb,(Bn a1 b1)))] []) (kO (kz q0 (kz q1 (kz q2 (kz q3 AD))))) (.cons ih (.cons ihp .nil)) 1 [0,1]
theorem vD (q0:El d)(q1:EE a)(q2:(decide (DM b))=false)(q3:BA rb):sF 270 (Hs d) (Hr a b c) (bv true) (Em a1 b1):=
 kFm By C9 [[(Ek d),(ED a),(decide (DM b),false),A9 rb]] (.mk (dS 0x1030e03ce11111122222c2223) [] [some (CE m qs)] [some ((bv rb,(Bn a1 b1)))] []) (kO (kz q0 (kz q1 (kz q2 (kz q3 AD))))) (.cons ih (.cons ihp .nil)) 1 [0,1]
theorem w1F:∃ rb_:Bool,∃ a_ b_:Int,sF 270 [pt 0 0,EV.ms 1 1 0 1 (some 1),iv d] [cnt a b,oA 1 true 1 fun i=>[[HW c]].getD i []] (bv rb_) [cnt a_ b_,.dead]:=by
 rcases bT (decide (d>16)) with q0 | q0
 ·exact ⟨_,_,_,(w9 c d a b m qs rb a1 b1 ihp ih q0)⟩
 ·rcases bT (decide (a>64)) with q1 | q1
  ·exact ⟨_,_,_,(vA c d a b m qs rb a1 b1 ihp ih q0 q1)⟩
  ·rcases bT (decide (IntKind.i64.wrap (b+1)>256)) with q2 | q2
   ·exact ⟨_,_,_,(vB c d a b m qs rb a1 b1 ihp ih q0 q1 q2)⟩
   ·rcases bT (!rb) with q3 | q3
    ·exact ⟨_,_,_,(vC c d a b m qs rb a1 b1 ihp ih q0 q1 q2 q3)⟩
    ·exact ⟨_,_,_,(vD c d a b m qs rb a1 b1 ihp ih q0 q1 q2 q3)⟩
end
abbrev En (a0:Int):=IntKind.i64.wrap (a0+1)>64
section
variable (n:Nat)(ps:Nat->StepV)(d:Int)(a:Int)(b:Int)(i:Int)(bz:Bool)(r0:Bool)(a0:Int)(b0:Int)(m:Nat)(qs:Nat->StepV)(rf:Int->Int->Bool)(af:Int->Int->Int)(bf:Int->Int->Int)(h0:0<=i)(h3:n<=1048576)(ihz:i<n->sP 294 [ag (ps i.toNat).cond.cells] (bv bz))(ih0:i<n->sF 270 [pt 0 0,EV.ms 1 1 0 1 (some 1),iv 0] [cnt (BO a) b,oA 1 true 1 fun i_1=>[[HW (ps i.toNat).cond]].getD i_1 []] (bv r0) [cnt a0 b0,.dead])(ihp:i<n->sP 329 [ag (ps i.toNat).cells] (Dz m qs))(ih:i<n->∀ a b:Int,sF 270 [pt 0 0,Dz m qs,iv (IntKind.i64.wrap (d+1))] [cnt a b] (bv (rf a b)) [cnt (af a b) (bf a b)])
include n ps d a b i bz r0 a0 b0 m qs rf af bf h0 h3 ihz ih0 ihp ih
theorem vE (q0:AH i n)(q1:(!bz)=true)(q2:(!r0)=true):sC (CR) (wsT n ps d i) ([cnt a b]) (Ej a0 b0):=
 kCm By C9 [[AG i n,(!bz,true),(!r0,true)]] (.mk (dS 74875427877884178) [] [some (bv bz)] [some ((bv r0,(Em a0 b0)))] []) (kO (kz q0 (kz q1 (kz q2 AD)))) (.cons (ih0 (by simp_all)) (.cons (ihz (by simp_all)) (oJ ((inB i n)=true) .nil))) 64 1 1
theorem vF (q0:AH i n)(q1:(!bz)=true)(q2:BA r0)(q3:(decide (a0>64))=true):sC (CR) (wsT n ps d i) ([cnt a b]) (Ej a0 b0):=
 kCm By C9 [[AG i n,(!bz,true),A9 r0,(decide (a0>64),true)]] (.mk (dS 0x10a02ce11111112333333) [] [some (bv bz)] [some ((bv r0,(Em a0 b0)))] []) (kO (kz q0 (kz q1 (kz q2 (kz q3 AD))))) (.cons (ih0 (by simp_all)) (.cons (ihz (by simp_all)) (oJ ((inB i n)=true) .nil))) 64 1 1
theorem vG (q0:AH i n)(q1:(!bz)=true)(q2:BA r0)(q3:EE a0)(q4:(decide (b0>256))=true):sC (CR) (wsT n ps d i) ([cnt a b]) (Ej a0 b0):=
 kCm By C9 [[AG i n,(!bz,true),A9 r0,(ED a0),(decide (b0>256),true)]] (.mk (dS 0x10a02ce1111111233333344444444) [] [some (bv bz)] [some ((bv r0,(Em a0 b0)))] []) (kO (kz q0 (kz q1 (kz q2 (kz q3 (kz q4 AD)))))) (.cons (ih0 (by simp_all)) (.cons (ihz (by simp_all)) (oJ ((inB i n)=true) .nil))) 64 1 1
theorem vH (q0:AH i n)(q1:(!bz)=true)(q2:BA r0)(q3:EE a0)(q4:(decide (b0>256))=false)(q5:(!rf a0 b0)=true):sC (CR) (wsT n ps d i) ([cnt a b]) (EX.ret,(Ge),[ov [iv (af a0 b0),iv (bf a0 b0)]]):=
 kCm By C9 [[AG i n,(!bz,true),A9 r0,(ED a0),(decide (b0>256),false),(!rf a0 b0,true)]] (.mk (dS 0x10a02ce1111111233333344444c4445) [] [some (bv bz),some (Cy m qs)] [some ((bv r0,(Em a0 b0))),some ((bv (rf a0 b0),[ov [iv (af a0 b0),iv (bf a0 b0)]]))] []) (kO (kz q0 (kz q1 (kz q2 (kz q3 (kz q4 (kz q5 AD))))))) (oT (sF 270 [pt 0 0,sl (!m.beq 0) 1 m fun i=>[EV.iface 372 (ag (qs i).cells)],iv (IntKind.i64.wrap (d+1))] [ov [iv a0,iv b0]] (bv (rf a0 b0)) [ov [iv (af a0 b0),iv (bf a0 b0)]]) (ih (by simp_all) _ _) (.cons (ihp (by simp_all)) (.cons (ih0 (by simp_all)) (.cons (ihz (by simp_all)) (oJ ((inB i n)=true) .nil))))) 64 1 1
theorem vI (q0:AH i n)(q1:(!bz)=true)(q2:BA r0)(q3:EE a0)(q4:(decide (b0>256))=false)(q5:(!rf a0 b0)=false):sC (CR) (wsT n ps d i) ([cnt a b]) (xN,(frame 83 [(0,pt 0 0),(2,iv d),(19,sl (!n.beq 0) 1 n fun i=>(Ei ps i)),(20,iv ↑n),(21,iv (i+1))]),[ov [iv (af a0 b0),iv (bf a0 b0)]]):=
 kCm By C9 [[AG i n,(!bz,true),A9 r0,(ED a0),(decide (b0>256),false),(!rf a0 b0,false)]] (.mk (dS 0x10a02ce1111111233333344444c4445a) [] [some (bv bz),some (Cy m qs)] [some ((bv r0,(Em a0 b0))),some ((bv (rf a0 b0),[ov [iv (af a0 b0),iv (bf a0 b0)]]))] []) (kO (kz q0 (kz q1 (kz q2 (kz q3 (kz q4 (kz q5 AD))))))) (oI ((inR IntKind.i64 (i+1))=true) (oT (sF 270 [pt 0 0,sl (!m.beq 0) 1 m fun i=>[EV.iface 372 (ag (qs i).cells)],iv (IntKind.i64.wrap (d+1))] [ov [iv a0,iv b0]] (bv (rf a0 b0)) [ov [iv (af a0 b0),iv (bf a0 b0)]]) (ih (by simp_all) _ _) (.cons (ihp (by simp_all)) (.cons (ih0 (by simp_all)) (.cons (ihz (by simp_all)) (oJ ((inB i n)=true) .nil)))))) 3670021 1 1
theorem vJ (q0:AH i n)(q1:BA bz)(q2:(decide (En a))=true):sC (CR) (wsT n ps d i) ([cnt a b]) (EX.ret,(Ge),[ov [iv (BO a),iv b]]):=
 kCm By C9 [[AG i n,A9 bz,(decide (En a),true)]] (.mk (dS 0x10a02ce1111111012e22222) [] [some (bv bz)] [] []) (kO (kz q0 (kz q1 (kz q2 AD)))) (.cons (ihz (by simp_all)) (oJ ((inB i n)=true) .nil)) 64 1 1
theorem vK (q0:AH i n)(q1:BA bz)(q2:(decide (En a))=false)(q3:(decide (b>256))=true):sC (CR) (wsT n ps d i) ([cnt a b]) (EX.ret,(Ge),[ov [iv (BO a),iv b]]):=
 kCm By C9 [[AG i n,A9 bz,(decide (En a),false),(decide (b>256),true)]] (.mk (dS 0x10a02ce1111111012e2222233333333) [] [some (bv bz)] [] []) (kO (kz q0 (kz q1 (kz q2 (kz q3 AD))))) (.cons (ihz (by simp_all)) (oJ ((inB i n)=true) .nil)) 64 1 1
theorem vL (q0:AH i n)(q1:BA bz)(q2:(decide (En a))=false)(q3:(decide (b>256))=false)(q4:(!rf (IntKind.i64.wrap (a+1)) b)=true):sC (CR) (wsT n ps d i) ([cnt a b]) (EX.ret,(Ge),[ov [iv (af (BO a) b),iv (bf (BO a) b)]]):=
 kCm By C9 [[AG i n,A9 bz,(decide (En a),false),(decide (b>256),false),(!rf (BO a) b,true)]] (.mk (dS 0x10a02ce1111111012e2222233333c3334) [] [some (bv bz),some (Cy m qs)] [some ((bv (rf (BO a) b),[ov [iv (af (BO a) b),iv (bf (BO a) b)]]))] []) (kO (kz q0 (kz q1 (kz q2 (kz q3 (kz q4 AD)))))) (oT (sF 270 [pt 0 0,sl (!m.beq 0) 1 m fun i=>[EV.iface 372 (ag (qs i).cells)],iv (IntKind.i64.wrap (d+1))] [ov [iv (IntKind.i64.wrap (a+1)),iv b]] (bv (rf (IntKind.i64.wrap (a+1)) b)) [ov [iv (af (IntKind.i64.wrap (a+1)) b),iv (bf (IntKind.i64.wrap (a+1)) b)]]) (ih (by simp_all) _ _) (.cons (ihp (by simp_all)) (.cons (ihz (by simp_all)) (oJ ((inB i n)=true) .nil)))) 64 1 1
theorem vM (q0:AH i n)(q1:BA bz)(q2:(decide (En a))=false)(q3:(decide (b>256))=false)(q4:(!rf (IntKind.i64.wrap (a+1)) b)=false):sC (CR) (wsT n ps d i) ([cnt a b]) (xN,(frame 83 [(0,pt 0 0),(2,iv d),(19,sl (!n.beq 0) 1 n fun i=>(Ei ps i)),(20,iv ↑n),(21,iv (i+1))]),[ov [iv (af (BO a) b),iv (bf (BO a) b)]]):=
 kCm By C9 [[AG i n,A9 bz,(decide (En a),false),(decide (b>256),false),(!rf (BO a) b,false)]] (.mk (dS 0x10a02ce1111111012e2222233333c3334a) [] [some (bv bz),some (Cy m qs)] [some ((bv (rf (BO a) b),[ov [iv (af (BO a) b),iv (bf (BO a) b)]]))] []) (kO (kz q0 (kz q1 (kz q2 (kz q3 (kz q4 AD)))))) (oI ((inR IntKind.i64 (i+1))=true) (oT (sF 270 [pt 0 0,sl (!m.beq 0) 1 m fun i=>[EV.iface 372 (ag (qs i).cells)],iv (IntKind.i64.wrap (d+1))] [ov [iv (IntKind.i64.wrap (a+1)),iv b]] (bv (rf (IntKind.i64.wrap (a+1)) b)) [ov [iv (af (IntKind.i64.wrap (a+1)) b),iv (bf (IntKind.i64.wrap (a+1)) b)]]) (ih (by simp_all) _ _) (.cons (ihp (by simp_all)) (.cons (ihz (by simp_all)) (oJ ((inB i n)=true) .nil))))) 3670021 1 1
theorem vN (q0:Af i n):sC (CR) (wsT n ps d i) ([cnt a b]) (Gf a b):=
 kCm By C9 (Ae i n) (.mk (dS 16) [] [] [] []) (kO (kz q0 AD)) .nil 0 1 1
theorem wsB:∃ r_:RC,sC (cB (cB (cR (cL (cR (cR (AB prog 270))))))) (wsT n ps d i) [cnt a b] r_/\((∃ a_ b_,r_=(xN,wsT n ps d (i+1),[cnt a_ b_])/\i<n)∨(∃ a_ b_,r_=(EX.ret,frame 83 [(6,bv false)],[cnt a_ b_])/\i<n)∨(r_=(xL 0,frame 83 [],[cnt a b])/\n<=i)):=by
 rcases bT (decide (i<↑n)) with q0 | q0
 ·rcases bT (!bz) with q1 | q1
  ·rcases bT (!r0) with q2 | q2
   ·exact e4 (vE n ps d a b i bz r0 a0 b0 m qs rf af bf h0 h3 ihz ih0 ihp ih q0 q1 q2)
   ·rcases bT (decide (a0>64)) with q3 | q3
    ·exact e4 (vF n ps d a b i bz r0 a0 b0 m qs rf af bf h0 h3 ihz ih0 ihp ih q0 q1 q2 q3)
    ·rcases bT (decide (b0>256)) with q4 | q4
     ·exact e4 (vG n ps d a b i bz r0 a0 b0 m qs rf af bf h0 h3 ihz ih0 ihp ih q0 q1 q2 q3 q4)
     ·rcases bT (!rf a0 b0) with q5 | q5
      ·exact e4 (vH n ps d a b i bz r0 a0 b0 m qs rf af bf h0 h3 ihz ih0 ihp ih q0 q1 q2 q3 q4 q5)
      ·exact e4 (vI n ps d a b i bz r0 a0 b0 m qs rf af bf h0 h3 ihz ih0 ihp ih q0 q1 q2 q3 q4 q5)
  ·rcases bT (decide (IntKind.i64.wrap (a+1)>64)) with q2 | q2
   ·exact e4 (vJ n ps d a b i bz r0 a0 b0 m qs rf af bf h0 h3 ihz ih0 ihp ih q0 q1 q2)
   ·rcases bT (decide (b>256)) with q3 | q3
    ·exact e4 (vK n ps d a b i bz r0 a0 b0 m qs rf af bf h0 h3 ihz ih0 ihp ih q0 q1 q2 q3)
    ·rcases bT (!rf (IntKind.i64.wrap (a+1)) b) with q4 | q4
     ·exact e4 (vL n ps d a b i bz r0 a0 b0 m qs rf af bf h0 h3 ihz ih0 ihp ih q0 q1 q2 q3 q4)
     ·exact e4 (vM n ps d a b i bz r0 a0 b0 m qs rf af bf h0 h3 ihz ih0 ihp ih q0 q1 q2 q3 q4)
 ·exact e4 (vN n ps d a b i bz r0 a0 b0 m qs rf af bf h0 h3 ihz ih0 ihp ih q0)
end
theorem N6 {c:CondV}{ps:Nat->CondV}(hl:c.len<=1048576)(h:∀ i,i<c.len->c.row i=(ps i).cells):sP 328 [EV.agg c.cells] (EO c.len ps):=
 (Pa c.kind c.var c.n c.nn c.len ps hl).weaken (.cons (BLs.agg (Kr h)).p .nil) (.refl _)
theorem Sy {s:StepV}{ps qs:Nat->StepV}(h1:s.l1<=500000)(h2:s.l2<=500000)(hps:∀ i,i<s.l1->s.r1 i=(ps i).cells)(hqs:∀ i,i<s.l2->s.r2 i=(qs i).cells):sP 329 [EV.agg s.cells] (Dz (s.l1+s.l2) (EY s.l1 ps qs)):=
 (J5 s.kind s.by_ s.cond.kind s.cond.var s.cond.n s.cond.nn s.cond.len s.cond.row s.n1 s.l1 ps s.n2 s.l2 qs (by omega) (by omega)).weaken
  (.cons (BLs.agg (.cons (BLe.refl _) (.cons (BLe.refl _) (.cons (BLe.refl _) (.cons (BLe.refl _) (.cons (BLe.refl _) (.cons (BLe.refl _) (.cons (BLe.isl hps) (.cons (BLe.isl hqs) .nil))))))))).p .nil) (.refl _)
theorem M9 (n:Nat)(ps:Nat->CondV)(d:Int)(h3:n<=1048576)(a b:Int){R:RC}(hR:(∃ a1 b1,R=(EX.leave 0,frame 83 [],[cnt a1 b1]))∨∃ a1 b1,R=(EX.ret,frame 83 [(6,EV.bool false)],[cnt a1 b1]))
  (h:SemL prog globs' false (cB (cB (cR (cL (cR (cR (AB prog 270))))))) (wcT n ps d 0) [cnt a b] R):
  ∃ rb:Bool,∃ a' b':Int,sF 270 [EV.ptr 0 0,EO n ps,EV.int .i64 d] [cnt a b] (EV.bool rb) [cnt a' b']:=by
 rcases hR with ⟨a1,b1,rfl⟩ | ⟨a1,b1,rfl⟩
 ·exact wcF n ps d a b a1 b1 true h3 (fun _=>h.toCL (by kernel_rfl)) (by intro h; cases h)
 ·exact wcF n ps d a b a1 b1 false h3 (by intro h; cases h) (fun _=>h.toCL (by kernel_rfl))
theorem NA (n:Nat)(ps:Nat->StepV)(d:Int)(h3:n<=1048576)(a b:Int){R:RC}(hR:(∃ a1 b1,R=(EX.leave 0,frame 83 [],[cnt a1 b1]))∨∃ a1 b1,R=(EX.ret,frame 83 [(6,EV.bool false)],[cnt a1 b1]))
  (h:SemL prog globs' false (cB (cB (cR (cL (cR (cR (AB prog 270))))))) (wsT n ps d 0) [cnt a b] R):
  ∃ rb:Bool,∃ a' b':Int,sF 270 [EV.ptr 0 0,Dz n ps,EV.int .i64 d] [cnt a b] (EV.bool rb) [cnt a' b']:=by
 rcases hR with ⟨a1,b1,rfl⟩ | ⟨a1,b1,rfl⟩
 ·exact wsF n ps d a b a1 b1 true h3 (fun _=>h.toCL (by kernel_rfl)) (by intro h; cases h)
 ·exact wsF n ps d a b a1 b1 false h3 (by intro h; cases h) (fun _=>h.toCL (by kernel_rfl))
theorem Q7:∀ (k n:Nat) (ps:Nat->CondV),n<=1048576->(∀ i,i<n->TreeC k (ps i))->∀ d a b:Int,
  ∃ rb:Bool,∃ a' b':Int,sF 270 [EV.ptr 0 0,EO n ps,EV.int .i64 d] [cnt a b] (EV.bool rb) [cnt a' b']:=by
 intro k
 induction k with
 | zero=>
  intro n ps h3 ht d a b
  have hn:n=0:=by
   rcases Nat.eq_zero_or_pos n with h | h
   ·exact h
   ·exact (ht 0 h).elim
  subst hn
  obtain ⟨r,h,h1⟩:=wcB 0 ps d a b 0 0 ps true a b (by omega) h3 (fun h=>by simp at h) (fun h=>by simp at h)
  rcases h1 with ⟨_,_,_,h2⟩ | ⟨_,_,_,h2⟩ | ⟨rfl,_⟩
  ·simp at h2
  ·simp at h2
  ·exact M9 0 ps d h3 a b (.inl ⟨_,_,rfl⟩) (SemL.last h (by simp))
 | succ k ih=>
  intro n ps h3 ht d a b
  obtain ⟨R,hR,h⟩:=SemL.ex (P:=prog) (G:=globs') (rnd:=false) (c:=cB (cB (cR (cL (cR (cR (AB prog 270))))))) (X:=Nat×Int×Int) (fun x=>wcT n ps d x.1) (fun x=>[cnt x.2.1 x.2.2]) n (fun i x=>x.1=i)
   (fun r=>(∃ a1 b1,r=(EX.leave 0,frame 83 [],[cnt a1 b1]))∨∃ a1 b1,r=(EX.ret,frame 83 [(6,EV.bool false)],[cnt a1 b1])) (by
    rintro i ⟨j,a,b⟩ hi (rfl:j=i)
    obtain ⟨hl,qs,hqs⟩:=ht j hi
    obtain ⟨rb,a1,b1,h⟩:=ih (ps j).len qs hl (fun l hl=>(hqs l hl).2) (IntKind.i64.wrap (d+1)) a (IntKind.i64.wrap (b+1))
    obtain ⟨r,h,h1⟩:=wcB n ps d a b (j:Int) _ qs rb a1 b1 (by omega) h3 (fun _=>N6 hl (fun l hl=>(hqs l hl).1)) (fun _=>h)
    rcases h1 with ⟨a2,b2,rfl,_⟩ | ⟨a2,b2,rfl,_⟩ | ⟨rfl,h2⟩
    ·exact .inl ⟨⟨j+1,a2,b2⟩,rfl,h⟩
    ·exact .inr ⟨_,.inr ⟨_,_,rfl⟩,by simp,h⟩
    ·omega) (by
    rintro ⟨j,a,b⟩ (rfl:j=_)
    obtain ⟨r,h,h1⟩:=wcB j ps d a b (j:Int) 0 ps true a b (by omega) h3 (fun h=>by simp at h) (fun h=>by simp at h)
    rcases h1 with ⟨_,_,_,h2⟩ | ⟨_,_,_,h2⟩ | ⟨rfl,_⟩
    ·simp at h2
    ·simp at h2
    ·exact ⟨_,.inl ⟨_,_,rfl⟩,by simp,h⟩) n 0 ⟨0,a,b⟩ (by omega) rfl
  exact M9 n ps d h3 a b hR h
theorem Q8 (k:Nat)(c:CondV)(ht:TreeC k c)(d a b:Int):∃ rb:Bool,∃ a' b':Int,sF 270 [EV.ptr 0 0,EV.ms 1 1 0 1 (some 1),EV.int .i64 d] [cnt a b,EObj.arr false true 1 true 1 fun i=>[[HW c]].getD i []] (EV.bool rb) [cnt a' b',.dead]:=by
 cases k with
 | zero=>exact ht.elim
 | succ k=>
  obtain ⟨hl,qs,hqs⟩:=ht
  obtain ⟨rb,a1,b1,h⟩:=Q7 k c.len qs hl (fun l hl=>(hqs l hl).2) (IntKind.i64.wrap (d+1)) a (IntKind.i64.wrap (b+1))
  exact w1F c d a b _ qs rb a1 b1 (N6 hl (fun l hl=>(hqs l hl).1)) h
theorem Q9:∀ (k n:Nat) (ps:Nat->StepV),n<=1048576->(∀ i,i<n->TreeS k (ps i))->∀ d a b:Int,
  ∃ rb:Bool,∃ a' b':Int,sF 270 [EV.ptr 0 0,Dz n ps,EV.int .i64 d] [cnt a b] (EV.bool rb) [cnt a' b']:=by
 intro k
 induction k with
 | zero=>
  intro n ps h3 ht d a b
  have hn:n=0:=by
   rcases Nat.eq_zero_or_pos n with h | h
   ·exact h
   ·exact (ht 0 h).elim
  subst hn
  obtain ⟨r,h,h1⟩:=wsB 0 ps d a b 0 true true a b 0 ps (fun _ _=>true) (fun _ _=>0) (fun _ _=>0) (by omega) h3 (fun h=>by simp at h) (fun h=>by simp at h) (fun h=>by simp at h) (fun h=>by simp at h)
  rcases h1 with ⟨_,_,_,h2⟩ | ⟨_,_,_,h2⟩ | ⟨rfl,_⟩
  ·simp at h2
  ·simp at h2
  ·exact NA 0 ps d h3 a b (.inl ⟨_,_,rfl⟩) (SemL.last h (by simp))
 | succ k ih=>
  intro n ps h3 ht d a b
  obtain ⟨R,hR,h⟩:=SemL.ex (P:=prog) (G:=globs') (rnd:=false) (c:=cB (cB (cR (cL (cR (cR (AB prog 270))))))) (X:=Nat×Int×Int) (fun x=>wsT n ps d x.1) (fun x=>[cnt x.2.1 x.2.2]) n (fun i x=>x.1=i)
   (fun r=>(∃ a1 b1,r=(EX.leave 0,frame 83 [],[cnt a1 b1]))∨∃ a1 b1,r=(EX.ret,frame 83 [(6,EV.bool false)],[cnt a1 b1])) (by
    rintro i ⟨j,a,b⟩ hi (rfl:j=i)
    obtain ⟨hc,hl1,hl2,⟨qs,hqs⟩,rs,hrs⟩:=ht j hi
    obtain ⟨bz,hbz⟩:=N5 (ps j).cond
    obtain ⟨r0,a0,b0,h0⟩:=Q8 (k+1) (ps j).cond hc 0 (IntKind.i64.wrap (a+1)) b
    have hrec:∀ x y:Int,∃ q:Bool×Int×Int,sF 270 [EV.ptr 0 0,Dz ((ps j).l1+(ps j).l2) (EY (ps j).l1 qs rs),EV.int .i64 (IntKind.i64.wrap (d+1))] [cnt x y] (EV.bool q.1) [cnt q.2.1 q.2.2]:=fun x y=>by
     obtain ⟨rb,a1,b1,h⟩:=ih ((ps j).l1+(ps j).l2) (EY (ps j).l1 qs rs) (by omega) (fun l hl=>by
      unfold EY
      split
      ·exact (hqs l ‹_›).2
      ·exact (hrs _ (by omega)).2) (IntKind.i64.wrap (d+1)) x y
     exact ⟨(rb,a1,b1),h⟩
    obtain ⟨q,hq⟩:=Classical.axiomOfChoice fun x=>Classical.axiomOfChoice (hrec x)
    obtain ⟨r,h,h1⟩:=wsB n ps d a b (j:Int) bz r0 a0 b0 _ (EY (ps j).l1 qs rs) (fun x y=>(q x y).1) (fun x y=>(q x y).2.1) (fun x y=>(q x y).2.2) (by omega) h3 (fun _=>hbz) (fun _=>h0) (fun _=>Sy hl1 hl2 (fun l hl=>(hqs l hl).1) (fun l hl=>(hrs l hl).1)) (fun _ x y=>hq x y)
    rcases h1 with ⟨a2,b2,rfl,_⟩ | ⟨a2,b2,rfl,_⟩ | ⟨rfl,h2⟩
    ·exact .inl ⟨⟨j+1,a2,b2⟩,rfl,h⟩
    ·exact .inr ⟨_,.inr ⟨_,_,rfl⟩,by simp,h⟩
    ·omega) (by
    rintro ⟨j,a,b⟩ (rfl:j=_)
    obtain ⟨r,h,h1⟩:=wsB j ps d a b (j:Int) true true a b 0 ps (fun _ _=>true) (fun _ _=>0) (fun _ _=>0) (by omega) h3 (fun h=>by simp at h) (fun h=>by simp at h) (fun h=>by simp at h) (fun h=>by simp at h)
    rcases h1 with ⟨_,_,_,h2⟩ | ⟨_,_,_,h2⟩ | ⟨rfl,_⟩
    ·simp at h2
    ·simp at h2
    ·exact ⟨_,.inl ⟨_,_,rfl⟩,by simp,h⟩) n 0 ⟨0,a,b⟩ (by omega) rfl
  exact NA n ps d h3 a b hR h
abbrev Ht (a0:Nat)(a1:Bool):=bif (↑a0:Int)==0 then true else a1
theorem Yh (n:Nat)(ps:Nat->StepV)(rb:Bool)(a1:Int)(b1:Int)(bI:Bool)(ih:sF 270 [pt 0 0,Dz n ps,iv 0] [cnt 0 0] (bv rb) [cnt a1 b1])(ihI:sP 271 [Dz n ps,DZ] (bv bI)):sP 212 [Cy n ps] (iv (bif !rb then 2 else bif bif (↑n:Int)==0 then true else bI then 140 else 0)):=
 kPm By C9 [] (.mk [] [(0,.fork true (!rb) 4 0 0 0 (.mk (dS 16) [] [] [some ((bv rb,(Bn a1 b1)))] []) (.mk [] [(0,.fork false (Ht n bI) 4 0 0 0 (.mk (dS 257) [(11,.fork true ((↑n:Int)==0) 65536 1021 0 1 (.mk (dS 4096) [] [] [] []) (.mk (dS 4096) [] [some (bv bI)] [] []))] [] [some ((bv rb,(Bn a1 b1)))] []) (.mk (dS 257) [(11,.fork true ((↑n:Int)==0) 65536 1021 0 1 (.mk (dS 4096) [] [] [] []) (.mk (dS 4096) [] [some (bv bI)] [] []))] [] [some ((bv rb,(Bn a1 b1)))] []))] [] [] []))] [] [] []) KOk.nil (oT ((!rb)=true->sF 270 [pt 0 0,sl (!n.beq 0) 1 n fun i=>[EV.iface 372 (ag (ps i).cells)],iv 0] [ov [iv 0,iv 0]] (bv rb) [ov [iv a1,iv b1]]) (fun _=>ih) (oT ((!rb)=false->((Ht n bI)=true->(((↑n:Int)==0)=false->sP 271 [sl (!n.beq 0) 1 n fun i=>[EV.iface 372 (ag (ps i).cells)],fc (272) [] []] (bv bI)))) (fun _=>(fun _=>(fun _=>ihI))) (oT ((!rb)=false->((Ht n bI)=true->sF 270 [pt 0 0,sl (!n.beq 0) 1 n fun i=>[EV.iface 372 (ag (ps i).cells)],iv 0] [ov [iv 0,iv 0]] (bv rb) [ov [iv a1,iv b1]])) (fun _=>(fun _=>ih)) (oT ((!rb)=false->((Ht n bI)=false->(((↑n:Int)==0)=false->sP 271 [sl (!n.beq 0) 1 n fun i=>[EV.iface 372 (ag (ps i).cells)],fc (272) [] []] (bv bI)))) (fun _=>(fun _=>(fun _=>ihI))) (oT ((!rb)=false->((Ht n bI)=false->sF 270 [pt 0 0,sl (!n.beq 0) 1 n fun i=>[EV.iface 372 (ag (ps i).cells)],iv 0] [ov [iv 0,iv 0]] (bv rb) [ov [iv a1,iv b1]])) (fun _=>(fun _=>ih)) .nil)))))
theorem Yi (nn:Bool)(n:Nat)(ps:Nat->StepV)(e:Int)(h3:n<=1048576)(ih:sP 212 [Dz n ps] (iv e)):sP 159 [CQ nn n ps] (iv e):=
 kP [] (.mk [] [] [some (Cy n ps),some (iv e)] [] []) KOk.nil (.cons ih (oT (sP 213 [sl nn 8 n fun i=>(ps i).cells] (sl (!n.beq 0) 1 n fun i=>[EV.iface 372 (ag (ps i).cells)])) (P6 _ _ _ h3) .nil))
abbrev Sz (a0:RulesV)(a1:Int):=a0.zs a1.toNat
abbrev Dm (a0:Int)(a1:RulesV):=(decide (a0<↑a1.zn),true)
noncomputable abbrev EF:=cB (cB (cR (cL (cR (cR (cR (cR (AB prog 88))))))))
noncomputable abbrev Eo:RC:=(EX.ret,(frame 79 [(2,iv 140)]),[oD])
abbrev S0 (a0:RulesV)(a1:Int):=Sz a0 a1
abbrev Ad (a0:RulesV)(a1:Int):=S0 a0 a1
section
variable (R:RulesV)(v:Nat->Bool)(i:Int)(h0:0<=i)(h3:R.zn<=1048576)(ih:∀ j,j<R.zn->sP 158 [sv (R.zs j).name] (bv (v j)))(q0:(decide (i<↑R.zn))=true)
include R v i h0 h3 ih q0
theorem vO (q1:((R.zs i.toNat).frm==0)=true):sC (EF) (frame 79 [(2,.int .i64 0),(47,.isl R.znn 3 R.zn fun i=>(R.zs i).cells),(48,.int .i64 R.zn),(49,.int .i64 i)]) ([oD]) Eo:=
 kC [[(Dm i R),((Ad R i).frm==0,true)]] (.mk (dS 4462878225) [] [] [] []) (kO (kz q0 (kz q1 AD))) (oJ ((inB i R.zn)=true) .nil) 4 0 1
theorem vP (q1:((R.zs i.toNat).frm==0)=false)(q2:(decide ((R.zs i.toNat).frm>24))=true):sC (EF) (frame 79 [(2,.int .i64 0),(47,.isl R.znn 3 R.zn fun i=>(R.zs i).cells),(48,.int .i64 R.zn),(49,.int .i64 i)]) ([oD]) Eo:=
 kC [[(Dm i R),((Ad R i).frm==0,false),(decide ((Ad R i).frm>24),true)]] (.mk (dS 18279949210146) [] [] [] []) (kO (kz q0 (kz q1 (kz q2 AD)))) (oJ ((inB i R.zn)=true) .nil) 4 0 1
theorem vQ (q1:((R.zs i.toNat).frm==0)=false)(q2:(decide ((R.zs i.toNat).frm>24))=false)(q3:(decide ((R.zs i.toNat).frm< -24))=true):sC (EF) (frame 79 [(2,.int .i64 0),(47,.isl R.znn 3 R.zn fun i=>(R.zs i).cells),(48,.int .i64 R.zn),(49,.int .i64 i)]) ([oD]) Eo:=
 kC [[(Dm i R),((Ad R i).frm==0,false),(decide ((Ad R i).frm>24),false),(decide ((Ad R i).frm< -24),true)]] (.mk (dS 292479187362339) [] [] [] []) (kO (kz q0 (kz q1 (kz q2 (kz q3 AD))))) (oJ ((inB i R.zn)=true) .nil) 4 0 1
theorem vR (q1:((R.zs i.toNat).frm==0)=false)(q2:(decide ((R.zs i.toNat).frm>24))=false)(q3:(decide ((R.zs i.toNat).frm< -24))=false)(q4:((R.zs i.toNat).upto==0)=true):sC (EF) (frame 79 [(2,.int .i64 0),(47,.isl R.znn 3 R.zn fun i=>(R.zs i).cells),(48,.int .i64 R.zn),(49,.int .i64 i)]) ([oD]) Eo:=
 kC [[(Dm i R),((Ad R i).frm==0,false),(decide ((Ad R i).frm>24),false),(decide ((Ad R i).frm< -24),false),((Ad R i).upto==0,true)]] (.mk (dS 0x10a021e112223034e44) [] [] [] []) (kO (kz q0 (kz q1 (kz q2 (kz q3 (kz q4 AD)))))) (oJ ((inB i R.zn)=true) .nil) 4 0 1
end
section
variable (R:RulesV)(v:Nat->Bool)(i:Int)(h0:0<=i)(h3:R.zn<=1048576)(ih:∀ j,j<R.zn->sP 158 [sv (R.zs j).name] (bv (v j)))(q0:(decide (i<↑R.zn))=true)(q1:((R.zs i.toNat).frm==0)=false)(q2:(decide ((R.zs i.toNat).frm>24))=false)(q3:(decide ((R.zs i.toNat).frm< -24))=false)(q4:((R.zs i.toNat).upto==0)=false)
include R v i h0 h3 ih q0 q1 q2 q3 q4
theorem vS (q5:(decide ((R.zs i.toNat).upto>24))=true):sC (EF) (frame 79 [(2,.int .i64 0),(47,.isl R.znn 3 R.zn fun i=>(R.zs i).cells),(48,.int .i64 R.zn),(49,.int .i64 i)]) ([oD]) Eo:=
 kC [[(Dm i R),((Ad R i).frm==0,false),(decide ((Ad R i).frm>24),false),(decide ((Ad R i).frm< -24),false),((Ad R i).upto==0,false),(decide ((Ad R i).upto>24),true)]] (.mk (dS 0x10a021e112223034e44555) [] [] [] []) (kO (kz q0 (kz q1 (kz q2 (kz q3 (kz q4 (kz q5 AD))))))) (oJ ((inB i R.zn)=true) .nil) 4 0 1
theorem vT (q5:(decide ((R.zs i.toNat).upto>24))=false)(q6:(decide ((R.zs i.toNat).upto< -24))=true):sC (EF) (frame 79 [(2,.int .i64 0),(47,.isl R.znn 3 R.zn fun i=>(R.zs i).cells),(48,.int .i64 R.zn),(49,.int .i64 i)]) ([oD]) Eo:=
 kC [[(Dm i R),((Ad R i).frm==0,false),(decide ((Ad R i).frm>24),false),(decide ((Ad R i).frm< -24),false),((Ad R i).upto==0,false),(decide ((Ad R i).upto>24),false),(decide ((Ad R i).upto< -24),true)]] (.mk (dS 0x10a021e112223034e445556) [] [] [] []) (kO (kz q0 (kz q1 (kz q2 (kz q3 (kz q4 (kz q5 (kz q6 AD)))))))) (oJ ((inB i R.zn)=true) .nil) 4 0 1
theorem vU (q5:(decide ((R.zs i.toNat).upto>24))=false)(q6:(decide ((R.zs i.toNat).upto< -24))=false)(q7:(!v i.toNat)=true):sC (EF) (frame 79 [(2,.int .i64 0),(47,.isl R.znn 3 R.zn fun i=>(R.zs i).cells),(48,.int .i64 R.zn),(49,.int .i64 i)]) ([oD]) Eo:=
 kC [[(Dm i R),((Ad R i).frm==0,false),(decide ((Ad R i).frm>24),false),(decide ((Ad R i).frm< -24),false),((Ad R i).upto==0,false),(decide ((Ad R i).upto>24),false),(decide ((Ad R i).upto< -24),false),(!v i.toNat,true)]] (.mk (dS 0x10a021e112223034e445556027e) [] [some (AEd v i)] [] []) (kO (kz q0 (kz q1 (kz q2 (kz q3 (kz q4 (kz q5 (kz q6 (kz q7 AD))))))))) (oT (sP 158 [sv (R.zs i.toNat).name] (bv (v i.toNat))) (ih _ (by simp_all<;>omega)) (oJ ((inB i R.zn)=true) .nil)) 4 0 1
theorem vV (q5:(decide ((R.zs i.toNat).upto>24))=false)(q6:(decide ((R.zs i.toNat).upto< -24))=false)(q7:(!v i.toNat)=false):sC (EF) (frame 79 [(2,.int .i64 0),(47,.isl R.znn 3 R.zn fun i=>(R.zs i).cells),(48,.int .i64 R.zn),(49,.int .i64 i)]) ([oD]) (xN,(frame 79 [(2,iv 0),(47,sl R.znn 3 R.zn fun i=>(R.zs i).cells),(48,iv ↑R.zn),(49,iv (i+1))]),[oD]):=
 kC [[(Dm i R),((Ad R i).frm==0,false),(decide ((Ad R i).frm>24),false),(decide ((Ad R i).frm< -24),false),((Ad R i).upto==0,false),(decide ((Ad R i).upto>24),false),(decide ((Ad R i).upto< -24),false),(!v i.toNat,false)]] (.mk (dS 0x10a021e112223034e445556027ea) [] [some (AEd v i)] [] []) (kO (kz q0 (kz q1 (kz q2 (kz q3 (kz q4 (kz q5 (kz q6 (kz q7 AD))))))))) (oI ((inR IntKind.i64 (i+1))=true) (oT (sP 158 [sv (R.zs i.toNat).name] (bv (v i.toNat))) (ih _ (by simp_all<;>omega)) (oJ ((inB i R.zn)=true) .nil))) 985162418487300 0 1
end
section
variable (R:RulesV)(v:Nat->Bool)(i:Int)(h0:0<=i)(h3:R.zn<=1048576)(ih:∀ j,j<R.zn->sP 158 [sv (R.zs j).name] (bv (v j)))
include R v i h0 h3 ih
theorem vW (q0:(decide (i<↑R.zn))=false):sC (EF) (frame 79 [(2,.int .i64 0),(47,.isl R.znn 3 R.zn fun i=>(R.zs i).cells),(48,.int .i64 R.zn),(49,.int .i64 i)]) ([oD]) (xL 0,(frame 79 [(2,iv 0)]),[oD]):=
 kC [[(decide (i<↑R.zn),false)]] (.mk (dS 16) [] [] [] []) (kO (kz q0 AD)) .nil 4 0 1
theorem ruB:∃ r_:RC,sC (cB (cB (cR (cL (cR (cR (cR (cR (AB prog 88))))))))) (frame 79 [(2,.int .i64 0),(47,.isl R.znn 3 R.zn fun i=>(R.zs i).cells),(48,.int .i64 R.zn),(49,.int .i64 i)]) ([oD]) r_/\((r_=(xN,frame 79 [(2,.int .i64 0),(47,.isl R.znn 3 R.zn fun i=>(R.zs i).cells),(48,.int .i64 R.zn),(49,.int .i64 (i+1))],[oD])/\i<R.zn/\(v i.toNat=true))∨(r_=(EX.ret,frame 79 [(2,iv 140)],[oD])/\i<R.zn/\True)∨(r_=(xL 0,frame 79 [(2,iv 0)],[oD])/\R.zn<=i)):=by
 rcases bT (decide (i<↑R.zn)) with q0 | q0
 ·rcases bT ((R.zs i.toNat).frm==0) with q1 | q1
  ·exact e1 (vO R v i h0 h3 ih q0 q1)
  ·rcases bT (decide ((R.zs i.toNat).frm>24)) with q2 | q2
   ·exact e1 (vP R v i h0 h3 ih q0 q1 q2)
   ·rcases bT (decide ((R.zs i.toNat).frm< -24)) with q3 | q3
    ·exact e1 (vQ R v i h0 h3 ih q0 q1 q2 q3)
    ·rcases bT ((R.zs i.toNat).upto==0) with q4 | q4
     ·exact e1 (vR R v i h0 h3 ih q0 q1 q2 q3 q4)
     ·rcases bT (decide ((R.zs i.toNat).upto>24)) with q5 | q5
      ·exact e1 (vS R v i h0 h3 ih q0 q1 q2 q3 q4 q5)
      ·rcases bT (decide ((R.zs i.toNat).upto< -24)) with q6 | q6
       ·exact e1 (vT R v i h0 h3 ih q0 q1 q2 q3 q4 q5 q6)
       ·rcases bT (!v i.toNat) with q7 | q7
        ·exact e1 (vU R v i h0 h3 ih q0 q1 q2 q3 q4 q5 q6 q7)
        ·exact e1 (vV R v i h0 h3 ih q0 q1 q2 q3 q4 q5 q6 q7)
 ·exact e1 (vW R v i h0 h3 ih q0)
end
abbrev Aw (a0:RulesV):=a0.loss< -99
abbrev As (a0:RulesV):=a0.win<a0.draw
abbrev Au (a0:RulesV):=a0.draw<a0.loss
abbrev Ba (a0:RulesV):=decide ((↑a0.zn:Int)>16)
abbrev Hu:=dS 0x10000111111222222
abbrev Dn:=dS 0x100001111112222223333
abbrev BH (a0:RulesV):=decide (a0.win>99)
abbrev Bg (a0:RulesV):=decide (As a0)
abbrev CS (a0:RulesV):=decide (Au a0)
theorem ruF (R:RulesV)(b0:Bool)(e:Int)(b:Bool)(h3:R.zn<=1048576)(ihn:sP 158 [sv R.name] (bv b0))(iho:sP 159 [Dk R] (iv e))(ih1:b=true->sL (cB (cR (cL (cR (cR (cR (cR (AB prog 88)))))))) (frame 79 [(2,.int .i64 0),(47,.isl R.znn 3 R.zn fun i=>(R.zs i).cells),(48,.int .i64 R.zn),(49,.int .i64 0)]) ([oD]) ((xL 0,frame 79 [(2,iv 0)],[oD]):RC))(ih2:b=false->sL (cB (cR (cL (cR (cR (cR (cR (AB prog 88)))))))) (frame 79 [(2,.int .i64 0),(47,.isl R.znn 3 R.zn fun i=>(R.zs i).cells),(48,.int .i64 R.zn),(49,.int .i64 0)]) ([oD]) ((EX.ret,frame 79 [(2,iv 140)],[oD]):RC)):sP 88 [ag R.cells] (iv (bif bif !b0 then true else bif decide (R.win>99) then true else bif decide (As R) then true else bif decide (Au R) then true else decide (Aw R) then 140 else bif e != 0 then e else bif decide ((↑R.zn:Int)>16) then 2 else bif b then 0 else 140)):=
 kP [] (.mk [] [(0,.fork true (bif !b0 then true else bif decide (R.win>99) then true else bif decide (As R) then true else bif decide (Au R) then true else decide (Aw R)) 4 0 0 0 (.mk (dS 16) [(4,.fork true (!b0) 34359738368 7 0 1 (.mk (dS 65536) [] [some (bv b0)] [] []) (.mk [] [(0,.fork false (BH R) 34359738368 7 0 1 (.mk (dS 1099512746257) [] [some (bv b0)] [] []) (.mk [] [(0,.fork false (Bg R) 34359738368 7 0 1 (.mk (Hu) [] [some (bv b0)] [] []) (.mk [] [(0,.fork false (CS R) 34359738368 7 0 1 (.mk (Dn) [] [some (bv b0)] [] []) (.mk (Dn) [] [some (bv b0)] [] []))] [] [] []))] [] [] []))] [] [] []))] [] [] []) (.mk [] [(0,.fork false (e != 0) 4 0 0 0 (.mk (dS 257) [(4,.fork true (!b0) 34359738368 7 0 1 (.mk (dS 65536) [] [some (bv b0)] [] []) (.mk [] [(0,.fork false (BH R) 34359738368 7 0 1 (.mk (dS 1099512746257) [] [some (bv b0)] [] []) (.mk [] [(0,.fork false (Bg R) 34359738368 7 0 1 (.mk (Hu) [] [some (bv b0)] [] []) (.mk [] [(0,.fork false (CS R) 34359738368 7 0 1 (.mk (Dn) [] [some (bv b0)] [] []) (.mk (Dn) [] [some (bv b0)] [] []))] [] [] []))] [] [] []))] [] [] []))] [some (iv e)] [] []) (.mk [] [(0,.fork false (Ba R) 4 0 0 0 (.mk (dS 4114) [(4,.fork true (!b0) 34359738368 7 0 1 (.mk (dS 65536) [] [some (bv b0)] [] []) (.mk [] [(0,.fork false (BH R) 34359738368 7 0 1 (.mk (dS 1099512746257) [] [some (bv b0)] [] []) (.mk [] [(0,.fork false (Bg R) 34359738368 7 0 1 (.mk (Hu) [] [some (bv b0)] [] []) (.mk [] [(0,.fork false (CS R) 34359738368 7 0 1 (.mk (Dn) [] [some (bv b0)] [] []) (.mk (Dn) [] [some (bv b0)] [] []))] [] [] []))] [] [] []))] [] [] []))] [some (iv e)] [] []) (.mk [] [(0,.fork false (b) 4 0 0 0 (.mk (dS 4114) [(4,.fork true (!b0) 34359738368 7 0 1 (.mk (dS 65536) [] [some (bv b0)] [] []) (.mk [] [(0,.fork false (BH R) 34359738368 7 0 1 (.mk (dS 1099512746257) [] [some (bv b0)] [] []) (.mk [] [(0,.fork false (Bg R) 34359738368 7 0 1 (.mk (Hu) [] [some (bv b0)] [] []) (.mk [] [(0,.fork false (CS R) 34359738368 7 0 1 (.mk (Dn) [] [some (bv b0)] [] []) (.mk (Dn) [] [some (bv b0)] [] []))] [] [] []))] [] [] []))] [] [] [])),(18,.is 985162418487300 0 (xL 0,(frame 79 [(2,iv 0)]),[oD]))] [some (iv e)] [] []) (.mk (dS 4114) [(4,.fork true (!b0) 34359738368 7 0 1 (.mk (dS 65536) [] [some (bv b0)] [] []) (.mk [] [(0,.fork false (BH R) 34359738368 7 0 1 (.mk (dS 1099512746257) [] [some (bv b0)] [] []) (.mk [] [(0,.fork false (Bg R) 34359738368 7 0 1 (.mk (Hu) [] [some (bv b0)] [] []) (.mk [] [(0,.fork false (CS R) 34359738368 7 0 1 (.mk (Dn) [] [some (bv b0)] [] []) (.mk (Dn) [] [some (bv b0)] [] []))] [] [] []))] [] [] []))] [] [] [])),(18,.is 985162418487300 0 Eo)] [some (iv e)] [] []))] [] [] []))] [] [] []))] [] [] []))] [] [] []) KOk.nil (oT ((bif !b0 then true else bif decide (R.win>99) then true else bif decide (As R) then true else bif decide (Au R) then true else decide (Aw R))=true->((!b0)=true->sP 158 [sv R.name] (bv b0))) (fun _=>(fun _=>ihn)) (oT ((bif !b0 then true else bif decide (R.win>99) then true else bif decide (As R) then true else bif decide (Au R) then true else decide (Aw R))=true->((!b0)=false->((BH R)=true->sP 158 [sv R.name] (bv b0)))) (fun _=>(fun _=>(fun _=>ihn))) (oT ((bif !b0 then true else bif decide (R.win>99) then true else bif decide (As R) then true else bif decide (Au R) then true else decide (Aw R))=true->((!b0)=false->((BH R)=false->((Bg R)=true->sP 158 [sv R.name] (bv b0))))) (fun _=>(fun _=>(fun _=>(fun _=>ihn)))) (oT ((bif !b0 then true else bif decide (R.win>99) then true else bif decide (As R) then true else bif decide (Au R) then true else decide (Aw R))=true->((!b0)=false->((BH R)=false->((Bg R)=false->((CS R)=true->sP 158 [sv R.name] (bv b0)))))) (fun _=>(fun _=>(fun _=>(fun _=>(fun _=>ihn))))) (oT ((bif !b0 then true else bif decide (R.win>99) then true else bif decide (As R) then true else bif decide (Au R) then true else decide (Aw R))=true->((!b0)=false->((BH R)=false->((Bg R)=false->((CS R)=false->sP 158 [sv R.name] (bv b0)))))) (fun _=>(fun _=>(fun _=>(fun _=>(fun _=>ihn))))) (oT ((bif !b0 then true else bif decide (R.win>99) then true else bif decide (As R) then true else bif decide (Au R) then true else decide (Aw R))=false->((e != 0)=true->sP 159 [sl R.onn 8 R.on R.orow] (iv e))) (fun _=>(fun _=>iho)) (oT ((bif !b0 then true else bif decide (R.win>99) then true else bif decide (As R) then true else bif decide (Au R) then true else decide (Aw R))=false->((e != 0)=true->((!b0)=true->sP 158 [sv R.name] (bv b0)))) (fun _=>(fun _=>(fun _=>ihn))) (oT ((bif !b0 then true else bif decide (R.win>99) then true else bif decide (As R) then true else bif decide (Au R) then true else decide (Aw R))=false->((e != 0)=true->((!b0)=false->((BH R)=true->sP 158 [sv R.name] (bv b0))))) (fun _=>(fun _=>(fun _=>(fun _=>ihn)))) (oT ((bif !b0 then true else bif decide (R.win>99) then true else bif decide (As R) then true else bif decide (Au R) then true else decide (Aw R))=false->((e != 0)=true->((!b0)=false->((BH R)=false->((Bg R)=true->sP 158 [sv R.name] (bv b0)))))) (fun _=>(fun _=>(fun _=>(fun _=>(fun _=>ihn))))) (oT ((bif !b0 then true else bif decide (R.win>99) then true else bif decide (As R) then true else bif decide (Au R) then true else decide (Aw R))=false->((e != 0)=true->((!b0)=false->((BH R)=false->((Bg R)=false->((CS R)=true->sP 158 [sv R.name] (bv b0))))))) (fun _=>(fun _=>(fun _=>(fun _=>(fun _=>(fun _=>ihn)))))) (oT ((bif !b0 then true else bif decide (R.win>99) then true else bif decide (As R) then true else bif decide (Au R) then true else decide (Aw R))=false->((e != 0)=true->((!b0)=false->((BH R)=false->((Bg R)=false->((CS R)=false->sP 158 [sv R.name] (bv b0))))))) (fun _=>(fun _=>(fun _=>(fun _=>(fun _=>(fun _=>ihn)))))) (oT ((bif !b0 then true else bif decide (R.win>99) then true else bif decide (As R) then true else bif decide (Au R) then true else decide (Aw R))=false->((e != 0)=false->((Ba R)=true->sP 159 [sl R.onn 8 R.on R.orow] (iv e)))) (fun _=>(fun _=>(fun _=>iho))) (oT ((bif !b0 then true else bif decide (R.win>99) then true else bif decide (As R) then true else bif decide (Au R) then true else decide (Aw R))=false->((e != 0)=false->((Ba R)=true->((!b0)=true->sP 158 [sv R.name] (bv b0))))) (fun _=>(fun _=>(fun _=>(fun _=>ihn)))) (oT ((bif !b0 then true else bif decide (R.win>99) then true else bif decide (As R) then true else bif decide (Au R) then true else decide (Aw R))=false->((e != 0)=false->((Ba R)=true->((!b0)=false->((BH R)=true->sP 158 [sv R.name] (bv b0)))))) (fun _=>(fun _=>(fun _=>(fun _=>(fun _=>ihn))))) (oT ((bif !b0 then true else bif decide (R.win>99) then true else bif decide (As R) then true else bif decide (Au R) then true else decide (Aw R))=false->((e != 0)=false->((Ba R)=true->((!b0)=false->((BH R)=false->((Bg R)=true->sP 158 [sv R.name] (bv b0))))))) (fun _=>(fun _=>(fun _=>(fun _=>(fun _=>(fun _=>ihn)))))) (oT ((bif !b0 then true else bif decide (R.win>99) then true else bif decide (As R) then true else bif decide (Au R) then true else decide (Aw R))=false->((e != 0)=false->((Ba R)=true->((!b0)=false->((BH R)=false->((Bg R)=false->((CS R)=true->sP 158 [sv R.name] (bv b0)))))))) (fun _=>(fun _=>(fun _=>(fun _=>(fun _=>(fun _=>(fun _=>ihn))))))) (oT ((bif !b0 then true else bif decide (R.win>99) then true else bif decide (As R) then true else bif decide (Au R) then true else decide (Aw R))=false->((e != 0)=false->((Ba R)=true->((!b0)=false->((BH R)=false->((Bg R)=false->((CS R)=false->sP 158 [sv R.name] (bv b0)))))))) (fun _=>(fun _=>(fun _=>(fun _=>(fun _=>(fun _=>(fun _=>ihn))))))) (oT ((bif !b0 then true else bif decide (R.win>99) then true else bif decide (As R) then true else bif decide (Au R) then true else decide (Aw R))=false->((e != 0)=false->((Ba R)=false->((b)=true->sL (cB (cR (cL (cR (cR (cR (cR (AB prog 88)))))))) (frame 79 [(2,iv 0),(47,sl R.znn 3 R.zn fun i=>(R.zs i).cells),(48,iv ↑R.zn),(49,iv 0)]) [oD] (xL 0,(frame 79 [(2,iv 0)]),[oD]))))) (fun _=>(fun _=>(fun _=>(fun _=>(ih1 (by assumption)))))) (oT ((bif !b0 then true else bif decide (R.win>99) then true else bif decide (As R) then true else bif decide (Au R) then true else decide (Aw R))=false->((e != 0)=false->((Ba R)=false->((b)=true->sP 159 [sl R.onn 8 R.on R.orow] (iv e))))) (fun _=>(fun _=>(fun _=>(fun _=>iho)))) (oT ((bif !b0 then true else bif decide (R.win>99) then true else bif decide (As R) then true else bif decide (Au R) then true else decide (Aw R))=false->((e != 0)=false->((Ba R)=false->((b)=true->((!b0)=true->sP 158 [sv R.name] (bv b0)))))) (fun _=>(fun _=>(fun _=>(fun _=>(fun _=>ihn))))) (oT ((bif !b0 then true else bif decide (R.win>99) then true else bif decide (As R) then true else bif decide (Au R) then true else decide (Aw R))=false->((e != 0)=false->((Ba R)=false->((b)=true->((!b0)=false->((BH R)=true->sP 158 [sv R.name] (bv b0))))))) (fun _=>(fun _=>(fun _=>(fun _=>(fun _=>(fun _=>ihn)))))) (oT ((bif !b0 then true else bif decide (R.win>99) then true else bif decide (As R) then true else bif decide (Au R) then true else decide (Aw R))=false->((e != 0)=false->((Ba R)=false->((b)=true->((!b0)=false->((BH R)=false->((Bg R)=true->sP 158 [sv R.name] (bv b0)))))))) (fun _=>(fun _=>(fun _=>(fun _=>(fun _=>(fun _=>(fun _=>ihn))))))) (oT ((bif !b0 then true else bif decide (R.win>99) then true else bif decide (As R) then true else bif decide (Au R) then true else decide (Aw R))=false->((e != 0)=false->((Ba R)=false->((b)=true->((!b0)=false->((BH R)=false->((Bg R)=false->((CS R)=true->sP 158 [sv R.name] (bv b0))))))))) (fun _=>(fun _=>(fun _=>(fun _=>(fun _=>(fun _=>(fun _=>(fun _=>ihn)))))))) (oT ((bif !b0 then true else bif decide (R.win>99) then true else bif decide (As R) then true else bif decide (Au R) then true else decide (Aw R))=false->((e != 0)=false->((Ba R)=false->((b)=true->((!b0)=false->((BH R)=false->((Bg R)=false->((CS R)=false->sP 158 [sv R.name] (bv b0))))))))) (fun _=>(fun _=>(fun _=>(fun _=>(fun _=>(fun _=>(fun _=>(fun _=>ihn)))))))) (oT ((bif !b0 then true else bif decide (R.win>99) then true else bif decide (As R) then true else bif decide (Au R) then true else decide (Aw R))=false->((e != 0)=false->((Ba R)=false->((b)=false->sL (cB (cR (cL (cR (cR (cR (cR (AB prog 88)))))))) (frame 79 [(2,iv 0),(47,sl R.znn 3 R.zn fun i=>(R.zs i).cells),(48,iv ↑R.zn),(49,iv 0)]) [oD] (EX.ret,(frame 79 [(2,iv 140)]),[oD]))))) (fun _=>(fun _=>(fun _=>(fun _=>(ih2 (by assumption)))))) (oT ((bif !b0 then true else bif decide (R.win>99) then true else bif decide (As R) then true else bif decide (Au R) then true else decide (Aw R))=false->((e != 0)=false->((Ba R)=false->((b)=false->sP 159 [sl R.onn 8 R.on R.orow] (iv e))))) (fun _=>(fun _=>(fun _=>(fun _=>iho)))) (oT ((bif !b0 then true else bif decide (R.win>99) then true else bif decide (As R) then true else bif decide (Au R) then true else decide (Aw R))=false->((e != 0)=false->((Ba R)=false->((b)=false->((!b0)=true->sP 158 [sv R.name] (bv b0)))))) (fun _=>(fun _=>(fun _=>(fun _=>(fun _=>ihn))))) (oT ((bif !b0 then true else bif decide (R.win>99) then true else bif decide (As R) then true else bif decide (Au R) then true else decide (Aw R))=false->((e != 0)=false->((Ba R)=false->((b)=false->((!b0)=false->((BH R)=true->sP 158 [sv R.name] (bv b0))))))) (fun _=>(fun _=>(fun _=>(fun _=>(fun _=>(fun _=>ihn)))))) (oT ((bif !b0 then true else bif decide (R.win>99) then true else bif decide (As R) then true else bif decide (Au R) then true else decide (Aw R))=false->((e != 0)=false->((Ba R)=false->((b)=false->((!b0)=false->((BH R)=false->((Bg R)=true->sP 158 [sv R.name] (bv b0)))))))) (fun _=>(fun _=>(fun _=>(fun _=>(fun _=>(fun _=>(fun _=>ihn))))))) (oT ((bif !b0 then true else bif decide (R.win>99) then true else bif decide (As R) then true else bif decide (Au R) then true else decide (Aw R))=false->((e != 0)=false->((Ba R)=false->((b)=false->((!b0)=false->((BH R)=false->((Bg R)=false->((CS R)=true->sP 158 [sv R.name] (bv b0))))))))) (fun _=>(fun _=>(fun _=>(fun _=>(fun _=>(fun _=>(fun _=>(fun _=>ihn)))))))) (oT ((bif !b0 then true else bif decide (R.win>99) then true else bif decide (As R) then true else bif decide (Au R) then true else decide (Aw R))=false->((e != 0)=false->((Ba R)=false->((b)=false->((!b0)=false->((BH R)=false->((Bg R)=false->((CS R)=false->sP 158 [sv R.name] (bv b0))))))))) (fun _=>(fun _=>(fun _=>(fun _=>(fun _=>(fun _=>(fun _=>(fun _=>ihn)))))))) .nil)))))))))))))))))))))))))))))))
theorem P8 (k n:Nat)(nn:Bool)(ps:Nat->StepV)(h3:n<=1048576)(ht:∀ i,i<n->TreeS k (ps i)):
  ∃ e,sP 159 [EV.isl nn 8 n fun i=>(ps i).cells] (EV.int .i64 e)/\(e=0->∀ i,i<n->GoodS k (ps i)):=by
 have hv:∀ i,∃ b,i<n->sP 296 [IP (ps i)] (EV.bool b)/\(b=true->GoodS k (ps i)):=fun i=>by
  by_cases hi:i<n
  ·obtain ⟨b,h⟩:=M8 k _ (ht i hi)
   exact ⟨b,fun _=>h⟩
  ·exact ⟨false,fun h=>absurd h hi⟩
 obtain ⟨v,hv⟩:=Classical.axiomOfChoice hv
 obtain ⟨bI,hbI,hbIv⟩:=Rj n ps h3 v (fun j hj=>(hv j hj).1)
 obtain ⟨rb,a1,b1,hw⟩:=Q9 k n ps h3 ht 0 0 0
 refine ⟨_,Yi nn n ps _ h3 (Yh n ps rb a1 b1 bI hw hbI),fun he i hi=>?_⟩
 have:bI=false:=by
  cases hb:bI with
  | false=>rfl
  | true=>
   rw [hb] at he
   revert he
   cases rb<;>cases ((↑n:Int)==0)<;>simp
 exact (hv i hi).2 (hbIv this i hi)
def RulesV.Tree (k:Nat)(R:RulesV):Prop:=R.on<=1048576/\R.zn<=1048576/\∃ ps:Nat->StepV,∀ i,i<R.on->R.orow i=(ps i).cells/\TreeS k (ps i)
def RulesV.Good (k:Nat)(R:RulesV):Prop:=(∀ i,i<R.zn->(R.zs i).name.size<=24)/\-99<=R.loss/\R.loss<=R.draw/\R.draw<=R.win/\R.win<=99/\∃ ps:Nat->StepV,∀ i,i<R.on->R.orow i=(ps i).cells/\GoodS k (ps i)
theorem Um (k:Nat)(R:RulesV)(ht:R.Tree k):∃ e,sP 88 [EV.agg R.cells] (EV.int .i64 e)/\(e=0->R.Good k):=by
 obtain ⟨h1,h2,ps,hps⟩:=ht
 obtain ⟨e,he,heg⟩:=P8 k R.on R.onn ps h1 (fun i hi=>(hps i hi).2)
 have he':sP 159 [EV.isl R.onn 8 R.on R.orow] (EV.int .i64 e):=he.weaken (.cons (PLe.isl fun i hi=>(hps i hi).1) .nil) (.refl _)
 obtain ⟨b0,hb0,_⟩:=Ny R.name
 have hv:∀ i,∃ b,sP 158 [EV.str (R.zs i).name] (EV.bool b)/\(b=true->(R.zs i).name.size<=24):=fun i=>Ny _
 obtain ⟨v,hv⟩:=Classical.axiomOfChoice hv
 have H:=SemL.all (P:=prog) (G:=globs') (rnd:=false) (c:=(cB (cB (cR (cL (cR (cR (cR (cR (AB prog 88)))))))))) (fun i=>frame 79 [(2,.int .i64 0),(47,.isl R.znn 3 R.zn fun i=>(R.zs i).cells),(48,.int .i64 R.zn),(49,.int .i64 i)]) (fun _=>[EObj.dead]) R.zn (fun i=>v i=true) (fun _=>True)
  (fun _=>(EX.ret,frame 79 [(2,EV.int .i64 140)],[EObj.dead])) (EX.leave 0,frame 79 [(2,EV.int .i64 0)],[EObj.dead]) (fun _=>by simp) (by simp) (fun i=>by
   obtain ⟨r,h,h1⟩:=ruB R v i (by omega) h2 (fun j _=>(hv j).1)
   exact ⟨r,h,h1.imp (fun x=>⟨x.1,by omega,by have:=x.2.2; rwa [Int.toNat_natCast] at this⟩) (Or.imp (fun x=>⟨x.1,by omega,trivial⟩) fun x=>⟨x.1,by omega⟩)⟩)
 have fin:∀ b:Bool,(bif bif !b0 then true else bif decide (R.win>99) then true else bif decide (R.win<R.draw) then true else bif decide (R.draw<R.loss) then true else decide (R.loss< -99) then (140:Int) else bif e != 0 then e else bif decide ((↑R.zn:Int)>16) then 2 else bif b then 0 else 140)=0->
   (b=true/\e=0/\-99<=R.loss/\R.loss<=R.draw/\R.draw<=R.win/\R.win<=99):=by
  intro b hb
  cases hc:(bif !b0 then true else bif decide (R.win>99) then true else bif decide (R.win<R.draw) then true else bif decide (R.draw<R.loss) then true else decide (R.loss< -99)) with
  | true=>rw [hc] at hb; simp at hb
  | false=>
   rw [hc] at hb
   simp only [Bool.cond_true_left,Bool.or_eq_false_iff,decide_eq_false_iff_not] at hc
   cases h1:(e != 0) with
   | true=>rw [h1] at hb; simp only [cond_true,cond_false] at hb; simp [hb] at h1
   | false=>
    rw [h1] at hb
    simp only [bne_eq_false_iff_eq] at h1
    cases b with
    | true=>exact ⟨rfl,h1,by omega,by omega,by omega,by omega⟩
    | false=>
     cases h2:decide ((↑R.zn:Int)>16)<;>rw [h2] at hb<;>simp at hb
 rcases H with ⟨h,hg⟩ | ⟨i,_,_,_,h⟩
 ·refine ⟨_,ruF R b0 e true h2 hb0 he' (fun _=>h.toCL (by kernel_rfl)) (by intro h; cases h),fun h0=>?_⟩
  obtain ⟨_,he0,a,b,c,d⟩:=fin _ h0
  exact ⟨fun i hi=>(hv i).2 (hg i hi),a,b,c,d,ps,fun i hi=>⟨(hps i hi).1,heg he0 i hi⟩⟩
 ·exact ⟨_,ruF R b0 e false h2 hb0 he' (by intro h; cases h) (fun _=>h.toCL (by kernel_rfl)),fun h0=>by have:=(fin _ h0).1; cases this⟩
def CM (n0:Bool)(n:Nat)(rs:Nat->ResD)(n1:Bool)(m:Nat)(w:Nat->Int)(e1:List (EV×EV))(R:RulesV)(e3:List (EV×EV)):EV:=
 EV.ip [EV.isl n0 13 n fun i=>(rs i).cells,nums n1 m w,.im e1,.str R.name,.int .i64 R.win,.int .i64 R.draw,.int .i64 R.loss,.isl R.onn 8 R.on R.orow,.isl R.znn 3 R.zn fun i=>(R.zs i).cells,.im e3] 0
theorem V9 (kk:Nat)(n0:Bool)(n:Nat)(rs:Nat->ResD)(n1:Bool)(m:Nat)(w:Nat->Int)(n2:Bool)(m2:Nat)(o:Nat->Int)(n3:Bool)(ln:Nat)(lw:Nat->Int)(R:RulesV)(k:Int)
  (hn:n<=100000) (hm:m<=100000) (hm2:m2<=100000) (hln:ln<=100000) (ht:R.Tree kk):
  ∃ v,sP 48 [EV.isl n0 13 n fun i=>(rs i).cells,nums n1 m w,EV.int .i64 k,EV.func (.func 90) [] [.ip [nums n1 m w] 0],nums n2 m2 o,EV.agg R.cells,nums n3 ln lw] v/\
   ((∃ e,e≠0/\v=EV.tuple [.nilp,.int .i64 e])∨
   (∃ e1 e3,v=EV.tuple [CM n0 n rs n1 m w e1 R e3,.int .i64 0]/\MapOf EW Cu e1/\MapOf EW Cu e3/\k<=m/\m<=24/\Inc m w/\m2=m/\(∀ i,i<m->0<=o i/\o i<=9999)/\R.Good kk/\∀ i,i<n->ResIn m w (rs 0) (rs i))):=by
 obtain ⟨b85,h85,h85g⟩:=P5 n1 m w k hm
 obtain ⟨bO,hO,hOg⟩:=Vl n2 m2 o hm2
 obtain ⟨eR,hR,hRg⟩:=Um kk R ht
 obtain ⟨bR,hA,hAg⟩:=NY n0 n rs n1 m w hn hm
 by_cases he:m2=m
 ·subst he
  obtain ⟨r12,⟨e1,e2,rfl,he1,he2⟩,h12⟩:=SemL.ex (P:=prog) (G:=globs') (rnd:=false) (c:=cB (cB (cR (cL (cR (cR (cR (cR (cR (cR (AB prog 48))))))))))) (X:=Nat×List (EV×EV)×List (EV×EV)) (fun x=>opT n2 m2 o n3 ln lw n1 w x.1) (fun x=>[.dead,.map false true x.2.1,.map false true x.2.2,opC n0 n rs n1 m2 w R]) m2 (fun i x=>x.1=i/\MapOf EW Cu x.2.1/\MapOf EW Cu x.2.2)
   (fun r=>∃ e1 e2,r=(EX.leave 0,frame 106 [(4,nums n2 m2 o),(6,nums n3 ln lw),(14,.ptr 3 0),(15,.int .i64 0)],[.dead,.map false true e1,.map false true e2,opC n0 n rs n1 m2 w R])/\MapOf EW Cu e1/\MapOf EW Cu e2) (by
    rintro i ⟨j,e1,e2⟩ hi ⟨hj,he1,he2⟩
    obtain rfl:j=i:=hj
    obtain ⟨r,h,h1⟩:=opB n0 n rs n1 m2 w n2 o n3 ln lw R e1 e2 (j:Int) (by omega) hm he1 he2
    rcases h1 with ⟨e1',e2',rfl,_,g1,g2⟩ | ⟨rfl,h2⟩
    ·exact .inl ⟨⟨j+1,e1',e2'⟩,⟨rfl,g1,g2⟩,h⟩
    ·omega) (by
    rintro ⟨j,e1,e2⟩ ⟨hj,he1,he2⟩
    obtain rfl:j=m2:=hj
    obtain ⟨r,h,h1⟩:=opB n0 n rs n1 j w n2 o n3 ln lw R e1 e2 (j:Int) (by omega) hm he1 he2
    rcases h1 with ⟨_,_,_,h2,_⟩ | ⟨rfl,h2⟩
    ·omega
    ·exact ⟨_,⟨e1,e2,rfl,he1,he2⟩,by simp,h⟩) m2 0 ⟨0,[],[]⟩ (by omega) ⟨rfl,MapOf.nil,MapOf.nil⟩
  obtain ⟨r19,hr19,h19⟩:=SemL.ex (P:=prog) (G:=globs') (rnd:=false) (c:=cB (cB (cR (cL (cR (cR (cR (cR (cR (cR (cR (cR (AB prog 48))))))))))))) (X:=Nat×List (EV×EV)×List (EV×EV)) (fun x=>frame 106 [(14,.ptr 3 0),(15,.int .i64 0),(19,.mm 4),(76,nums n3 ln lw),(77,.int .i64 ln),(78,.int .i64 x.1)]) (fun x=>[.dead,.map false true e1,.map false true x.2.1,opC n0 n rs n1 m2 w R,.map false true x.2.2]) ln (fun i x=>x.1=i/\MapOf EW Cu x.2.1/\MapOf EW J3 x.2.2)
   (fun r=>r=(EX.ret,frame 106 [(14,.nilp),(15,.int .i64 220)],[.dead,.dead,.dead,.dead,.dead])∨∃ e3,r=(EX.leave 2,frame 106 [(14,.ptr 3 0),(15,.int .i64 0)],[.dead,.map false true e1,.map false true e3,opC n0 n rs n1 m2 w R,.dead])/\MapOf EW Cu e3) (by
    rintro i ⟨j,a,b⟩ hi ⟨hj,ha,hb⟩
    obtain rfl:j=i:=hj
    obtain ⟨r,h,h1⟩:=opD n0 n rs n1 m2 w n2 m2 o n3 ln lw R e1 a b (j:Int) (by omega) hln ha hb
    rcases h1 with ⟨e1',e2',rfl,_,g1,g2⟩ | ⟨rfl,h2⟩ | ⟨rfl,h2⟩
    ·exact .inl ⟨⟨j+1,e1',e2'⟩,⟨rfl,g1,g2⟩,h⟩
    ·exact .inr ⟨_,.inl rfl,by simp,h⟩
    ·omega) (by
    rintro ⟨j,a,b⟩ ⟨hj,ha,hb⟩
    obtain rfl:j=ln:=hj
    obtain ⟨r,h,h1⟩:=opD n0 n rs n1 m2 w n2 m2 o n3 j lw R e1 a b (j:Int) (by omega) hln ha hb
    rcases h1 with ⟨_,_,_,h2,_⟩ | ⟨rfl,h2⟩ | ⟨rfl,h2⟩
    ·omega
    ·omega
    ·exact ⟨_,.inr ⟨a,rfl,ha⟩,by simp,h⟩) ln 0 ⟨0,e2,[]⟩ (by omega) ⟨rfl,he2,MapOf.nil⟩
  rcases hr19 with rfl | ⟨e3,rfl,he3⟩
  ·obtain ⟨v,hv,h1 | ⟨_,_,_,_,_,h1⟩⟩:=opF n0 n rs n1 m2 w n2 o n3 ln lw R k b85 bO eR bR e1 e2 e2 false h85 hR hA hO (h12.toCL (by kernel_rfl)) (by intro h; cases h) (fun _=>h19.toCL (by kernel_rfl))
   ·exact ⟨v,hv,.inl h1⟩
   ·cases h1
  ·obtain ⟨v,hv,h1 | ⟨rfl,a,b,c,d,_⟩⟩:=opF n0 n rs n1 m2 w n2 o n3 ln lw R k b85 bO eR bR e1 e2 e3 true h85 hR hA hO (h12.toCL (by kernel_rfl)) (fun _=>h19.toCL (by kernel_rfl)) (by intro h; cases h)
   ·exact ⟨v,hv,.inl h1⟩
   ·obtain ⟨g1,g2,g3⟩:=h85g a
    exact ⟨_,hv,.inr ⟨e1,e3,rfl,he1,he3,g1,g2,g3,rfl,hOg b,hRg c,hAg d⟩⟩
 ·obtain ⟨v,hv,h1⟩:=opG n0 n rs n1 m w n2 o n3 ln lw R k b85 bO eR bR [] [] [] true m2 he h85 hR hA
  exact ⟨v,hv,.inl h1⟩
section
variable (ta:Int)(tb:Int)(tc:Int)(td:Int)(p:CondV)(r:Bool)
include ta tb tc td p r
theorem hk1 (ih:sP 162 [ag p.cells,ag (AS ta tb tc td)] (bv r)):sP 216 [ag p.cells,pv (AS ta tb tc td) 0] (bv r):=
 kP [] (.mk [] [] [some (bv r)] [] []) KOk.nil (.cons ih .nil)
theorem hk2 (ih:sP 216 [ag p.cells,pv (AS ta tb tc td) 0] (bv r)):sP 218 [ag p.cells,pv [fc (216) [] [pv (AS ta tb tc td) 0]] 0] (bv !r):=
 kP [] (.mk [] [] [some (bv r)] [] []) KOk.nil (.cons ih .nil)
end
noncomputable abbrev Gg:=cB (cB (cR (cL (cR (AB prog 273)))))
section
variable (ta:Int)(tb:Int)(tc:Int)(td:Int)(nn:Bool)(n:Nat)(ps:Nat->CondV)(v:Nat->Bool)(i:Int)(h0:0<=i)(h3:n<=1048576)(ih:∀ j,j<n->sP 216 [ag (ps j).cells,pv (AS ta tb tc td) 0] (bv (v j)))
include ta tb tc td nn n ps v i h0 h3 ih
theorem vX (q0:AH i n)(q1:(v i.toNat)=true):sC (Gg) (frame 19 [(0,(A1 nn n ps)),(1,(fc (216) [] [.ip (AS ta tb tc td) 0])),(6,(A1 nn n ps)),(7,.int .i64 n),(8,.int .i64 i)]) ([]) (Cx i):=
 kC [[AG i n,(v i.toNat,true)]] (.mk (dS 4257) [] [some (AEd v i)] [] []) (kO (kz q0 (kz q1 AD))) (oT (sP 216 [ag (ps i.toNat).cells,pv [iv ta,iv tb,iv tc,iv td] 0] (bv (v i.toNat))) (ih _ (by simp_all<;>omega)) (oJ ((inB i n)=true) .nil)) 16 0 0
theorem vY (q0:AH i n)(q1:(v i.toNat)=false):sC (Gg) (frame 19 [(0,(A1 nn n ps)),(1,(fc (216) [] [.ip (AS ta tb tc td) 0])),(6,(A1 nn n ps)),(7,.int .i64 n),(8,.int .i64 i)]) ([]) (xN,(frame 19 [(0,sl nn 4 n fun i=>(ps i).cells),(1,fc (216) [] [pv (AS ta tb tc td) 0]),(6,sl nn 4 n fun i=>(ps i).cells),(7,iv ↑n),(8,iv (i+1))]),[]):=
 kC [[AG i n,(v i.toNat,false)]] (.mk (dS 68122) [] [some (AEd v i)] [] []) (kO (kz q0 (kz q1 AD))) (oI ((inR IntKind.i64 (i+1))=true) (oT (sP 216 [ag (ps i.toNat).cells,pv [iv ta,iv tb,iv tc,iv td] 0] (bv (v i.toNat))) (ih _ (by simp_all<;>omega)) (oJ ((inB i n)=true) .nil))) 451 0 0
theorem vZ (q0:Af i n):sC (Gg) (frame 19 [(0,(A1 nn n ps)),(1,(fc (216) [] [.ip (AS ta tb tc td) 0])),(6,(A1 nn n ps)),(7,.int .i64 n),(8,.int .i64 i)]) ([]) DI:=
 kC (Ae i n) (.mk (dS 16) [] [] [] []) (kO (kz q0 AD)) .nil 0 0 0
theorem h1B:∃ r_:RC,sC (cB (cB (cR (cL (cR (AB prog 273)))))) (frame 19 [(0,(sl nn 4 n fun i=>(ps i).cells)),(1,(fc (216) [] [.ip [iv ta,iv tb,iv tc,iv td] 0])),(6,(sl nn 4 n fun i=>(ps i).cells)),(7,.int .i64 n),(8,.int .i64 i)]) ([]) r_/\((r_=(xN,frame 19 [(0,(sl nn 4 n fun i=>(ps i).cells)),(1,(fc (216) [] [.ip [iv ta,iv tb,iv tc,iv td] 0])),(6,(sl nn 4 n fun i=>(ps i).cells)),(7,.int .i64 n),(8,.int .i64 (i+1))],[])/\i<n/\True)∨(r_=(EX.ret,frame 19 [(4,iv i)],[])/\i<n/\True)∨(r_=(xL 0,frame 19 [],[])/\n<=i)):=by
 rcases bT (decide (i<↑n)) with q0 | q0
 ·rcases bT (v i.toNat) with q1 | q1
  ·exact e1 (vX ta tb tc td nn n ps v i h0 h3 ih q0 q1)
  ·exact e1 (vY ta tb tc td nn n ps v i h0 h3 ih q0 q1)
 ·exact e1 (vZ ta tb tc td nn n ps v i h0 h3 ih q0)
end
theorem h1X (ta:Int)(tb:Int)(tc:Int)(td:Int)(nn:Bool)(n:Nat)(ps:Nat->CondV)(x:Int)(b:Bool)(h3:n<=1048576)(ih1:b=true->sL (cB (cR (cL (cR (AB prog 273))))) (frame 19 [(0,(sl nn 4 n fun i=>(ps i).cells)),(1,(fc (216) [] [.ip [iv ta,iv tb,iv tc,iv td] 0])),(6,(sl nn 4 n fun i=>(ps i).cells)),(7,.int .i64 n),(8,.int .i64 0)]) ([]) ((xL 0,frame 19 [],[]):RC))(ih2:b=false->sL (cB (cR (cL (cR (AB prog 273))))) (frame 19 [(0,(sl nn 4 n fun i=>(ps i).cells)),(1,(fc (216) [] [.ip [iv ta,iv tb,iv tc,iv td] 0])),(6,(sl nn 4 n fun i=>(ps i).cells)),(7,.int .i64 n),(8,.int .i64 0)]) ([]) ((EX.ret,frame 19 [(4,iv x)],[]):RC)):sP 273 [A1 nn n ps,fc (216) [] [pv (AS ta tb tc td) 0]] (GX b x):=
 kP [] (.mk [] [(0,.fork true (b) 16 0 0 0 (.mk [] [(6,.is 451 0 DI)] [] [] []) (.mk [] [(6,.is 451 0 (Cx x))] [] [] []))] [] [] []) KOk.nil (oT ((b)=true->sL (cB (cR (cL (cR (AB prog 273))))) (frame 19 [(0,sl nn 4 n fun i=>(ps i).cells),(1,fc (216) [] [pv [iv ta,iv tb,iv tc,iv td] 0]),(6,sl nn 4 n fun i=>(ps i).cells),(7,iv ↑n),(8,iv 0)]) [] (xL 0,(frame 19 []),[])) (fun _=>(ih1 (by assumption))) (oT ((b)=false->sL (cB (cR (cL (cR (AB prog 273))))) (frame 19 [(0,sl nn 4 n fun i=>(ps i).cells),(1,fc (216) [] [pv [iv ta,iv tb,iv tc,iv td] 0]),(6,sl nn 4 n fun i=>(ps i).cells),(7,iv ↑n),(8,iv 0)]) [] (EX.ret,(frame 19 [(4,iv x)]),[])) (fun _=>(ih2 (by assumption))) .nil))
theorem h1C (ta:Int)(tb:Int)(tc:Int)(td:Int)(nn:Bool)(n:Nat)(ps:Nat->CondV)(x:Int)(ih:sP 273 [(A1 nn n ps),(fc (216) [] [.ip (AS ta tb tc td) 0])] (iv x)):sP 217 [A1 nn n ps,fc (216) [] [pv (AS ta tb tc td) 0]] (bv (Cw x)):=
 kP [] (.mk [] [] [some (iv x)] [] []) KOk.nil (.cons ih .nil)
section
variable (ta:Int)(tb:Int)(tc:Int)(td:Int)(nn:Bool)(n:Nat)(ps:Nat->CondV)(v:Nat->Bool)(i:Int)(h0:0<=i)(h3:n<=1048576)(ih:∀ j,j<n->sP 218 [ag (ps j).cells,pv [(fc (216) [] [.ip (AS ta tb tc td) 0])] 0] (bv (v j)))
include ta tb tc td nn n ps v i h0 h3 ih
theorem AEJ (q0:AH i n)(q1:(v i.toNat)=true):sC (Gg) (frame 19 [(0,(A1 nn n ps)),(1,(fc (218) [] [.ip [(fc (216) [] [.ip (AS ta tb tc td) 0])] 0])),(6,(A1 nn n ps)),(7,.int .i64 n),(8,.int .i64 i)]) ([]) (Cx i):=
 kC [[AG i n,(v i.toNat,true)]] (.mk (dS 4257) [] [some (AEd v i)] [] []) (kO (kz q0 (kz q1 AD))) (oT (sP 218 [ag (ps i.toNat).cells,pv [fc (216) [] [pv [iv ta,iv tb,iv tc,iv td] 0]] 0] (bv (v i.toNat))) (ih _ (by simp_all<;>omega)) (oJ ((inB i n)=true) .nil)) 16 0 0
theorem v8 (q0:AH i n)(q1:(v i.toNat)=false):sC (Gg) (frame 19 [(0,(A1 nn n ps)),(1,(fc (218) [] [.ip [(fc (216) [] [.ip (AS ta tb tc td) 0])] 0])),(6,(A1 nn n ps)),(7,.int .i64 n),(8,.int .i64 i)]) ([]) (xN,(frame 19 [(0,sl nn 4 n fun i=>(ps i).cells),(1,fc (218) [] [pv [fc (216) [] [pv (AS ta tb tc td) 0]] 0]),(6,sl nn 4 n fun i=>(ps i).cells),(7,iv ↑n),(8,iv (i+1))]),[]):=
 kC [[AG i n,(v i.toNat,false)]] (.mk (dS 68122) [] [some (AEd v i)] [] []) (kO (kz q0 (kz q1 AD))) (oI ((inR IntKind.i64 (i+1))=true) (oT (sP 218 [ag (ps i.toNat).cells,pv [fc (216) [] [pv [iv ta,iv tb,iv tc,iv td] 0]] 0] (bv (v i.toNat))) (ih _ (by simp_all<;>omega)) (oJ ((inB i n)=true) .nil))) 451 0 0
theorem v9 (q0:Af i n):sC (Gg) (frame 19 [(0,(A1 nn n ps)),(1,(fc (218) [] [.ip [(fc (216) [] [.ip (AS ta tb tc td) 0])] 0])),(6,(A1 nn n ps)),(7,.int .i64 n),(8,.int .i64 i)]) ([]) DI:=
 kC (Ae i n) (.mk (dS 16) [] [] [] []) (kO (kz q0 AD)) .nil 0 0 0
theorem h2B:∃ r_:RC,sC (cB (cB (cR (cL (cR (AB prog 273)))))) (frame 19 [(0,(sl nn 4 n fun i=>(ps i).cells)),(1,(fc (218) [] [.ip [(fc (216) [] [.ip [iv ta,iv tb,iv tc,iv td] 0])] 0])),(6,(sl nn 4 n fun i=>(ps i).cells)),(7,.int .i64 n),(8,.int .i64 i)]) ([]) r_/\((r_=(xN,frame 19 [(0,(sl nn 4 n fun i=>(ps i).cells)),(1,(fc (218) [] [.ip [(fc (216) [] [.ip [iv ta,iv tb,iv tc,iv td] 0])] 0])),(6,(sl nn 4 n fun i=>(ps i).cells)),(7,.int .i64 n),(8,.int .i64 (i+1))],[])/\i<n/\True)∨(r_=(EX.ret,frame 19 [(4,iv i)],[])/\i<n/\True)∨(r_=(xL 0,frame 19 [],[])/\n<=i)):=by
 rcases bT (decide (i<↑n)) with q0 | q0
 ·rcases bT (v i.toNat) with q1 | q1
  ·exact e1 (AEJ ta tb tc td nn n ps v i h0 h3 ih q0 q1)
  ·exact e1 (v8 ta tb tc td nn n ps v i h0 h3 ih q0 q1)
 ·exact e1 (v9 ta tb tc td nn n ps v i h0 h3 ih q0)
end
theorem h2X (ta:Int)(tb:Int)(tc:Int)(td:Int)(nn:Bool)(n:Nat)(ps:Nat->CondV)(x:Int)(b:Bool)(h3:n<=1048576)(ih1:b=true->sL (cB (cR (cL (cR (AB prog 273))))) (frame 19 [(0,(sl nn 4 n fun i=>(ps i).cells)),(1,(fc (218) [] [.ip [(fc (216) [] [.ip [iv ta,iv tb,iv tc,iv td] 0])] 0])),(6,(sl nn 4 n fun i=>(ps i).cells)),(7,.int .i64 n),(8,.int .i64 0)]) ([]) ((xL 0,frame 19 [],[]):RC))(ih2:b=false->sL (cB (cR (cL (cR (AB prog 273))))) (frame 19 [(0,(sl nn 4 n fun i=>(ps i).cells)),(1,(fc (218) [] [.ip [(fc (216) [] [.ip [iv ta,iv tb,iv tc,iv td] 0])] 0])),(6,(sl nn 4 n fun i=>(ps i).cells)),(7,.int .i64 n),(8,.int .i64 0)]) ([]) ((EX.ret,frame 19 [(4,iv x)],[]):RC)):sP 273 [A1 nn n ps,fc (218) [] [pv [fc (216) [] [pv (AS ta tb tc td) 0]] 0]] (GX b x):=
 kP [] (.mk [] [(0,.fork true (b) 16 0 0 0 (.mk [] [(6,.is 451 0 DI)] [] [] []) (.mk [] [(6,.is 451 0 (Cx x))] [] [] []))] [] [] []) KOk.nil (oT ((b)=true->sL (cB (cR (cL (cR (AB prog 273))))) (frame 19 [(0,sl nn 4 n fun i=>(ps i).cells),(1,fc (218) [] [pv [fc (216) [] [pv [iv ta,iv tb,iv tc,iv td] 0]] 0]),(6,sl nn 4 n fun i=>(ps i).cells),(7,iv ↑n),(8,iv 0)]) [] (xL 0,(frame 19 []),[])) (fun _=>(ih1 (by assumption))) (oT ((b)=false->sL (cB (cR (cL (cR (AB prog 273))))) (frame 19 [(0,sl nn 4 n fun i=>(ps i).cells),(1,fc (218) [] [pv [fc (216) [] [pv [iv ta,iv tb,iv tc,iv td] 0]] 0]),(6,sl nn 4 n fun i=>(ps i).cells),(7,iv ↑n),(8,iv 0)]) [] (EX.ret,(frame 19 [(4,iv x)]),[])) (fun _=>(ih2 (by assumption))) .nil))
theorem h2C (ta:Int)(tb:Int)(tc:Int)(td:Int)(nn:Bool)(n:Nat)(ps:Nat->CondV)(x:Int)(ih:sP 273 [(A1 nn n ps),(fc (218) [] [.ip [(fc (216) [] [.ip (AS ta tb tc td) 0])] 0])] (iv x)):sP 217 [A1 nn n ps,fc (218) [] [pv [fc (216) [] [pv (AS ta tb tc td) 0]] 0]] (bv (Cw x)):=
 kP [] (.mk [] [] [some (iv x)] [] []) KOk.nil (.cons ih .nil)
section
variable (ta:Int)(tb:Int)(tc:Int)(td:Int)(ck:Int)(cv:Int)(cn:Int)(cnn:Bool)(cl:Nat)(ps:Nat->CondV)(b0:Bool)(b1:Bool)(b2:Bool)(h3:ck=1∨0<cl)(ih0:0<cl->sP 216 [ag (ps 0).cells,pv (AS ta tb tc td) 0] (bv b0))(ih1:sP 217 [A1 cnn cl ps,(fc (216) [] [.ip (AS ta tb tc td) 0])] (bv b1))(ih2:sP 217 [A1 cnn cl ps,(fc (218) [] [.ip [(fc (216) [] [.ip (AS ta tb tc td) 0])] 0])] (bv b2))
include ta tb tc td ck cv cn cnn cl ps b0 b1 b2 h3 ih0 ih1 ih2
theorem Yj (q0:DK ck):sP 162 [ag [iv ck,iv cv,iv cn,A1 cnn cl ps],ag (AS ta tb tc td)] (bv (decide (AO cv ta tb tc td>=cn))):=
 kP [[(ck==1,true)]] (.mk (dS 16) [] [some (iv (AO cv ta tb tc td))] [] []) (kO (kz q0 AD)) (oT (sP 215 [iv cv,ag [iv ta,iv tb,iv tc,iv td]] (iv (AO cv ta tb tc td))) (Bx _ _ _ _ _) .nil)
theorem Yk (q0:BG ck)(q1:(ck==4)=true):sP 162 [ag [iv ck,iv cv,iv cn,A1 cnn cl ps],ag (AS ta tb tc td)] (bv !b0):=
 kP [[Ar ck,(ck==4,true)]] (.mk (dS 4122) [] [some (bv b0)] [] []) (kO (kz q0 (kz q1 AD))) (oT (sP 216 [ag (ps 0).cells,pv [iv ta,iv tb,iv tc,iv td] 0] (bv b0)) (ih0 (by simp_all<;>omega)) (oJ ((inB 0 cl)=true) .nil))
theorem Yl (q0:BG ck)(q1:Cc ck)(q2:(ck==3)=true):sP 162 [ag [iv ck,iv cv,iv cn,A1 cnn cl ps],ag (AS ta tb tc td)] (bv b1):=
 kP [[Ar ck,BZ ck,(ck==3,true)]] (.mk (dS 4114) [] [some (bv b1)] [] []) (kO (kz q0 (kz q1 (kz q2 AD)))) (.cons ih1 .nil)
theorem Ym (q0:BG ck)(q1:Cc ck)(q2:(ck==3)=false):sP 162 [ag [iv ck,iv cv,iv cn,A1 cnn cl ps],ag (AS ta tb tc td)] (bv !b2):=
 kP [[Ar ck,BZ ck,(DL ck)]] (.mk (dS 4114) [] [some (bv b2)] [] []) (kO (kz q0 (kz q1 (kz q2 AD)))) (.cons ih2 .nil)
theorem hold:∃ r,sP 162 [ag [iv ck,iv cv,iv cn,sl cnn 4 cl fun i=>(ps i).cells],ag [iv ta,iv tb,iv tc,iv td]] (bv r):=by
 rcases bT (ck==1) with q0 | q0
 ·exact ⟨_,(Yj ta tb tc td ck cv cn cnn cl ps b0 b1 b2 h3 ih0 ih1 ih2 q0)⟩
 ·rcases bT (ck==4) with q1 | q1
  ·exact ⟨_,(Yk ta tb tc td ck cv cn cnn cl ps b0 b1 b2 h3 ih0 ih1 ih2 q0 q1)⟩
  ·rcases bT (ck==3) with q2 | q2
   ·exact ⟨_,(Yl ta tb tc td ck cv cn cnn cl ps b0 b1 b2 h3 ih0 ih1 ih2 q0 q1 q2)⟩
   ·exact ⟨_,(Ym ta tb tc td ck cv cn cnn cl ps b0 b1 b2 h3 ih0 ih1 ih2 q0 q1 q2)⟩
end
def BU (f:FuncId):Bool:=pures f || f==161 || f==35 || f==69
def B8 (f:FuncId):Bool:=f==161 || f==35 || f==69 || f==0
abbrev HR (a b c d:Int):List EV:=[EV.int .i64 a,EV.int .i64 b,EV.int .i64 c,EV.int .i64 d]
abbrev WA (a b c d:Int):EV:=EV.func (.func 216) [] [.ip (HR a b c d) 0]
abbrev AAA (a b c d:Int):EV:=EV.func (.func 218) [] [.ip [WA a b c d] 0]
theorem S1 (a b c d:Int)(nn:Bool)(n:Nat)(ps:Nat->CondV)(h3:n<=1048576)(v:Nat->Bool)(ih:∀ j,j<n->sP 162 [EV.agg (ps j).cells,EV.agg (HR a b c d)] (EV.bool (v j))):
  (∃ r,sP 217 [EV.isl nn 4 n fun i=>(ps i).cells,WA a b c d] (EV.bool r))/\∃ r,sP 217 [EV.isl nn 4 n fun i=>(ps i).cells,AAA a b c d] (EV.bool r):=by
 have ih1:∀ j,j<n->sP 216 [EV.agg (ps j).cells,EV.ip (HR a b c d) 0] (EV.bool (v j)):=fun j hj=>hk1 a b c d _ _ (ih j hj)
 constructor
 ·have H:=SemL.all (P:=prog) (G:=globs') (rnd:=false) (c:=cB (cB (cR (cL (cR (AB prog 273)))))) (fun i=>frame 19 [(0,EV.isl nn 4 n fun i=>(ps i).cells),(1,WA a b c d),(6,EV.isl nn 4 n fun i=>(ps i).cells),(7,.int .i64 n),(8,.int .i64 i)]) (fun _=>[]) n (fun _=>True) (fun _=>True)
   (fun i=>(EX.ret,frame 19 [(4,EV.int .i64 i)],[])) (EX.leave 0,frame 19 [],[]) (fun _=>by simp) (by simp) (fun i=>by
    obtain ⟨r,h,h1⟩:=h1B a b c d nn n ps v i (by omega) h3 ih1
    exact ⟨r,h,h1.imp (fun x=>⟨x.1,by omega,trivial⟩) (Or.imp (fun x=>⟨x.1,by omega,trivial⟩) fun x=>⟨x.1,by omega⟩)⟩)
  rcases H with ⟨h,_⟩ | ⟨i,_,_,_,h⟩
  ·exact ⟨_,h1C a b c d nn n ps _ (h1X a b c d nn n ps 0 true h3 (fun _=>h.toCL (by kernel_rfl)) (by intro h; cases h))⟩
  ·exact ⟨_,h1C a b c d nn n ps _ (h1X a b c d nn n ps i false h3 (by intro h; cases h) (fun _=>h.toCL (by kernel_rfl)))⟩
 ·have ih2:∀ j,j<n->sP 218 [EV.agg (ps j).cells,EV.ip [WA a b c d] 0] (EV.bool (!v j)):=fun j hj=>hk2 a b c d _ _ (ih1 j hj)
  have H:=SemL.all (P:=prog) (G:=globs') (rnd:=false) (c:=cB (cB (cR (cL (cR (AB prog 273)))))) (fun i=>frame 19 [(0,EV.isl nn 4 n fun i=>(ps i).cells),(1,AAA a b c d),(6,EV.isl nn 4 n fun i=>(ps i).cells),(7,.int .i64 n),(8,.int .i64 i)]) (fun _=>[]) n (fun _=>True) (fun _=>True)
   (fun i=>(EX.ret,frame 19 [(4,EV.int .i64 i)],[])) (EX.leave 0,frame 19 [],[]) (fun _=>by simp) (by simp) (fun i=>by
    obtain ⟨r,h,h1⟩:=h2B a b c d nn n ps _ i (by omega) h3 ih2
    exact ⟨r,h,h1.imp (fun x=>⟨x.1,by omega,trivial⟩) (Or.imp (fun x=>⟨x.1,by omega,trivial⟩) fun x=>⟨x.1,by omega⟩)⟩)
  rcases H with ⟨h,_⟩ | ⟨i,_,_,_,h⟩
  ·exact ⟨_,h2C a b c d nn n ps _ (h2X a b c d nn n ps 0 true h3 (fun _=>h.toCL (by kernel_rfl)) (by intro h; cases h))⟩
  ·exact ⟨_,h2C a b c d nn n ps _ (h2X a b c d nn n ps i false h3 (by intro h; cases h) (fun _=>h.toCL (by kernel_rfl)))⟩
theorem P9 (a b c d:Int):∀ (k:Nat) (p:CondV),M6 k p->∃ r,sP 162 [EV.agg p.cells,EV.agg (HR a b c d)] (EV.bool r)
 | 0,_,h=>h.elim
 | k+1,p,h=>by
  have key:(p.kind=1∨0<p.len)/\p.len<=16/\∃ ps:Nat->CondV,∀ i,i<p.len->p.row i=(ps i).cells/\M6 k (ps i):=by
   rcases h with ⟨h1,h2⟩ | ⟨h1,ps,hps⟩
   ·exact ⟨.inl h1,by omega,fun _=>default,fun i hi=>by omega⟩
   ·exact ⟨.inr (by omega),by omega,ps,hps⟩
  obtain ⟨h1,h2,ps,hps⟩:=key
  have hv:∀ i,∃ r,i<p.len->sP 162 [EV.agg (ps i).cells,EV.agg (HR a b c d)] (EV.bool r):=fun i=>by
   by_cases hi:i<p.len
   ·obtain ⟨r,hr⟩:=P9 a b c d k _ (hps i hi).2
    exact ⟨r,fun _=>hr⟩
   ·exact ⟨false,fun h=>absurd h hi⟩
  obtain ⟨v,hv⟩:=Classical.axiomOfChoice hv
  obtain ⟨⟨r1,hr1⟩,r2,hr2⟩:=S1 a b c d p.nn p.len ps (by omega) v hv
  obtain ⟨r,hr⟩:=hold a b c d p.kind p.var p.n p.nn p.len ps (v 0) r1 r2 h1 (fun h0=>hk1 a b c d _ _ (hv 0 h0)) hr1 hr2
  exact ⟨r,hr.weaken (.cons (BLs.agg (Kr fun i hi=>(hps i hi).1)).p (.cons (.refl _) .nil)) (.refl _)⟩
abbrev dX (ta tb tc td:Int):EObj:=.var false true (HR ta tb tc td)
abbrev dA:EObj:=.var false false [.func (.func 161) [] [.ptr 0 0,.ptr 1 0,.ptr 2 0]]
abbrev dB0:EObj:=.var false true [.isl false 0 0 fun _=>[]]
abbrev dB (j k:Nat):EObj:=.var false false [.ms j 1 0 k none]
abbrev dL (k:Nat)(w:Nat->Int):EObj:=.arr false true 1 false k fun i=>[.int .i64 (w i)]
noncomputable def dT (nn:Bool)(n:Nat)(ss:Nat->StepV)(i:Int):List EV:=frame 47 [(1,.ptr 0 0),(2,.ptr 1 0),(3,.ptr 2 0),(7,.isl nn 8 n fun i=>(ss i).cells),(8,.int .i64 n),(9,.int .i64 i)]
abbrev dL' (k:Nat)(w:Nat->Int)(x:Int):EObj:=.arr false true 1 false (k+1) (AU k (fun i=>[.int .i64 (w (0+i))]) fun i=>[[.int .i64 x]].getD (0+i) [])
noncomputable abbrev LM (a0:Nat)(a1:Int)(a2:Int):=frame 19 [(0,.ms 0 1 0 a0 none),(1,.int .i64 a1),(6,.ms 0 1 0 a0 none),(7,.int .i64 a0),(8,.int .i64 a2)]
section
variable (n:Nat)(w:Nat->Int)(c:Int)(i:Int)(h0:0<=i)(h3:n<=100000)
include n w c i h0 h3
theorem AAB (q0:AH i n)(q1:(c==w (0+i.toNat))=true):sC (cB (Ee)) (LM n c i) ([oA 1 false n fun i=>[iv (w i)]]) (EX.ret,(frame 19 [(4,iv i)]),[oA 1 false n fun i=>[iv (w i)]]):=
 kC [[AG i n,(c==w (0+i.toNat),true)]] (.mk (dS 4257) [] [] [] []) (kO (kz q0 (kz q1 AD))) (oJ ((inB i n)=true) .nil) 16 1 1
theorem AAC (q0:AH i n)(q1:(c==w (0+i.toNat))=false):sC (cB (Ee)) (LM n c i) ([oA 1 false n fun i=>[iv (w i)]]) (xN,(frame 19 [(0,EV.ms 0 1 0 n none),(1,iv c),(6,EV.ms 0 1 0 n none),(7,iv ↑n),(8,iv (i+1))]),[oA 1 false n fun i=>[iv (w i)]]):=
 kC [[AG i n,(c==w (0+i.toNat),false)]] (.mk (dS 68122) [] [] [] []) (kO (kz q0 (kz q1 AD))) (oI ((inR IntKind.i64 (i+1))=true) (oJ ((inB i n)=true) .nil)) 451 1 1
theorem AAD (q0:Af i n):sC (cB (Ee)) (LM n c i) ([oA 1 false n fun i=>[iv (w i)]]) (xL 0,(frame 19 []),[oA 1 false n fun i=>[iv (w i)]]):=
 kC (Ae i n) (.mk (dS 16) [] [] [] []) (kO (kz q0 AD)) .nil 0 1 1
theorem jdB:∃ r_:RC,sC (cB (cB (cR (cL (cR (AB prog 69)))))) (frame 19 [(0,.ms 0 1 0 n none),(1,.int .i64 c),(6,.ms 0 1 0 n none),(7,.int .i64 n),(8,.int .i64 i)]) ([oA 1 false n fun i=>[iv (w i)]]) r_/\((r_=(xN,frame 19 [(0,.ms 0 1 0 n none),(1,.int .i64 c),(6,.ms 0 1 0 n none),(7,.int .i64 n),(8,.int .i64 (i+1))],[oA 1 false n fun i=>[iv (w i)]])/\i<n/\(¬ c=w i.toNat))∨(r_=(EX.ret,frame 19 [(4,iv i)],[oA 1 false n fun i=>[iv (w i)]])/\i<n/\(c=w i.toNat))∨(r_=(xL 0,frame 19 [],[oA 1 false n fun i=>[iv (w i)]])/\n<=i)):=by
 rcases bT (decide (i<↑n)) with q0 | q0
 ·rcases bT (c==w (0+i.toNat)) with q1 | q1
  ·exact e1 (AAB n w c i h0 h3 q0 q1)
  ·exact e1 (AAC n w c i h0 h3 q0 q1)
 ·exact e1 (AAD n w c i h0 h3 q0)
end
noncomputable abbrev N7 (a0:Nat)(a1:Int):=frame 19 [(0,.ms 0 1 0 a0 none),(1,.int .i64 a1),(6,.ms 0 1 0 a0 none),(7,.int .i64 a0),(8,.int .i64 0)]
theorem AAE (n:Nat)(w:Nat->Int)(c:Int)(x:Int)(h3:n<=100000)(ih:sL (Ee) (N7 n c) [oA 1 false n fun i=>[iv (w i)]] ((xL 0,frame 19 [],[oA 1 false n fun i=>[iv (w i)]]):RC)):sF 69 [EV.ms 0 1 0 n none,iv c] [oA 1 false n fun i=>[iv (w i)]] (iv (-1)) [oA 1 false n fun i=>[iv (w i)]]:=
 kF [[]] (.mk [] [(6,.is 451 1 (xL 0,(frame 19 []),[oA 1 false n fun i=>[iv (w i)]]))] [] [] []) (kO AD) (.cons ih .nil) 1 [0]
theorem AAF (n:Nat)(w:Nat->Int)(c:Int)(x:Int)(h3:n<=100000)(ih:sL (Ee) (N7 n c) [oA 1 false n fun i=>[iv (w i)]] ((EX.ret,frame 19 [(4,iv x)],[oA 1 false n fun i=>[iv (w i)]]):RC)):sF 69 [EV.ms 0 1 0 n none,iv c] [oA 1 false n fun i=>[iv (w i)]] (iv x) [oA 1 false n fun i=>[iv (w i)]]:=
 kF [[]] (.mk [] [(6,.is 451 1 (EX.ret,(frame 19 [(4,iv x)]),[oA 1 false n fun i=>[iv (w i)]]))] [] [] []) (kO AD) (.cons ih .nil) 1 [0]
theorem X7 (n:Nat)(w:Nat->Int)(c:Int)(x:Int)(h3:n<=100000)(ih:sF 69 [EV.ms 0 1 0 n none,iv c] [oA 1 false n fun i=>[iv (w i)]] (iv x) [oA 1 false n fun i=>[iv (w i)]]):sF 35 [EV.ms 0 1 0 n none,iv c] [oA 1 false n fun i=>[iv (w i)]] (bv (Cw x)) [oA 1 false n fun i=>[iv (w i)]]:=
 kFm BU B8 [[]] (.mk [] [] [] [some ((iv x,[oA 1 false n fun i=>[iv (w i)]]))] []) (kO AD) (.cons ih .nil) 1 [0]
theorem X8 (c:Int):sF 35 [BC,iv c] [] (bv false) []:=
 kFm BU B8 [[]] (.mk [] [] [] [] []) (kO AD) .nil 0 []
abbrev Hv (a0:Nat):=EObj.var false false [EV.ms 4 1 0 a0 none]
abbrev AHF:=sl false 0 0 fun _=>[]
abbrev S2 (a0:Int)(a1:Int)(a2:Int)(a3:Int)(a4:Nat)(a5:Nat->Int):=[dX a0 a1 a2 a3,dA,dB 4 a4,.dead,dL a4 a5]
abbrev S3 (a0:Int)(a1:Int)(a2:Int)(a3:Int)(a4:Nat)(a5:Nat->Int):=[ov [iv a0,iv a1,iv a2,iv a3],EObj.var false false [fc (161) [] [pt 0 0,pt 1 0,pt 2 0]],EObj.var false false [EV.ms 3 1 0 a4 none],oA 1 false a4 fun i=>[iv (a5 i)]]
abbrev S4 (a0:Int)(a1:Int)(a2:Int)(a3:Int):=[dX a0 a1 a2 a3,dA,dB0]
noncomputable abbrev Hw:=cB (cR (AB prog 161))
noncomputable abbrev BB:=cB (Hw)
abbrev B3:=EObj.var false false [fc (161) [] [pt 0 0,pt 1 0,pt 2 0]]
abbrev Hx (a0:Nat):=decide ((a0+1)*8<=70368744177664) && decide (a0+1<4611686018427387904)
abbrev AF (a0:Nat->StepV)(a1:Int):=(a0 a1.toNat).kind==2
abbrev Gh (a0:Bool)(a1:Nat)(a2:Nat->Int):=(bv a0,[oA 1 false a1 fun i=>[iv (a2 i)]])
abbrev S5 (a0:Int)(a1:Int)(a2:Int)(a3:Int)(a4:Nat)(a5:Nat->Int):=[dX a0 a1 a2 a3,dA,dB 3 a4,dL a4 a5]
abbrev Cd (a0:Nat->Int)(a1:Nat):=[iv (a0 (0+a1))]
abbrev S6 (a0:Int)(a1:Int)(a2:Int)(a3:Int)(a4:Nat)(a5:Nat->Int):=S2 a0 a1 a2 a3 a4 a5
abbrev S7 (a0:Int)(a1:Int)(a2:Int)(a3:Int)(a4:Nat)(a5:Nat->Int):=S3 a0 a1 a2 a3 a4 a5
abbrev S8 (a0:Int)(a1:Int)(a2:Int)(a3:Int)(a4:Nat)(a5:Nat->Int):=S5 a0 a1 a2 a3 a4 a5
abbrev S9 (a0:Int)(a1:Int)(a2:Int)(a3:Int):=S4 a0 a1 a2 a3
abbrev A5:=ov [BC]
abbrev Bh (a0:Int)(a1:Int)(a2:Int)(a3:Int)(a4:Nat)(a5:Nat->Int):=S6 a0 a1 a2 a3 a4 a5
abbrev BI (a0:Int)(a1:Int)(a2:Int)(a3:Int)(a4:Nat)(a5:Nat->Int):=S7 a0 a1 a2 a3 a4 a5
abbrev AR (a0:Int)(a1:Int)(a2:Int)(a3:Int)(a4:Nat)(a5:Nat->Int):=S8 a0 a1 a2 a3 a4 a5
abbrev Ay (a0:Int)(a1:Int)(a2:Int)(a3:Int):=S9 a0 a1 a2 a3
section
variable (ta:Int)(tb:Int)(tc:Int)(td:Int)(nn:Bool)(n:Nat)(ss:Nat->StepV)(k:Nat)(w:Nat->Int)(i:Int)(bc:Bool)(h0:0<=i)(h3:n<=1048576)(h4:k<=100000)(hk:¬ (ss i.toNat).kind=2)(ihc:sF 35 [EV.ms 0 1 0 k none,iv (ss i.toNat).by_] [dL k w] (bv bc) [dL k w])(ihz:sF 35 [AHF,iv (ss i.toNat).by_] [] (bv false) [])
include ta tb tc td nn n ss k w i bc h0 h3 h4 hk ihc ihz
theorem AAG (q0:AH i n):sR 3 (BB) (dT nn n ss i) ((Ay ta tb tc td)) (xN,(frame 47 [(1,pt 0 0),(2,pt 1 0),(3,pt 2 0),(7,sl nn 8 n fun i=>(ss i).cells),(8,iv ↑n),(9,iv (i+1))]),[ov (AS ta tb tc td),B3,EObj.var false false [EV.ms 3 1 0 1 none],oA 1 false 1 fun i_1=>[[iv (ss i.toNat).by_]].getD (0+i_1) []]):=
 kRm BU B8 [[AG i n]] (.mk (dS 0x10abbbbb01be03ae) [] [] [some ((bv false,[]))] []) (kO (kz q0 AD)) (oI ((inR IntKind.i64 (i+1))=true) (.cons ihz (oI ((AF ss i)=false) (oI ((AF ss i)=false) (oI ((AF ss i)=false) (oI ((AF ss i)=false) (oI ((AF ss i)=false) (oI ((AF ss i)=false) (oJ ((inB i n)=true) .nil))))))))) 910 15 [0,1,2,11] 3
theorem AAH (q0:Af i n):sR 3 (BB) (dT nn n ss i) ((Ay ta tb tc td)) (xL 0,(frame 47 []),[ov (AS ta tb tc td),B3,A5]):=
 kRm BU B8 (Ae i n) (.mk (dS 16) [] [] [] []) (kO (kz q0 AD)) .nil 0 7 [0,1,2] 3
theorem drN:∃ r_:RC,sR 3 (cB (cB (cR (AB prog 161)))) (dT nn n ss i) ([dX ta tb tc td,dA,dB0]) r_/\((r_=(xN,dT nn n ss (i+1),[dX ta tb tc td,dA,dB0])/\i<n/\False)∨(r_=(xN,dT nn n ss (i+1),[dX ta tb tc td,dA,dB 3 1,oA 1 false 1 fun j=>[[iv (ss i.toNat).by_]].getD (0+j) []])/\i<n/\True)∨(r_=(xL 0,frame 47 [],[dX ta tb tc td,dA,dB0])/\n<=i)):=by
 rcases bT (decide (i<↑n)) with q0 | q0
 ·exact e6 (AAG ta tb tc td nn n ss k w i bc h0 h3 h4 hk ihc ihz q0)
 ·exact e6 (AAH ta tb tc td nn n ss k w i bc h0 h3 h4 hk ihc ihz q0)
theorem AAI (q0:AH i n)(q1:(!bc)=true):sR 3 (BB) (dT nn n ss i) ((AR ta tb tc td k w)) (xN,(frame 47 [(1,pt 0 0),(2,pt 1 0),(3,pt 2 0),(7,sl nn 8 n fun i=>(ss i).cells),(8,iv ↑n),(9,iv (i+1))]),[ov (AS ta tb tc td),B3,EObj.var false false [EV.ms 3 1 0 (k+1) none],oA 1 false (k+1) (AU k (fun i=>(Cd w i)) fun i_1=>[[iv (ss i.toNat).by_]].getD (0+i_1) [])]):=
 kRm BU B8 [[AG i n,(!bc,true)]] (.mk (dS 75078758592930218) [] [] [some ((Gh bc k w))] []) (kO (kz q0 (kz q1 AD))) (oI ((inR IntKind.i64 (i+1))=true) (oL ((Hx k)=true) (.cons ihc (oI ((AF ss i)=false) (oI ((AF ss i)=false) (oI ((AF ss i)=false) (oI ((AF ss i)=false) (oI ((AF ss i)=false) (oI ((AF ss i)=false) (oJ ((inB i n)=true) .nil)))))))))) 910 15 [0,1,2,12] 3
theorem AAJ (q0:AH i n)(q1:BA bc):sR 3 (BB) (dT nn n ss i) ((AR ta tb tc td k w)) (xN,(frame 47 [(1,pt 0 0),(2,pt 1 0),(3,pt 2 0),(7,sl nn 8 n fun i=>(ss i).cells),(8,iv ↑n),(9,iv (i+1))]),(BI ta tb tc td k w)):=
 kRm BU B8 [[AG i n,A9 bc]] (.mk (dS 4692422412058138) [] [] [some ((Gh bc k w))] []) (kO (kz q0 (kz q1 AD))) (oI ((inR IntKind.i64 (i+1))=true) (.cons ihc (oI ((AF ss i)=false) (oI ((AF ss i)=false) (oI ((AF ss i)=false) (oI ((AF ss i)=false) (oI ((AF ss i)=false) (oI ((AF ss i)=false) (oJ ((inB i n)=true) .nil))))))))) 910 15 [0,1,2,3] 3
theorem AAK (q0:Af i n):sR 3 (BB) (dT nn n ss i) ((AR ta tb tc td k w)) (xL 0,(frame 47 []),(BI ta tb tc td k w)):=
 kRm BU B8 (Ae i n) (.mk (dS 16) [] [] [] []) (kO (kz q0 AD)) .nil 0 15 [0,1,2,3] 3
theorem drD:∃ r_:RC,sR 3 (cB (cB (cR (AB prog 161)))) (dT nn n ss i) ([dX ta tb tc td,dA,dB 3 k,dL k w]) r_/\((r_=(xN,dT nn n ss (i+1),[dX ta tb tc td,dA,dB 3 k,dL k w])/\i<n/\bc=true)∨(r_=(xN,dT nn n ss (i+1),[dX ta tb tc td,dA,dB 3 (k+1),dL' k w (ss i.toNat).by_])/\i<n/\bc=false)∨(r_=(xL 0,frame 47 [],[dX ta tb tc td,dA,dB 3 k,dL k w])/\n<=i)):=by
 rcases bT (decide (i<↑n)) with q0 | q0
 ·rcases bT (!bc) with q1 | q1
  ·exact e6 (AAI ta tb tc td nn n ss k w i bc h0 h3 h4 hk ihc ihz q0 q1)
  ·exact e6 (AAJ ta tb tc td nn n ss k w i bc h0 h3 h4 hk ihc ihz q0 q1)
 ·exact e6 (AAK ta tb tc td nn n ss k w i bc h0 h3 h4 hk ihc ihz q0)
theorem AAL (q0:AH i n)(q1:(!bc)=true):sR 4 (BB) (dT nn n ss i) ((AR ta tb tc td k w)) (xN,(frame 47 [(1,pt 0 0),(2,pt 1 0),(3,pt 2 0),(7,sl nn 8 n fun i=>(ss i).cells),(8,iv ↑n),(9,iv (i+1))]),[ov (AS ta tb tc td),B3,EObj.var false false [EV.ms 4 1 0 (k+1) none],oD,oA 1 false (k+1) (AU k (fun i=>(Cd w i)) fun i_1=>[[iv (ss i.toNat).by_]].getD (0+i_1) [])]):=
 kRm BU B8 [[AG i n,(!bc,true)]] (.mk (dS 75078758592930218) [] [] [some ((Gh bc k w))] []) (kO (kz q0 (kz q1 AD))) (oI ((inR IntKind.i64 (i+1))=true) (oL ((Hx k)=true) (.cons ihc (oI ((AF ss i)=false) (oI ((AF ss i)=false) (oI ((AF ss i)=false) (oI ((AF ss i)=false) (oI ((AF ss i)=false) (oI ((AF ss i)=false) (oJ ((inB i n)=true) .nil)))))))))) 910 23 [0,1,2,3,12] 4
theorem AAM (q0:AH i n)(q1:BA bc):sR 4 (BB) (dT nn n ss i) ((AR ta tb tc td k w)) (xN,(frame 47 [(1,pt 0 0),(2,pt 1 0),(3,pt 2 0),(7,sl nn 8 n fun i=>(ss i).cells),(8,iv ↑n),(9,iv (i+1))]),(BI ta tb tc td k w)):=
 kRm BU B8 [[AG i n,A9 bc]] (.mk (dS 4692422412058138) [] [] [some ((Gh bc k w))] []) (kO (kz q0 (kz q1 AD))) (oI ((inR IntKind.i64 (i+1))=true) (.cons ihc (oI ((AF ss i)=false) (oI ((AF ss i)=false) (oI ((AF ss i)=false) (oI ((AF ss i)=false) (oI ((AF ss i)=false) (oI ((AF ss i)=false) (oJ ((inB i n)=true) .nil))))))))) 910 15 [0,1,2,3] 4
theorem AAN (q0:Af i n):sR 4 (BB) (dT nn n ss i) ((AR ta tb tc td k w)) (xL 0,(frame 47 []),(BI ta tb tc td k w)):=
 kRm BU B8 (Ae i n) (.mk (dS 16) [] [] [] []) (kO (kz q0 AD)) .nil 0 15 [0,1,2,3] 4
theorem drU:∃ r_:RC,sR 4 (cB (cB (cR (AB prog 161)))) (dT nn n ss i) ([dX ta tb tc td,dA,dB 3 k,dL k w]) r_/\((r_=(xN,dT nn n ss (i+1),[dX ta tb tc td,dA,dB 3 k,dL k w])/\i<n/\bc=true)∨(r_=(xN,dT nn n ss (i+1),[dX ta tb tc td,dA,dB 4 (k+1),.dead,dL' k w (ss i.toNat).by_])/\i<n/\bc=false)∨(r_=(xL 0,frame 47 [],[dX ta tb tc td,dA,dB 3 k,dL k w])/\n<=i)):=by
 rcases bT (decide (i<↑n)) with q0 | q0
 ·rcases bT (!bc) with q1 | q1
  ·exact e6 (AAL ta tb tc td nn n ss k w i bc h0 h3 h4 hk ihc ihz q0 q1)
  ·exact e6 (AAM ta tb tc td nn n ss k w i bc h0 h3 h4 hk ihc ihz q0 q1)
 ·exact e6 (AAN ta tb tc td nn n ss k w i bc h0 h3 h4 hk ihc ihz q0)
theorem AAO (q0:AH i n)(q1:(!bc)=true):sR 4 (BB) (dT nn n ss i) ((Bh ta tb tc td k w)) (xN,(frame 47 [(1,pt 0 0),(2,pt 1 0),(3,pt 2 0),(7,sl nn 8 n fun i=>(ss i).cells),(8,iv ↑n),(9,iv (i+1))]),[ov (AS ta tb tc td),B3,EObj.var false false [EV.ms 4 1 0 (k+1) none],oD,oA 1 false (k+1) (AU k (fun i=>(Cd w i)) fun i_1=>[[iv (ss i.toNat).by_]].getD (0+i_1) [])]):=
 kRm BU B8 [[AG i n,(!bc,true)]] (.mk (dS 75078758592930218) [] [] [some ((Gh bc k w))] []) (kO (kz q0 (kz q1 AD))) (oI ((inR IntKind.i64 (i+1))=true) (oL ((Hx k)=true) (.cons ihc (oI ((AF ss i)=false) (oI ((AF ss i)=false) (oI ((AF ss i)=false) (oI ((AF ss i)=false) (oI ((AF ss i)=false) (oI ((AF ss i)=false) (oJ ((inB i n)=true) .nil)))))))))) 910 23 [0,1,2,3,13] 4
theorem AAP (q0:AH i n)(q1:BA bc):sR 4 (BB) (dT nn n ss i) ((Bh ta tb tc td k w)) (xN,(frame 47 [(1,pt 0 0),(2,pt 1 0),(3,pt 2 0),(7,sl nn 8 n fun i=>(ss i).cells),(8,iv ↑n),(9,iv (i+1))]),[ov (AS ta tb tc td),B3,Hv k,oD,oA 1 false k fun i=>[iv (w i)]]):=
 kRm BU B8 [[AG i n,A9 bc]] (.mk (dS 4692422412058138) [] [] [some ((Gh bc k w))] []) (kO (kz q0 (kz q1 AD))) (oI ((inR IntKind.i64 (i+1))=true) (.cons ihc (oI ((AF ss i)=false) (oI ((AF ss i)=false) (oI ((AF ss i)=false) (oI ((AF ss i)=false) (oI ((AF ss i)=false) (oI ((AF ss i)=false) (oJ ((inB i n)=true) .nil))))))))) 910 23 [0,1,2,3,4] 4
theorem AAQ (q0:Af i n):sR 4 (BB) (dT nn n ss i) ((Bh ta tb tc td k w)) (xL 0,(frame 47 []),[ov (AS ta tb tc td),B3,Hv k,oD,oA 1 false k fun i=>[iv (w i)]]):=
 kRm BU B8 (Ae i n) (.mk (dS 16) [] [] [] []) (kO (kz q0 AD)) .nil 0 23 [0,1,2,3,4] 4
theorem drC:∃ r_:RC,sR 4 (cB (cB (cR (AB prog 161)))) (dT nn n ss i) ([dX ta tb tc td,dA,dB 4 k,.dead,dL k w]) r_/\((r_=(xN,dT nn n ss (i+1),[dX ta tb tc td,dA,dB 4 k,.dead,dL k w])/\i<n/\bc=true)∨(r_=(xN,dT nn n ss (i+1),[dX ta tb tc td,dA,dB 4 (k+1),.dead,dL' k w (ss i.toNat).by_])/\i<n/\bc=false)∨(r_=(xL 0,frame 47 [],[dX ta tb tc td,dA,dB 4 k,.dead,dL k w])/\n<=i)):=by
 rcases bT (decide (i<↑n)) with q0 | q0
 ·rcases bT (!bc) with q1 | q1
  ·exact e6 (AAO ta tb tc td nn n ss k w i bc h0 h3 h4 hk ihc ihz q0 q1)
  ·exact e6 (AAP ta tb tc td nn n ss k w i bc h0 h3 h4 hk ihc ihz q0 q1)
 ·exact e6 (AAQ ta tb tc td nn n ss k w i bc h0 h3 h4 hk ihc ihz q0)
end
abbrev Ep:=dS 1832519377066
abbrev CF (a0:Nat->StepV)(a1:Int):=[sl (a0 a1.toNat).n2 8 (a0 a1.toNat).l2 (a0 a1.toNat).r2,.ptr 0 0,.ptr 1 0,.ptr 2 0]
abbrev CG (a0:Nat->StepV)(a1:Int):=[sl (a0 a1.toNat).n1 8 (a0 a1.toNat).l1 (a0 a1.toNat).r1,.ptr 0 0,.ptr 1 0,.ptr 2 0]
abbrev DN (a0:Int)(a1:Int)(a2:Int)(a3:Int)(a4:Nat)(a5:Nat->Int):=[ov (Nr a0 a1 a2 a3),B3,Hv a4,oD,oA 1 false a4 fun i=>(GZ a5 i)]
section
variable (ta:Int)(tb:Int)(tc:Int)(td:Int)(nn:Bool)(n:Nat)(ss:Nat->StepV)(k:Nat)(w:Nat->Int)(i:Int)(bh:Bool)(k1:Nat)(w1:Nat->Int)(h0:0<=i)(h3:n<=1048576)(hk:(ss i.toNat).kind=2)(hi:i<n)(ihh:sP 162 [ag (ss i.toNat).cond.cells,ag (HR ta tb tc td)] (bv bh))
include ta tb tc td nn n ss k w i bh k1 w1 h0 h3 hk hi ihh
theorem Yn (iht:bh=true->sF 161 (CG ss i) (Ay ta tb tc td) (tu []) (Ay ta tb tc td))(ihe:bh=false->sF 161 (CF ss i) (Ay ta tb tc td) (tu []) (Ay ta tb tc td))(q0:(bh)=true):sR 3 (BB) (dT nn n ss i) ((Ay ta tb tc td)) (xN,(frame 47 [(1,pt 0 0),(2,pt 1 0),(3,pt 2 0),(7,sl nn 8 n fun i=>(ss i).cells),(8,iv ↑n),(9,iv (i+1))]),[ov (AS ta tb tc td),B3,A5]):=
 kRm BU B8 [[(bh,true)]] (.mk (dS 114532461066) [] [some (bv bh)] [some ((tu [],[ov (AS ta tb tc td),B3,A5]))] []) (kO (kz q0 AD)) (oI ((inR IntKind.i64 (i+1))=true) (.cons (iht (by simp_all)) (oI ((AF ss i)=true) (.cons ihh (oI ((AF ss i)=true) (oI ((AF ss i)=true) (oI ((AF ss i)=true) (oI ((AF ss i)=true) (oJ ((inB i n)=true) (oI ((Bl i n)=true) .nil)))))))))) 910 7 [0,1,2] 3
theorem Yo (iht:bh=true->sF 161 (CG ss i) (Ay ta tb tc td) (tu []) (Ay ta tb tc td))(ihe:bh=false->sF 161 (CF ss i) (Ay ta tb tc td) (tu []) (Ay ta tb tc td))(q0:Av bh):sR 3 (BB) (dT nn n ss i) ((Ay ta tb tc td)) (xN,(frame 47 [(1,pt 0 0),(2,pt 1 0),(3,pt 2 0),(7,sl nn 8 n fun i=>(ss i).cells),(8,iv ↑n),(9,iv (i+1))]),[ov (AS ta tb tc td),B3,A5]):=
 kRm BU B8 [[(bh,false)]] (.mk (Ep) [] [some (bv bh)] [some ((tu [],[ov (AS ta tb tc td),B3,A5]))] []) (kO (kz q0 AD)) (oI ((inR IntKind.i64 (i+1))=true) (.cons (ihe (by simp_all)) (oI ((AF ss i)=true) (oI ((AF ss i)=true) (.cons ihh (oI ((AF ss i)=true) (oI ((AF ss i)=true) (oI ((AF ss i)=true) (oI ((AF ss i)=true) (oJ ((inB i n)=true) (oI ((Bl i n)=true) .nil))))))))))) 910 7 [0,1,2] 3
theorem AAR (iht:bh=true->sF 161 [sl (ss i.toNat).n1 8 (ss i.toNat).l1 (ss i.toNat).r1,.ptr 0 0,.ptr 1 0,.ptr 2 0] [dX ta tb tc td,dA,dB0] (tu []) [dX ta tb tc td,dA,dB0])(ihe:bh=false->sF 161 [sl (ss i.toNat).n2 8 (ss i.toNat).l2 (ss i.toNat).r2,.ptr 0 0,.ptr 1 0,.ptr 2 0] [dX ta tb tc td,dA,dB0] (tu []) [dX ta tb tc td,dA,dB0]):sR 3 (cB (cB (cR (AB prog 161)))) (dT nn n ss i) ([dX ta tb tc td,dA,dB0]) (xN,dT nn n ss (i+1),[dX ta tb tc td,dA,dB0]):=by
 rcases bT (bh) with q0 | q0
 ·exact (Yn ta tb tc td nn n ss k w i bh k1 w1 h0 h3 hk hi ihh iht ihe q0)
 ·exact (Yo ta tb tc td nn n ss k w i bh k1 w1 h0 h3 hk hi ihh iht ihe q0)
theorem Yp (iht:bh=true->sF 161 (CG ss i) (Ay ta tb tc td) (tu []) (AR ta tb tc td k1 w1))(ihe:bh=false->sF 161 (CF ss i) (Ay ta tb tc td) (tu []) (AR ta tb tc td k1 w1))(q0:(bh)=true):sR 3 (BB) (dT nn n ss i) ((Ay ta tb tc td)) (xN,(frame 47 [(1,pt 0 0),(2,pt 1 0),(3,pt 2 0),(7,sl nn 8 n fun i=>(ss i).cells),(8,iv ↑n),(9,iv (i+1))]),(BI ta tb tc td k1 w1)):=
 kRm BU B8 [[(bh,true)]] (.mk (dS 114532461066) [] [some (bv bh)] [some ((tu [],(BI ta tb tc td k1 w1)))] []) (kO (kz q0 AD)) (oI ((inR IntKind.i64 (i+1))=true) (.cons (iht (by simp_all)) (oI ((AF ss i)=true) (.cons ihh (oI ((AF ss i)=true) (oI ((AF ss i)=true) (oI ((AF ss i)=true) (oI ((AF ss i)=true) (oJ ((inB i n)=true) (oI ((Bl i n)=true) .nil)))))))))) 910 15 [0,1,2,7] 3
theorem Yq (iht:bh=true->sF 161 (CG ss i) (Ay ta tb tc td) (tu []) (AR ta tb tc td k1 w1))(ihe:bh=false->sF 161 (CF ss i) (Ay ta tb tc td) (tu []) (AR ta tb tc td k1 w1))(q0:Av bh):sR 3 (BB) (dT nn n ss i) ((Ay ta tb tc td)) (xN,(frame 47 [(1,pt 0 0),(2,pt 1 0),(3,pt 2 0),(7,sl nn 8 n fun i=>(ss i).cells),(8,iv ↑n),(9,iv (i+1))]),(BI ta tb tc td k1 w1)):=
 kRm BU B8 [[(bh,false)]] (.mk (Ep) [] [some (bv bh)] [some ((tu [],(BI ta tb tc td k1 w1)))] []) (kO (kz q0 AD)) (oI ((inR IntKind.i64 (i+1))=true) (.cons (ihe (by simp_all)) (oI ((AF ss i)=true) (oI ((AF ss i)=true) (.cons ihh (oI ((AF ss i)=true) (oI ((AF ss i)=true) (oI ((AF ss i)=true) (oI ((AF ss i)=true) (oJ ((inB i n)=true) (oI ((Bl i n)=true) .nil))))))))))) 910 15 [0,1,2,7] 3
theorem AAS (iht:bh=true->sF 161 [sl (ss i.toNat).n1 8 (ss i.toNat).l1 (ss i.toNat).r1,.ptr 0 0,.ptr 1 0,.ptr 2 0] [dX ta tb tc td,dA,dB0] (tu []) [dX ta tb tc td,dA,dB 3 k1,dL k1 w1])(ihe:bh=false->sF 161 [sl (ss i.toNat).n2 8 (ss i.toNat).l2 (ss i.toNat).r2,.ptr 0 0,.ptr 1 0,.ptr 2 0] [dX ta tb tc td,dA,dB0] (tu []) [dX ta tb tc td,dA,dB 3 k1,dL k1 w1]):sR 3 (cB (cB (cR (AB prog 161)))) (dT nn n ss i) ([dX ta tb tc td,dA,dB0]) (xN,dT nn n ss (i+1),[dX ta tb tc td,dA,dB 3 k1,dL k1 w1]):=by
 rcases bT (bh) with q0 | q0
 ·exact (Yp ta tb tc td nn n ss k w i bh k1 w1 h0 h3 hk hi ihh iht ihe q0)
 ·exact (Yq ta tb tc td nn n ss k w i bh k1 w1 h0 h3 hk hi ihh iht ihe q0)
theorem Yr (iht:bh=true->sF 161 (CG ss i) (AR ta tb tc td k w) (tu []) (AR ta tb tc td k w))(ihe:bh=false->sF 161 (CF ss i) (AR ta tb tc td k w) (tu []) (AR ta tb tc td k w))(q0:(bh)=true):sR 3 (BB) (dT nn n ss i) ((AR ta tb tc td k w)) (xN,(frame 47 [(1,pt 0 0),(2,pt 1 0),(3,pt 2 0),(7,sl nn 8 n fun i=>(ss i).cells),(8,iv ↑n),(9,iv (i+1))]),(BI ta tb tc td k w)):=
 kRm BU B8 [[(bh,true)]] (.mk (dS 114532461066) [] [some (bv bh)] [some ((tu [],(BI ta tb tc td k w)))] []) (kO (kz q0 AD)) (oI ((inR IntKind.i64 (i+1))=true) (.cons (iht (by simp_all)) (oI ((AF ss i)=true) (.cons ihh (oI ((AF ss i)=true) (oI ((AF ss i)=true) (oI ((AF ss i)=true) (oI ((AF ss i)=true) (oJ ((inB i n)=true) (oI ((Bl i n)=true) .nil)))))))))) 910 15 [0,1,2,3] 3
theorem Ys (iht:bh=true->sF 161 (CG ss i) (AR ta tb tc td k w) (tu []) (AR ta tb tc td k w))(ihe:bh=false->sF 161 (CF ss i) (AR ta tb tc td k w) (tu []) (AR ta tb tc td k w))(q0:Av bh):sR 3 (BB) (dT nn n ss i) ((AR ta tb tc td k w)) (xN,(frame 47 [(1,pt 0 0),(2,pt 1 0),(3,pt 2 0),(7,sl nn 8 n fun i=>(ss i).cells),(8,iv ↑n),(9,iv (i+1))]),(BI ta tb tc td k w)):=
 kRm BU B8 [[(bh,false)]] (.mk (Ep) [] [some (bv bh)] [some ((tu [],(BI ta tb tc td k w)))] []) (kO (kz q0 AD)) (oI ((inR IntKind.i64 (i+1))=true) (.cons (ihe (by simp_all)) (oI ((AF ss i)=true) (oI ((AF ss i)=true) (.cons ihh (oI ((AF ss i)=true) (oI ((AF ss i)=true) (oI ((AF ss i)=true) (oI ((AF ss i)=true) (oJ ((inB i n)=true) (oI ((Bl i n)=true) .nil))))))))))) 910 15 [0,1,2,3] 3
theorem AAT (iht:bh=true->sF 161 [sl (ss i.toNat).n1 8 (ss i.toNat).l1 (ss i.toNat).r1,.ptr 0 0,.ptr 1 0,.ptr 2 0] [dX ta tb tc td,dA,dB 3 k,dL k w] (tu []) [dX ta tb tc td,dA,dB 3 k,dL k w])(ihe:bh=false->sF 161 [sl (ss i.toNat).n2 8 (ss i.toNat).l2 (ss i.toNat).r2,.ptr 0 0,.ptr 1 0,.ptr 2 0] [dX ta tb tc td,dA,dB 3 k,dL k w] (tu []) [dX ta tb tc td,dA,dB 3 k,dL k w]):sR 3 (cB (cB (cR (AB prog 161)))) (dT nn n ss i) ([dX ta tb tc td,dA,dB 3 k,dL k w]) (xN,dT nn n ss (i+1),[dX ta tb tc td,dA,dB 3 k,dL k w]):=by
 rcases bT (bh) with q0 | q0
 ·exact (Yr ta tb tc td nn n ss k w i bh k1 w1 h0 h3 hk hi ihh iht ihe q0)
 ·exact (Ys ta tb tc td nn n ss k w i bh k1 w1 h0 h3 hk hi ihh iht ihe q0)
theorem Yt (iht:bh=true->sF 161 (CG ss i) (AR ta tb tc td k w) (tu []) (Bh ta tb tc td k1 w1))(ihe:bh=false->sF 161 (CF ss i) (AR ta tb tc td k w) (tu []) (Bh ta tb tc td k1 w1))(q0:(bh)=true):sR 3 (BB) (dT nn n ss i) ((AR ta tb tc td k w)) (xN,(frame 47 [(1,pt 0 0),(2,pt 1 0),(3,pt 2 0),(7,sl nn 8 n fun i=>(ss i).cells),(8,iv ↑n),(9,iv (i+1))]),(BI ta tb tc td k1 w1)):=
 kRm BU B8 [[(bh,true)]] (.mk (dS 114532461066) [] [some (bv bh)] [some ((tu [],(DN ta tb tc td k1 w1)))] []) (kO (kz q0 AD)) (oI ((inR IntKind.i64 (i+1))=true) (.cons (iht (by simp_all)) (oI ((AF ss i)=true) (.cons ihh (oI ((AF ss i)=true) (oI ((AF ss i)=true) (oI ((AF ss i)=true) (oI ((AF ss i)=true) (oJ ((inB i n)=true) (oI ((Bl i n)=true) .nil)))))))))) 910 15 [0,1,2,8] 3
theorem Yu (iht:bh=true->sF 161 (CG ss i) (AR ta tb tc td k w) (tu []) (Bh ta tb tc td k1 w1))(ihe:bh=false->sF 161 (CF ss i) (AR ta tb tc td k w) (tu []) (Bh ta tb tc td k1 w1))(q0:Av bh):sR 3 (BB) (dT nn n ss i) ((AR ta tb tc td k w)) (xN,(frame 47 [(1,pt 0 0),(2,pt 1 0),(3,pt 2 0),(7,sl nn 8 n fun i=>(ss i).cells),(8,iv ↑n),(9,iv (i+1))]),(BI ta tb tc td k1 w1)):=
 kRm BU B8 [[(bh,false)]] (.mk (Ep) [] [some (bv bh)] [some ((tu [],(DN ta tb tc td k1 w1)))] []) (kO (kz q0 AD)) (oI ((inR IntKind.i64 (i+1))=true) (.cons (ihe (by simp_all)) (oI ((AF ss i)=true) (oI ((AF ss i)=true) (.cons ihh (oI ((AF ss i)=true) (oI ((AF ss i)=true) (oI ((AF ss i)=true) (oI ((AF ss i)=true) (oJ ((inB i n)=true) (oI ((Bl i n)=true) .nil))))))))))) 910 15 [0,1,2,8] 3
theorem AAU (iht:bh=true->sF 161 [sl (ss i.toNat).n1 8 (ss i.toNat).l1 (ss i.toNat).r1,.ptr 0 0,.ptr 1 0,.ptr 2 0] [dX ta tb tc td,dA,dB 3 k,dL k w] (tu []) [dX ta tb tc td,dA,dB 4 k1,.dead,dL k1 w1])(ihe:bh=false->sF 161 [sl (ss i.toNat).n2 8 (ss i.toNat).l2 (ss i.toNat).r2,.ptr 0 0,.ptr 1 0,.ptr 2 0] [dX ta tb tc td,dA,dB 3 k,dL k w] (tu []) [dX ta tb tc td,dA,dB 4 k1,.dead,dL k1 w1]):sR 3 (cB (cB (cR (AB prog 161)))) (dT nn n ss i) ([dX ta tb tc td,dA,dB 3 k,dL k w]) (xN,dT nn n ss (i+1),[dX ta tb tc td,dA,dB 3 k1,dL k1 w1]):=by
 rcases bT (bh) with q0 | q0
 ·exact (Yt ta tb tc td nn n ss k w i bh k1 w1 h0 h3 hk hi ihh iht ihe q0)
 ·exact (Yu ta tb tc td nn n ss k w i bh k1 w1 h0 h3 hk hi ihh iht ihe q0)
theorem Yv (iht:bh=true->sF 161 (CG ss i) (AR ta tb tc td k w) (tu []) (AR ta tb tc td k w))(ihe:bh=false->sF 161 (CF ss i) (AR ta tb tc td k w) (tu []) (AR ta tb tc td k w))(q0:(bh)=true):sR 4 (BB) (dT nn n ss i) ((AR ta tb tc td k w)) (xN,(frame 47 [(1,pt 0 0),(2,pt 1 0),(3,pt 2 0),(7,sl nn 8 n fun i=>(ss i).cells),(8,iv ↑n),(9,iv (i+1))]),(BI ta tb tc td k w)):=
 kRm BU B8 [[(bh,true)]] (.mk (dS 114532461066) [] [some (bv bh)] [some ((tu [],(BI ta tb tc td k w)))] []) (kO (kz q0 AD)) (oI ((inR IntKind.i64 (i+1))=true) (.cons (iht (by simp_all)) (oI ((AF ss i)=true) (.cons ihh (oI ((AF ss i)=true) (oI ((AF ss i)=true) (oI ((AF ss i)=true) (oI ((AF ss i)=true) (oJ ((inB i n)=true) (oI ((Bl i n)=true) .nil)))))))))) 910 15 [0,1,2,3] 4
theorem Yw (iht:bh=true->sF 161 (CG ss i) (AR ta tb tc td k w) (tu []) (AR ta tb tc td k w))(ihe:bh=false->sF 161 (CF ss i) (AR ta tb tc td k w) (tu []) (AR ta tb tc td k w))(q0:Av bh):sR 4 (BB) (dT nn n ss i) ((AR ta tb tc td k w)) (xN,(frame 47 [(1,pt 0 0),(2,pt 1 0),(3,pt 2 0),(7,sl nn 8 n fun i=>(ss i).cells),(8,iv ↑n),(9,iv (i+1))]),(BI ta tb tc td k w)):=
 kRm BU B8 [[(bh,false)]] (.mk (Ep) [] [some (bv bh)] [some ((tu [],(BI ta tb tc td k w)))] []) (kO (kz q0 AD)) (oI ((inR IntKind.i64 (i+1))=true) (.cons (ihe (by simp_all)) (oI ((AF ss i)=true) (oI ((AF ss i)=true) (.cons ihh (oI ((AF ss i)=true) (oI ((AF ss i)=true) (oI ((AF ss i)=true) (oI ((AF ss i)=true) (oJ ((inB i n)=true) (oI ((Bl i n)=true) .nil))))))))))) 910 15 [0,1,2,3] 4
theorem AAV (iht:bh=true->sF 161 [sl (ss i.toNat).n1 8 (ss i.toNat).l1 (ss i.toNat).r1,.ptr 0 0,.ptr 1 0,.ptr 2 0] [dX ta tb tc td,dA,dB 3 k,dL k w] (tu []) [dX ta tb tc td,dA,dB 3 k,dL k w])(ihe:bh=false->sF 161 [sl (ss i.toNat).n2 8 (ss i.toNat).l2 (ss i.toNat).r2,.ptr 0 0,.ptr 1 0,.ptr 2 0] [dX ta tb tc td,dA,dB 3 k,dL k w] (tu []) [dX ta tb tc td,dA,dB 3 k,dL k w]):sR 4 (cB (cB (cR (AB prog 161)))) (dT nn n ss i) ([dX ta tb tc td,dA,dB 3 k,dL k w]) (xN,dT nn n ss (i+1),[dX ta tb tc td,dA,dB 3 k,dL k w]):=by
 rcases bT (bh) with q0 | q0
 ·exact (Yv ta tb tc td nn n ss k w i bh k1 w1 h0 h3 hk hi ihh iht ihe q0)
 ·exact (Yw ta tb tc td nn n ss k w i bh k1 w1 h0 h3 hk hi ihh iht ihe q0)
theorem Yx (iht:bh=true->sF 161 (CG ss i) (AR ta tb tc td k w) (tu []) (Bh ta tb tc td k1 w1))(ihe:bh=false->sF 161 (CF ss i) (AR ta tb tc td k w) (tu []) (Bh ta tb tc td k1 w1))(q0:(bh)=true):sR 4 (BB) (dT nn n ss i) ((AR ta tb tc td k w)) (xN,(frame 47 [(1,pt 0 0),(2,pt 1 0),(3,pt 2 0),(7,sl nn 8 n fun i=>(ss i).cells),(8,iv ↑n),(9,iv (i+1))]),(DN ta tb tc td k1 w1)):=
 kRm BU B8 [[(bh,true)]] (.mk (dS 114532461066) [] [some (bv bh)] [some ((tu [],(DN ta tb tc td k1 w1)))] []) (kO (kz q0 AD)) (oI ((inR IntKind.i64 (i+1))=true) (.cons (iht (by simp_all)) (oI ((AF ss i)=true) (.cons ihh (oI ((AF ss i)=true) (oI ((AF ss i)=true) (oI ((AF ss i)=true) (oI ((AF ss i)=true) (oJ ((inB i n)=true) (oI ((Bl i n)=true) .nil)))))))))) 910 23 [0,1,2,3,8] 4
theorem Yy (iht:bh=true->sF 161 (CG ss i) (AR ta tb tc td k w) (tu []) (Bh ta tb tc td k1 w1))(ihe:bh=false->sF 161 (CF ss i) (AR ta tb tc td k w) (tu []) (Bh ta tb tc td k1 w1))(q0:Av bh):sR 4 (BB) (dT nn n ss i) ((AR ta tb tc td k w)) (xN,(frame 47 [(1,pt 0 0),(2,pt 1 0),(3,pt 2 0),(7,sl nn 8 n fun i=>(ss i).cells),(8,iv ↑n),(9,iv (i+1))]),(DN ta tb tc td k1 w1)):=
 kRm BU B8 [[(bh,false)]] (.mk (Ep) [] [some (bv bh)] [some ((tu [],(DN ta tb tc td k1 w1)))] []) (kO (kz q0 AD)) (oI ((inR IntKind.i64 (i+1))=true) (.cons (ihe (by simp_all)) (oI ((AF ss i)=true) (oI ((AF ss i)=true) (.cons ihh (oI ((AF ss i)=true) (oI ((AF ss i)=true) (oI ((AF ss i)=true) (oI ((AF ss i)=true) (oJ ((inB i n)=true) (oI ((Bl i n)=true) .nil))))))))))) 910 23 [0,1,2,3,8] 4
theorem AAW (iht:bh=true->sF 161 [sl (ss i.toNat).n1 8 (ss i.toNat).l1 (ss i.toNat).r1,.ptr 0 0,.ptr 1 0,.ptr 2 0] [dX ta tb tc td,dA,dB 3 k,dL k w] (tu []) [dX ta tb tc td,dA,dB 4 k1,.dead,dL k1 w1])(ihe:bh=false->sF 161 [sl (ss i.toNat).n2 8 (ss i.toNat).l2 (ss i.toNat).r2,.ptr 0 0,.ptr 1 0,.ptr 2 0] [dX ta tb tc td,dA,dB 3 k,dL k w] (tu []) [dX ta tb tc td,dA,dB 4 k1,.dead,dL k1 w1]):sR 4 (cB (cB (cR (AB prog 161)))) (dT nn n ss i) ([dX ta tb tc td,dA,dB 3 k,dL k w]) (xN,dT nn n ss (i+1),[dX ta tb tc td,dA,dB 4 k1,.dead,dL k1 w1]):=by
 rcases bT (bh) with q0 | q0
 ·exact (Yx ta tb tc td nn n ss k w i bh k1 w1 h0 h3 hk hi ihh iht ihe q0)
 ·exact (Yy ta tb tc td nn n ss k w i bh k1 w1 h0 h3 hk hi ihh iht ihe q0)
theorem Yz (iht:bh=true->sF 161 (CG ss i) (AR ta tb tc td k w) (tu []) (AR ta tb tc td k w))(ihe:bh=false->sF 161 (CF ss i) (AR ta tb tc td k w) (tu []) (AR ta tb tc td k w))(q0:(bh)=true):sR 4 (BB) (dT nn n ss i) ((Bh ta tb tc td k w)) (xN,(frame 47 [(1,pt 0 0),(2,pt 1 0),(3,pt 2 0),(7,sl nn 8 n fun i=>(ss i).cells),(8,iv ↑n),(9,iv (i+1))]),[ov (AS ta tb tc td),B3,Hv k,oD,oA 1 false k fun i=>[iv (w i)]]):=
 kRm BU B8 [[(bh,true)]] (.mk (dS 114532461066) [] [some (bv bh)] [some ((tu [],(BI ta tb tc td k w)))] []) (kO (kz q0 AD)) (oI ((inR IntKind.i64 (i+1))=true) (.cons (iht (by simp_all)) (oI ((AF ss i)=true) (.cons ihh (oI ((AF ss i)=true) (oI ((AF ss i)=true) (oI ((AF ss i)=true) (oI ((AF ss i)=true) (oJ ((inB i n)=true) (oI ((Bl i n)=true) .nil)))))))))) 910 23 [0,1,2,3,4] 4
theorem Y0 (iht:bh=true->sF 161 (CG ss i) (AR ta tb tc td k w) (tu []) (AR ta tb tc td k w))(ihe:bh=false->sF 161 (CF ss i) (AR ta tb tc td k w) (tu []) (AR ta tb tc td k w))(q0:Av bh):sR 4 (BB) (dT nn n ss i) ((Bh ta tb tc td k w)) (xN,(frame 47 [(1,pt 0 0),(2,pt 1 0),(3,pt 2 0),(7,sl nn 8 n fun i=>(ss i).cells),(8,iv ↑n),(9,iv (i+1))]),[ov (AS ta tb tc td),B3,Hv k,oD,oA 1 false k fun i=>[iv (w i)]]):=
 kRm BU B8 [[(bh,false)]] (.mk (Ep) [] [some (bv bh)] [some ((tu [],(BI ta tb tc td k w)))] []) (kO (kz q0 AD)) (oI ((inR IntKind.i64 (i+1))=true) (.cons (ihe (by simp_all)) (oI ((AF ss i)=true) (oI ((AF ss i)=true) (.cons ihh (oI ((AF ss i)=true) (oI ((AF ss i)=true) (oI ((AF ss i)=true) (oI ((AF ss i)=true) (oJ ((inB i n)=true) (oI ((Bl i n)=true) .nil))))))))))) 910 23 [0,1,2,3,4] 4
theorem AAX (iht:bh=true->sF 161 [sl (ss i.toNat).n1 8 (ss i.toNat).l1 (ss i.toNat).r1,.ptr 0 0,.ptr 1 0,.ptr 2 0] [dX ta tb tc td,dA,dB 3 k,dL k w] (tu []) [dX ta tb tc td,dA,dB 3 k,dL k w])(ihe:bh=false->sF 161 [sl (ss i.toNat).n2 8 (ss i.toNat).l2 (ss i.toNat).r2,.ptr 0 0,.ptr 1 0,.ptr 2 0] [dX ta tb tc td,dA,dB 3 k,dL k w] (tu []) [dX ta tb tc td,dA,dB 3 k,dL k w]):sR 4 (cB (cB (cR (AB prog 161)))) (dT nn n ss i) ([dX ta tb tc td,dA,dB 4 k,.dead,dL k w]) (xN,dT nn n ss (i+1),[dX ta tb tc td,dA,dB 4 k,.dead,dL k w]):=by
 rcases bT (bh) with q0 | q0
 ·exact (Yz ta tb tc td nn n ss k w i bh k1 w1 h0 h3 hk hi ihh iht ihe q0)
 ·exact (Y0 ta tb tc td nn n ss k w i bh k1 w1 h0 h3 hk hi ihh iht ihe q0)
theorem Y1 (iht:bh=true->sF 161 (CG ss i) (AR ta tb tc td k w) (tu []) (Bh ta tb tc td k1 w1))(ihe:bh=false->sF 161 (CF ss i) (AR ta tb tc td k w) (tu []) (Bh ta tb tc td k1 w1))(q0:(bh)=true):sR 4 (BB) (dT nn n ss i) ((Bh ta tb tc td k w)) (xN,(frame 47 [(1,pt 0 0),(2,pt 1 0),(3,pt 2 0),(7,sl nn 8 n fun i=>(ss i).cells),(8,iv ↑n),(9,iv (i+1))]),(DN ta tb tc td k1 w1)):=
 kRm BU B8 [[(bh,true)]] (.mk (dS 114532461066) [] [some (bv bh)] [some ((tu [],(DN ta tb tc td k1 w1)))] []) (kO (kz q0 AD)) (oI ((inR IntKind.i64 (i+1))=true) (.cons (iht (by simp_all)) (oI ((AF ss i)=true) (.cons ihh (oI ((AF ss i)=true) (oI ((AF ss i)=true) (oI ((AF ss i)=true) (oI ((AF ss i)=true) (oJ ((inB i n)=true) (oI ((Bl i n)=true) .nil)))))))))) 910 23 [0,1,2,3,9] 4
theorem Y2 (iht:bh=true->sF 161 (CG ss i) (AR ta tb tc td k w) (tu []) (Bh ta tb tc td k1 w1))(ihe:bh=false->sF 161 (CF ss i) (AR ta tb tc td k w) (tu []) (Bh ta tb tc td k1 w1))(q0:Av bh):sR 4 (BB) (dT nn n ss i) ((Bh ta tb tc td k w)) (xN,(frame 47 [(1,pt 0 0),(2,pt 1 0),(3,pt 2 0),(7,sl nn 8 n fun i=>(ss i).cells),(8,iv ↑n),(9,iv (i+1))]),(DN ta tb tc td k1 w1)):=
 kRm BU B8 [[(bh,false)]] (.mk (Ep) [] [some (bv bh)] [some ((tu [],(DN ta tb tc td k1 w1)))] []) (kO (kz q0 AD)) (oI ((inR IntKind.i64 (i+1))=true) (.cons (ihe (by simp_all)) (oI ((AF ss i)=true) (oI ((AF ss i)=true) (.cons ihh (oI ((AF ss i)=true) (oI ((AF ss i)=true) (oI ((AF ss i)=true) (oI ((AF ss i)=true) (oJ ((inB i n)=true) (oI ((Bl i n)=true) .nil))))))))))) 910 23 [0,1,2,3,9] 4
theorem AAY (iht:bh=true->sF 161 [sl (ss i.toNat).n1 8 (ss i.toNat).l1 (ss i.toNat).r1,.ptr 0 0,.ptr 1 0,.ptr 2 0] [dX ta tb tc td,dA,dB 3 k,dL k w] (tu []) [dX ta tb tc td,dA,dB 4 k1,.dead,dL k1 w1])(ihe:bh=false->sF 161 [sl (ss i.toNat).n2 8 (ss i.toNat).l2 (ss i.toNat).r2,.ptr 0 0,.ptr 1 0,.ptr 2 0] [dX ta tb tc td,dA,dB 3 k,dL k w] (tu []) [dX ta tb tc td,dA,dB 4 k1,.dead,dL k1 w1]):sR 4 (cB (cB (cR (AB prog 161)))) (dT nn n ss i) ([dX ta tb tc td,dA,dB 4 k,.dead,dL k w]) (xN,dT nn n ss (i+1),[dX ta tb tc td,dA,dB 4 k1,.dead,dL k1 w1]):=by
 rcases bT (bh) with q0 | q0
 ·exact (Y1 ta tb tc td nn n ss k w i bh k1 w1 h0 h3 hk hi ihh iht ihe q0)
 ·exact (Y2 ta tb tc td nn n ss k w i bh k1 w1 h0 h3 hk hi ihh iht ihe q0)
end
section
variable (ta:Int)(tb:Int)(tc:Int)(td:Int)(nn:Bool)(n:Nat)(ss:Nat->StepV)(k:Nat)(w:Nat->Int)(k1:Nat)(w1:Nat->Int)
include ta tb tc td nn n ss k w k1 w1
theorem Y3 (ih:sL (Hw) (dT nn n ss 0) ((Ay ta tb tc td)) ((xL 0,frame 47 [],(Ay ta tb tc td)):RC)):sF 161 [CQ nn n ss,pt 0 0,pt 1 0,pt 2 0] ((Ay ta tb tc td)) (tu []) [ov (AS ta tb tc td),B3,A5]:=
 kFm BU B8 [[]] (.mk [] [(3,.is 910 7 (xL 0,(frame 47 []),[ov (AS ta tb tc td),B3,A5]))] [] [] []) (kO AD) (.cons ih .nil) 7 [0,1,2]
theorem Y4 (ih:sL (Hw) (dT nn n ss 0) ((Ay ta tb tc td)) ((xL 0,frame 47 [],(AR ta tb tc td k1 w1)):RC)):sF 161 [CQ nn n ss,pt 0 0,pt 1 0,pt 2 0] ((Ay ta tb tc td)) (tu []) (BI ta tb tc td k1 w1):=
 kFm BU B8 [[]] (.mk [] [(3,.is 910 7 (xL 0,(frame 47 []),(BI ta tb tc td k1 w1)))] [] [] []) (kO AD) (.cons ih .nil) 15 [0,1,2,3]
theorem Y5 (ih:sL (Hw) (dT nn n ss 0) ((AR ta tb tc td k w)) ((xL 0,frame 47 [],(AR ta tb tc td k w)):RC)):sF 161 [CQ nn n ss,pt 0 0,pt 1 0,pt 2 0] ((AR ta tb tc td k w)) (tu []) (BI ta tb tc td k w):=
 kFm BU B8 [[]] (.mk [] [(3,.is 910 15 (xL 0,(frame 47 []),(BI ta tb tc td k w)))] [] [] []) (kO AD) (.cons ih .nil) 15 [0,1,2,3]
theorem Y6 (ih:sL (Hw) (dT nn n ss 0) ((AR ta tb tc td k w)) ((xL 0,frame 47 [],(Bh ta tb tc td k1 w1)):RC)):sF 161 [CQ nn n ss,pt 0 0,pt 1 0,pt 2 0] ((AR ta tb tc td k w)) (tu []) (DN ta tb tc td k1 w1):=
 kFm BU B8 [[]] (.mk [] [(3,.is 910 15 (xL 0,(frame 47 []),(DN ta tb tc td k1 w1)))] [] [] []) (kO AD) (.cons ih .nil) 23 [0,1,2,3,4]
end
structure CritL (k:Nat) (w:Nat->Int):Prop where
 rng:∀ i,i<k->1<=w i/\w i<=12
 inj:∀ i j,i<j->j<k->w i≠w j
theorem RA:∀ (N k:Nat) (w:Nat->Int),(∀ i,i<k->1<=w i/\w i<=N)->(∀ i j,i<j->j<k->w i≠w j)->k<=N
 | 0,k,w,h,_=>by
  rcases Nat.eq_zero_or_pos k with h0 | h0
  ·omega
  ·have:=h 0 h0; omega
 | N+1,k,w,h,hi=>by
  by_cases hx:∃ i,i<k/\w i=N+1
  ·obtain ⟨i0,h0,h1⟩:=hx
   have:=RA N (k - 1) (fun j=>if j<i0 then w j else w (j+1)) (fun j hj=>by
    skip
    split
    ·have h2:=h j (by omega)
     have h3:=hi j i0 ‹_› h0
     omega
    ·have h2:=h (j+1) (by omega)
     have h3:=hi i0 (j+1) (by omega) (by omega)
     omega) (fun a b hab hb=>by
    skip
    split<;>split
    ·exact hi a b hab (by omega)
    ·exact hi a (b+1) (by omega) (by omega)
    ·omega
    ·exact hi (a+1) (b+1) (by omega) (by omega))
   omega
  ·have:=RA N k w (fun i hik=>by
    have h2:=h i hik
    have h3:w i≠N+1:=fun he=>hx ⟨i,hik,he⟩
    omega) hi
   omega
theorem CritL.le {k:Nat}{w:Nat->Int}(h:CritL k w):k<=12:=RA 12 k w h.rng h.inj
theorem CritL.snoc {k:Nat}{w:Nat->Int}(h:CritL k w){x:Int}(hx:1<=x/\x<=12)(hn:∀ i,i<k->x≠w i):CritL (k+1) fun i=>if i<k then w i else x:=by
 refine ⟨fun i hi=>?_,fun i j hij hj=>?_⟩
 ·split
  ·exact h.rng i ‹_›
  ·exact hx
 ·rw [if_pos (by omega)]
  split
  ·exact h.inj i j hij ‹_›
  ·exact fun he=>hn i (by omega) he.symm
theorem Er (k:Nat)(w:Nat->Int)(c:Int)(hk:k<=100000):∃ b,sF 35 [EV.ms 0 1 0 k none,EV.int .i64 c] [dL k w] (EV.bool b) [dL k w]/\(b=false->∀ i,i<k->c≠w i):=by
 have H:=SemL.all (P:=prog) (G:=globs') (rnd:=false) (c:=cB (cB (cR (cL (cR (AB prog 69)))))) (fun i=>frame 19 [(0,.ms 0 1 0 k none),(1,.int .i64 c),(6,.ms 0 1 0 k none),(7,.int .i64 k),(8,.int .i64 i)]) (fun _=>[dL k w]) k (fun i=>¬ c=w i) (fun _=>True)
  (fun i=>(EX.ret,frame 19 [(4,EV.int .i64 i)],[dL k w])) (EX.leave 0,frame 19 [],[dL k w]) (fun _=>by simp) (by simp) (fun i=>by
   obtain ⟨r,h,h1⟩:=jdB k w c i (by omega) hk
   exact ⟨r,h,h1.imp (fun x=>⟨x.1,by omega,by have:=x.2.2; rwa [Int.toNat_natCast] at this⟩) (Or.imp (fun x=>⟨x.1,by omega,trivial⟩) fun x=>⟨x.1,by omega⟩)⟩)
 rcases H with ⟨h,hg⟩ | ⟨i,hi,_,_,h⟩
 ·exact ⟨_,X7 k w c _ hk (AAE k w c 0 hk (h.toCL (by kernel_rfl))),fun _ i hi=>hg i hi⟩
 ·exact ⟨_,X7 k w c _ hk (AAF k w c i hk (h.toCL (by kernel_rfl))),fun hb=>by simp at hb⟩
theorem GoodS.cases {K:Nat}{s:StepV}(h:GoodS (K+1) s):(¬ s.kind=2/\1<=s.by_/\s.by_<=12)∨(s.kind=2/\M6 (K+1) s.cond/\s.l1<=500000/\s.l2<=500000/\(∃ ps:Nat->StepV,∀ i,i<s.l1->s.r1 i=(ps i).cells/\GoodS K (ps i))/\∃ ps:Nat->StepV,∀ i,i<s.l2->s.r2 i=(ps i).cells/\GoodS K (ps i)):=by
 rcases h with ⟨h1,h2,h3,_⟩ | h1
 ·exact .inl ⟨by omega,h2,h3⟩
 ·exact .inr h1
def Un (ta tb tc td:Int)(nn:Bool)(n:Nat)(row:Nat->List EV):Prop:=
 sF 161 [EV.isl nn 8 n row,.ptr 0 0,.ptr 1 0,.ptr 2 0] [dX ta tb tc td,dA,dB0] (EV.tuple []) [dX ta tb tc td,dA,dB0]∨
 ∃ k1 w1,CritL k1 w1/\sF 161 [EV.isl nn 8 n row,.ptr 0 0,.ptr 1 0,.ptr 2 0] [dX ta tb tc td,dA,dB0] (EV.tuple []) [dX ta tb tc td,dA,dB 3 k1,dL k1 w1]
def Uo (ta tb tc td:Int)(nn:Bool)(n:Nat)(row:Nat->List EV)(k:Nat)(w:Nat->Int):Prop:=
 sF 161 [EV.isl nn 8 n row,.ptr 0 0,.ptr 1 0,.ptr 2 0] [dX ta tb tc td,dA,dB 3 k,dL k w] (EV.tuple []) [dX ta tb tc td,dA,dB 3 k,dL k w]∨
 ∃ k1 w1,CritL k1 w1/\sF 161 [EV.isl nn 8 n row,.ptr 0 0,.ptr 1 0,.ptr 2 0] [dX ta tb tc td,dA,dB 3 k,dL k w] (EV.tuple []) [dX ta tb tc td,dA,dB 4 k1,.dead,dL k1 w1]
theorem RB (k:Nat)(w:Nat->Int)(x:Int):OLe (dL' k w x) (dL (k+1) fun i=>if i<k then w i else x):=OLe.arr fun j hj=>by
 unfold AU
 split
 ·rename_i h
  simp [h]
 ·obtain rfl:j=k:=by omega
  simp
theorem VLe.isl' {nn:Bool}{esz len:Nat}{row row':Nat->List EV}(h:∀ i,i<len->row i=row' i):VLe (.isl nn esz len row) (.isl nn esz len row'):=(BLe.isl h).v
section
variable (ta tb tc td:Int)
theorem N8 {K:Nat}(ih:∀ (nn:Bool) (n:Nat) (ss:Nat->StepV),n<=1048576->(∀ i,i<n->GoodS K (ss i))->Un ta tb tc td nn n (fun i=>(ss i).cells)/\∀ k w,CritL k w->Uo ta tb tc td nn n (fun i=>(ss i).cells) k w)
  {nn:Bool} {n:Nat} {row:Nat->List EV} {ps:Nat->StepV} (hn:n<=1048576) (h:∀ i,i<n->row i=(ps i).cells/\GoodS K (ps i)):
  Un ta tb tc td nn n row/\∀ k w,CritL k w->Uo ta tb tc td nn n row k w:=by
 obtain ⟨h1,h2⟩:=ih nn n ps hn (fun i hi=>(h i hi).2)
 have hle:VLes [EV.isl nn 8 n row,.ptr 0 0,.ptr 1 0,.ptr 2 0] [EV.isl nn 8 n fun i=>(ps i).cells,.ptr 0 0,.ptr 1 0,.ptr 2 0]:=.cons (VLe.isl' fun i hi=>(h i hi).1) (VLes.refl _)
 refine ⟨h1.imp (fun x=>x.weaken hle (HLe.refl _) (VLe.refl _) (HLe.refl _)) fun ⟨k1,w1,a,x⟩=>⟨k1,w1,a,x.weaken hle (HLe.refl _) (VLe.refl _) (HLe.refl _)⟩,
  fun k w hc=>(h2 k w hc).imp (fun x=>x.weaken hle (HLe.refl _) (VLe.refl _) (HLe.refl _)) fun ⟨k1,w1,a,x⟩=>⟨k1,w1,a,x.weaken hle (HLe.refl _) (VLe.refl _) (HLe.refl _)⟩⟩
def dHN:Option (Nat×(Nat->Int))->AL
 | none=>[dX ta tb tc td,dA,dB0]
 | some q=>[dX ta tb tc td,dA,dB 3 q.1,dL q.1 q.2]
def dHU (k:Nat)(w:Nat->Int):Option (Nat×(Nat->Int))->AL
 | none=>[dX ta tb tc td,dA,dB 3 k,dL k w]
 | some q=>[dX ta tb tc td,dA,dB 4 q.1,.dead,dL q.1 q.2]
abbrev HX (o:Option (Nat×(Nat->Int))):Prop:=∀ q,o=some q->CritL q.1 q.2
theorem AAZ {x:Int}(h:1<=x/\x<=12):CritL 1 fun _=>x:=⟨fun _ _=>h,fun i j hij hj=>by omega⟩
theorem Ks {K:Nat}(ih:∀ (nn:Bool) (n:Nat) (ss:Nat->StepV),n<=1048576->(∀ i,i<n->GoodS K (ss i))->Un ta tb tc td nn n (fun i=>(ss i).cells)/\∀ k w,CritL k w->Uo ta tb tc td nn n (fun i=>(ss i).cells) k w)
  (nn:Bool) (n:Nat) (ss:Nat->StepV) (hn:n<=1048576) (h:∀ i,i<n->GoodS (K+1) (ss i)) (i:Nat) (hi:i<n):
  (∀ o,HX o->∃ o',HX o'/\sR 3 (cB (cB (cR (AB prog 161)))) (dT nn n ss i) (dHN ta tb tc td o) (EX.normal,dT nn n ss ((i:Int)+1),dHN ta tb tc td o'))/\
  ∀ k w,CritL k w->∀ o,HX o->∃ o',HX o'/\sR 4 (cB (cB (cR (AB prog 161)))) (dT nn n ss i) (dHU ta tb tc td k w o) (EX.normal,dT nn n ss ((i:Int)+1),dHU ta tb tc td k w o'):=by
 have e0:(i:Int).toNat=i:=Int.toNat_natCast i
 rcases (h i hi).cases with ⟨hk,hby⟩ | ⟨hk,hc,hl1,hl2,⟨ps,hps⟩,qs,hqs⟩
 ·have hk':¬ (ss (i:Int).toNat).kind=2:=by rw [e0]; exact hk
  have hz:sF 35 [EV.isl false 0 0 fun _=>[],EV.int .i64 (ss (i:Int).toNat).by_] [] (EV.bool false) []:=X8 _
  constructor
  ·intro o ho
   match o,ho with
   | none,_=>
    obtain ⟨b,hb,_⟩:=Er 0 (fun _=>0) (ss (i:Int).toNat).by_ (by omega)
    obtain ⟨r,hr,⟨_,_,hf⟩ | ⟨rfl,_,_⟩ | ⟨_,h2⟩⟩:=drN ta tb tc td nn n ss 0 (fun _=>0) i b (by omega) hn (by omega) hk' hb hz
    ·exact hf.elim
    ·refine ⟨some (1,fun _=>(ss i).by_),fun q hq=>by cases hq; exact AAZ hby,hr.weaken (VLes.refl _) (.cons (OLe.refl _) (.cons (OLe.refl _) (.cons (OLe.refl _) (.cons (OLe.arr fun j hj=>?_) .nil))))⟩
     obtain rfl:j=0:=by omega
     simp
    ·omega
   | some (k,w),ho=>
    have hc:=ho _ rfl
    obtain ⟨b,hb,hbn⟩:=Er k w (ss (i:Int).toNat).by_ (by have:=hc.le; omega)
    obtain ⟨r,hr,⟨rfl,_,_⟩ | ⟨rfl,_,hf⟩ | ⟨_,h2⟩⟩:=drD ta tb tc td nn n ss k w i b (by omega) hn (by have:=hc.le; omega) hk' hb hz
    ·exact ⟨some (k,w),ho,hr⟩
    ·refine ⟨some (k+1,fun j=>if j<k then w j else (ss (i:Int).toNat).by_),fun q hq=>by cases hq; exact hc.snoc (by rw [e0]; exact hby) (hbn hf),hr.weaken (VLes.refl _) (.cons (OLe.refl _) (.cons (OLe.refl _) (.cons (OLe.refl _) (.cons (RB _ _ _) .nil))))⟩
    ·omega
  ·intro k w hkw o ho
   match o,ho with
   | none,ho=>
    obtain ⟨b,hb,hbn⟩:=Er k w (ss (i:Int).toNat).by_ (by have:=hkw.le; omega)
    obtain ⟨r,hr,⟨rfl,_,_⟩ | ⟨rfl,_,hf⟩ | ⟨_,h2⟩⟩:=drU ta tb tc td nn n ss k w i b (by omega) hn (by have:=hkw.le; omega) hk' hb hz
    ·exact ⟨none,ho,hr⟩
    ·refine ⟨some (k+1,fun j=>if j<k then w j else (ss (i:Int).toNat).by_),fun q hq=>by cases hq; exact hkw.snoc (by rw [e0]; exact hby) (hbn hf),hr.weaken (VLes.refl _) (.cons (OLe.refl _) (.cons (OLe.refl _) (.cons (OLe.refl _) (.cons (OLe.refl _) (.cons (RB _ _ _) .nil)))))⟩
    ·omega
   | some (k2,w2),ho=>
    have hc:=ho _ rfl
    obtain ⟨b,hb,hbn⟩:=Er k2 w2 (ss (i:Int).toNat).by_ (by have:=hc.le; omega)
    obtain ⟨r,hr,⟨rfl,_,_⟩ | ⟨rfl,_,hf⟩ | ⟨_,h2⟩⟩:=drC ta tb tc td nn n ss k2 w2 i b (by omega) hn (by have:=hc.le; omega) hk' hb hz
    ·exact ⟨some (k2,w2),ho,hr⟩
    ·refine ⟨some (k2+1,fun j=>if j<k2 then w2 j else (ss (i:Int).toNat).by_),fun q hq=>by cases hq; exact hc.snoc (by rw [e0]; exact hby) (hbn hf),hr.weaken (VLes.refl _) (.cons (OLe.refl _) (.cons (OLe.refl _) (.cons (OLe.refl _) (.cons (OLe.refl _) (.cons (RB _ _ _) .nil)))))⟩
    ·omega
 ·have hk':(ss (i:Int).toNat).kind=2:=by rw [e0]; exact hk
  obtain ⟨bh,hbh⟩:=P9 ta tb tc td (K+1) _ hc
  have hbh':sP 162 [EV.agg (ss (i:Int).toNat).cond.cells,EV.agg (HR ta tb tc td)] (EV.bool bh):=by rw [e0]; exact hbh
  obtain ⟨t1,t2⟩:=N8 ta tb tc td ih (nn:=(ss i).n1) (n:=(ss i).l1) (row:=(ss i).r1) (by omega) hps
  obtain ⟨u1,u2⟩:=N8 ta tb tc td ih (nn:=(ss i).n2) (n:=(ss i).l2) (row:=(ss i).r2) (by omega) hqs
  rw [<-e0] at t1 t2 u1 u2
  have hi':(i:Int)<n:=by omega
  constructor
  ·intro o ho
   match o,ho with
   | none,ho=>
    cases bh with
    | true=>
     rcases t1 with x | ⟨k1,w1,hc1,x⟩
     ·exact ⟨none,ho,AAR ta tb tc td nn n ss 0 (fun _=>0) i true 0 (fun _=>0) (by omega) hn hk' hi' hbh' (fun _=>x) (fun h=>by cases h)⟩
     ·exact ⟨some (k1,w1),fun q hq=>by cases hq; exact hc1,AAS ta tb tc td nn n ss 0 (fun _=>0) i true k1 w1 (by omega) hn hk' hi' hbh' (fun _=>x) (fun h=>by cases h)⟩
    | false=>
     rcases u1 with x | ⟨k1,w1,hc1,x⟩
     ·exact ⟨none,ho,AAR ta tb tc td nn n ss 0 (fun _=>0) i false 0 (fun _=>0) (by omega) hn hk' hi' hbh' (fun h=>by cases h) (fun _=>x)⟩
     ·exact ⟨some (k1,w1),fun q hq=>by cases hq; exact hc1,AAS ta tb tc td nn n ss 0 (fun _=>0) i false k1 w1 (by omega) hn hk' hi' hbh' (fun h=>by cases h) (fun _=>x)⟩
   | some (k,w),ho=>
    cases bh with
    | true=>
     rcases t2 k w (ho _ rfl) with x | ⟨k1,w1,hc1,x⟩
     ·exact ⟨some (k,w),ho,AAT ta tb tc td nn n ss k w i true 0 (fun _=>0) (by omega) hn hk' hi' hbh' (fun _=>x) (fun h=>by cases h)⟩
     ·exact ⟨some (k1,w1),fun q hq=>by cases hq; exact hc1,AAU ta tb tc td nn n ss k w i true k1 w1 (by omega) hn hk' hi' hbh' (fun _=>x) (fun h=>by cases h)⟩
    | false=>
     rcases u2 k w (ho _ rfl) with x | ⟨k1,w1,hc1,x⟩
     ·exact ⟨some (k,w),ho,AAT ta tb tc td nn n ss k w i false 0 (fun _=>0) (by omega) hn hk' hi' hbh' (fun h=>by cases h) (fun _=>x)⟩
     ·exact ⟨some (k1,w1),fun q hq=>by cases hq; exact hc1,AAU ta tb tc td nn n ss k w i false k1 w1 (by omega) hn hk' hi' hbh' (fun h=>by cases h) (fun _=>x)⟩
  ·intro k w hkw o ho
   match o,ho with
   | none,ho=>
    cases bh with
    | true=>
     rcases t2 k w hkw with x | ⟨k1,w1,hc1,x⟩
     ·exact ⟨none,ho,AAV ta tb tc td nn n ss k w i true 0 (fun _=>0) (by omega) hn hk' hi' hbh' (fun _=>x) (fun h=>by cases h)⟩
     ·exact ⟨some (k1,w1),fun q hq=>by cases hq; exact hc1,AAW ta tb tc td nn n ss k w i true k1 w1 (by omega) hn hk' hi' hbh' (fun _=>x) (fun h=>by cases h)⟩
    | false=>
     rcases u2 k w hkw with x | ⟨k1,w1,hc1,x⟩
     ·exact ⟨none,ho,AAV ta tb tc td nn n ss k w i false 0 (fun _=>0) (by omega) hn hk' hi' hbh' (fun h=>by cases h) (fun _=>x)⟩
     ·exact ⟨some (k1,w1),fun q hq=>by cases hq; exact hc1,AAW ta tb tc td nn n ss k w i false k1 w1 (by omega) hn hk' hi' hbh' (fun h=>by cases h) (fun _=>x)⟩
   | some (k2,w2),ho=>
    cases bh with
    | true=>
     rcases t2 k2 w2 (ho _ rfl) with x | ⟨k1,w1,hc1,x⟩
     ·exact ⟨some (k2,w2),ho,AAX ta tb tc td nn n ss k2 w2 i true 0 (fun _=>0) (by omega) hn hk' hi' hbh' (fun _=>x) (fun h=>by cases h)⟩
     ·exact ⟨some (k1,w1),fun q hq=>by cases hq; exact hc1,AAY ta tb tc td nn n ss k2 w2 i true k1 w1 (by omega) hn hk' hi' hbh' (fun _=>x) (fun h=>by cases h)⟩
    | false=>
     rcases u2 k2 w2 (ho _ rfl) with x | ⟨k1,w1,hc1,x⟩
     ·exact ⟨some (k2,w2),ho,AAX ta tb tc td nn n ss k2 w2 i false 0 (fun _=>0) (by omega) hn hk' hi' hbh' (fun h=>by cases h) (fun _=>x)⟩
     ·exact ⟨some (k1,w1),fun q hq=>by cases hq; exact hc1,AAY ta tb tc td nn n ss k2 w2 i false k1 w1 (by omega) hn hk' hi' hbh' (fun h=>by cases h) (fun _=>x)⟩
theorem NB (nn:Bool)(n:Nat)(ss:Nat->StepV)(hn:n<=1048576)(hk:¬ (ss n).kind=2):
  (∀ o,HX o->sR 3 (cB (cB (cR (AB prog 161)))) (dT nn n ss n) (dHN ta tb tc td o) (EX.leave 0,frame 47 [],dHN ta tb tc td o))/\
  ∀ k w,CritL k w->∀ o,HX o->sR 4 (cB (cB (cR (AB prog 161)))) (dT nn n ss n) (dHU ta tb tc td k w o) (EX.leave 0,frame 47 [],dHU ta tb tc td k w o):=by
 have hk':¬ (ss (n:Int).toNat).kind=2:=by rw [Int.toNat_natCast]; exact hk
 have hz:sF 35 [EV.isl false 0 0 fun _=>[],EV.int .i64 (ss (n:Int).toNat).by_] [] (EV.bool false) []:=X8 _
 constructor
 ·intro o ho
  match o,ho with
  | none,_=>
   obtain ⟨b,hb,_⟩:=Er 0 (fun _=>0) (ss (n:Int).toNat).by_ (by omega)
   obtain ⟨r,hr,⟨_,h2,_⟩ | ⟨_,h2,_⟩ | ⟨rfl,_⟩⟩:=drN ta tb tc td nn n ss 0 (fun _=>0) n b (by omega) hn (by omega) hk' hb hz
   ·omega
   ·omega
   ·exact hr
  | some (k,w),ho=>
   have hc:=ho _ rfl
   obtain ⟨b,hb,_⟩:=Er k w (ss (n:Int).toNat).by_ (by have:=hc.le; omega)
   obtain ⟨r,hr,⟨_,h2,_⟩ | ⟨_,h2,_⟩ | ⟨rfl,_⟩⟩:=drD ta tb tc td nn n ss k w n b (by omega) hn (by have:=hc.le; omega) hk' hb hz
   ·omega
   ·omega
   ·exact hr
 ·intro k w hkw o ho
  match o,ho with
  | none,_=>
   obtain ⟨b,hb,_⟩:=Er k w (ss (n:Int).toNat).by_ (by have:=hkw.le; omega)
   obtain ⟨r,hr,⟨_,h2,_⟩ | ⟨_,h2,_⟩ | ⟨rfl,_⟩⟩:=drU ta tb tc td nn n ss k w n b (by omega) hn (by have:=hkw.le; omega) hk' hb hz
   ·omega
   ·omega
   ·exact hr
  | some (k2,w2),ho=>
   have hc:=ho _ rfl
   obtain ⟨b,hb,_⟩:=Er k2 w2 (ss (n:Int).toNat).by_ (by have:=hc.le; omega)
   obtain ⟨r,hr,⟨_,h2,_⟩ | ⟨_,h2,_⟩ | ⟨rfl,_⟩⟩:=drC ta tb tc td nn n ss k2 w2 n b (by omega) hn (by have:=hc.le; omega) hk' hb hz
   ·omega
   ·omega
   ·exact hr
theorem N9 (nn:Bool)(n:Nat)(ss:Nat->StepV)(hn:n<=1048576)(hk:¬ (ss n).kind=2)
  (rN:∀ i,i<n->∀ o,HX o->∃ o',HX o'/\sR 3 (cB (cB (cR (AB prog 161)))) (dT nn n ss i) (dHN ta tb tc td o) (EX.normal,dT nn n ss ((i:Int)+1),dHN ta tb tc td o'))
  (rU:∀ i,i<n->∀ k w,CritL k w->∀ o,HX o->∃ o',HX o'/\sR 4 (cB (cB (cR (AB prog 161)))) (dT nn n ss i) (dHU ta tb tc td k w o) (EX.normal,dT nn n ss ((i:Int)+1),dHU ta tb tc td k w o')):
  Un ta tb tc td nn n (fun i=>(ss i).cells)/\∀ k w,CritL k w->Uo ta tb tc td nn n (fun i=>(ss i).cells) k w:=by
 constructor
 ·obtain ⟨r,⟨o,rfl,ho⟩,h⟩:=SemLR.ex (P:=prog) (G:=globs') (rnd:=false) (c:=(cB (cB (cR (AB prog 161))))) 3 (X:=Nat×Option (Nat×(Nat->Int))) (fun x=>dT nn n ss x.1) (fun x=>dHN ta tb tc td x.2) n (fun i x=>x.1=i/\HX x.2)
   (fun r=>∃ o,r=(EX.leave 0,frame 47 [],dHN ta tb tc td o)/\HX o) (by
    rintro i ⟨j,o⟩ hi ⟨hj,ho⟩
    obtain rfl:j=i:=hj
    obtain ⟨o',ho',hr⟩:=rN j hi o ho
    exact .inl ⟨(j+1,o'),⟨rfl,ho'⟩,hr⟩) (by
    rintro ⟨j,o⟩ ⟨hj,ho⟩
    obtain rfl:j=n:=hj
    exact ⟨_,⟨o,rfl,ho⟩,by simp,(NB ta tb tc td nn j ss hn hk).1 o ho⟩) n 0 (0,none) (by omega) ⟨rfl,fun q hq=>by cases hq⟩
  have h':=h.cl (m:=3) rfl (path:=cB (cR (AB prog 161))) (by kernel_rfl)
  match o,ho,h' with
  | none,_,h'=>exact .inl (Y3 ta tb tc td nn n ss 0 (fun _=>0) 0 (fun _=>0) h')
  | some (k1,w1),ho,h'=>exact .inr ⟨k1,w1,ho _ rfl,Y4 ta tb tc td nn n ss 0 (fun _=>0) k1 w1 h'⟩
 ·intro k w hkw
  obtain ⟨r,⟨o,rfl,ho⟩,h⟩:=SemLR.ex (P:=prog) (G:=globs') (rnd:=false) (c:=(cB (cB (cR (AB prog 161))))) 4 (X:=Nat×Option (Nat×(Nat->Int))) (fun x=>dT nn n ss x.1) (fun x=>dHU ta tb tc td k w x.2) n (fun i x=>x.1=i/\HX x.2)
   (fun r=>∃ o,r=(EX.leave 0,frame 47 [],dHU ta tb tc td k w o)/\HX o) (by
    rintro i ⟨j,o⟩ hi ⟨hj,ho⟩
    obtain rfl:j=i:=hj
    obtain ⟨o',ho',hr⟩:=rU j hi k w hkw o ho
    exact .inl ⟨(j+1,o'),⟨rfl,ho'⟩,hr⟩) (by
    rintro ⟨j,o⟩ ⟨hj,ho⟩
    obtain rfl:j=n:=hj
    exact ⟨_,⟨o,rfl,ho⟩,by simp,(NB ta tb tc td nn j ss hn hk).2 k w hkw o ho⟩) n 0 (0,none) (by omega) ⟨rfl,fun q hq=>by cases hq⟩
  have h':=h.cl (m:=4) rfl (path:=cB (cR (AB prog 161))) (by kernel_rfl)
  match o,ho,h' with
  | none,_,h'=>exact .inl (Y5 ta tb tc td nn n ss k w 0 (fun _=>0) h')
  | some (k1,w1),ho,h'=>exact .inr ⟨k1,w1,ho _ rfl,Y6 ta tb tc td nn n ss k w k1 w1 h'⟩
theorem QA:∀ (K:Nat) (nn:Bool) (n:Nat) (ss:Nat->StepV),n<=1048576->(∀ i,i<n->GoodS K (ss i))->
  Un ta tb tc td nn n (fun i=>(ss i).cells)/\∀ k w,CritL k w->Uo ta tb tc td nn n (fun i=>(ss i).cells) k w:=by
 intro K
 induction K with
 | zero=>
  intro nn n ss hn h
  have h0:n=0:=by
   rcases Nat.eq_zero_or_pos n with h0 | h0
   ·exact h0
   ·exact (h 0 h0).elim
  subst h0
  have:=N9 ta tb tc td nn 0 (fun _=>default) hn (by decide) (fun i hi=>by omega) (fun i hi=>by omega)
  have hle:VLes [EV.isl nn 8 0 fun i=>(ss i).cells,.ptr 0 0,.ptr 1 0,.ptr 2 0] [EV.isl nn 8 0 fun _=>(default:StepV).cells,.ptr 0 0,.ptr 1 0,.ptr 2 0]:=.cons (VLe.isl' fun i hi=>by omega) (VLes.refl _)
  exact ⟨this.1.imp (fun x=>x.weaken hle (HLe.refl _) (VLe.refl _) (HLe.refl _)) fun ⟨k1,w1,a,x⟩=>⟨k1,w1,a,x.weaken hle (HLe.refl _) (VLe.refl _) (HLe.refl _)⟩,
   fun k w hc=>(this.2 k w hc).imp (fun x=>x.weaken hle (HLe.refl _) (VLe.refl _) (HLe.refl _)) fun ⟨k1,w1,a,x⟩=>⟨k1,w1,a,x.weaken hle (HLe.refl _) (VLe.refl _) (HLe.refl _)⟩⟩
 | succ K ih=>
  intro nn n ss hn h
  have hs:∀ i,i<n->(ss i).cells=((fun j=>if j<n then ss j else default) i:StepV).cells:=fun i hi=>by simp [hi]
  have hg:∀ i,i<n->GoodS (K+1) ((fun j=>if j<n then ss j else default) i):=fun i hi=>by simpa [hi] using h i hi
  have:=N9 ta tb tc td nn n (fun j=>if j<n then ss j else default) hn (by simp; decide) (fun i hi=>(Ks ta tb tc td ih nn n _ hn hg i hi).1) (fun i hi=>(Ks ta tb tc td ih nn n _ hn hg i hi).2)
  have hle:VLes [EV.isl nn 8 n fun i=>(ss i).cells,.ptr 0 0,.ptr 1 0,.ptr 2 0] [EV.isl nn 8 n fun i=>((fun j=>if j<n then ss j else default) i:StepV).cells,.ptr 0 0,.ptr 1 0,.ptr 2 0]:=.cons (VLe.isl' hs) (VLes.refl _)
  exact ⟨this.1.imp (fun x=>x.weaken hle (HLe.refl _) (VLe.refl _) (HLe.refl _)) fun ⟨k1,w1,a,x⟩=>⟨k1,w1,a,x.weaken hle (HLe.refl _) (VLe.refl _) (HLe.refl _)⟩,
   fun k w hc=>(this.2 k w hc).imp (fun x=>x.weaken hle (HLe.refl _) (VLe.refl _) (HLe.refl _)) fun ⟨k1,w1,a,x⟩=>⟨k1,w1,a,x.weaken hle (HLe.refl _) (VLe.refl _) (HLe.refl _)⟩⟩
end
theorem Y7 (ta:Int)(tb:Int)(tc:Int)(td:Int)(q0:(!hasB 2 24 (AO 1 ta tb tc td))=true):sP 160 [ag (AS ta tb tc td)] (iv 1):=
 kP [[(!hasB 2 24 (AO 1 ta tb tc td),true)]] (.mk (dS 67086) [] [some (iv (AO 1 ta tb tc td)),some (bv (hasB 2 24 (AO 1 ta tb tc td)))] [] []) (kO (kz q0 AD)) (oT (sP 214 [ag [iv 2,iv 24],iv (AO 1 ta tb tc td)] (bv (hasB 2 24 (AO 1 ta tb tc td)))) (D0 _ _ _) (oT (sP 215 [iv 1,ag [iv ta,iv tb,iv tc,iv td]] (iv (AO 1 ta tb tc td))) (Bx _ _ _ _ _) .nil))
theorem Y8 (ta:Int)(tb:Int)(tc:Int)(td:Int)(q0:(!hasB 2 24 (AO 1 ta tb tc td))=false)(q1:(!hasB 0 46 (AO 2 ta tb tc td))=true):sP 160 [ag (AS ta tb tc td)] (iv 1):=
 kP [[(!hasB 2 24 (AO 1 ta tb tc td),false),(!hasB 0 46 (AO 2 ta tb tc td),true)]] (.mk (dS 4396549662) [] [some (iv (AO 1 ta tb tc td)),some (bv (hasB 2 24 (AO 1 ta tb tc td))),some (iv (AO 2 ta tb tc td)),some (bv (hasB 0 46 (AO 2 ta tb tc td)))] [] []) (kO (kz q0 (kz q1 AD))) (oT (sP 214 [ag [iv 0,iv 46],iv (AO 2 ta tb tc td)] (bv (hasB 0 46 (AO 2 ta tb tc td)))) (D0 _ _ _) (oT (sP 215 [iv 2,ag [iv ta,iv tb,iv tc,iv td]] (iv (AO 2 ta tb tc td))) (Bx _ _ _ _ _) (oT (sP 214 [ag [iv 2,iv 24],iv (AO 1 ta tb tc td)] (bv (hasB 2 24 (AO 1 ta tb tc td)))) (D0 _ _ _) (oT (sP 215 [iv 1,ag [iv ta,iv tb,iv tc,iv td]] (iv (AO 1 ta tb tc td))) (Bx _ _ _ _ _) .nil))))
section
variable (ta:Int)(tb:Int)(tc:Int)(td:Int)(q0:(!hasB 2 24 (AO 1 ta tb tc td))=false)(q1:(!hasB 0 46 (AO 2 ta tb tc td))=false)
include ta tb tc td q0 q1
theorem Y9 (q2:(!hasB 0 1 (AO 3 ta tb tc td))=true):sP 160 [ag (AS ta tb tc td)] (iv 1):=
 kP [[(!hasB 2 24 (AO 1 ta tb tc td),false),(!hasB 0 46 (AO 2 ta tb tc td),false),(!hasB 0 1 (AO 3 ta tb tc td),true)]] (.mk (dS 288132278650158) [] [some (iv (AO 1 ta tb tc td)),some (bv (hasB 2 24 (AO 1 ta tb tc td))),some (iv (AO 2 ta tb tc td)),some (bv (hasB 0 46 (AO 2 ta tb tc td))),some (iv (AO 3 ta tb tc td)),some (bv (hasB 0 1 (AO 3 ta tb tc td)))] [] []) (kO (kz q0 (kz q1 (kz q2 AD)))) (oT (sP 214 [ag [iv 0,iv 1],iv (AO 3 ta tb tc td)] (bv (hasB 0 1 (AO 3 ta tb tc td)))) (D0 _ _ _) (oT (sP 215 [iv 3,ag [iv ta,iv tb,iv tc,iv td]] (iv (AO 3 ta tb tc td))) (Bx _ _ _ _ _) (oT (sP 214 [ag [iv 0,iv 46],iv (AO 2 ta tb tc td)] (bv (hasB 0 46 (AO 2 ta tb tc td)))) (D0 _ _ _) (oT (sP 215 [iv 2,ag [iv ta,iv tb,iv tc,iv td]] (iv (AO 2 ta tb tc td))) (Bx _ _ _ _ _) (oT (sP 214 [ag [iv 2,iv 24],iv (AO 1 ta tb tc td)] (bv (hasB 2 24 (AO 1 ta tb tc td)))) (D0 _ _ _) (oT (sP 215 [iv 1,ag [iv ta,iv tb,iv tc,iv td]] (iv (AO 1 ta tb tc td))) (Bx _ _ _ _ _) .nil))))))
theorem ZA (q2:(!hasB 0 1 (AO 3 ta tb tc td))=false)(q3:(!hasB 2 24 (AO 4 ta tb tc td))=true):sP 160 [ag (AS ta tb tc td)] (iv 1):=
 kP [[(!hasB 2 24 (AO 1 ta tb tc td),false),(!hasB 0 46 (AO 2 ta tb tc td),false),(!hasB 0 1 (AO 3 ta tb tc td),false),(!hasB 2 24 (AO 4 ta tb tc td),true)]] (.mk (dS 0x1060e061e052e043e) [] [some (iv (AO 1 ta tb tc td)),some (bv (hasB 2 24 (AO 1 ta tb tc td))),some (iv (AO 2 ta tb tc td)),some (bv (hasB 0 46 (AO 2 ta tb tc td))),some (iv (AO 3 ta tb tc td)),some (bv (hasB 0 1 (AO 3 ta tb tc td))),some (iv (AO 4 ta tb tc td)),some (bv (hasB 2 24 (AO 4 ta tb tc td)))] [] []) (kO (kz q0 (kz q1 (kz q2 (kz q3 AD))))) (oT (sP 214 [ag [iv 2,iv 24],iv (AO 4 ta tb tc td)] (bv (hasB 2 24 (AO 4 ta tb tc td)))) (D0 _ _ _) (oT (sP 215 [iv 4,ag [iv ta,iv tb,iv tc,iv td]] (iv (AO 4 ta tb tc td))) (Bx _ _ _ _ _) (oT (sP 214 [ag [iv 0,iv 1],iv (AO 3 ta tb tc td)] (bv (hasB 0 1 (AO 3 ta tb tc td)))) (D0 _ _ _) (oT (sP 215 [iv 3,ag [iv ta,iv tb,iv tc,iv td]] (iv (AO 3 ta tb tc td))) (Bx _ _ _ _ _) (oT (sP 214 [ag [iv 0,iv 46],iv (AO 2 ta tb tc td)] (bv (hasB 0 46 (AO 2 ta tb tc td)))) (D0 _ _ _) (oT (sP 215 [iv 2,ag [iv ta,iv tb,iv tc,iv td]] (iv (AO 2 ta tb tc td))) (Bx _ _ _ _ _) (oT (sP 214 [ag [iv 2,iv 24],iv (AO 1 ta tb tc td)] (bv (hasB 2 24 (AO 1 ta tb tc td)))) (D0 _ _ _) (oT (sP 215 [iv 1,ag [iv ta,iv tb,iv tc,iv td]] (iv (AO 1 ta tb tc td))) (Bx _ _ _ _ _) .nil))))))))
theorem ZB (q2:(!hasB 0 1 (AO 3 ta tb tc td))=false)(q3:(!hasB 2 24 (AO 4 ta tb tc td))=false):sP 160 [ag (AS ta tb tc td)] (iv 0):=
 kP [[(!hasB 2 24 (AO 1 ta tb tc td),false),(!hasB 0 46 (AO 2 ta tb tc td),false),(!hasB 0 1 (AO 3 ta tb tc td),false),(!hasB 2 24 (AO 4 ta tb tc td),false)]] (.mk (dS 0x1060e061e052e043e) [] [some (iv (AO 1 ta tb tc td)),some (bv (hasB 2 24 (AO 1 ta tb tc td))),some (iv (AO 2 ta tb tc td)),some (bv (hasB 0 46 (AO 2 ta tb tc td))),some (iv (AO 3 ta tb tc td)),some (bv (hasB 0 1 (AO 3 ta tb tc td))),some (iv (AO 4 ta tb tc td)),some (bv (hasB 2 24 (AO 4 ta tb tc td)))] [] []) (kO (kz q0 (kz q1 (kz q2 (kz q3 AD))))) (oT (sP 214 [ag [iv 2,iv 24],iv (AO 4 ta tb tc td)] (bv (hasB 2 24 (AO 4 ta tb tc td)))) (D0 _ _ _) (oT (sP 215 [iv 4,ag [iv ta,iv tb,iv tc,iv td]] (iv (AO 4 ta tb tc td))) (Bx _ _ _ _ _) (oT (sP 214 [ag [iv 0,iv 1],iv (AO 3 ta tb tc td)] (bv (hasB 0 1 (AO 3 ta tb tc td)))) (D0 _ _ _) (oT (sP 215 [iv 3,ag [iv ta,iv tb,iv tc,iv td]] (iv (AO 3 ta tb tc td))) (Bx _ _ _ _ _) (oT (sP 214 [ag [iv 0,iv 46],iv (AO 2 ta tb tc td)] (bv (hasB 0 46 (AO 2 ta tb tc td)))) (D0 _ _ _) (oT (sP 215 [iv 2,ag [iv ta,iv tb,iv tc,iv td]] (iv (AO 2 ta tb tc td))) (Bx _ _ _ _ _) (oT (sP 214 [ag [iv 2,iv 24],iv (AO 1 ta tb tc td)] (bv (hasB 2 24 (AO 1 ta tb tc td)))) (D0 _ _ _) (oT (sP 215 [iv 1,ag [iv ta,iv tb,iv tc,iv td]] (iv (AO 1 ta tb tc td))) (Bx _ _ _ _ _) .nil))))))))
end
theorem ACp (ta:Int)(tb:Int)(tc:Int)(td:Int):∃ e,sP 160 [ag (HR ta tb tc td)] (iv e):=by
 rcases bT (!hasB 2 24 (AO 1 ta tb tc td)) with q0 | q0
 ·exact ⟨_,(Y7 ta tb tc td q0)⟩
 ·rcases bT (!hasB 0 46 (AO 2 ta tb tc td)) with q1 | q1
  ·exact ⟨_,(Y8 ta tb tc td q0 q1)⟩
  ·rcases bT (!hasB 0 1 (AO 3 ta tb tc td)) with q2 | q2
   ·exact ⟨_,(Y9 ta tb tc td q0 q1 q2)⟩
   ·rcases bT (!hasB 2 24 (AO 4 ta tb tc td)) with q3 | q3
    ·exact ⟨_,(ZA ta tb tc td q0 q1 q2 q3)⟩
    ·exact ⟨_,(ZB ta tb tc td q0 q1 q2 q3)⟩
abbrev Gi (a0:Bool)(a1:Nat)(a2:Nat->List EV):=[sl a0 8 a1 a2,.ptr 0 0,.ptr 1 0,.ptr 2 0]
section
variable (ta:Int)(tb:Int)(tc:Int)(td:Int)(nn:Bool)(n:Nat)(row:Nat->List EV)(k:Nat)(w:Nat->Int)(e1:Int)(e2:Int)(iho:sP 159 [sl nn 8 n row] (iv e1))(ihe:sP 160 [ag (HR ta tb tc td)] (iv e2))
include ta tb tc td nn n row k w e1 e2 iho ihe
theorem ZC (ih:sF 161 (Gi nn n row) (Ay ta tb tc td) (tu []) (Ay ta tb tc td))(q0:(e1 != 0)=true):sP 92 [sl nn 8 n row,ag (AS ta tb tc td)] (tu [BC,iv e1]):=
 kPm BU B8 [[(e1 != 0,true)]] (.mk (dS 16) [] [some (iv e1)] [] []) (kO (kz q0 AD)) (.cons iho .nil)
theorem ZD (ih:sF 161 (Gi nn n row) (Ay ta tb tc td) (tu []) (Ay ta tb tc td))(q0:(e1 != 0)=false)(q1:(e2 != 0)=true):sP 92 [sl nn 8 n row,ag (AS ta tb tc td)] (tu [BC,iv e2]):=
 kPm BU B8 [[(e1 != 0,false),(e2 != 0,true)]] (.mk (dS 257) [] [some (iv e1),some (iv e2)] [] []) (kO (kz q0 (kz q1 AD))) (.cons ihe (.cons iho .nil))
theorem ZE (ih:sF 161 (Gi nn n row) (Ay ta tb tc td) (tu []) (Ay ta tb tc td))(q0:(e1 != 0)=false)(q1:(e2 != 0)=false):sP 92 [sl nn 8 n row,ag (AS ta tb tc td)] (tu [BC,iv 0]):=
 kPm BU B8 [[(e1 != 0,false),(e2 != 0,false)]] (.mk (dS 257) [] [some (iv e1),some (iv e2)] [some ((tu [],[ov (AS ta tb tc td),B3,A5]))] []) (kO (kz q0 (kz q1 AD))) (.cons ih (.cons ihe (.cons iho .nil)))
theorem ACq (ih:sF 161 [sl nn 8 n row,.ptr 0 0,.ptr 1 0,.ptr 2 0] [dX ta tb tc td,dA,dB0] (tu []) [dX ta tb tc td,dA,dB0]):∃ v,sP 92 [sl nn 8 n row,ag (HR ta tb tc td)] v/\((∃ e,v=tu [.isl false 0 0 fun _=>[],.int .i64 e])∨v=tu [.isl false 0 0 fun _=>[],.int .i64 0]):=by
 rcases bT (e1 != 0) with q0 | q0
 ·exact e9 (ZC ta tb tc td nn n row k w e1 e2 iho ihe ih q0)
 ·rcases bT (e2 != 0) with q1 | q1
  ·exact e9 (ZD ta tb tc td nn n row k w e1 e2 iho ihe ih q0 q1)
  ·exact e9 (ZE ta tb tc td nn n row k w e1 e2 iho ihe ih q0 q1)
theorem ZF (ih:sF 161 (Gi nn n row) (Ay ta tb tc td) (tu []) (AR ta tb tc td k w))(q0:(e1 != 0)=true):sP 92 [sl nn 8 n row,ag (AS ta tb tc td)] (tu [BC,iv e1]):=
 kPm BU B8 [[(e1 != 0,true)]] (.mk (dS 16) [] [some (iv e1)] [] []) (kO (kz q0 AD)) (.cons iho .nil)
theorem ZG (ih:sF 161 (Gi nn n row) (Ay ta tb tc td) (tu []) (AR ta tb tc td k w))(q0:(e1 != 0)=false)(q1:(e2 != 0)=true):sP 92 [sl nn 8 n row,ag (AS ta tb tc td)] (tu [BC,iv e2]):=
 kPm BU B8 [[(e1 != 0,false),(e2 != 0,true)]] (.mk (dS 257) [] [some (iv e1),some (iv e2)] [] []) (kO (kz q0 (kz q1 AD))) (.cons ihe (.cons iho .nil))
theorem ZH (ih:sF 161 (Gi nn n row) (Ay ta tb tc td) (tu []) (AR ta tb tc td k w))(q0:(e1 != 0)=false)(q1:(e2 != 0)=false):sP 92 [sl nn 8 n row,ag (AS ta tb tc td)] (tu [sl true 1 k fun i=>(Cd w i),iv 0]):=
 kPm BU B8 [[(e1 != 0,false),(e2 != 0,false)]] (.mk (dS 257) [] [some (iv e1),some (iv e2)] [some ((tu [],(BI ta tb tc td k w)))] []) (kO (kz q0 (kz q1 AD))) (.cons ih (.cons ihe (.cons iho .nil)))
theorem ACr (ih:sF 161 [sl nn 8 n row,.ptr 0 0,.ptr 1 0,.ptr 2 0] [dX ta tb tc td,dA,dB0] (tu []) [dX ta tb tc td,dA,dB 3 k,dL k w]):∃ v,sP 92 [sl nn 8 n row,ag (HR ta tb tc td)] v/\((∃ e,v=tu [.isl false 0 0 fun _=>[],.int .i64 e])∨v=tu [nums true k fun i=>w (0+i),.int .i64 0]):=by
 rcases bT (e1 != 0) with q0 | q0
 ·exact e9 (ZF ta tb tc td nn n row k w e1 e2 iho ihe ih q0)
 ·rcases bT (e2 != 0) with q1 | q1
  ·exact e9 (ZG ta tb tc td nn n row k w e1 e2 iho ihe ih q0 q1)
  ·exact e9 (ZH ta tb tc td nn n row k w e1 e2 iho ihe ih q0 q1)
end
theorem PLe.isl0 {a b:Nat}{r r':Nat->List EV}:PLe (.isl false a 0 r) (.isl false b 0 r'):=fun F w mv h=>by cases h; exact .isln _ _
theorem PLe.tuple2 {a b c d:EV}(h:PLe a c)(g:PLe b d):PLe (.tuple [a,b]) (.tuple [c,d]):=by
 intro F w mv hp
 cases hp with
 | tuple _ mcs hl hx=>
  refine .tuple _ _ hl fun i h1 h2=>?_
  match i,h1 with
  | 0,_=>exact h F w _ (hx 0 (by simp) h2)
  | 1,_=>exact g F w _ (hx 1 (by simp) h2)
theorem Rk {n:Nat}{row:Nat->List EV}{ps:Nat->StepV}{nn:Bool}(h:∀ i,i<n->row i=(ps i).cells):VLes [EV.isl nn 8 n row,.ptr 0 0,.ptr 1 0,.ptr 2 0] [EV.isl nn 8 n fun i=>(ps i).cells,.ptr 0 0,.ptr 1 0,.ptr 2 0]:=.cons (VLe.isl' h) (VLes.refl _)
theorem RD (K:Nat)(R:RulesV)(ht:R.Tree K)(hg:R.Good K)(ta tb tc td:Int):
  ∃ nn k w e,sP 92 [EV.isl R.onn 8 R.on R.orow,EV.agg (HR ta tb tc td)] (EV.tuple [nums nn k w,.int .i64 e])/\CritL k w:=by
 obtain ⟨hon,_,ps,hps⟩:=ht
 obtain ⟨_,_,_,_,_,qs,hqs⟩:=hg
 obtain ⟨e1,he1,_⟩:=P8 K R.on R.onn ps hon (fun i hi=>(hps i hi).2)
 have he1':sP 159 [EV.isl R.onn 8 R.on R.orow] (EV.int .i64 e1):=he1.weaken (.cons (PLe.isl fun i hi=>(hps i hi).1) .nil) (.refl _)
 obtain ⟨e2,he2⟩:=ACp ta tb tc td
 have c0:CritL 0 fun _=>0:=⟨fun i hi=>by omega,fun i j hij hj=>by omega⟩
 rcases (QA ta tb tc td K R.onn R.on qs hon (fun i hi=>(hqs i hi).2)).1 with x | ⟨k1,w1,hc1,x⟩
 ·obtain ⟨v,hv,⟨e,rfl⟩ | rfl⟩:=ACq ta tb tc td R.onn R.on R.orow 0 (fun _=>0) e1 e2 he1' he2 (x.weaken (Rk fun i hi=>(hqs i hi).1) (HLe.refl _) (VLe.refl _) (HLe.refl _))
  ·exact ⟨false,0,_,e,hv.res (PLe.tuple2 PLe.isl0 (.refl _)),c0⟩
  ·exact ⟨false,0,_,0,hv.res (PLe.tuple2 PLe.isl0 (.refl _)),c0⟩
 ·obtain ⟨v,hv,⟨e,rfl⟩ | rfl⟩:=ACr ta tb tc td R.onn R.on R.orow k1 w1 e1 e2 he1' he2 (x.weaken (Rk fun i hi=>(hqs i hi).1) (HLe.refl _) (VLe.refl _) (HLe.refl _))
  ·exact ⟨false,0,_,e,hv.res (PLe.tuple2 PLe.isl0 (.refl _)),c0⟩
  ·exact ⟨true,k1,w1,0,hv.res (PLe.tuple2 (PLe.isl fun i _=>by simp) (.refl _)),hc1⟩
noncomputable abbrev LN (a0:Bool)(a1:Nat)(a2:Nat->Int)(a3:Int)(a4:Bool):=frame 56 [(1,sl a0 1 a1 fun i=>[iv (a2 i)]),(2,iv a3),(3,bv a4),(8,pt 0 0),(9,EV.mm 1)]
abbrev Dp (a0:Nat->ResD)(a1:Int):=[(iv (a0 a1.toNat).home,iv 1)]
abbrev Es (a0:Nat->ResD)(a1:Int)(a2:List (EV×EV)):=(iv (a0 a1.toNat).home,iv (IntKind.i64.wrap (CY (iv (a0 a1.toNat).home) a2+1)))
noncomputable abbrev Gj:=cB (cR (cL (cR (cR (AB prog 93)))))
abbrev Ce:=ov [iv 0,iv 0,iv 0,iv 0]
abbrev OA (a0:Nat->ResD)(a1:Int)(a2:List (EV×EV)):=(BD (CO a0 a1) (a2.set (BD (CP a0 a1) a2) (Es a0 a1 a2)),iv (CY (CO a0 a1) (a2.set (BD (CP a0 a1) a2) (Es a0 a1 a2))))
abbrev JD (a0:Nat->ResD)(a1:Int)(a2:List (EV×EV)):=(BD (CP a0 a1) a2,iv (CY (CP a0 a1) a2))
abbrev EG (a0:List (EV×EV)):=[Ce,A8 a0]
section
variable (nn:Bool)(n:Nat)(rs:Nat->ResD)(n2:Bool)(m:Nat)(w:Nat->Int)(t:Int)(fi:Bool)(e1:List (EV×EV))(i:Int)(h0:0<=i)(h3:n<=100000)(he1:MapOf EW Cu e1)
include nn n rs n2 m w t fi e1 i h0 h3 he1
theorem AAa (q0:AH i n)(q1:(BF (iv (rs i.toNat).home) e1)=true)(q2:(BF (iv (rs i.toNat).away) (e1.set (BD (iv (rs i.toNat).home) e1) (iv (rs i.toNat).home,iv (IntKind.i64.wrap (CY (iv (rs i.toNat).home) e1+1)))))=true):sC (cB (Gj)) (frame 56 [(1,nums n2 m w),(2,.int .i64 t),(3,.bool fi),(8,.ptr 0 0),(9,.mm 1),(16,.isl nn 13 n fun i=>(rs i).cells),(17,.int .i64 n),(18,.int .i64 i)]) ((EG e1)) (xN,(frame 56 [(1,sl n2 1 m fun i=>[iv (w i)]),(2,iv t),(3,bv fi),(8,pt 0 0),(9,EV.mm 1),(16,sl nn 13 n fun i=>(rs i).cells),(17,iv ↑n),(18,iv (i+1))]),[Ce,EObj.map false true ((e1.set (BD (CP rs i) e1) (Es rs i e1)).set (BD (CO rs i) (e1.set (BD (CP rs i) e1) (Es rs i e1))) (iv (rs i.toNat).away,iv (IntKind.i64.wrap (CY (CO rs i) (e1.set (BD (CP rs i) e1) (Es rs i e1))+1))))]):=
 kC [[AG i n,(BF (CP rs i) e1,true),(BF (CO rs i) (e1.set (BD (CP rs i) e1) (Es rs i e1)),true)]] (.mk (dS 279751850) [] [] [] [some (some (JD rs i e1)),some (some (JD rs i e1)),some (some (OA rs i e1)),some (some (OA rs i e1))]) (kO (kz q0 (kz q1 (kz q2 AD)))) (oI ((inR IntKind.i64 (i+1))=true) (oT ((sameAt (e1.set (BD (iv (rs i.toNat).home) e1) (iv (rs i.toNat).home,iv (IntKind.i64.wrap (CY (iv (rs i.toNat).home) e1+1)))) (BD (iv (rs i.toNat).away) (e1.set (BD (iv (rs i.toNat).home) e1) (iv (rs i.toNat).home,iv (IntKind.i64.wrap (CY (iv (rs i.toNat).home) e1+1))))) (iv (rs i.toNat).away))=true) (by exact Dh (V:=Cu) mT (by assumption)) (oT (Ai prog 3 (iv (rs i.toNat).away) (e1.set (BD (iv (rs i.toNat).home) e1) (iv (rs i.toNat).home,iv (IntKind.i64.wrap (CY (iv (rs i.toNat).home) e1+1)))) 0 (some (BD (iv (rs i.toNat).away) (e1.set (BD (iv (rs i.toNat).home) e1) (iv (rs i.toNat).home,iv (IntKind.i64.wrap (CY (iv (rs i.toNat).home) e1+1)))),iv (CY (iv (rs i.toNat).away) (e1.set (BD (iv (rs i.toNat).home) e1) (iv (rs i.toNat).home,iv (IntKind.i64.wrap (CY (iv (rs i.toNat).home) e1+1)))))))) (CD mT (by assumption)) (oT (Ai prog 3 (iv (rs i.toNat).away) (e1.set (BD (iv (rs i.toNat).home) e1) (iv (rs i.toNat).home,iv (IntKind.i64.wrap (CY (iv (rs i.toNat).home) e1+1)))) 0 (some (BD (iv (rs i.toNat).away) (e1.set (BD (iv (rs i.toNat).home) e1) (iv (rs i.toNat).home,iv (IntKind.i64.wrap (CY (iv (rs i.toNat).home) e1+1)))),iv (CY (iv (rs i.toNat).away) (e1.set (BD (iv (rs i.toNat).home) e1) (iv (rs i.toNat).home,iv (IntKind.i64.wrap (CY (iv (rs i.toNat).home) e1+1)))))))) (CD mT (by assumption)) (oT ((sameAt e1 (BD (iv (rs i.toNat).home) e1) (iv (rs i.toNat).home))=true) (by exact Dh (V:=Cu) mT (by assumption)) (oT (Ai prog 3 (iv (rs i.toNat).home) e1 0 (some (BD (iv (rs i.toNat).home) e1,iv (CY (iv (rs i.toNat).home) e1)))) (CD mT (by assumption)) (oT (Ai prog 3 (iv (rs i.toNat).home) e1 0 (some (BD (iv (rs i.toNat).home) e1,iv (CY (iv (rs i.toNat).home) e1)))) (CD mT (by assumption)) (oJ ((inB i n)=true) .nil)))))))) 459534 3 2
theorem AAb (q0:AH i n)(q1:(BF (iv (rs i.toNat).home) e1)=true)(q2:(BF (iv (rs i.toNat).away) (e1.set (BD (iv (rs i.toNat).home) e1) (iv (rs i.toNat).home,iv (IntKind.i64.wrap (CY (iv (rs i.toNat).home) e1+1)))))=false):sC (cB (Gj)) (frame 56 [(1,nums n2 m w),(2,.int .i64 t),(3,.bool fi),(8,.ptr 0 0),(9,.mm 1),(16,.isl nn 13 n fun i=>(rs i).cells),(17,.int .i64 n),(18,.int .i64 i)]) ((EG e1)) (xN,(frame 56 [(1,sl n2 1 m fun i=>[iv (w i)]),(2,iv t),(3,bv fi),(8,pt 0 0),(9,EV.mm 1),(16,sl nn 13 n fun i=>(rs i).cells),(17,iv ↑n),(18,iv (i+1))]),[Ce,EObj.map false true (e1.set (BD (CP rs i) e1) (Es rs i e1)++[(iv (rs i.toNat).away,iv 1)])]):=
 kC [[AG i n,(BF (CP rs i) e1,true),(BF (CO rs i) (e1.set (BD (CP rs i) e1) (Es rs i e1)),false)]] (.mk (dS 4475978158) [] [] [] [some (some (JD rs i e1)),some (some (JD rs i e1)),some (none),some (none)]) (kO (kz q0 (kz q1 (kz q2 AD)))) (oI ((inR IntKind.i64 (i+1))=true) (oT (Ai prog 3 (iv (rs i.toNat).away) (e1.set (BD (iv (rs i.toNat).home) e1) (iv (rs i.toNat).home,iv (IntKind.i64.wrap (CY (iv (rs i.toNat).home) e1+1)))) 0 none) (B2 (V:=Cu) mT (by assumption)) (oT (Ai prog 3 (iv (rs i.toNat).away) (e1.set (BD (iv (rs i.toNat).home) e1) (iv (rs i.toNat).home,iv (IntKind.i64.wrap (CY (iv (rs i.toNat).home) e1+1)))) 0 none) (B2 (V:=Cu) mT (by assumption)) (oT ((sameAt e1 (BD (iv (rs i.toNat).home) e1) (iv (rs i.toNat).home))=true) (by exact Dh (V:=Cu) mT (by assumption)) (oT (Ai prog 3 (iv (rs i.toNat).home) e1 0 (some (BD (iv (rs i.toNat).home) e1,iv (CY (iv (rs i.toNat).home) e1)))) (CD mT (by assumption)) (oT (Ai prog 3 (iv (rs i.toNat).home) e1 0 (some (BD (iv (rs i.toNat).home) e1,iv (CY (iv (rs i.toNat).home) e1)))) (CD mT (by assumption)) (oJ ((inB i n)=true) .nil))))))) 459534 3 2
theorem AAc (q0:AH i n)(q1:(BF (iv (rs i.toNat).home) e1)=false)(q2:(BF (iv (rs i.toNat).away) (e1++[(iv (rs i.toNat).home,iv 1)]))=true):sC (cB (Gj)) (frame 56 [(1,nums n2 m w),(2,.int .i64 t),(3,.bool fi),(8,.ptr 0 0),(9,.mm 1),(16,.isl nn 13 n fun i=>(rs i).cells),(17,.int .i64 n),(18,.int .i64 i)]) ((EG e1)) (xN,(frame 56 [(1,sl n2 1 m fun i=>[iv (w i)]),(2,iv t),(3,bv fi),(8,pt 0 0),(9,EV.mm 1),(16,sl nn 13 n fun i=>(rs i).cells),(17,iv ↑n),(18,iv (i+1))]),[Ce,EObj.map false true ((e1++(Dp rs i)).set (BD (CO rs i) (e1++(Dp rs i))) (iv (rs i.toNat).away,iv (IntKind.i64.wrap (CY (CO rs i) (e1++(Dp rs i))+1))))]):=
 kC [[AG i n,(BF (CP rs i) e1,false),(BF (CO rs i) (e1++(Dp rs i)),true)]] (.mk (dS 4462857898) [] [] [] [some (none),some (none),some (some (BD (CO rs i) (e1++(Dp rs i)),iv (CY (CO rs i) (e1++(Dp rs i))))),some (some (BD (CO rs i) (e1++(Dp rs i)),iv (CY (CO rs i) (e1++(Dp rs i)))))]) (kO (kz q0 (kz q1 (kz q2 AD)))) (oI ((inR IntKind.i64 (i+1))=true) (oT ((sameAt (e1++[(iv (rs i.toNat).home,iv 1)]) (BD (iv (rs i.toNat).away) (e1++[(iv (rs i.toNat).home,iv 1)])) (iv (rs i.toNat).away))=true) (by exact Dh (V:=Cu) mT (by assumption)) (oT (Ai prog 3 (iv (rs i.toNat).away) (e1++[(iv (rs i.toNat).home,iv 1)]) 0 (some (BD (iv (rs i.toNat).away) (e1++[(iv (rs i.toNat).home,iv 1)]),iv (CY (iv (rs i.toNat).away) (e1++[(iv (rs i.toNat).home,iv 1)]))))) (CD mT (by assumption)) (oT (Ai prog 3 (iv (rs i.toNat).away) (e1++[(iv (rs i.toNat).home,iv 1)]) 0 (some (BD (iv (rs i.toNat).away) (e1++[(iv (rs i.toNat).home,iv 1)]),iv (CY (iv (rs i.toNat).away) (e1++[(iv (rs i.toNat).home,iv 1)]))))) (CD mT (by assumption)) (oT (Ai prog 3 (iv (rs i.toNat).home) e1 0 none) (B2 (V:=Cu) mT (by assumption)) (oT (Ai prog 3 (iv (rs i.toNat).home) e1 0 none) (B2 (V:=Cu) mT (by assumption)) (oJ ((inB i n)=true) .nil))))))) 459534 3 2
theorem AAd (q0:AH i n)(q1:(BF (iv (rs i.toNat).home) e1)=false)(q2:(BF (iv (rs i.toNat).away) (e1++[(iv (rs i.toNat).home,iv 1)]))=false):sC (cB (Gj)) (frame 56 [(1,nums n2 m w),(2,.int .i64 t),(3,.bool fi),(8,.ptr 0 0),(9,.mm 1),(16,.isl nn 13 n fun i=>(rs i).cells),(17,.int .i64 n),(18,.int .i64 i)]) ((EG e1)) (xN,(frame 56 [(1,sl n2 1 m fun i=>[iv (w i)]),(2,iv t),(3,bv fi),(8,pt 0 0),(9,EV.mm 1),(16,sl nn 13 n fun i=>(rs i).cells),(17,iv ↑n),(18,iv (i+1))]),[Ce,EObj.map false true (e1++(Dp rs i)++[(iv (rs i.toNat).away,iv 1)])]):=
 kC [[AG i n,(BF (CP rs i) e1,false),(BF (CO rs i) (e1++(Dp rs i)),false)]] (.mk (dS 17433262) [] [] [] [some (none),some (none),some (none),some (none)]) (kO (kz q0 (kz q1 (kz q2 AD)))) (oI ((inR IntKind.i64 (i+1))=true) (oT (Ai prog 3 (iv (rs i.toNat).away) (e1++[(iv (rs i.toNat).home,iv 1)]) 0 none) (B2 (V:=Cu) mT (by assumption)) (oT (Ai prog 3 (iv (rs i.toNat).away) (e1++[(iv (rs i.toNat).home,iv 1)]) 0 none) (B2 (V:=Cu) mT (by assumption)) (oT (Ai prog 3 (iv (rs i.toNat).home) e1 0 none) (B2 (V:=Cu) mT (by assumption)) (oT (Ai prog 3 (iv (rs i.toNat).home) e1 0 none) (B2 (V:=Cu) mT (by assumption)) (oJ ((inB i n)=true) .nil)))))) 459534 3 2
theorem AAe (q0:Af i n):sC (cB (Gj)) (frame 56 [(1,nums n2 m w),(2,.int .i64 t),(3,.bool fi),(8,.ptr 0 0),(9,.mm 1),(16,.isl nn 13 n fun i=>(rs i).cells),(17,.int .i64 n),(18,.int .i64 i)]) ((EG e1)) (xL 0,(LN n2 m w t fi),(EG e1)):=
 kC (Ae i n) (.mk (dS 16) [] [] [] []) (kO (kz q0 AD)) .nil 782 3 2
theorem enB:∃ r_:RC,sC (cB (cB (cR (cL (cR (cR (AB prog 93))))))) (frame 56 [(1,nums n2 m w),(2,.int .i64 t),(3,.bool fi),(8,.ptr 0 0),(9,.mm 1),(16,.isl nn 13 n fun i=>(rs i).cells),(17,.int .i64 n),(18,.int .i64 i)]) ([ov [iv 0,iv 0,iv 0,iv 0],EObj.map false true e1]) r_/\((∃ e1',r_=(xN,frame 56 [(1,nums n2 m w),(2,.int .i64 t),(3,.bool fi),(8,.ptr 0 0),(9,.mm 1),(16,.isl nn 13 n fun i=>(rs i).cells),(17,.int .i64 n),(18,.int .i64 (i+1))],[ov [iv 0,iv 0,iv 0,iv 0],EObj.map false true e1'])/\i<n/\MapOf EW Cu e1')∨(r_=(xL 0,frame 56 [(1,nums n2 m w),(2,.int .i64 t),(3,.bool fi),(8,.ptr 0 0),(9,.mm 1)],[ov [iv 0,iv 0,iv 0,iv 0],EObj.map false true e1])/\n<=i)):=by
 rcases bT (decide (i<↑n)) with q0 | q0
 ·rcases bT (BF (iv (rs i.toNat).home) e1) with q1 | q1
  ·rcases bT (BF (iv (rs i.toNat).away) (e1.set (BD (iv (rs i.toNat).home) e1) (iv (rs i.toNat).home,iv (IntKind.i64.wrap (CY (iv (rs i.toNat).home) e1+1))))) with q2 | q2
   ·exact ⟨_,(AAa nn n rs n2 m w t fi e1 i h0 h3 he1 q0 q1 q2),by first | exact .inl ⟨_,rfl,by simp_all,mT⟩ | exact .inr ⟨rfl,by simp_all⟩⟩
   ·exact ⟨_,(AAb nn n rs n2 m w t fi e1 i h0 h3 he1 q0 q1 q2),by first | exact .inl ⟨_,rfl,by simp_all,mT⟩ | exact .inr ⟨rfl,by simp_all⟩⟩
  ·rcases bT (BF (iv (rs i.toNat).away) (e1++[(iv (rs i.toNat).home,iv 1)])) with q2 | q2
   ·exact ⟨_,(AAc nn n rs n2 m w t fi e1 i h0 h3 he1 q0 q1 q2),by first | exact .inl ⟨_,rfl,by simp_all,mT⟩ | exact .inr ⟨rfl,by simp_all⟩⟩
   ·exact ⟨_,(AAd nn n rs n2 m w t fi e1 i h0 h3 he1 q0 q1 q2),by first | exact .inl ⟨_,rfl,by simp_all,mT⟩ | exact .inr ⟨rfl,by simp_all⟩⟩
 ·exact ⟨_,(AAe nn n rs n2 m w t fi e1 i h0 h3 he1 q0),by first | exact .inl ⟨_,rfl,by simp_all,mT⟩ | exact .inr ⟨rfl,by simp_all⟩⟩
end
noncomputable abbrev TA (a0:Bool):=frame 56 [(3,bv a0),(8,pt 0 0),(12,pt 2 0)]
noncomputable abbrev LO (a0:Bool)(a1:Bool)(a2:Nat)(a3:Nat->Int)(a4:Int):=frame 56 [(3,.bool a0),(8,.ptr 0 0),(9,.mm 1),(12,.ptr 2 0),(39,nums a1 a2 a3),(40,.int .i64 a2),(41,.int .i64 a4)]
noncomputable abbrev JE:=cB (cR (cL (cR (cR (cR (cR (AB prog 93)))))))
noncomputable abbrev LP (a0:Bool)(a1:Int)(a2:Int)(a3:Nat):RC:=(xL 2,(TA a0),[Ce,oD,ov [iv a1,iv a2,iv 0,iv ↑a3]])
section
variable (n2:Bool)(m:Nat)(w:Nat->Int)(t:Int)(fi:Bool)(e1:List (EV×EV))(rd:Int)(i:Int)(h0:0<=i)(h3:m<=100000)(he1:MapOf EW Cu e1)
include n2 m w t fi e1 rd i h0 h3 he1
theorem AAf (q0:AH i m)(q1:(BF (iv (w i.toNat)) e1)=true):sC (cB (JE)) (LO fi n2 m w i) ([Ce,A8 e1,ov [iv t,iv rd,iv 0,iv m]]) (xN,(frame 56 [(3,bv fi),(8,pt 0 0),(9,EV.mm 1),(12,pt 2 0),(39,sl n2 1 m fun i=>[iv (w i)]),(40,iv ↑m),(41,iv (i+1))]),[Ce,A8 e1,ov [iv t,iv (if CY (Ah w i) e1<rd then CY (Ah w i) e1 else rd),iv 0,iv ↑m]]):=
 kC [[AG i m,(BF (Ah w i) e1,true)]] (.mk (dS 4266) [] [] [] [some (some (BD (Ah w i) e1,iv (CY (Ah w i) e1)))]) (kO (kz q0 (kz q1 AD))) (oI ((inR IntKind.i64 (i+1))=true) (oT (Ai prog 3 (iv (w i.toNat)) e1 0 (some (BD (iv (w i.toNat)) e1,iv (CY (iv (w i.toNat)) e1)))) (CD mT (by assumption)) (oJ ((inB i m)=true) .nil))) 3848290702088 7 3
theorem AAg (q0:AH i m)(q1:(BF (iv (w i.toNat)) e1)=false):sC (cB (JE)) (LO fi n2 m w i) ([Ce,A8 e1,ov [iv t,iv rd,iv 0,iv m]]) (xN,(frame 56 [(3,bv fi),(8,pt 0 0),(9,EV.mm 1),(12,pt 2 0),(39,sl n2 1 m fun i=>[iv (w i)]),(40,iv ↑m),(41,iv (i+1))]),[Ce,A8 e1,ov [iv t,iv (if 0<rd then 0 else rd),iv 0,iv ↑m]]):=
 kC [[AG i m,(BF (Ah w i) e1,false)]] (.mk (dS 4266) [] [] [] [some (none)]) (kO (kz q0 (kz q1 AD))) (oI ((inR IntKind.i64 (i+1))=true) (oT (Ai prog 3 (iv (w i.toNat)) e1 0 none) (B2 (V:=Cu) mT (by assumption)) (oJ ((inB i m)=true) .nil))) 3848290702088 7 3
theorem AAh (q0:Af i m):sC (cB (JE)) (LO fi n2 m w i) ([Ce,A8 e1,ov [iv t,iv rd,iv 0,iv m]]) (LP fi t rd m):=
 kC (Ae i m) (.mk (dS 16) [] [] [] []) (kO (kz q0 AD)) .nil 4360 5 3
theorem enC:∃ r_:RC,sC (cB (cB (cR (cL (cR (cR (cR (cR (AB prog 93))))))))) (frame 56 [(3,.bool fi),(8,.ptr 0 0),(9,.mm 1),(12,.ptr 2 0),(39,nums n2 m w),(40,.int .i64 m),(41,.int .i64 i)]) ([ov [iv 0,iv 0,iv 0,iv 0],EObj.map false true e1,ov [iv t,iv rd,iv 0,iv m]]) r_/\((∃ rd',r_=(xN,frame 56 [(3,.bool fi),(8,.ptr 0 0),(9,.mm 1),(12,.ptr 2 0),(39,nums n2 m w),(40,.int .i64 m),(41,.int .i64 (i+1))],[ov [iv 0,iv 0,iv 0,iv 0],EObj.map false true e1,ov [iv t,iv rd',iv 0,iv m]])/\i<m)∨(r_=(xL 2,frame 56 [(3,.bool fi),(8,.ptr 0 0),(12,.ptr 2 0)],[ov [iv 0,iv 0,iv 0,iv 0],.dead,ov [iv t,iv rd,iv 0,iv m]])/\m<=i)):=by
 rcases bT (decide (i<↑m)) with q0 | q0
 ·rcases bT (BF (iv (w i.toNat)) e1) with q1 | q1
  ·exact e11 (AAf n2 m w t fi e1 rd i h0 h3 he1 q0 q1)
  ·exact e11 (AAg n2 m w t fi e1 rd i h0 h3 he1 q0 q1)
 ·exact e11 (AAh n2 m w t fi e1 rd i h0 h3 he1 q0)
end
section
variable (nn:Bool)(n:Nat)(rs:Nat->ResD)(n2:Bool)(m:Nat)(w:Nat->Int)(t:Int)(fi:Bool)(e1:List (EV×EV))(rd:Int)(ih3:sL (Gj) (frame 56 [(1,nums n2 m w),(2,.int .i64 t),(3,.bool fi),(8,.ptr 0 0),(9,.mm 1),(16,.isl nn 13 n fun i=>(rs i).cells),(17,.int .i64 n),(18,.int .i64 0)]) ([Ce,EObj.map false true []]) ((xL 0,frame 56 [(1,nums n2 m w),(2,.int .i64 t),(3,.bool fi),(8,.ptr 0 0),(9,.mm 1)],(EG e1)):RC))(ih10:sL (JE) (frame 56 [(3,.bool fi),(8,.ptr 0 0),(9,.mm 1),(12,.ptr 2 0),(39,nums n2 m w),(40,.int .i64 m),(41,.int .i64 0)]) ([Ce,A8 e1,ov [iv t,iv 46,iv 0,iv m]]) ((xL 2,frame 56 [(3,.bool fi),(8,.ptr 0 0),(12,.ptr 2 0)],[Ce,.dead,ov [iv t,iv rd,iv 0,iv m]]):RC))
include nn n rs n2 m w t fi e1 rd ih3 ih10
theorem AAi (q0:(fi)=true):sP 93 [AK nn n rs,AA n2 m w,iv t,bv fi] (ag [iv t,iv rd,iv 1,iv ↑m]):=
 kP [[(fi,true)]] (.mk (dS 16) [(8,.is 459534 3 (xL 0,(LN n2 m w t fi),(EG e1))),(6,.is 3848290702088 7 (LP fi t rd m))] [] [] []) (kO (kz q0 AD)) (.cons ih10 (.cons ih3 .nil))
theorem AAj (q0:Av fi):sP 93 [AK nn n rs,AA n2 m w,iv t,bv fi] (ag [iv t,iv rd,iv 0,iv ↑m]):=
 kP [[(fi,false)]] (.mk (dS 16) [(8,.is 459534 3 (xL 0,(LN n2 m w t fi),(EG e1))),(6,.is 3848290702088 7 (LP fi t rd m))] [] [] []) (kO (kz q0 AD)) (.cons ih10 (.cons ih3 .nil))
theorem enF:∃ a_ b_ c_ d_:Int,sP 93 [sl nn 13 n fun i=>(rs i).cells,nums n2 m w,iv t,bv fi] (ag [iv a_,iv b_,iv c_,iv d_]):=by
 rcases bT (fi) with q0 | q0
 ·exact ⟨_,_,_,_,(AAi nn n rs n2 m w t fi e1 rd ih3 ih10 q0)⟩
 ·exact ⟨_,_,_,_,(AAj nn n rs n2 m w t fi e1 rd ih3 ih10 q0)⟩
end
theorem ZI (nn:Bool)(n:Nat)(rs:Nat->ResD)(n2:Bool)(m:Nat)(w:Nat->Int)(t:Int)(fi:Bool)(hn:n<=100000)(hm:m<=100000):
  ∃ a b c d:Int,sP 93 [EV.isl nn 13 n fun i=>(rs i).cells,nums n2 m w,EV.int .i64 t,EV.bool fi] (EV.agg (HR a b c d)):=by
 obtain ⟨r3,⟨e1,rfl,he1⟩,h3⟩:=SemL.ex (P:=prog) (G:=globs') (rnd:=false) (c:=cB (cB (cR (cL (cR (cR (AB prog 93))))))) (X:=Nat×List (EV×EV)) (fun x=>frame 56 [(1,nums n2 m w),(2,.int .i64 t),(3,.bool fi),(8,.ptr 0 0),(9,.mm 1),(16,.isl nn 13 n fun i=>(rs i).cells),(17,.int .i64 n),(18,.int .i64 x.1)]) (fun x=>[EObj.var false true [EV.int .i64 0,EV.int .i64 0,EV.int .i64 0,EV.int .i64 0],EObj.map false true x.2]) n (fun i x=>x.1=i/\MapOf EW Cu x.2)
  (fun r=>∃ e1,r=(EX.leave 0,frame 56 [(1,nums n2 m w),(2,.int .i64 t),(3,.bool fi),(8,.ptr 0 0),(9,.mm 1)],[EObj.var false true [EV.int .i64 0,EV.int .i64 0,EV.int .i64 0,EV.int .i64 0],EObj.map false true e1])/\MapOf EW Cu e1) (by
   rintro i ⟨j,e⟩ hi ⟨hj,he⟩
   obtain rfl:j=i:=hj
   obtain ⟨r,h,⟨e1',rfl,_,g⟩ | ⟨_,h2⟩⟩:=enB nn n rs n2 m w t fi e (j:Int) (by omega) hn he
   ·exact .inl ⟨(j+1,e1'),⟨rfl,g⟩,h⟩
   ·omega) (by
   rintro ⟨j,e⟩ ⟨hj,he⟩
   obtain rfl:j=n:=hj
   obtain ⟨r,h,⟨_,_,h2,_⟩ | ⟨rfl,_⟩⟩:=enB nn j rs n2 m w t fi e (j:Int) (by omega) hn he
   ·omega
   ·exact ⟨_,⟨e,rfl,he⟩,by simp,h⟩) n 0 (0,[]) (by omega) ⟨rfl,MapOf.nil⟩
 obtain ⟨r10,⟨rd,rfl⟩,h10⟩:=SemL.ex (P:=prog) (G:=globs') (rnd:=false) (c:=cB (cB (cR (cL (cR (cR (cR (cR (AB prog 93))))))))) (X:=Nat×Int) (fun x=>frame 56 [(3,.bool fi),(8,.ptr 0 0),(9,.mm 1),(12,.ptr 2 0),(39,nums n2 m w),(40,.int .i64 m),(41,.int .i64 x.1)]) (fun x=>[EObj.var false true [EV.int .i64 0,EV.int .i64 0,EV.int .i64 0,EV.int .i64 0],EObj.map false true e1,EObj.var false true [EV.int .i64 t,EV.int .i64 x.2,EV.int .i64 0,EV.int .i64 m]]) m (fun i x=>x.1=i)
  (fun r=>∃ rd,r=(EX.leave 2,frame 56 [(3,.bool fi),(8,.ptr 0 0),(12,.ptr 2 0)],[EObj.var false true [EV.int .i64 0,EV.int .i64 0,EV.int .i64 0,EV.int .i64 0],.dead,EObj.var false true [EV.int .i64 t,EV.int .i64 rd,EV.int .i64 0,EV.int .i64 m]])) (by
   rintro i ⟨j,rd⟩ hi hj
   obtain rfl:j=i:=hj
   obtain ⟨r,h,⟨rd',rfl,_⟩ | ⟨_,h2⟩⟩:=enC n2 m w t fi e1 rd (j:Int) (by omega) hm he1
   ·exact .inl ⟨(j+1,rd'),rfl,h⟩
   ·omega) (by
   rintro ⟨j,rd⟩ hj
   obtain rfl:j=m:=hj
   obtain ⟨r,h,⟨_,_,h2⟩ | ⟨rfl,_⟩⟩:=enC n2 j w t fi e1 rd (j:Int) (by omega) hm he1
   ·omega
   ·exact ⟨_,⟨rd,rfl⟩,by simp,h⟩) m 0 (0,46) (by omega) rfl
 exact enF nn n rs n2 m w t fi e1 rd (h3.toCL (by kernel_rfl)) (h10.toCL (by kernel_rfl))
abbrev Gk (a0:RowD)(a1:Int):=iv (IntKind.i64.wrap (a0.for'+a1))
abbrev Gl (a0:RowD)(a1:Int):=iv (IntKind.i64.wrap (a0.cards+a1))
abbrev Gm (a0:RowD)(a1:Int):=iv (IntKind.i64.wrap (a0.points+a1))
abbrev OB (a0:RowD)(a1:Int)(a2:Int)(a3:Int)(a4:Int):=[ov [iv a0.club,iv (IntKind.i64.wrap (a0.played+1)),iv a0.won,iv a0.drawn,iv (IntKind.i64.wrap (a0.lost+1)),Gk a0 a1,iv (IntKind.i64.wrap (a0.against+a2)),iv a0.awayFor,iv a0.awayWon,Gl a0 a3,Gm a0 a4]]
abbrev JF (a0:RowD):=iv (IntKind.i64.wrap (a0.played+1))
abbrev JG (a0:RowD)(a1:Int):=iv (IntKind.i64.wrap (a0.against+a1))
abbrev Et (a0:Int)(a1:Int)(a2:Int)(a3:Int)(a4:Bool)(a5:Bool):=ag [iv a0,iv a1,iv a2,iv a3,bv a4,bv a5]
abbrev OC (a0:RowD)(a1:Int)(a2:Int)(a3:Int)(a4:Int):=[ov [iv a0.club,iv (IntKind.i64.wrap (a0.played+1)),iv a0.won,iv a0.drawn,iv (IntKind.i64.wrap (a0.lost+1)),Gk a0 a1,iv (IntKind.i64.wrap (a0.against+a2)),iv (IntKind.i64.wrap (a0.awayFor+a1)),iv a0.awayWon,Gl a0 a3,Gm a0 a4]]
abbrev TB (a0:Int)(a1:Int)(a2:Int):=[iv a0,iv a1,iv a2]
abbrev TC (a0:Int)(a1:Int)(a2:Int):=TB a0 a1 a2
abbrev Ak (a0:Int)(a1:Int)(a2:Int):=TC a0 a1 a2
section
variable (r:RowD)(cl:Int)(ow:Int)(ot:Int)(ca:Int)(aw:Bool)(bo:Bool)(wi:Int)(dr:Int)(lo:Int)
include r cl ow ot ca aw bo wi dr lo
theorem ZJ (q0:(aw)=true)(q1:(bo)=true):sF 65 [pt 0 0,Et cl ow ot ca aw bo,ag (Ak wi dr lo)] [ov r.cells] (tu []) (OC r ow ot ca lo):=
 kF [[(aw,true),(bo,true)]] (.mk (dS 0x1cccc0c11111101cec) [] [] [] []) (kO (kz q0 (kz q1 AD))) .nil 1 [0]
theorem ZK (q0:(aw)=true)(q1:Av bo)(q2:(B1 ow ot)=true):sF 65 [pt 0 0,Et cl ow ot ca aw bo,ag (Ak wi dr lo)] [ov r.cells] (tu []) (OC r ow ot ca lo):=
 kF [[(aw,true),(bo,false),(decide (ow<ot),true)]] (.mk (dS 0x1cccc0c1111112cc) [] [] [] []) (kO (kz q0 (kz q1 (kz q2 AD)))) .nil 1 [0]
theorem ZL (q0:(aw)=true)(q1:Av bo)(q2:(B1 ow ot)=false)(q3:(ow==ot)=true):sF 65 [pt 0 0,Et cl ow ot ca aw bo,ag (Ak wi dr lo)] [ov r.cells] (tu []) [ov [iv r.club,JF r,iv r.won,iv (IntKind.i64.wrap (r.drawn+1)),iv r.lost,Gk r ow,JG r ot,iv (IntKind.i64.wrap (r.awayFor+ow)),iv r.awayWon,Gl r ca,Gm r dr]]:=
 kF [[(aw,true),(bo,false),(decide (ow<ot),false),(ow==ot,true)]] (.mk (dS 0x1cccc0c11111123cc) [] [] [] []) (kO (kz q0 (kz q1 (kz q2 (kz q3 AD))))) .nil 1 [0]
theorem ZM (q0:(aw)=true)(q1:Av bo)(q2:(B1 ow ot)=false)(q3:(ow==ot)=false):sF 65 [pt 0 0,Et cl ow ot ca aw bo,ag (Ak wi dr lo)] [ov r.cells] (tu []) [ov [iv r.club,JF r,iv (IntKind.i64.wrap (r.won+1)),iv r.drawn,iv r.lost,Gk r ow,JG r ot,iv (IntKind.i64.wrap (r.awayFor+ow)),iv (IntKind.i64.wrap (r.awayWon+1)),Gl r ca,Gm r wi]]:=
 kF [[(aw,true),(bo,false),(decide (ow<ot),false),(ow==ot,false)]] (.mk (dS 0x1cccc0c11111123cc0c) [] [] [] []) (kO (kz q0 (kz q1 (kz q2 (kz q3 AD))))) .nil 1 [0]
theorem ZN (q0:Av aw)(q1:(bo)=true):sF 65 [pt 0 0,Et cl ow ot ca aw bo,ag (Ak wi dr lo)] [ov r.cells] (tu []) (OB r ow ot ca lo):=
 kF [[(aw,false),(bo,true)]] (.mk (dS 0x1cccc011111101cec) [] [] [] []) (kO (kz q0 (kz q1 AD))) .nil 1 [0]
theorem ZO (q0:Av aw)(q1:Av bo)(q2:(B1 ow ot)=true):sF 65 [pt 0 0,Et cl ow ot ca aw bo,ag (Ak wi dr lo)] [ov r.cells] (tu []) (OB r ow ot ca lo):=
 kF [[(aw,false),(bo,false),(decide (ow<ot),true)]] (.mk (dS 0x1cccc01111112cc) [] [] [] []) (kO (kz q0 (kz q1 (kz q2 AD)))) .nil 1 [0]
theorem ZP (q0:Av aw)(q1:Av bo)(q2:(B1 ow ot)=false)(q3:(ow==ot)=true):sF 65 [pt 0 0,Et cl ow ot ca aw bo,ag (Ak wi dr lo)] [ov r.cells] (tu []) [ov [iv r.club,JF r,iv r.won,iv (IntKind.i64.wrap (r.drawn+1)),iv r.lost,Gk r ow,JG r ot,iv r.awayFor,iv r.awayWon,Gl r ca,Gm r dr]]:=
 kF [[(aw,false),(bo,false),(decide (ow<ot),false),(ow==ot,true)]] (.mk (dS 0x1cccc011111123cc) [] [] [] []) (kO (kz q0 (kz q1 (kz q2 (kz q3 AD))))) .nil 1 [0]
theorem ZQ (q0:Av aw)(q1:Av bo)(q2:(B1 ow ot)=false)(q3:(ow==ot)=false):sF 65 [pt 0 0,Et cl ow ot ca aw bo,ag (Ak wi dr lo)] [ov r.cells] (tu []) [ov [iv r.club,JF r,iv (IntKind.i64.wrap (r.won+1)),iv r.drawn,iv r.lost,Gk r ow,JG r ot,iv r.awayFor,iv r.awayWon,Gl r ca,Gm r wi]]:=
 kF [[(aw,false),(bo,false),(decide (ow<ot),false),(ow==ot,false)]] (.mk (dS 0x1cccc011111123cc0) [] [] [] []) (kO (kz q0 (kz q1 (kz q2 (kz q3 AD))))) .nil 1 [0]
end
structure SideD where
 club:Int
 own:Int
 other:Int
 cards:Int
 away:Bool
 both:Bool
def SideD.cells (s:SideD):List EV:=[.int .i64 s.club,.int .i64 s.own,.int .i64 s.other,.int .i64 s.cards,.bool s.away,.bool s.both]
def ResD.homeS (r:ResD):SideD:=⟨r.home,r.hg,r.ag,r.hc,false,r.both⟩
def ResD.awayS (r:ResD):SideD:=⟨r.away,r.ag,r.hg,r.ac,true,r.both⟩
abbrev wr (x:Int):Int:=IntKind.i64.wrap x
def SideD.how (s:SideD):Nat:=bif s.both then 0 else bif decide (s.own<s.other) then 0 else bif s.own==s.other then 1 else 2
def Up (wi dr lo:Int)(s:SideD)(r:RowD):Nat->RowD
 | 0=>{ r with played:=wr (r.played+1),for':=wr (r.for'+s.own),against:=wr (r.against+s.other),cards:=wr (r.cards+s.cards),awayFor:=bif s.away then wr (r.awayFor+s.own) else r.awayFor,lost:=wr (r.lost+1),points:=wr (r.points+lo) }
 | 1=>{ r with played:=wr (r.played+1),for':=wr (r.for'+s.own),against:=wr (r.against+s.other),cards:=wr (r.cards+s.cards),awayFor:=bif s.away then wr (r.awayFor+s.own) else r.awayFor,drawn:=wr (r.drawn+1),points:=wr (r.points+dr) }
 | _=>{ r with played:=wr (r.played+1),for':=wr (r.for'+s.own),against:=wr (r.against+s.other),cards:=wr (r.cards+s.cards),awayFor:=bif s.away then wr (r.awayFor+s.own) else r.awayFor,won:=wr (r.won+1),points:=wr (r.points+wi),awayWon:=bif s.away then wr (r.awayWon+1) else r.awayWon }
def AN (wi dr lo:Int)(s:SideD)(r:RowD):RowD:=Up wi dr lo s r s.how
theorem AP (wi dr lo:Int)(s:SideD)(r:RowD):sF 65 [EV.ptr 0 0,EV.agg s.cells,EV.agg [EV.int .i64 wi,EV.int .i64 dr,EV.int .i64 lo]] [EObj.var false true r.cells] (EV.tuple []) [EObj.var false true (AN wi dr lo s r).cells]:=by
 obtain ⟨cl,ow,ot,ca,aw,bo⟩:=s
 unfold AN
 cases aw with
 | true=>
  cases bo with
  | true=>exact ZJ r cl ow ot ca true true wi dr lo rfl rfl
  | false=>
   cases h1:decide (ow<ot) with
   | true=>
    have:SideD.how ⟨cl,ow,ot,ca,true,false⟩=0:=by simp [SideD.how,h1]
    rw [this]
    exact ZK r cl ow ot ca true false wi dr lo rfl rfl h1
   | false=>
    cases h2:(ow==ot) with
    | true=>
     have:SideD.how ⟨cl,ow,ot,ca,true,false⟩=1:=by simp [SideD.how,h1,h2]
     rw [this]
     exact ZL r cl ow ot ca true false wi dr lo rfl rfl h1 h2
    | false=>
     have:SideD.how ⟨cl,ow,ot,ca,true,false⟩=2:=by simp [SideD.how,h1,h2]
     rw [this]
     exact ZM r cl ow ot ca true false wi dr lo rfl rfl h1 h2
 | false=>
  cases bo with
  | true=>exact ZN r cl ow ot ca false true wi dr lo rfl rfl
  | false=>
   cases h1:decide (ow<ot) with
   | true=>
    have:SideD.how ⟨cl,ow,ot,ca,false,false⟩=0:=by simp [SideD.how,h1]
    rw [this]
    exact ZO r cl ow ot ca false false wi dr lo rfl rfl h1
   | false=>
    cases h2:(ow==ot) with
    | true=>
     have:SideD.how ⟨cl,ow,ot,ca,false,false⟩=1:=by simp [SideD.how,h1,h2]
     rw [this]
     exact ZP r cl ow ot ca false false wi dr lo rfl rfl h1 h2
    | false=>
     have:SideD.how ⟨cl,ow,ot,ca,false,false⟩=2:=by simp [SideD.how,h1,h2]
     rw [this]
     exact ZQ r cl ow ot ca false false wi dr lo rfl rfl h1 h2
theorem wvF (wi:Int)(dr:Int)(lo:Int):sP 98 [ag (Ak wi dr lo)] (bv (bif wvB wi then bif wvB dr then wvB lo else false else false)):=
 kP [] (.mk [] [(5,.fork true (wvB wi) 4 11 0 1 (.mk [] [(0,.fork false (wvB dr) 4 11 0 1 (.mk (dS 1099511697681) [] [some (bv (wvB wi)),some (bv (wvB dr)),some (bv (wvB lo))] [] []) (.mk (dS 1099511697681) [] [some (bv (wvB wi)),some (bv (wvB dr))] [] []))] [] [] []) (.mk (dS 1048576) [] [some (bv (wvB wi))] [] []))] [] [] []) KOk.nil (oT ((wvB wi)=true->((wvB dr)=true->sP 173 [iv lo] (bv (wvB lo)))) (fun _=>(fun _=>(LD _))) (oT ((wvB wi)=true->((wvB dr)=true->sP 173 [iv dr] (bv (wvB dr)))) (fun _=>(fun _=>(LD _))) (oT ((wvB wi)=true->((wvB dr)=true->sP 173 [iv wi] (bv (wvB wi)))) (fun _=>(fun _=>(LD _))) (oT ((wvB wi)=true->((wvB dr)=false->sP 173 [iv dr] (bv (wvB dr)))) (fun _=>(fun _=>(LD _))) (oT ((wvB wi)=true->((wvB dr)=false->sP 173 [iv wi] (bv (wvB wi)))) (fun _=>(fun _=>(LD _))) (oT ((wvB wi)=false->sP 173 [iv wi] (bv (wvB wi))) (fun _=>(LD _)) .nil))))))
noncomputable abbrev JH:=cB (cR (cL (cR (cR (AB prog 63)))))
section
variable (nn:Bool)(n:Nat)(rs:Nat->ResD)(i:Int)(h0:0<=i)(h3:n<=100000)
include nn n rs i h0 h3
theorem AAk (q0:AH i n)(q1:(B5 (rs i.toNat) != 0)=true):sC (cB (JH)) (frame 30 [(6,.int .i64 0),(18,(AK nn n rs)),(19,.int .i64 n),(20,.int .i64 i)]) ([oD]) (EX.ret,(frame 30 [(6,iv (B5 (rs i.toNat)))]),[oD]):=
 kC [[AG i n,(B5 (rs i.toNat) != 0,true)]] (.mk (dS 4257) [] [some (iv (B5 (rs i.toNat)))] [] []) (kO (kz q0 (kz q1 AD))) (oT (sP 99 [ag (rs i.toNat).cells] (iv (B5 (rs i.toNat)))) (J4 _) (oJ ((inB i n)=true) .nil)) 64 0 1
theorem AAl (q0:AH i n)(q1:(B5 (rs i.toNat) != 0)=false):sC (cB (JH)) (frame 30 [(6,.int .i64 0),(18,(AK nn n rs)),(19,.int .i64 n),(20,.int .i64 i)]) ([oD]) (xN,(frame 30 [(6,iv 0),(18,sl nn 13 n fun i=>(rs i).cells),(19,iv ↑n),(20,iv (i+1))]),[oD]):=
 kC [[AG i n,(B5 (rs i.toNat) != 0,false)]] (.mk (dS 68122) [] [some (iv (B5 (rs i.toNat)))] [] []) (kO (kz q0 (kz q1 AD))) (oI ((inR IntKind.i64 (i+1))=true) (oT (sP 99 [ag (rs i.toNat).cells] (iv (B5 (rs i.toNat)))) (J4 _) (oJ ((inB i n)=true) .nil))) 1835072 0 1
theorem AAm (q0:Af i n):sC (cB (JH)) (frame 30 [(6,.int .i64 0),(18,(AK nn n rs)),(19,.int .i64 n),(20,.int .i64 i)]) ([oD]) (xL 1,(frame 30 [(6,iv 0)]),[oD]):=
 kC (Ae i n) (.mk (dS 16) [] [] [] []) (kO (kz q0 AD)) .nil 64 0 1
theorem scB:∃ r_:RC,sC (cB (cB (cR (cL (cR (cR (AB prog 63))))))) (frame 30 [(6,.int .i64 0),(18,(sl nn 13 n fun i=>(rs i).cells)),(19,.int .i64 n),(20,.int .i64 i)]) ([oD]) r_/\((r_=(xN,frame 30 [(6,.int .i64 0),(18,(sl nn 13 n fun i=>(rs i).cells)),(19,.int .i64 n),(20,.int .i64 (i+1))],[oD])/\i<n/\(B5 (rs i.toNat)=0))∨(r_=(EX.ret,frame 30 [(6,iv (B5 (rs i.toNat)))],[oD])/\i<n/\(¬ B5 (rs i.toNat)=0))∨(r_=(xL 1,frame 30 [(6,iv 0)],[oD])/\n<=i)):=by
 rcases bT (decide (i<↑n)) with q0 | q0
 ·rcases bT (B5 (rs i.toNat) != 0) with q1 | q1
  ·exact e1 (AAk nn n rs i h0 h3 q0 q1)
  ·exact e1 (AAl nn n rs i h0 h3 q0 q1)
 ·exact e1 (AAm nn n rs i h0 h3 q0)
end
theorem AAn (nn:Bool)(n:Nat)(rs:Nat->ResD)(wi:Int)(dr:Int)(lo:Int)(n1:Bool)(m:Nat)(w:Nat->Int)(ihf:sP 97 [AM n1 m w] (bv true))(ihw:sP 98 [ag (Ak wi dr lo)] (bv true))(ih:sL (JH) (frame 30 [(6,.int .i64 0),(18,(AK nn n rs)),(19,.int .i64 n),(20,.int .i64 0)]) [oD] ((xL 1,frame 30 [(6,iv 0)],[oD]):RC)):sP 63 [AK nn n rs,AA n1 m w,ag (Ak wi dr lo)] (iv 0):=
 kP [[]] (.mk [] [(15,.is 1835072 0 (xL 1,(frame 30 [(6,iv 0)]),[oD]))] [some (bv true),some (bv true)] [] []) (kO AD) (.cons ih (.cons ihw (.cons ihf .nil)))
theorem DA (nn:Bool)(n:Nat)(rs:Nat->ResD)(n1:Bool)(m:Nat)(w:Nat->Int)(wi dr lo:Int)(hn:n<=100000)(hm:Inc m w)(h1:1<=m)(h2:m<=24)
  (hw: -99<=lo/\lo<=dr/\dr<=wi/\wi<=99) (hr:∀ i,i<n->B5 (rs i)=0):
  sP 63 [EV.isl nn 13 n fun i=>(rs i).cells,nums n1 m w,EV.agg [EV.int .i64 wi,EV.int .i64 dr,EV.int .i64 lo]] (EV.int .i64 0):=by
 obtain ⟨b,hb,hbt⟩:=Q2 n1 m w (by omega)
 have:b=true:=hbt hm h1 h2
 subst this
 have hv:(bif wvB wi then bif wvB dr then wvB lo else false else false)=true:=by
  simp only [wvB,Bool.cond_false_right,Bool.and_eq_true,decide_eq_true_eq]
  omega
 have hwv:=wvF wi dr lo
 rw [hv] at hwv
 have H:=SemL.all (P:=prog) (G:=globs') (rnd:=false) (c:=(cB (cB (cR (cL (cR (cR (AB prog 63)))))))) (fun i=>frame 30 [(6,.int .i64 0),(18,.isl nn 13 n fun i=>(rs i).cells),(19,.int .i64 n),(20,.int .i64 i)]) (fun _=>[EObj.dead]) n (fun _=>True) (fun i=>¬ B5 (rs i)=0)
  (fun i=>(EX.ret,frame 30 [(6,EV.int .i64 (B5 (rs i)))],[EObj.dead])) (EX.leave 1,frame 30 [(6,EV.int .i64 0)],[EObj.dead]) (fun _=>by simp) (by simp) (fun i=>by
   obtain ⟨r,h,h1⟩:=scB nn n rs i (by omega) hn
   exact ⟨r,h,h1.imp (fun x=>⟨x.1,by omega,trivial⟩) (Or.imp (fun x=>⟨x.1,by omega,by have:=x.2.2; rwa [Int.toNat_natCast] at this⟩) fun x=>⟨x.1,by omega⟩)⟩)
 rcases H with ⟨h,_⟩ | ⟨i,hi,hb',_,_⟩
 ·exact AAn nn n rs wi dr lo n1 m w hb hwv (h.toCL (by kernel_rfl))
 ·exact absurd (hr i hi) hb'
def cRA:Code->Code | .rangeFunc _ _ a _=>a | c=>c
def cRB:Code->Code | .rangeFunc _ _ _ b=>b | c=>c
noncomputable def Uq:Code:=cB (cR (cL (cR (cR (cR (cR (cR (AB prog 26))))))))
noncomputable def BL:Code:=cRA Uq
noncomputable def An:Code:=cRB Uq
abbrev IT (r:RowD):EObj:=.var false true r.cells
abbrev ZR (wi dr lo:Int):EObj:=.var false true [.int .i64 wi,.int .i64 dr,.int .i64 lo]
noncomputable abbrev ACs (st:LoopState)(n1:Bool)(n:Nat)(w:Nat->Int):EObj:=.loop st (frame 77 [(1,nums n1 n w),(10,.ptr 0 0),(11,.ptr 1 0),(12,.ptr 2 0),(13,.ptr 4 0)]) #[47] BL An none
def Al (f:FuncId):Bool:=pures f || f==65
def A3 (f:FuncId):Bool:=f==65
def WB:Code->Bool | .loop _=>false | _=>true
theorem SemC.toCL {P:Program}{G:Nat->Option (List EV)}{rnd:Bool}{c:Code}{t:List EV}{σ:AL}{r:RC}(h:SemC P G rnd c t σ r)(hp:WB c=true):SemCL P G rnd c t σ r:=
 ⟨h,fun b hb=>by subst hb; cases hp⟩
def Ct (n:Nat)(w:Nat->Int):List (EV×EV):=(List.range n).map fun j=>(EV.int .i64 (w j),EV.ptr (5+j) 0)
noncomputable def AI (n:Nat)(n1:Bool)(w:Nat->Int)(wi dr lo:Int)(rd:Nat->RowD)(st:LoopState)(tail:AL):AL:=
 EObj.var false true [EV.isl false 0 0 fun _=>[]] :: EObj.var false true [EV.int .i64 0] :: ZR wi dr lo :: EObj.map false false (Ct n w) :: EObj.var false false [EV.mm 3] :: (((List.range n).map fun j=>IT (rd j))++ACs st n1 n w :: tail)
def DB (rd:Nat->RowD)(j:Nat)(x:RowD):Nat->RowD:=fun i=>if i=j then x else rd i
def X9 (m:Nat):EObj->EObj
 | .loop st t ps a b p=>.loop st (Nj m 0 t) ps a b p
 | o=>o
theorem QB (m:Nat):∀ l:AL,HLe l (l.map (X9 m))
 | []=>.nil
 | o :: l=>.cons (by cases o<;>first | exact OLe.refl _ | exact OLe.loop (Hj m 0 _)) (QB m l)
theorem SemF.blur {P:Program}{G:Nat->Option (List EV)}{f:FuncId}{args:List EV}{v:EV}{σ σ1 σ2:AL}(m:Nat)(h:SemF P G f args σ1 v σ2)(he:σ.map (X9 m)=σ1):SemF P G f args σ v σ2:=by
 subst he
 exact h.weaken (VLes.refl _) (QB m σ) (VLe.refl _) (HLe.refl _)
abbrev FJ (w:Nat->Int):Nat->RowD:=fun j=>{ (default:RowD) with club:=w j }
abbrev Bb:=EObj.var false false [EV.mm 3]
abbrev LQ (a0:Nat->Int):=(iv (a0 1),pt 6 0)
abbrev LR (a0:Nat->Int):=(iv (a0 0),pt 5 0)
noncomputable abbrev Cf:=cB (cB (cR (AB prog 100)))
noncomputable abbrev LS (a0:Bool)(a1:Nat->Int):=frame 77 [(1,sl a0 1 2 fun i=>[iv (a1 i)]),(10,pt 0 0),(11,pt 1 0),(12,pt 2 0),(13,pt 4 0)]
abbrev Bc (a0:Nat->RowD):=ov (a0 1).cells
abbrev Bd (a0:Nat->RowD):=ov (a0 0).cells
abbrev Cg (a0:Nat->ResD)(a1:Int):=ov (a0 a1.toNat).cells
abbrev Ch (a0:Nat):=(a0,pt (5+a0) 0)
abbrev LU (a0:Nat->Int):=EObj.map false false [(LR a0),(LQ a0)]
section
variable (nn:Bool)(N:Nat)(rs:Nat->ResD)(n1:Bool)(w:Nat->Int)(wi:Int)(dr:Int)(lo:Int)(rd:Nat->RowD)(i:Int)(j1:Nat)(j2:Nat)(rd1:Nat->RowD)(rd2:Nat->RowD)(h0:0<=i)(h3:N<=100000)(f1:i<N->Ai prog 3 (iv (rs i.toNat).home) (Ct 2 w) 0 (some (j1,pt (5+j1) 0)))(f2:i<N->Ai prog 3 (iv (rs i.toNat).away) (Ct 2 w) 0 (some (j2,pt (5+j2) 0)))(c1:i<N->SemCL prog globs' true (cR (cR (cB An))) (frame 77 [(12,.ptr 2 0),(16,.ptr 9 0),(17,.ptr (5+j1) 0)]) (AI 2 n1 w wi dr lo rd .busy [.var false true (rs i.toNat).cells,.var false true ((rs i.toNat).homeS).cells]) ((xN,frame 77 [],(AI 2 n1 w wi dr lo rd1 .busy [.var false true (rs i.toNat).cells,.dead])):RC))(c2:i<N->SemCL prog globs' true (cR (cR (cB An))) (frame 77 [(12,.ptr 2 0),(16,.ptr 10 0),(17,.ptr (5+j2) 0)]) (AI 2 n1 w wi dr lo rd1 .busy [.var false true (rs i.toNat).cells,.dead,.var false true ((rs i.toNat).awayS).cells]) ((xN,frame 77 [],(AI 2 n1 w wi dr lo rd2 .busy [.var false true (rs i.toNat).cells,.dead,.dead])):RC))
include nn N rs n1 w wi dr lo rd i j1 j2 rd1 rd2 h0 h3 f1 f2 c1 c2
theorem ZS (q0:AH i N):sC (Cf) (frame 44 [(0,.it 7),(5,(AK nn N rs)),(6,.int .i64 N),(7,.int .i64 i)]) ((AI 2 n1 w wi dr lo rd .ready [])) (xN,frame 44 [(0,.it 7),(5,(AK nn N rs)),(6,.int .i64 N),(7,.int .i64 (i+1))],(AI 2 n1 w wi dr lo rd2 .ready [])):=
 kC [[AG i N]] (.mk (dS 17437614) [(20,.is 200704 1023 (xN,(frame 77 []),[A5,ov [iv 0],ov (Ak wi dr lo),LU w,Bb,Bd rd1,Bc rd1,EObj.loop LoopState.busy (LS n1 w) #[47] BL An none,Cg rs i,oD])),(9,.is 200704 2047 (xN,(frame 77 []),[A5,ov [iv 0],ov (Ak wi dr lo),LU w,Bb,Bd rd2,Bc rd2,EObj.loop LoopState.busy (LS n1 w) #[47] BL An none,Cg rs i,oD,oD]))] [] [] [some (some (Ch j1)),some (some (Ch j2))]) (kO (kz q0 AD)) (oI ((inR IntKind.i64 (i+1))=true) (.cons (c2 (by simp_all)) (oT (Ai prog 3 (iv (rs i.toNat).away) [(iv (w 0),pt 5 0),(iv (w 1),pt 6 0)] 0 (some (j2,pt (5+j2) 0))) ((fun _=>f2 (by simp_all)) iO) (.cons (c1 (by simp_all)) (oT (Ai prog 3 (iv (rs i.toNat).home) [(iv (w 0),pt 5 0),(iv (w 1),pt 6 0)] 0 (some (j1,pt (5+j1) 0))) ((fun _=>f1 (by simp_all)) iO) (oJ ((inB i N)=true) .nil)))))) 225 255 8
theorem ZT (q0:Af i N):sC (Cf) (frame 44 [(0,.it 7),(5,(AK nn N rs)),(6,.int .i64 N),(7,.int .i64 i)]) ((AI 2 n1 w wi dr lo rd .ready [])) (xL 0,frame 44 [],(AI 2 n1 w wi dr lo rd .ready [])):=
 kC (Ae i N) (.mk (dS 16) [] [] [] []) (kO (kz q0 AD)) .nil 0 255 8
theorem AAo:∃ r_:RC,sC (cB (cB (cR (AB prog 100)))) (frame 44 [(0,.it 7),(5,(sl nn 13 N fun i=>(rs i).cells)),(6,.int .i64 N),(7,.int .i64 i)]) (AI 2 n1 w wi dr lo rd .ready []) r_/\((r_=(xN,frame 44 [(0,.it 7),(5,(sl nn 13 N fun i=>(rs i).cells)),(6,.int .i64 N),(7,.int .i64 (i+1))],(AI 2 n1 w wi dr lo rd2 .ready []))/\i<N)∨(r_=(xL 0,frame 44 [],(AI 2 n1 w wi dr lo rd .ready []))/\N<=i)):=by
 rcases bT (decide (i<↑N)) with q0 | q0
 ·exact e3 (ZS nn N rs n1 w wi dr lo rd i j1 j2 rd1 rd2 h0 h3 f1 f2 c1 c2 q0)
 ·exact e3 (ZT nn N rs n1 w wi dr lo rd i j1 j2 rd1 rd2 h0 h3 f1 f2 c1 c2 q0)
end
noncomputable abbrev LV (a0:Bool)(a1:Nat->Int):=frame 77 [(1,sl a0 1 3 fun i=>[iv (a1 i)]),(10,pt 0 0),(11,pt 1 0),(12,pt 2 0),(13,pt 4 0)]
abbrev Bq (a0:Nat->RowD):=ov (a0 2).cells
abbrev LW (a0:Nat->Int):=EObj.map false false [(LR a0),(LQ a0),(iv (a0 2),pt 7 0)]
section
variable (nn:Bool)(N:Nat)(rs:Nat->ResD)(n1:Bool)(w:Nat->Int)(wi:Int)(dr:Int)(lo:Int)(rd:Nat->RowD)(i:Int)(j1:Nat)(j2:Nat)(rd1:Nat->RowD)(rd2:Nat->RowD)(h0:0<=i)(h3:N<=100000)(f1:i<N->Ai prog 3 (iv (rs i.toNat).home) (Ct 3 w) 0 (some (j1,pt (5+j1) 0)))(f2:i<N->Ai prog 3 (iv (rs i.toNat).away) (Ct 3 w) 0 (some (j2,pt (5+j2) 0)))(c1:i<N->SemCL prog globs' true (cR (cR (cB An))) (frame 77 [(12,.ptr 2 0),(16,.ptr 10 0),(17,.ptr (5+j1) 0)]) (AI 3 n1 w wi dr lo rd .busy [.var false true (rs i.toNat).cells,.var false true ((rs i.toNat).homeS).cells]) ((xN,frame 77 [],(AI 3 n1 w wi dr lo rd1 .busy [.var false true (rs i.toNat).cells,.dead])):RC))(c2:i<N->SemCL prog globs' true (cR (cR (cB An))) (frame 77 [(12,.ptr 2 0),(16,.ptr 11 0),(17,.ptr (5+j2) 0)]) (AI 3 n1 w wi dr lo rd1 .busy [.var false true (rs i.toNat).cells,.dead,.var false true ((rs i.toNat).awayS).cells]) ((xN,frame 77 [],(AI 3 n1 w wi dr lo rd2 .busy [.var false true (rs i.toNat).cells,.dead,.dead])):RC))
include nn N rs n1 w wi dr lo rd i j1 j2 rd1 rd2 h0 h3 f1 f2 c1 c2
theorem ZU (q0:AH i N):sC (Cf) (frame 44 [(0,.it 8),(5,(AK nn N rs)),(6,.int .i64 N),(7,.int .i64 i)]) ((AI 3 n1 w wi dr lo rd .ready [])) (xN,frame 44 [(0,.it 8),(5,(AK nn N rs)),(6,.int .i64 N),(7,.int .i64 (i+1))],(AI 3 n1 w wi dr lo rd2 .ready [])):=
 kC [[AG i N]] (.mk (dS 17437614) [(20,.is 200704 2047 (xN,(frame 77 []),[A5,ov [iv 0],ov (Ak wi dr lo),LW w,Bb,Bd rd1,Bc rd1,Bq rd1,EObj.loop LoopState.busy (LV n1 w) #[47] BL An none,Cg rs i,oD])),(9,.is 200704 4095 (xN,(frame 77 []),[A5,ov [iv 0],ov (Ak wi dr lo),LW w,Bb,Bd rd2,Bc rd2,Bq rd2,EObj.loop LoopState.busy (LV n1 w) #[47] BL An none,Cg rs i,oD,oD]))] [] [] [some (some (Ch j1)),some (some (Ch j2))]) (kO (kz q0 AD)) (oI ((inR IntKind.i64 (i+1))=true) (.cons (c2 (by simp_all)) (oT (Ai prog 3 (iv (rs i.toNat).away) [(iv (w 0),pt 5 0),(iv (w 1),pt 6 0),(iv (w 2),pt 7 0)] 0 (some (j2,pt (5+j2) 0))) ((fun _=>f2 (by simp_all)) iO) (.cons (c1 (by simp_all)) (oT (Ai prog 3 (iv (rs i.toNat).home) [(iv (w 0),pt 5 0),(iv (w 1),pt 6 0),(iv (w 2),pt 7 0)] 0 (some (j1,pt (5+j1) 0))) ((fun _=>f1 (by simp_all)) iO) (oJ ((inB i N)=true) .nil)))))) 225 511 9
theorem ZV (q0:Af i N):sC (Cf) (frame 44 [(0,.it 8),(5,(AK nn N rs)),(6,.int .i64 N),(7,.int .i64 i)]) ((AI 3 n1 w wi dr lo rd .ready [])) (xL 0,frame 44 [],(AI 3 n1 w wi dr lo rd .ready [])):=
 kC (Ae i N) (.mk (dS 16) [] [] [] []) (kO (kz q0 AD)) .nil 0 511 9
theorem AAp:∃ r_:RC,sC (cB (cB (cR (AB prog 100)))) (frame 44 [(0,.it 8),(5,(sl nn 13 N fun i=>(rs i).cells)),(6,.int .i64 N),(7,.int .i64 i)]) (AI 3 n1 w wi dr lo rd .ready []) r_/\((r_=(xN,frame 44 [(0,.it 8),(5,(sl nn 13 N fun i=>(rs i).cells)),(6,.int .i64 N),(7,.int .i64 (i+1))],(AI 3 n1 w wi dr lo rd2 .ready []))/\i<N)∨(r_=(xL 0,frame 44 [],(AI 3 n1 w wi dr lo rd .ready []))/\N<=i)):=by
 rcases bT (decide (i<↑N)) with q0 | q0
 ·exact e3 (ZU nn N rs n1 w wi dr lo rd i j1 j2 rd1 rd2 h0 h3 f1 f2 c1 c2 q0)
 ·exact e3 (ZV nn N rs n1 w wi dr lo rd i j1 j2 rd1 rd2 h0 h3 f1 f2 c1 c2 q0)
end
noncomputable abbrev LX (a0:Bool)(a1:Nat->Int):=frame 77 [(1,sl a0 1 4 fun i=>[iv (a1 i)]),(10,pt 0 0),(11,pt 1 0),(12,pt 2 0),(13,pt 4 0)]
abbrev LY (a0:Nat->Int):=EObj.map false false [(LR a0),(LQ a0),(iv (a0 2),pt 7 0),(iv (a0 3),pt 8 0)]
section
variable (nn:Bool)(N:Nat)(rs:Nat->ResD)(n1:Bool)(w:Nat->Int)(wi:Int)(dr:Int)(lo:Int)(rd:Nat->RowD)(i:Int)(j1:Nat)(j2:Nat)(rd1:Nat->RowD)(rd2:Nat->RowD)(h0:0<=i)(h3:N<=100000)(f1:i<N->Ai prog 3 (iv (rs i.toNat).home) (Ct 4 w) 0 (some (j1,pt (5+j1) 0)))(f2:i<N->Ai prog 3 (iv (rs i.toNat).away) (Ct 4 w) 0 (some (j2,pt (5+j2) 0)))(c1:i<N->SemCL prog globs' true (cR (cR (cB An))) (frame 77 [(12,.ptr 2 0),(16,.ptr 11 0),(17,.ptr (5+j1) 0)]) (AI 4 n1 w wi dr lo rd .busy [.var false true (rs i.toNat).cells,.var false true ((rs i.toNat).homeS).cells]) ((xN,frame 77 [],(AI 4 n1 w wi dr lo rd1 .busy [.var false true (rs i.toNat).cells,.dead])):RC))(c2:i<N->SemCL prog globs' true (cR (cR (cB An))) (frame 77 [(12,.ptr 2 0),(16,.ptr 12 0),(17,.ptr (5+j2) 0)]) (AI 4 n1 w wi dr lo rd1 .busy [.var false true (rs i.toNat).cells,.dead,.var false true ((rs i.toNat).awayS).cells]) ((xN,frame 77 [],(AI 4 n1 w wi dr lo rd2 .busy [.var false true (rs i.toNat).cells,.dead,.dead])):RC))
include nn N rs n1 w wi dr lo rd i j1 j2 rd1 rd2 h0 h3 f1 f2 c1 c2
theorem ZW (q0:AH i N):sC (Cf) (frame 44 [(0,.it 9),(5,(AK nn N rs)),(6,.int .i64 N),(7,.int .i64 i)]) ((AI 4 n1 w wi dr lo rd .ready [])) (xN,frame 44 [(0,.it 9),(5,(AK nn N rs)),(6,.int .i64 N),(7,.int .i64 (i+1))],(AI 4 n1 w wi dr lo rd2 .ready [])):=
 kC [[AG i N]] (.mk (dS 17437614) [(20,.is 200704 4095 (xN,(frame 77 []),[A5,ov [iv 0],ov (Ak wi dr lo),LY w,Bb,Bd rd1,Bc rd1,Bq rd1,ov (rd1 3).cells,EObj.loop LoopState.busy (LX n1 w) #[47] BL An none,Cg rs i,oD])),(9,.is 200704 8191 (xN,(frame 77 []),[A5,ov [iv 0],ov (Ak wi dr lo),LY w,Bb,Bd rd2,Bc rd2,Bq rd2,ov (rd2 3).cells,EObj.loop LoopState.busy (LX n1 w) #[47] BL An none,Cg rs i,oD,oD]))] [] [] [some (some (Ch j1)),some (some (Ch j2))]) (kO (kz q0 AD)) (oI ((inR IntKind.i64 (i+1))=true) (.cons (c2 (by simp_all)) (oT (Ai prog 3 (iv (rs i.toNat).away) [(iv (w 0),pt 5 0),(iv (w 1),pt 6 0),(iv (w 2),pt 7 0),(iv (w 3),pt 8 0)] 0 (some (j2,pt (5+j2) 0))) ((fun _=>f2 (by simp_all)) iO) (.cons (c1 (by simp_all)) (oT (Ai prog 3 (iv (rs i.toNat).home) [(iv (w 0),pt 5 0),(iv (w 1),pt 6 0),(iv (w 2),pt 7 0),(iv (w 3),pt 8 0)] 0 (some (j1,pt (5+j1) 0))) ((fun _=>f1 (by simp_all)) iO) (oJ ((inB i N)=true) .nil)))))) 225 1023 10
theorem ZX (q0:Af i N):sC (Cf) (frame 44 [(0,.it 9),(5,(AK nn N rs)),(6,.int .i64 N),(7,.int .i64 i)]) ((AI 4 n1 w wi dr lo rd .ready [])) (xL 0,frame 44 [],(AI 4 n1 w wi dr lo rd .ready [])):=
 kC (Ae i N) (.mk (dS 16) [] [] [] []) (kO (kz q0 AD)) .nil 0 1023 10
theorem AAq:∃ r_:RC,sC (cB (cB (cR (AB prog 100)))) (frame 44 [(0,.it 9),(5,(sl nn 13 N fun i=>(rs i).cells)),(6,.int .i64 N),(7,.int .i64 i)]) (AI 4 n1 w wi dr lo rd .ready []) r_/\((r_=(xN,frame 44 [(0,.it 9),(5,(sl nn 13 N fun i=>(rs i).cells)),(6,.int .i64 N),(7,.int .i64 (i+1))],(AI 4 n1 w wi dr lo rd2 .ready []))/\i<N)∨(r_=(xL 0,frame 44 [],(AI 4 n1 w wi dr lo rd .ready []))/\N<=i)):=by
 rcases bT (decide (i<↑N)) with q0 | q0
 ·exact e3 (ZW nn N rs n1 w wi dr lo rd i j1 j2 rd1 rd2 h0 h3 f1 f2 c1 c2 q0)
 ·exact e3 (ZX nn N rs n1 w wi dr lo rd i j1 j2 rd1 rd2 h0 h3 f1 f2 c1 c2 q0)
end
abbrev LZ (a0:Nat->Int):=EObj.map false false [(iv (a0 0),pt 5 0),(iv (a0 1),pt 6 0),(iv (a0 2),pt 7 0),(iv (a0 3),pt 8 0),(iv (a0 4),pt 9 0)]
noncomputable abbrev La (a0:Bool)(a1:Nat->Int):=frame 77 [(1,sl a0 1 5 fun i=>[iv (a1 i)]),(10,pt 0 0),(11,pt 1 0),(12,pt 2 0),(13,pt 4 0)]
section
variable (nn:Bool)(N:Nat)(rs:Nat->ResD)(n1:Bool)(w:Nat->Int)(wi:Int)(dr:Int)(lo:Int)(rd:Nat->RowD)(i:Int)(j1:Nat)(j2:Nat)(rd1:Nat->RowD)(rd2:Nat->RowD)(h0:0<=i)(h3:N<=100000)(f1:i<N->Ai prog 3 (iv (rs i.toNat).home) (Ct 5 w) 0 (some (j1,pt (5+j1) 0)))(f2:i<N->Ai prog 3 (iv (rs i.toNat).away) (Ct 5 w) 0 (some (j2,pt (5+j2) 0)))(c1:i<N->SemCL prog globs' true (cR (cR (cB An))) (frame 77 [(12,.ptr 2 0),(16,.ptr 12 0),(17,.ptr (5+j1) 0)]) (AI 5 n1 w wi dr lo rd .busy [.var false true (rs i.toNat).cells,.var false true ((rs i.toNat).homeS).cells]) ((xN,frame 77 [],(AI 5 n1 w wi dr lo rd1 .busy [.var false true (rs i.toNat).cells,.dead])):RC))(c2:i<N->SemCL prog globs' true (cR (cR (cB An))) (frame 77 [(12,.ptr 2 0),(16,.ptr 13 0),(17,.ptr (5+j2) 0)]) (AI 5 n1 w wi dr lo rd1 .busy [.var false true (rs i.toNat).cells,.dead,.var false true ((rs i.toNat).awayS).cells]) ((xN,frame 77 [],(AI 5 n1 w wi dr lo rd2 .busy [.var false true (rs i.toNat).cells,.dead,.dead])):RC))
include nn N rs n1 w wi dr lo rd i j1 j2 rd1 rd2 h0 h3 f1 f2 c1 c2
theorem ZY (q0:AH i N):sC (Cf) (frame 44 [(0,.it 10),(5,(AK nn N rs)),(6,.int .i64 N),(7,.int .i64 i)]) ((AI 5 n1 w wi dr lo rd .ready [])) (xN,frame 44 [(0,.it 10),(5,(AK nn N rs)),(6,.int .i64 N),(7,.int .i64 (i+1))],(AI 5 n1 w wi dr lo rd2 .ready [])):=
 kC [[AG i N]] (.mk (dS 17437614) [(20,.is 200704 8191 (xN,(frame 77 []),[A5,ov [iv 0],ov (Ak wi dr lo),LZ w,Bb,Bd rd1,Bc rd1,Bq rd1,ov (rd1 3).cells,ov (rd1 4).cells,EObj.loop LoopState.busy (La n1 w) #[47] BL An none,Cg rs i,oD])),(9,.is 200704 16383 (xN,(frame 77 []),[A5,ov [iv 0],ov (Ak wi dr lo),LZ w,Bb,Bd rd2,Bc rd2,Bq rd2,ov (rd2 3).cells,ov (rd2 4).cells,EObj.loop LoopState.busy (La n1 w) #[47] BL An none,Cg rs i,oD,oD]))] [] [] [some (some (Ch j1)),some (some (Ch j2))]) (kO (kz q0 AD)) (oI ((inR IntKind.i64 (i+1))=true) (.cons (c2 (by simp_all)) (oT (Ai prog 3 (iv (rs i.toNat).away) [(iv (w 0),pt 5 0),(iv (w 1),pt 6 0),(iv (w 2),pt 7 0),(iv (w 3),pt 8 0),(iv (w 4),pt 9 0)] 0 (some (j2,pt (5+j2) 0))) ((fun _=>f2 (by simp_all)) iO) (.cons (c1 (by simp_all)) (oT (Ai prog 3 (iv (rs i.toNat).home) [(iv (w 0),pt 5 0),(iv (w 1),pt 6 0),(iv (w 2),pt 7 0),(iv (w 3),pt 8 0),(iv (w 4),pt 9 0)] 0 (some (j1,pt (5+j1) 0))) ((fun _=>f1 (by simp_all)) iO) (oJ ((inB i N)=true) .nil)))))) 225 2047 11
theorem ZZ (q0:Af i N):sC (Cf) (frame 44 [(0,.it 10),(5,(AK nn N rs)),(6,.int .i64 N),(7,.int .i64 i)]) ((AI 5 n1 w wi dr lo rd .ready [])) (xL 0,frame 44 [],(AI 5 n1 w wi dr lo rd .ready [])):=
 kC (Ae i N) (.mk (dS 16) [] [] [] []) (kO (kz q0 AD)) .nil 0 2047 11
theorem AAr:∃ r_:RC,sC (cB (cB (cR (AB prog 100)))) (frame 44 [(0,.it 10),(5,(sl nn 13 N fun i=>(rs i).cells)),(6,.int .i64 N),(7,.int .i64 i)]) (AI 5 n1 w wi dr lo rd .ready []) r_/\((r_=(xN,frame 44 [(0,.it 10),(5,(sl nn 13 N fun i=>(rs i).cells)),(6,.int .i64 N),(7,.int .i64 (i+1))],(AI 5 n1 w wi dr lo rd2 .ready []))/\i<N)∨(r_=(xL 0,frame 44 [],(AI 5 n1 w wi dr lo rd .ready []))/\N<=i)):=by
 rcases bT (decide (i<↑N)) with q0 | q0
 ·exact e3 (ZY nn N rs n1 w wi dr lo rd i j1 j2 rd1 rd2 h0 h3 f1 f2 c1 c2 q0)
 ·exact e3 (ZZ nn N rs n1 w wi dr lo rd i j1 j2 rd1 rd2 h0 h3 f1 f2 c1 c2 q0)
end
abbrev Lb (a0:Nat->Int):=EObj.map false false [(iv (a0 0),pt 5 0),(iv (a0 1),pt 6 0),(iv (a0 2),pt 7 0),(iv (a0 3),pt 8 0),(iv (a0 4),pt 9 0),(iv (a0 5),pt 10 0)]
noncomputable abbrev Lc (a0:Bool)(a1:Nat->Int):=frame 77 [(1,sl a0 1 6 fun i=>[iv (a1 i)]),(10,pt 0 0),(11,pt 1 0),(12,pt 2 0),(13,pt 4 0)]
section
variable (nn:Bool)(N:Nat)(rs:Nat->ResD)(n1:Bool)(w:Nat->Int)(wi:Int)(dr:Int)(lo:Int)(rd:Nat->RowD)(i:Int)(j1:Nat)(j2:Nat)(rd1:Nat->RowD)(rd2:Nat->RowD)(h0:0<=i)(h3:N<=100000)(f1:i<N->Ai prog 3 (iv (rs i.toNat).home) (Ct 6 w) 0 (some (j1,pt (5+j1) 0)))(f2:i<N->Ai prog 3 (iv (rs i.toNat).away) (Ct 6 w) 0 (some (j2,pt (5+j2) 0)))(c1:i<N->SemCL prog globs' true (cR (cR (cB An))) (frame 77 [(12,.ptr 2 0),(16,.ptr 13 0),(17,.ptr (5+j1) 0)]) (AI 6 n1 w wi dr lo rd .busy [.var false true (rs i.toNat).cells,.var false true ((rs i.toNat).homeS).cells]) ((xN,frame 77 [],(AI 6 n1 w wi dr lo rd1 .busy [.var false true (rs i.toNat).cells,.dead])):RC))(c2:i<N->SemCL prog globs' true (cR (cR (cB An))) (frame 77 [(12,.ptr 2 0),(16,.ptr 14 0),(17,.ptr (5+j2) 0)]) (AI 6 n1 w wi dr lo rd1 .busy [.var false true (rs i.toNat).cells,.dead,.var false true ((rs i.toNat).awayS).cells]) ((xN,frame 77 [],(AI 6 n1 w wi dr lo rd2 .busy [.var false true (rs i.toNat).cells,.dead,.dead])):RC))
include nn N rs n1 w wi dr lo rd i j1 j2 rd1 rd2 h0 h3 f1 f2 c1 c2
theorem Za (q0:AH i N):sC (Cf) (frame 44 [(0,.it 11),(5,(AK nn N rs)),(6,.int .i64 N),(7,.int .i64 i)]) ((AI 6 n1 w wi dr lo rd .ready [])) (xN,frame 44 [(0,.it 11),(5,(AK nn N rs)),(6,.int .i64 N),(7,.int .i64 (i+1))],(AI 6 n1 w wi dr lo rd2 .ready [])):=
 kC [[AG i N]] (.mk (dS 17437614) [(20,.is 200704 16383 (xN,(frame 77 []),[A5,ov [iv 0],ov (Ak wi dr lo),Lb w,Bb,Bd rd1,Bc rd1,Bq rd1,ov (rd1 3).cells,ov (rd1 4).cells,ov (rd1 5).cells,EObj.loop LoopState.busy (Lc n1 w) #[47] BL An none,Cg rs i,oD])),(9,.is 200704 32767 (xN,(frame 77 []),[A5,ov [iv 0],ov (Ak wi dr lo),Lb w,Bb,Bd rd2,Bc rd2,Bq rd2,ov (rd2 3).cells,ov (rd2 4).cells,ov (rd2 5).cells,EObj.loop LoopState.busy (Lc n1 w) #[47] BL An none,Cg rs i,oD,oD]))] [] [] [some (some (Ch j1)),some (some (Ch j2))]) (kO (kz q0 AD)) (oI ((inR IntKind.i64 (i+1))=true) (.cons (c2 (by simp_all)) (oT (Ai prog 3 (iv (rs i.toNat).away) [(iv (w 0),pt 5 0),(iv (w 1),pt 6 0),(iv (w 2),pt 7 0),(iv (w 3),pt 8 0),(iv (w 4),pt 9 0),(iv (w 5),pt 10 0)] 0 (some (j2,pt (5+j2) 0))) ((fun _=>f2 (by simp_all)) iO) (.cons (c1 (by simp_all)) (oT (Ai prog 3 (iv (rs i.toNat).home) [(iv (w 0),pt 5 0),(iv (w 1),pt 6 0),(iv (w 2),pt 7 0),(iv (w 3),pt 8 0),(iv (w 4),pt 9 0),(iv (w 5),pt 10 0)] 0 (some (j1,pt (5+j1) 0))) ((fun _=>f1 (by simp_all)) iO) (oJ ((inB i N)=true) .nil)))))) 225 4095 12
theorem Zb (q0:Af i N):sC (Cf) (frame 44 [(0,.it 11),(5,(AK nn N rs)),(6,.int .i64 N),(7,.int .i64 i)]) ((AI 6 n1 w wi dr lo rd .ready [])) (xL 0,frame 44 [],(AI 6 n1 w wi dr lo rd .ready [])):=
 kC (Ae i N) (.mk (dS 16) [] [] [] []) (kO (kz q0 AD)) .nil 0 4095 12
theorem AAs:∃ r_:RC,sC (cB (cB (cR (AB prog 100)))) (frame 44 [(0,.it 11),(5,(sl nn 13 N fun i=>(rs i).cells)),(6,.int .i64 N),(7,.int .i64 i)]) (AI 6 n1 w wi dr lo rd .ready []) r_/\((r_=(xN,frame 44 [(0,.it 11),(5,(sl nn 13 N fun i=>(rs i).cells)),(6,.int .i64 N),(7,.int .i64 (i+1))],(AI 6 n1 w wi dr lo rd2 .ready []))/\i<N)∨(r_=(xL 0,frame 44 [],(AI 6 n1 w wi dr lo rd .ready []))/\N<=i)):=by
 rcases bT (decide (i<↑N)) with q0 | q0
 ·exact e3 (Za nn N rs n1 w wi dr lo rd i j1 j2 rd1 rd2 h0 h3 f1 f2 c1 c2 q0)
 ·exact e3 (Zb nn N rs n1 w wi dr lo rd i j1 j2 rd1 rd2 h0 h3 f1 f2 c1 c2 q0)
end
abbrev Ld (a0:Nat->Int):=EObj.map false false [(iv (a0 0),pt 5 0),(iv (a0 1),pt 6 0),(iv (a0 2),pt 7 0),(iv (a0 3),pt 8 0),(iv (a0 4),pt 9 0),(iv (a0 5),pt 10 0),(iv (a0 6),pt 11 0)]
noncomputable abbrev Le (a0:Bool)(a1:Nat->Int):=frame 77 [(1,sl a0 1 7 fun i=>[iv (a1 i)]),(10,pt 0 0),(11,pt 1 0),(12,pt 2 0),(13,pt 4 0)]
section
variable (nn:Bool)(N:Nat)(rs:Nat->ResD)(n1:Bool)(w:Nat->Int)(wi:Int)(dr:Int)(lo:Int)(rd:Nat->RowD)(i:Int)(j1:Nat)(j2:Nat)(rd1:Nat->RowD)(rd2:Nat->RowD)(h0:0<=i)(h3:N<=100000)(f1:i<N->Ai prog 3 (iv (rs i.toNat).home) (Ct 7 w) 0 (some (j1,pt (5+j1) 0)))(f2:i<N->Ai prog 3 (iv (rs i.toNat).away) (Ct 7 w) 0 (some (j2,pt (5+j2) 0)))(c1:i<N->SemCL prog globs' true (cR (cR (cB An))) (frame 77 [(12,.ptr 2 0),(16,.ptr 14 0),(17,.ptr (5+j1) 0)]) (AI 7 n1 w wi dr lo rd .busy [.var false true (rs i.toNat).cells,.var false true ((rs i.toNat).homeS).cells]) ((xN,frame 77 [],(AI 7 n1 w wi dr lo rd1 .busy [.var false true (rs i.toNat).cells,.dead])):RC))(c2:i<N->SemCL prog globs' true (cR (cR (cB An))) (frame 77 [(12,.ptr 2 0),(16,.ptr 15 0),(17,.ptr (5+j2) 0)]) (AI 7 n1 w wi dr lo rd1 .busy [.var false true (rs i.toNat).cells,.dead,.var false true ((rs i.toNat).awayS).cells]) ((xN,frame 77 [],(AI 7 n1 w wi dr lo rd2 .busy [.var false true (rs i.toNat).cells,.dead,.dead])):RC))
include nn N rs n1 w wi dr lo rd i j1 j2 rd1 rd2 h0 h3 f1 f2 c1 c2
theorem Zc (q0:AH i N):sC (Cf) (frame 44 [(0,.it 12),(5,(AK nn N rs)),(6,.int .i64 N),(7,.int .i64 i)]) ((AI 7 n1 w wi dr lo rd .ready [])) (xN,frame 44 [(0,.it 12),(5,(AK nn N rs)),(6,.int .i64 N),(7,.int .i64 (i+1))],(AI 7 n1 w wi dr lo rd2 .ready [])):=
 kC [[AG i N]] (.mk (dS 17437614) [(20,.is 200704 32767 (xN,(frame 77 []),[A5,ov [iv 0],ov (Ak wi dr lo),Ld w,Bb,Bd rd1,Bc rd1,Bq rd1,ov (rd1 3).cells,ov (rd1 4).cells,ov (rd1 5).cells,ov (rd1 6).cells,EObj.loop LoopState.busy (Le n1 w) #[47] BL An none,Cg rs i,oD])),(9,.is 200704 65535 (xN,(frame 77 []),[A5,ov [iv 0],ov (Ak wi dr lo),Ld w,Bb,Bd rd2,Bc rd2,Bq rd2,ov (rd2 3).cells,ov (rd2 4).cells,ov (rd2 5).cells,ov (rd2 6).cells,EObj.loop LoopState.busy (Le n1 w) #[47] BL An none,Cg rs i,oD,oD]))] [] [] [some (some (Ch j1)),some (some (Ch j2))]) (kO (kz q0 AD)) (oI ((inR IntKind.i64 (i+1))=true) (.cons (c2 (by simp_all)) (oT (Ai prog 3 (iv (rs i.toNat).away) [(iv (w 0),pt 5 0),(iv (w 1),pt 6 0),(iv (w 2),pt 7 0),(iv (w 3),pt 8 0),(iv (w 4),pt 9 0),(iv (w 5),pt 10 0),(iv (w 6),pt 11 0)] 0 (some (j2,pt (5+j2) 0))) ((fun _=>f2 (by simp_all)) iO) (.cons (c1 (by simp_all)) (oT (Ai prog 3 (iv (rs i.toNat).home) [(iv (w 0),pt 5 0),(iv (w 1),pt 6 0),(iv (w 2),pt 7 0),(iv (w 3),pt 8 0),(iv (w 4),pt 9 0),(iv (w 5),pt 10 0),(iv (w 6),pt 11 0)] 0 (some (j1,pt (5+j1) 0))) ((fun _=>f1 (by simp_all)) iO) (oJ ((inB i N)=true) .nil)))))) 225 8191 13
theorem Zd (q0:Af i N):sC (Cf) (frame 44 [(0,.it 12),(5,(AK nn N rs)),(6,.int .i64 N),(7,.int .i64 i)]) ((AI 7 n1 w wi dr lo rd .ready [])) (xL 0,frame 44 [],(AI 7 n1 w wi dr lo rd .ready [])):=
 kC (Ae i N) (.mk (dS 16) [] [] [] []) (kO (kz q0 AD)) .nil 0 8191 13
theorem AAt:∃ r_:RC,sC (cB (cB (cR (AB prog 100)))) (frame 44 [(0,.it 12),(5,(sl nn 13 N fun i=>(rs i).cells)),(6,.int .i64 N),(7,.int .i64 i)]) (AI 7 n1 w wi dr lo rd .ready []) r_/\((r_=(xN,frame 44 [(0,.it 12),(5,(sl nn 13 N fun i=>(rs i).cells)),(6,.int .i64 N),(7,.int .i64 (i+1))],(AI 7 n1 w wi dr lo rd2 .ready []))/\i<N)∨(r_=(xL 0,frame 44 [],(AI 7 n1 w wi dr lo rd .ready []))/\N<=i)):=by
 rcases bT (decide (i<↑N)) with q0 | q0
 ·exact e3 (Zc nn N rs n1 w wi dr lo rd i j1 j2 rd1 rd2 h0 h3 f1 f2 c1 c2 q0)
 ·exact e3 (Zd nn N rs n1 w wi dr lo rd i j1 j2 rd1 rd2 h0 h3 f1 f2 c1 c2 q0)
end
abbrev Lf (a0:Nat->Int):=EObj.map false false [(iv (a0 0),pt 5 0),(iv (a0 1),pt 6 0),(iv (a0 2),pt 7 0),(iv (a0 3),pt 8 0),(iv (a0 4),pt 9 0),(iv (a0 5),pt 10 0),(iv (a0 6),pt 11 0),(iv (a0 7),pt 12 0)]
noncomputable abbrev Lh (a0:Bool)(a1:Nat->Int):=frame 77 [(1,sl a0 1 8 fun i=>[iv (a1 i)]),(10,pt 0 0),(11,pt 1 0),(12,pt 2 0),(13,pt 4 0)]
section
variable (nn:Bool)(N:Nat)(rs:Nat->ResD)(n1:Bool)(w:Nat->Int)(wi:Int)(dr:Int)(lo:Int)(rd:Nat->RowD)(i:Int)(j1:Nat)(j2:Nat)(rd1:Nat->RowD)(rd2:Nat->RowD)(h0:0<=i)(h3:N<=100000)(f1:i<N->Ai prog 3 (iv (rs i.toNat).home) (Ct 8 w) 0 (some (j1,pt (5+j1) 0)))(f2:i<N->Ai prog 3 (iv (rs i.toNat).away) (Ct 8 w) 0 (some (j2,pt (5+j2) 0)))(c1:i<N->SemCL prog globs' true (cR (cR (cB An))) (frame 77 [(12,.ptr 2 0),(16,.ptr 15 0),(17,.ptr (5+j1) 0)]) (AI 8 n1 w wi dr lo rd .busy [.var false true (rs i.toNat).cells,.var false true ((rs i.toNat).homeS).cells]) ((xN,frame 77 [],(AI 8 n1 w wi dr lo rd1 .busy [.var false true (rs i.toNat).cells,.dead])):RC))(c2:i<N->SemCL prog globs' true (cR (cR (cB An))) (frame 77 [(12,.ptr 2 0),(16,.ptr 16 0),(17,.ptr (5+j2) 0)]) (AI 8 n1 w wi dr lo rd1 .busy [.var false true (rs i.toNat).cells,.dead,.var false true ((rs i.toNat).awayS).cells]) ((xN,frame 77 [],(AI 8 n1 w wi dr lo rd2 .busy [.var false true (rs i.toNat).cells,.dead,.dead])):RC))
include nn N rs n1 w wi dr lo rd i j1 j2 rd1 rd2 h0 h3 f1 f2 c1 c2
theorem Ze (q0:AH i N):sC (Cf) (frame 44 [(0,.it 13),(5,(AK nn N rs)),(6,.int .i64 N),(7,.int .i64 i)]) ((AI 8 n1 w wi dr lo rd .ready [])) (xN,frame 44 [(0,.it 13),(5,(AK nn N rs)),(6,.int .i64 N),(7,.int .i64 (i+1))],(AI 8 n1 w wi dr lo rd2 .ready [])):=
 kC [[AG i N]] (.mk (dS 17437614) [(20,.is 200704 65535 (xN,(frame 77 []),[A5,ov [iv 0],ov (Ak wi dr lo),Lf w,Bb,Bd rd1,Bc rd1,Bq rd1,ov (rd1 3).cells,ov (rd1 4).cells,ov (rd1 5).cells,ov (rd1 6).cells,ov (rd1 7).cells,EObj.loop LoopState.busy (Lh n1 w) #[47] BL An none,Cg rs i,oD])),(9,.is 200704 131071 (xN,(frame 77 []),[A5,ov [iv 0],ov (Ak wi dr lo),Lf w,Bb,Bd rd2,Bc rd2,Bq rd2,ov (rd2 3).cells,ov (rd2 4).cells,ov (rd2 5).cells,ov (rd2 6).cells,ov (rd2 7).cells,EObj.loop LoopState.busy (Lh n1 w) #[47] BL An none,Cg rs i,oD,oD]))] [] [] [some (some (Ch j1)),some (some (Ch j2))]) (kO (kz q0 AD)) (oI ((inR IntKind.i64 (i+1))=true) (.cons (c2 (by simp_all)) (oT (Ai prog 3 (iv (rs i.toNat).away) [(iv (w 0),pt 5 0),(iv (w 1),pt 6 0),(iv (w 2),pt 7 0),(iv (w 3),pt 8 0),(iv (w 4),pt 9 0),(iv (w 5),pt 10 0),(iv (w 6),pt 11 0),(iv (w 7),pt 12 0)] 0 (some (j2,pt (5+j2) 0))) ((fun _=>f2 (by simp_all)) iO) (.cons (c1 (by simp_all)) (oT (Ai prog 3 (iv (rs i.toNat).home) [(iv (w 0),pt 5 0),(iv (w 1),pt 6 0),(iv (w 2),pt 7 0),(iv (w 3),pt 8 0),(iv (w 4),pt 9 0),(iv (w 5),pt 10 0),(iv (w 6),pt 11 0),(iv (w 7),pt 12 0)] 0 (some (j1,pt (5+j1) 0))) ((fun _=>f1 (by simp_all)) iO) (oJ ((inB i N)=true) .nil)))))) 225 16383 14
theorem Zf (q0:Af i N):sC (Cf) (frame 44 [(0,.it 13),(5,(AK nn N rs)),(6,.int .i64 N),(7,.int .i64 i)]) ((AI 8 n1 w wi dr lo rd .ready [])) (xL 0,frame 44 [],(AI 8 n1 w wi dr lo rd .ready [])):=
 kC (Ae i N) (.mk (dS 16) [] [] [] []) (kO (kz q0 AD)) .nil 0 16383 14
theorem AAu:∃ r_:RC,sC (cB (cB (cR (AB prog 100)))) (frame 44 [(0,.it 13),(5,(sl nn 13 N fun i=>(rs i).cells)),(6,.int .i64 N),(7,.int .i64 i)]) (AI 8 n1 w wi dr lo rd .ready []) r_/\((r_=(xN,frame 44 [(0,.it 13),(5,(sl nn 13 N fun i=>(rs i).cells)),(6,.int .i64 N),(7,.int .i64 (i+1))],(AI 8 n1 w wi dr lo rd2 .ready []))/\i<N)∨(r_=(xL 0,frame 44 [],(AI 8 n1 w wi dr lo rd .ready []))/\N<=i)):=by
 rcases bT (decide (i<↑N)) with q0 | q0
 ·exact e3 (Ze nn N rs n1 w wi dr lo rd i j1 j2 rd1 rd2 h0 h3 f1 f2 c1 c2 q0)
 ·exact e3 (Zf nn N rs n1 w wi dr lo rd i j1 j2 rd1 rd2 h0 h3 f1 f2 c1 c2 q0)
end
theorem sf2 (nn:Bool)(N:Nat)(rs:Nat->ResD)(n1:Bool)(w:Nat->Int)(wi:Int)(dr:Int)(lo:Int)(rd:Nat->RowD)(rd2:Nat->RowD)(ih:sL (cB (cR (AB prog 100))) (frame 44 [(0,.it 7),(5,(EV.isl nn 13 N fun i=>(rs i).cells)),(6,.int .i64 N),(7,.int .i64 0)]) (AI 2 n1 w wi dr lo rd .ready []) ((EX.leave 0,frame 44 [],(AI 2 n1 w wi dr lo rd2 .ready [])):RC)):sF 100 [EV.it 7,EV.ip [EV.isl nn 13 N fun (i:Nat)=>(rs i).cells] 0] (AI 2 n1 w wi dr lo rd .ready []) (EV.tuple []) (AI 2 n1 w wi dr lo rd2 .ready []):=
 HH (modes:=pures) (news:=news) (n:=60) (fuel:=100000) (F:=[]) (s:=(.mk [] [(3,.is 225 255 (EX.leave 0,(frame 44 []),[EObj.var false true [EV.isl false 0 0 fun (i:Nat)=>[]],EObj.var false true [EV.int IntKind.i64 0],EObj.var false true [EV.int IntKind.i64 wi,EV.int IntKind.i64 dr,EV.int IntKind.i64 lo],EObj.map false false [(EV.int IntKind.i64 (w 0),EV.ptr 5 0),(EV.int IntKind.i64 (w 1),EV.ptr 6 0)],EObj.var false false [EV.mm 3],EObj.var false true (rd2 0).cells,EObj.var false true (rd2 1).cells,EObj.loop LoopState.ready (frame 77 [(1,EV.isl n1 1 2 fun (i:Nat)=>[EV.int IntKind.i64 (w i)]),(10,EV.ptr 0 0),(11,EV.ptr 1 0),(12,EV.ptr 2 0),(13,EV.ptr 4 0)]) #[47] BL An none]))] [] [] [])) (ow:=[sL (cB (cR (AB prog 100))) (frame 44 [(0,EV.it 7),(5,EV.isl nn 13 N fun (i:Nat)=>(rs i).cells),(6,EV.int IntKind.i64 (↑N:Int)),(7,EV.int IntKind.i64 0)]) [EObj.var false true [EV.isl false 0 0 fun (i:Nat)=>[]],EObj.var false true [EV.int IntKind.i64 0],EObj.var false true [EV.int IntKind.i64 wi,EV.int IntKind.i64 dr,EV.int IntKind.i64 lo],EObj.map false false [(EV.int IntKind.i64 (w 0),EV.ptr 5 0),(EV.int IntKind.i64 (w 1),EV.ptr 6 0)],EObj.var false false [EV.mm 3],EObj.var false true (rd 0).cells,EObj.var false true (rd 1).cells,EObj.loop LoopState.ready (frame 77 [(1,EV.isl n1 1 2 fun (i:Nat)=>[EV.int IntKind.i64 (w i)]),(10,EV.ptr 0 0),(11,EV.ptr 1 0),(12,EV.ptr 2 0),(13,EV.ptr 4 0)]) #[47] BL An none] (EX.leave 0,(frame 44 []),[EObj.var false true [EV.isl false 0 0 fun (i:Nat)=>[]],EObj.var false true [EV.int IntKind.i64 0],EObj.var false true [EV.int IntKind.i64 wi,EV.int IntKind.i64 dr,EV.int IntKind.i64 lo],EObj.map false false [(EV.int IntKind.i64 (w 0),EV.ptr 5 0),(EV.int IntKind.i64 (w 1),EV.ptr 6 0)],EObj.var false false [EV.mm 3],EObj.var false true (rd2 0).cells,EObj.var false true (rd2 1).cells,EObj.loop LoopState.ready (frame 77 [(1,EV.isl n1 1 2 fun (i:Nat)=>[EV.int IntKind.i64 (w i)]),(10,EV.ptr 0 0),(11,EV.ptr 1 0),(12,EV.ptr 2 0),(13,EV.ptr 4 0)]) #[47] BL An none])]) 255 8 B7 KOk.nil (by kernel_rfl) (by kernel_rfl) (by kernel_rfl) (by kernel_rfl) (.cons ih .nil)
theorem sf3 (nn:Bool)(N:Nat)(rs:Nat->ResD)(n1:Bool)(w:Nat->Int)(wi:Int)(dr:Int)(lo:Int)(rd:Nat->RowD)(rd2:Nat->RowD)(ih:sL (cB (cR (AB prog 100))) (frame 44 [(0,.it 8),(5,(EV.isl nn 13 N fun i=>(rs i).cells)),(6,.int .i64 N),(7,.int .i64 0)]) (AI 3 n1 w wi dr lo rd .ready []) ((EX.leave 0,frame 44 [],(AI 3 n1 w wi dr lo rd2 .ready [])):RC)):sF 100 [EV.it 8,EV.ip [EV.isl nn 13 N fun (i:Nat)=>(rs i).cells] 0] (AI 3 n1 w wi dr lo rd .ready []) (EV.tuple []) (AI 3 n1 w wi dr lo rd2 .ready []):=
 HH (modes:=pures) (news:=news) (n:=60) (fuel:=100000) (F:=[]) (s:=(.mk [] [(3,.is 225 511 (EX.leave 0,(frame 44 []),[EObj.var false true [EV.isl false 0 0 fun (i:Nat)=>[]],EObj.var false true [EV.int IntKind.i64 0],EObj.var false true [EV.int IntKind.i64 wi,EV.int IntKind.i64 dr,EV.int IntKind.i64 lo],EObj.map false false [(EV.int IntKind.i64 (w 0),EV.ptr 5 0),(EV.int IntKind.i64 (w 1),EV.ptr 6 0),(EV.int IntKind.i64 (w 2),EV.ptr 7 0)],EObj.var false false [EV.mm 3],EObj.var false true (rd2 0).cells,EObj.var false true (rd2 1).cells,EObj.var false true (rd2 2).cells,EObj.loop LoopState.ready (frame 77 [(1,EV.isl n1 1 3 fun (i:Nat)=>[EV.int IntKind.i64 (w i)]),(10,EV.ptr 0 0),(11,EV.ptr 1 0),(12,EV.ptr 2 0),(13,EV.ptr 4 0)]) #[47] BL An none]))] [] [] [])) (ow:=[sL (cB (cR (AB prog 100))) (frame 44 [(0,EV.it 8),(5,EV.isl nn 13 N fun (i:Nat)=>(rs i).cells),(6,EV.int IntKind.i64 (↑N:Int)),(7,EV.int IntKind.i64 0)]) [EObj.var false true [EV.isl false 0 0 fun (i:Nat)=>[]],EObj.var false true [EV.int IntKind.i64 0],EObj.var false true [EV.int IntKind.i64 wi,EV.int IntKind.i64 dr,EV.int IntKind.i64 lo],EObj.map false false [(EV.int IntKind.i64 (w 0),EV.ptr 5 0),(EV.int IntKind.i64 (w 1),EV.ptr 6 0),(EV.int IntKind.i64 (w 2),EV.ptr 7 0)],EObj.var false false [EV.mm 3],EObj.var false true (rd 0).cells,EObj.var false true (rd 1).cells,EObj.var false true (rd 2).cells,EObj.loop LoopState.ready (frame 77 [(1,EV.isl n1 1 3 fun (i:Nat)=>[EV.int IntKind.i64 (w i)]),(10,EV.ptr 0 0),(11,EV.ptr 1 0),(12,EV.ptr 2 0),(13,EV.ptr 4 0)]) #[47] BL An none] (EX.leave 0,(frame 44 []),[EObj.var false true [EV.isl false 0 0 fun (i:Nat)=>[]],EObj.var false true [EV.int IntKind.i64 0],EObj.var false true [EV.int IntKind.i64 wi,EV.int IntKind.i64 dr,EV.int IntKind.i64 lo],EObj.map false false [(EV.int IntKind.i64 (w 0),EV.ptr 5 0),(EV.int IntKind.i64 (w 1),EV.ptr 6 0),(EV.int IntKind.i64 (w 2),EV.ptr 7 0)],EObj.var false false [EV.mm 3],EObj.var false true (rd2 0).cells,EObj.var false true (rd2 1).cells,EObj.var false true (rd2 2).cells,EObj.loop LoopState.ready (frame 77 [(1,EV.isl n1 1 3 fun (i:Nat)=>[EV.int IntKind.i64 (w i)]),(10,EV.ptr 0 0),(11,EV.ptr 1 0),(12,EV.ptr 2 0),(13,EV.ptr 4 0)]) #[47] BL An none])]) 511 9 B7 KOk.nil (by kernel_rfl) (by kernel_rfl) (by kernel_rfl) (by kernel_rfl) (.cons ih .nil)
theorem sf4 (nn:Bool)(N:Nat)(rs:Nat->ResD)(n1:Bool)(w:Nat->Int)(wi:Int)(dr:Int)(lo:Int)(rd:Nat->RowD)(rd2:Nat->RowD)(ih:sL (cB (cR (AB prog 100))) (frame 44 [(0,.it 9),(5,(EV.isl nn 13 N fun i=>(rs i).cells)),(6,.int .i64 N),(7,.int .i64 0)]) (AI 4 n1 w wi dr lo rd .ready []) ((EX.leave 0,frame 44 [],(AI 4 n1 w wi dr lo rd2 .ready [])):RC)):sF 100 [EV.it 9,EV.ip [EV.isl nn 13 N fun (i:Nat)=>(rs i).cells] 0] (AI 4 n1 w wi dr lo rd .ready []) (EV.tuple []) (AI 4 n1 w wi dr lo rd2 .ready []):=
 HH (modes:=pures) (news:=news) (n:=60) (fuel:=100000) (F:=[]) (s:=(.mk [] [(3,.is 225 1023 (EX.leave 0,(frame 44 []),[EObj.var false true [EV.isl false 0 0 fun (i:Nat)=>[]],EObj.var false true [EV.int IntKind.i64 0],EObj.var false true [EV.int IntKind.i64 wi,EV.int IntKind.i64 dr,EV.int IntKind.i64 lo],EObj.map false false [(EV.int IntKind.i64 (w 0),EV.ptr 5 0),(EV.int IntKind.i64 (w 1),EV.ptr 6 0),(EV.int IntKind.i64 (w 2),EV.ptr 7 0),(EV.int IntKind.i64 (w 3),EV.ptr 8 0)],EObj.var false false [EV.mm 3],EObj.var false true (rd2 0).cells,EObj.var false true (rd2 1).cells,EObj.var false true (rd2 2).cells,EObj.var false true (rd2 3).cells,EObj.loop LoopState.ready (frame 77 [(1,EV.isl n1 1 4 fun (i:Nat)=>[EV.int IntKind.i64 (w i)]),(10,EV.ptr 0 0),(11,EV.ptr 1 0),(12,EV.ptr 2 0),(13,EV.ptr 4 0)]) #[47] BL An none]))] [] [] [])) (ow:=[sL (cB (cR (AB prog 100))) (frame 44 [(0,EV.it 9),(5,EV.isl nn 13 N fun (i:Nat)=>(rs i).cells),(6,EV.int IntKind.i64 (↑N:Int)),(7,EV.int IntKind.i64 0)]) [EObj.var false true [EV.isl false 0 0 fun (i:Nat)=>[]],EObj.var false true [EV.int IntKind.i64 0],EObj.var false true [EV.int IntKind.i64 wi,EV.int IntKind.i64 dr,EV.int IntKind.i64 lo],EObj.map false false [(EV.int IntKind.i64 (w 0),EV.ptr 5 0),(EV.int IntKind.i64 (w 1),EV.ptr 6 0),(EV.int IntKind.i64 (w 2),EV.ptr 7 0),(EV.int IntKind.i64 (w 3),EV.ptr 8 0)],EObj.var false false [EV.mm 3],EObj.var false true (rd 0).cells,EObj.var false true (rd 1).cells,EObj.var false true (rd 2).cells,EObj.var false true (rd 3).cells,EObj.loop LoopState.ready (frame 77 [(1,EV.isl n1 1 4 fun (i:Nat)=>[EV.int IntKind.i64 (w i)]),(10,EV.ptr 0 0),(11,EV.ptr 1 0),(12,EV.ptr 2 0),(13,EV.ptr 4 0)]) #[47] BL An none] (EX.leave 0,(frame 44 []),[EObj.var false true [EV.isl false 0 0 fun (i:Nat)=>[]],EObj.var false true [EV.int IntKind.i64 0],EObj.var false true [EV.int IntKind.i64 wi,EV.int IntKind.i64 dr,EV.int IntKind.i64 lo],EObj.map false false [(EV.int IntKind.i64 (w 0),EV.ptr 5 0),(EV.int IntKind.i64 (w 1),EV.ptr 6 0),(EV.int IntKind.i64 (w 2),EV.ptr 7 0),(EV.int IntKind.i64 (w 3),EV.ptr 8 0)],EObj.var false false [EV.mm 3],EObj.var false true (rd2 0).cells,EObj.var false true (rd2 1).cells,EObj.var false true (rd2 2).cells,EObj.var false true (rd2 3).cells,EObj.loop LoopState.ready (frame 77 [(1,EV.isl n1 1 4 fun (i:Nat)=>[EV.int IntKind.i64 (w i)]),(10,EV.ptr 0 0),(11,EV.ptr 1 0),(12,EV.ptr 2 0),(13,EV.ptr 4 0)]) #[47] BL An none])]) 1023 10 B7 KOk.nil (by kernel_rfl) (by kernel_rfl) (by kernel_rfl) (by kernel_rfl) (.cons ih .nil)
theorem sf5 (nn:Bool)(N:Nat)(rs:Nat->ResD)(n1:Bool)(w:Nat->Int)(wi:Int)(dr:Int)(lo:Int)(rd:Nat->RowD)(rd2:Nat->RowD)(ih:sL (cB (cR (AB prog 100))) (frame 44 [(0,.it 10),(5,(EV.isl nn 13 N fun i=>(rs i).cells)),(6,.int .i64 N),(7,.int .i64 0)]) (AI 5 n1 w wi dr lo rd .ready []) ((EX.leave 0,frame 44 [],(AI 5 n1 w wi dr lo rd2 .ready [])):RC)):sF 100 [EV.it 10,EV.ip [EV.isl nn 13 N fun (i:Nat)=>(rs i).cells] 0] (AI 5 n1 w wi dr lo rd .ready []) (EV.tuple []) (AI 5 n1 w wi dr lo rd2 .ready []):=
 HH (modes:=pures) (news:=news) (n:=60) (fuel:=100000) (F:=[]) (s:=(.mk [] [(3,.is 225 2047 (EX.leave 0,(frame 44 []),[EObj.var false true [EV.isl false 0 0 fun (i:Nat)=>[]],EObj.var false true [EV.int IntKind.i64 0],EObj.var false true [EV.int IntKind.i64 wi,EV.int IntKind.i64 dr,EV.int IntKind.i64 lo],EObj.map false false [(EV.int IntKind.i64 (w 0),EV.ptr 5 0),(EV.int IntKind.i64 (w 1),EV.ptr 6 0),(EV.int IntKind.i64 (w 2),EV.ptr 7 0),(EV.int IntKind.i64 (w 3),EV.ptr 8 0),(EV.int IntKind.i64 (w 4),EV.ptr 9 0)],EObj.var false false [EV.mm 3],EObj.var false true (rd2 0).cells,EObj.var false true (rd2 1).cells,EObj.var false true (rd2 2).cells,EObj.var false true (rd2 3).cells,EObj.var false true (rd2 4).cells,EObj.loop LoopState.ready (frame 77 [(1,EV.isl n1 1 5 fun (i:Nat)=>[EV.int IntKind.i64 (w i)]),(10,EV.ptr 0 0),(11,EV.ptr 1 0),(12,EV.ptr 2 0),(13,EV.ptr 4 0)]) #[47] BL An none]))] [] [] [])) (ow:=[sL (cB (cR (AB prog 100))) (frame 44 [(0,EV.it 10),(5,EV.isl nn 13 N fun (i:Nat)=>(rs i).cells),(6,EV.int IntKind.i64 (↑N:Int)),(7,EV.int IntKind.i64 0)]) [EObj.var false true [EV.isl false 0 0 fun (i:Nat)=>[]],EObj.var false true [EV.int IntKind.i64 0],EObj.var false true [EV.int IntKind.i64 wi,EV.int IntKind.i64 dr,EV.int IntKind.i64 lo],EObj.map false false [(EV.int IntKind.i64 (w 0),EV.ptr 5 0),(EV.int IntKind.i64 (w 1),EV.ptr 6 0),(EV.int IntKind.i64 (w 2),EV.ptr 7 0),(EV.int IntKind.i64 (w 3),EV.ptr 8 0),(EV.int IntKind.i64 (w 4),EV.ptr 9 0)],EObj.var false false [EV.mm 3],EObj.var false true (rd 0).cells,EObj.var false true (rd 1).cells,EObj.var false true (rd 2).cells,EObj.var false true (rd 3).cells,EObj.var false true (rd 4).cells,EObj.loop LoopState.ready (frame 77 [(1,EV.isl n1 1 5 fun (i:Nat)=>[EV.int IntKind.i64 (w i)]),(10,EV.ptr 0 0),(11,EV.ptr 1 0),(12,EV.ptr 2 0),(13,EV.ptr 4 0)]) #[47] BL An none] (EX.leave 0,(frame 44 []),[EObj.var false true [EV.isl false 0 0 fun (i:Nat)=>[]],EObj.var false true [EV.int IntKind.i64 0],EObj.var false true [EV.int IntKind.i64 wi,EV.int IntKind.i64 dr,EV.int IntKind.i64 lo],EObj.map false false [(EV.int IntKind.i64 (w 0),EV.ptr 5 0),(EV.int IntKind.i64 (w 1),EV.ptr 6 0),(EV.int IntKind.i64 (w 2),EV.ptr 7 0),(EV.int IntKind.i64 (w 3),EV.ptr 8 0),(EV.int IntKind.i64 (w 4),EV.ptr 9 0)],EObj.var false false [EV.mm 3],EObj.var false true (rd2 0).cells,EObj.var false true (rd2 1).cells,EObj.var false true (rd2 2).cells,EObj.var false true (rd2 3).cells,EObj.var false true (rd2 4).cells,EObj.loop LoopState.ready (frame 77 [(1,EV.isl n1 1 5 fun (i:Nat)=>[EV.int IntKind.i64 (w i)]),(10,EV.ptr 0 0),(11,EV.ptr 1 0),(12,EV.ptr 2 0),(13,EV.ptr 4 0)]) #[47] BL An none])]) 2047 11 B7 KOk.nil (by kernel_rfl) (by kernel_rfl) (by kernel_rfl) (by kernel_rfl) (.cons ih .nil)
theorem sf6 (nn:Bool)(N:Nat)(rs:Nat->ResD)(n1:Bool)(w:Nat->Int)(wi:Int)(dr:Int)(lo:Int)(rd:Nat->RowD)(rd2:Nat->RowD)(ih:sL (cB (cR (AB prog 100))) (frame 44 [(0,.it 11),(5,(EV.isl nn 13 N fun i=>(rs i).cells)),(6,.int .i64 N),(7,.int .i64 0)]) (AI 6 n1 w wi dr lo rd .ready []) ((EX.leave 0,frame 44 [],(AI 6 n1 w wi dr lo rd2 .ready [])):RC)):sF 100 [EV.it 11,EV.ip [EV.isl nn 13 N fun (i:Nat)=>(rs i).cells] 0] (AI 6 n1 w wi dr lo rd .ready []) (EV.tuple []) (AI 6 n1 w wi dr lo rd2 .ready []):=
 HH (modes:=pures) (news:=news) (n:=60) (fuel:=100000) (F:=[]) (s:=(.mk [] [(3,.is 225 4095 (EX.leave 0,(frame 44 []),[EObj.var false true [EV.isl false 0 0 fun (i:Nat)=>[]],EObj.var false true [EV.int IntKind.i64 0],EObj.var false true [EV.int IntKind.i64 wi,EV.int IntKind.i64 dr,EV.int IntKind.i64 lo],EObj.map false false [(EV.int IntKind.i64 (w 0),EV.ptr 5 0),(EV.int IntKind.i64 (w 1),EV.ptr 6 0),(EV.int IntKind.i64 (w 2),EV.ptr 7 0),(EV.int IntKind.i64 (w 3),EV.ptr 8 0),(EV.int IntKind.i64 (w 4),EV.ptr 9 0),(EV.int IntKind.i64 (w 5),EV.ptr 10 0)],EObj.var false false [EV.mm 3],EObj.var false true (rd2 0).cells,EObj.var false true (rd2 1).cells,EObj.var false true (rd2 2).cells,EObj.var false true (rd2 3).cells,EObj.var false true (rd2 4).cells,EObj.var false true (rd2 5).cells,EObj.loop LoopState.ready (frame 77 [(1,EV.isl n1 1 6 fun (i:Nat)=>[EV.int IntKind.i64 (w i)]),(10,EV.ptr 0 0),(11,EV.ptr 1 0),(12,EV.ptr 2 0),(13,EV.ptr 4 0)]) #[47] BL An none]))] [] [] [])) (ow:=[sL (cB (cR (AB prog 100))) (frame 44 [(0,EV.it 11),(5,EV.isl nn 13 N fun (i:Nat)=>(rs i).cells),(6,EV.int IntKind.i64 (↑N:Int)),(7,EV.int IntKind.i64 0)]) [EObj.var false true [EV.isl false 0 0 fun (i:Nat)=>[]],EObj.var false true [EV.int IntKind.i64 0],EObj.var false true [EV.int IntKind.i64 wi,EV.int IntKind.i64 dr,EV.int IntKind.i64 lo],EObj.map false false [(EV.int IntKind.i64 (w 0),EV.ptr 5 0),(EV.int IntKind.i64 (w 1),EV.ptr 6 0),(EV.int IntKind.i64 (w 2),EV.ptr 7 0),(EV.int IntKind.i64 (w 3),EV.ptr 8 0),(EV.int IntKind.i64 (w 4),EV.ptr 9 0),(EV.int IntKind.i64 (w 5),EV.ptr 10 0)],EObj.var false false [EV.mm 3],EObj.var false true (rd 0).cells,EObj.var false true (rd 1).cells,EObj.var false true (rd 2).cells,EObj.var false true (rd 3).cells,EObj.var false true (rd 4).cells,EObj.var false true (rd 5).cells,EObj.loop LoopState.ready (frame 77 [(1,EV.isl n1 1 6 fun (i:Nat)=>[EV.int IntKind.i64 (w i)]),(10,EV.ptr 0 0),(11,EV.ptr 1 0),(12,EV.ptr 2 0),(13,EV.ptr 4 0)]) #[47] BL An none] (EX.leave 0,(frame 44 []),[EObj.var false true [EV.isl false 0 0 fun (i:Nat)=>[]],EObj.var false true [EV.int IntKind.i64 0],EObj.var false true [EV.int IntKind.i64 wi,EV.int IntKind.i64 dr,EV.int IntKind.i64 lo],EObj.map false false [(EV.int IntKind.i64 (w 0),EV.ptr 5 0),(EV.int IntKind.i64 (w 1),EV.ptr 6 0),(EV.int IntKind.i64 (w 2),EV.ptr 7 0),(EV.int IntKind.i64 (w 3),EV.ptr 8 0),(EV.int IntKind.i64 (w 4),EV.ptr 9 0),(EV.int IntKind.i64 (w 5),EV.ptr 10 0)],EObj.var false false [EV.mm 3],EObj.var false true (rd2 0).cells,EObj.var false true (rd2 1).cells,EObj.var false true (rd2 2).cells,EObj.var false true (rd2 3).cells,EObj.var false true (rd2 4).cells,EObj.var false true (rd2 5).cells,EObj.loop LoopState.ready (frame 77 [(1,EV.isl n1 1 6 fun (i:Nat)=>[EV.int IntKind.i64 (w i)]),(10,EV.ptr 0 0),(11,EV.ptr 1 0),(12,EV.ptr 2 0),(13,EV.ptr 4 0)]) #[47] BL An none])]) 4095 12 B7 KOk.nil (by kernel_rfl) (by kernel_rfl) (by kernel_rfl) (by kernel_rfl) (.cons ih .nil)
theorem sf7 (nn:Bool)(N:Nat)(rs:Nat->ResD)(n1:Bool)(w:Nat->Int)(wi:Int)(dr:Int)(lo:Int)(rd:Nat->RowD)(rd2:Nat->RowD)(ih:sL (cB (cR (AB prog 100))) (frame 44 [(0,.it 12),(5,(EV.isl nn 13 N fun i=>(rs i).cells)),(6,.int .i64 N),(7,.int .i64 0)]) (AI 7 n1 w wi dr lo rd .ready []) ((EX.leave 0,frame 44 [],(AI 7 n1 w wi dr lo rd2 .ready [])):RC)):sF 100 [EV.it 12,EV.ip [EV.isl nn 13 N fun (i:Nat)=>(rs i).cells] 0] (AI 7 n1 w wi dr lo rd .ready []) (EV.tuple []) (AI 7 n1 w wi dr lo rd2 .ready []):=
 HH (modes:=pures) (news:=news) (n:=60) (fuel:=100000) (F:=[]) (s:=(.mk [] [(3,.is 225 8191 (EX.leave 0,(frame 44 []),[EObj.var false true [EV.isl false 0 0 fun (i:Nat)=>[]],EObj.var false true [EV.int IntKind.i64 0],EObj.var false true [EV.int IntKind.i64 wi,EV.int IntKind.i64 dr,EV.int IntKind.i64 lo],EObj.map false false [(EV.int IntKind.i64 (w 0),EV.ptr 5 0),(EV.int IntKind.i64 (w 1),EV.ptr 6 0),(EV.int IntKind.i64 (w 2),EV.ptr 7 0),(EV.int IntKind.i64 (w 3),EV.ptr 8 0),(EV.int IntKind.i64 (w 4),EV.ptr 9 0),(EV.int IntKind.i64 (w 5),EV.ptr 10 0),(EV.int IntKind.i64 (w 6),EV.ptr 11 0)],EObj.var false false [EV.mm 3],EObj.var false true (rd2 0).cells,EObj.var false true (rd2 1).cells,EObj.var false true (rd2 2).cells,EObj.var false true (rd2 3).cells,EObj.var false true (rd2 4).cells,EObj.var false true (rd2 5).cells,EObj.var false true (rd2 6).cells,EObj.loop LoopState.ready (frame 77 [(1,EV.isl n1 1 7 fun (i:Nat)=>[EV.int IntKind.i64 (w i)]),(10,EV.ptr 0 0),(11,EV.ptr 1 0),(12,EV.ptr 2 0),(13,EV.ptr 4 0)]) #[47] BL An none]))] [] [] [])) (ow:=[sL (cB (cR (AB prog 100))) (frame 44 [(0,EV.it 12),(5,EV.isl nn 13 N fun (i:Nat)=>(rs i).cells),(6,EV.int IntKind.i64 (↑N:Int)),(7,EV.int IntKind.i64 0)]) [EObj.var false true [EV.isl false 0 0 fun (i:Nat)=>[]],EObj.var false true [EV.int IntKind.i64 0],EObj.var false true [EV.int IntKind.i64 wi,EV.int IntKind.i64 dr,EV.int IntKind.i64 lo],EObj.map false false [(EV.int IntKind.i64 (w 0),EV.ptr 5 0),(EV.int IntKind.i64 (w 1),EV.ptr 6 0),(EV.int IntKind.i64 (w 2),EV.ptr 7 0),(EV.int IntKind.i64 (w 3),EV.ptr 8 0),(EV.int IntKind.i64 (w 4),EV.ptr 9 0),(EV.int IntKind.i64 (w 5),EV.ptr 10 0),(EV.int IntKind.i64 (w 6),EV.ptr 11 0)],EObj.var false false [EV.mm 3],EObj.var false true (rd 0).cells,EObj.var false true (rd 1).cells,EObj.var false true (rd 2).cells,EObj.var false true (rd 3).cells,EObj.var false true (rd 4).cells,EObj.var false true (rd 5).cells,EObj.var false true (rd 6).cells,EObj.loop LoopState.ready (frame 77 [(1,EV.isl n1 1 7 fun (i:Nat)=>[EV.int IntKind.i64 (w i)]),(10,EV.ptr 0 0),(11,EV.ptr 1 0),(12,EV.ptr 2 0),(13,EV.ptr 4 0)]) #[47] BL An none] (EX.leave 0,(frame 44 []),[EObj.var false true [EV.isl false 0 0 fun (i:Nat)=>[]],EObj.var false true [EV.int IntKind.i64 0],EObj.var false true [EV.int IntKind.i64 wi,EV.int IntKind.i64 dr,EV.int IntKind.i64 lo],EObj.map false false [(EV.int IntKind.i64 (w 0),EV.ptr 5 0),(EV.int IntKind.i64 (w 1),EV.ptr 6 0),(EV.int IntKind.i64 (w 2),EV.ptr 7 0),(EV.int IntKind.i64 (w 3),EV.ptr 8 0),(EV.int IntKind.i64 (w 4),EV.ptr 9 0),(EV.int IntKind.i64 (w 5),EV.ptr 10 0),(EV.int IntKind.i64 (w 6),EV.ptr 11 0)],EObj.var false false [EV.mm 3],EObj.var false true (rd2 0).cells,EObj.var false true (rd2 1).cells,EObj.var false true (rd2 2).cells,EObj.var false true (rd2 3).cells,EObj.var false true (rd2 4).cells,EObj.var false true (rd2 5).cells,EObj.var false true (rd2 6).cells,EObj.loop LoopState.ready (frame 77 [(1,EV.isl n1 1 7 fun (i:Nat)=>[EV.int IntKind.i64 (w i)]),(10,EV.ptr 0 0),(11,EV.ptr 1 0),(12,EV.ptr 2 0),(13,EV.ptr 4 0)]) #[47] BL An none])]) 8191 13 B7 KOk.nil (by kernel_rfl) (by kernel_rfl) (by kernel_rfl) (by kernel_rfl) (.cons ih .nil)
theorem sf8 (nn:Bool)(N:Nat)(rs:Nat->ResD)(n1:Bool)(w:Nat->Int)(wi:Int)(dr:Int)(lo:Int)(rd:Nat->RowD)(rd2:Nat->RowD)(ih:sL (cB (cR (AB prog 100))) (frame 44 [(0,.it 13),(5,(EV.isl nn 13 N fun i=>(rs i).cells)),(6,.int .i64 N),(7,.int .i64 0)]) (AI 8 n1 w wi dr lo rd .ready []) ((EX.leave 0,frame 44 [],(AI 8 n1 w wi dr lo rd2 .ready [])):RC)):sF 100 [EV.it 13,EV.ip [EV.isl nn 13 N fun (i:Nat)=>(rs i).cells] 0] (AI 8 n1 w wi dr lo rd .ready []) (EV.tuple []) (AI 8 n1 w wi dr lo rd2 .ready []):=
 HH (modes:=pures) (news:=news) (n:=60) (fuel:=100000) (F:=[]) (s:=(.mk [] [(3,.is 225 16383 (EX.leave 0,(frame 44 []),[EObj.var false true [EV.isl false 0 0 fun (i:Nat)=>[]],EObj.var false true [EV.int IntKind.i64 0],EObj.var false true [EV.int IntKind.i64 wi,EV.int IntKind.i64 dr,EV.int IntKind.i64 lo],EObj.map false false [(EV.int IntKind.i64 (w 0),EV.ptr 5 0),(EV.int IntKind.i64 (w 1),EV.ptr 6 0),(EV.int IntKind.i64 (w 2),EV.ptr 7 0),(EV.int IntKind.i64 (w 3),EV.ptr 8 0),(EV.int IntKind.i64 (w 4),EV.ptr 9 0),(EV.int IntKind.i64 (w 5),EV.ptr 10 0),(EV.int IntKind.i64 (w 6),EV.ptr 11 0),(EV.int IntKind.i64 (w 7),EV.ptr 12 0)],EObj.var false false [EV.mm 3],EObj.var false true (rd2 0).cells,EObj.var false true (rd2 1).cells,EObj.var false true (rd2 2).cells,EObj.var false true (rd2 3).cells,EObj.var false true (rd2 4).cells,EObj.var false true (rd2 5).cells,EObj.var false true (rd2 6).cells,EObj.var false true (rd2 7).cells,EObj.loop LoopState.ready (frame 77 [(1,EV.isl n1 1 8 fun (i:Nat)=>[EV.int IntKind.i64 (w i)]),(10,EV.ptr 0 0),(11,EV.ptr 1 0),(12,EV.ptr 2 0),(13,EV.ptr 4 0)]) #[47] BL An none]))] [] [] [])) (ow:=[sL (cB (cR (AB prog 100))) (frame 44 [(0,EV.it 13),(5,EV.isl nn 13 N fun (i:Nat)=>(rs i).cells),(6,EV.int IntKind.i64 (↑N:Int)),(7,EV.int IntKind.i64 0)]) [EObj.var false true [EV.isl false 0 0 fun (i:Nat)=>[]],EObj.var false true [EV.int IntKind.i64 0],EObj.var false true [EV.int IntKind.i64 wi,EV.int IntKind.i64 dr,EV.int IntKind.i64 lo],EObj.map false false [(EV.int IntKind.i64 (w 0),EV.ptr 5 0),(EV.int IntKind.i64 (w 1),EV.ptr 6 0),(EV.int IntKind.i64 (w 2),EV.ptr 7 0),(EV.int IntKind.i64 (w 3),EV.ptr 8 0),(EV.int IntKind.i64 (w 4),EV.ptr 9 0),(EV.int IntKind.i64 (w 5),EV.ptr 10 0),(EV.int IntKind.i64 (w 6),EV.ptr 11 0),(EV.int IntKind.i64 (w 7),EV.ptr 12 0)],EObj.var false false [EV.mm 3],EObj.var false true (rd 0).cells,EObj.var false true (rd 1).cells,EObj.var false true (rd 2).cells,EObj.var false true (rd 3).cells,EObj.var false true (rd 4).cells,EObj.var false true (rd 5).cells,EObj.var false true (rd 6).cells,EObj.var false true (rd 7).cells,EObj.loop LoopState.ready (frame 77 [(1,EV.isl n1 1 8 fun (i:Nat)=>[EV.int IntKind.i64 (w i)]),(10,EV.ptr 0 0),(11,EV.ptr 1 0),(12,EV.ptr 2 0),(13,EV.ptr 4 0)]) #[47] BL An none] (EX.leave 0,(frame 44 []),[EObj.var false true [EV.isl false 0 0 fun (i:Nat)=>[]],EObj.var false true [EV.int IntKind.i64 0],EObj.var false true [EV.int IntKind.i64 wi,EV.int IntKind.i64 dr,EV.int IntKind.i64 lo],EObj.map false false [(EV.int IntKind.i64 (w 0),EV.ptr 5 0),(EV.int IntKind.i64 (w 1),EV.ptr 6 0),(EV.int IntKind.i64 (w 2),EV.ptr 7 0),(EV.int IntKind.i64 (w 3),EV.ptr 8 0),(EV.int IntKind.i64 (w 4),EV.ptr 9 0),(EV.int IntKind.i64 (w 5),EV.ptr 10 0),(EV.int IntKind.i64 (w 6),EV.ptr 11 0),(EV.int IntKind.i64 (w 7),EV.ptr 12 0)],EObj.var false false [EV.mm 3],EObj.var false true (rd2 0).cells,EObj.var false true (rd2 1).cells,EObj.var false true (rd2 2).cells,EObj.var false true (rd2 3).cells,EObj.var false true (rd2 4).cells,EObj.var false true (rd2 5).cells,EObj.var false true (rd2 6).cells,EObj.var false true (rd2 7).cells,EObj.loop LoopState.ready (frame 77 [(1,EV.isl n1 1 8 fun (i:Nat)=>[EV.int IntKind.i64 (w i)]),(10,EV.ptr 0 0),(11,EV.ptr 1 0),(12,EV.ptr 2 0),(13,EV.ptr 4 0)]) #[47] BL An none])]) 16383 14 B7 KOk.nil (by kernel_rfl) (by kernel_rfl) (by kernel_rfl) (by kernel_rfl) (.cons ih .nil)
end Go.Ev
