/- A part of the proof. -/
import Derived.Test.YtclmacpbedkelaaGreatDoorUD
import Derived.Test.YtclmacpbedkelaaGreatDoorUF
import Derived.Test.YtclmacpbedkelaaGreatDoorUB
set_option linter.unusedSimpArgs false
set_option linter.unusedVariables false
set_option linter.unusedSectionVars false
namespace Go.Ev
open Go.Proofs.Tryz (prog)
set_option maxRecDepth 100000
set_option maxHeartbeats 0
abbrev Ln (a0:List EV):=ov [pv a0 0]
abbrev CJ:=ov [fc (51) [] []]
abbrev AEm (a0:Nat->List Int)(a1:Int):=sl true 1 (a0 a1.toNat).length fun j=>[iv ((a0 a1.toNat).getD j 0)]
abbrev Lo (a0:Nat):=EObj.var false false [EV.ms 5 1 0 a0 none,EV.ms 6 1 0 a0 none]
noncomputable abbrev E8:=cB (cB (cR (cL (cR (cR (AB prog 91))))))
abbrev CK:=EObj.var false false [fc (91) [] [pt 0 0,pt 1 0,pt 2 0,pt 3 0,pt 4 0]]
abbrev H2 (a0:Nat->List Int)(a1:Nat):=[sl true 1 (a0 a1).length fun i_1=>[iv ((a0 a1).getD i_1 0)]]
abbrev C4 (a0:Nat->List Int)(a1:Nat):=H2 a0 a1
noncomputable abbrev AFP:=cR (cR (cR (cB (cL (cR (cR (E8)))))))
noncomputable abbrev AEk:=cB (cB (cR (cL (cR (AFP)))))
abbrev EH (a0:List EV)(a1:Bool)(a2:Nat)(a3:Nat->List Int)(a4:Nat->Int):=[Ln a0,ov [bv a1],CJ,CK,Lo a2,oA 1 false a2 fun i=>(H2 a3 i),oA 1 false a2 fun i=>(GZ a4 i)]
abbrev AEX (a0:Nat->List Int)(a1:Nat):=C4 a0 a1
theorem ABi (C:List EV)(fin:Bool)(b:Int)(c:Int)(n:Nat)(ds:Nat->List Int)(i:Int)(k:Nat)(gs:Nat->List Int)(bs:Nat->Int)(k1:Nat)(gs1:Nat->List Int)(bs1:Nat->Int)(h0:i=0)(h3:n<=100000)(h4:k<=100000)(h5:0<n)(ih:sF 91 (rkA (AEm ds i) b) (rkN C fin) (tu []) (rkS C fin k1 gs1 bs1)):sR 5 (AEk) (rkI b c n ds i) ((rkN C fin)) (xN,(frame 84 [(1,iv b),(5,pt 3 0),(11,iv c),(56,sl true 1 n fun i=>(AEX ds i)),(57,iv ↑n),(58,iv (i+1))]),(EH C fin k1 gs1 bs1)):=
 kRm IK J8 [[]] (.mk (dS 109242) [] [] [some ((tu [],(EH C fin k1 gs1 bs1)))] []) (kO AD) (oI ((inR IntKind.i64 (i+1))=true) (.cons ih (oI ((Ap i)=false) (oJ ((inB i n)=true) (oI ((Bl i n)=true) .nil))))) 504403158265497634 127 [0,1,2,3,4,5,6] 5
noncomputable abbrev AEe:=frame 84 []
abbrev Lp (a0:Nat):=EObj.var false false [EV.ms 7 1 0 a0 none,EV.ms 8 1 0 a0 none]
abbrev E5 (a0:List EV)(a1:Bool)(a2:Nat)(a3:Nat->List Int)(a4:Nat->Int):=[Ln a0,ov [bv a1],CJ,CK,Lp a2,oD,oD,oA 1 false a2 fun i=>(H2 a3 i),oA 1 false a2 fun i=>(GZ a4 i)]
section
variable (C:List EV)(fin:Bool)(b:Int)(c:Int)(n:Nat)(ds:Nat->List Int)(i:Int)(k:Nat)(gs:Nat->List Int)(bs:Nat->Int)(k1:Nat)(gs1:Nat->List Int)(bs1:Nat->Int)(h0:0<i)(h3:n<=100000)(h4:k<=100000)(ih:i<n->sF 91 (rkA (AEm ds i) c) (rkS C fin k gs bs) (tu []) (rkC C fin k1 gs1 bs1))
include C fin b c n ds i k gs bs k1 gs1 bs1 h0 h3 h4 ih
theorem ABj (q0:AH i n):sR 5 (AEk) (rkI b c n ds i) ((rkS C fin k gs bs)) (xN,(frame 84 [(1,iv c),(5,pt 3 0),(11,iv c),(56,sl true 1 n fun i=>(AEX ds i)),(57,iv ↑n),(58,iv (i+1))]),(EH C fin k1 gs1 bs1)):=
 kRm IK J8 [[AG i n]] (.mk (dS 68266) [] [] [some ((tu [],(E5 C fin k1 gs1 bs1)))] []) (kO (kz q0 AD)) (oI ((inR IntKind.i64 (i+1))=true) (.cons (ih (by simp_all)) (oI ((Ap i)=true) (oJ ((inB i n)=true) .nil)))) 504403158265497634 127 [0,1,2,3,4,7,8] 5
theorem ABk (q0:Af i n):sR 5 (AEk) (rkI b c n ds i) ((rkS C fin k gs bs)) (xL 2,(AEe),(EH C fin k gs bs)):=
 kRm IK J8 (Ae i n) (.mk (dS 16) [] [] [] []) (kO (kz q0 AD)) .nil 0 127 [0,1,2,3,4,5,6] 5
end
theorem ABl (C:List EV)(fin:Bool)(b:Int)(c:Int)(n:Nat)(ds:Nat->List Int)(i:Int)(k:Nat)(gs:Nat->List Int)(bs:Nat->Int)(k1:Nat)(gs1:Nat->List Int)(bs1:Nat->Int)(h0:i=0)(h3:n<=100000)(h4:k<=100000)(h5:0<n)(ih:sF 91 (rkA (AEm ds i) b) (rkS C fin k gs bs) (tu []) (rkC C fin k1 gs1 bs1)):sR 7 (AEk) (rkI b c n ds i) ((rkS C fin k gs bs)) (xN,(frame 84 [(1,iv b),(5,pt 3 0),(11,iv c),(56,sl true 1 n fun i=>(AEX ds i)),(57,iv ↑n),(58,iv (i+1))]),(E5 C fin k1 gs1 bs1)):=
 kRm IK J8 [[]] (.mk (dS 109242) [] [] [some ((tu [],(E5 C fin k1 gs1 bs1)))] []) (kO AD) (oI ((inR IntKind.i64 (i+1))=true) (.cons ih (oI ((Ap i)=false) (oJ ((inB i n)=true) (oI ((Bl i n)=true) .nil))))) 504403158265497634 415 [0,1,2,3,4,5,6,7,8] 7
section
variable (C:List EV)(fin:Bool)(b:Int)(c:Int)(n:Nat)(ds:Nat->List Int)(i:Int)(k:Nat)(gs:Nat->List Int)(bs:Nat->Int)(k1:Nat)(gs1:Nat->List Int)(bs1:Nat->Int)(h0:0<i)(h3:n<=100000)(h4:k<=100000)(ih:i<n->sF 91 (rkA (AEm ds i) c) (rkS C fin k gs bs) (tu []) (rkC C fin k1 gs1 bs1))
include C fin b c n ds i k gs bs k1 gs1 bs1 h0 h3 h4 ih
theorem ABm (q0:AH i n):sR 7 (AEk) (rkI b c n ds i) ((rkC C fin k gs bs)) (xN,(frame 84 [(1,iv c),(5,pt 3 0),(11,iv c),(56,sl true 1 n fun i=>(AEX ds i)),(57,iv ↑n),(58,iv (i+1))]),(E5 C fin k1 gs1 bs1)):=
 kRm IK J8 [[AG i n]] (.mk (dS 68266) [] [] [some ((tu [],(E5 C fin k1 gs1 bs1)))] []) (kO (kz q0 AD)) (oI ((inR IntKind.i64 (i+1))=true) (.cons (ih (by simp_all)) (oI ((Ap i)=true) (oJ ((inB i n)=true) .nil)))) 504403158265497634 415 [0,1,2,3,4,5,6,9,10] 7
theorem ABn (q0:Af i n):sR 7 (AEk) (rkI b c n ds i) ((rkC C fin k gs bs)) (xL 2,(AEe),(E5 C fin k gs bs)):=
 kRm IK J8 (Ae i n) (.mk (dS 16) [] [] [] []) (kO (kz q0 AD)) .nil 0 415 [0,1,2,3,4,5,6,7,8] 7
end
abbrev E7 (a0:List Int)(a1:Nat):=[iv (a0.getD a1 0)]
abbrev C5 (a0:List Int):=sl true 1 a0.length fun j=>[iv (a0.getD j 0)]
noncomputable abbrev AEq (a0:List Int)(a1:Int):=frame 84 [(0,sl true 1 a0.length fun i=>(E7 a0 i)),(1,iv a1),(6,pt 4 0)]
abbrev AFQ (a0:List Int):=C5 a0
abbrev AFv (a0:Nat)(a1:Nat->List Int):=sl true 1 a0 fun i=>(H2 a1 i)
abbrev Gv:=ov [BC,BC]
abbrev AEa (a0:Nat)(a1:Nat->List Int):=AFv a0 a1
abbrev AEZ (a0:List Int):=AFQ a0
abbrev Lq (a0:List EV)(a1:Bool):=[Ln a0,ov [bv a1],CJ,CK,Gv]
section
variable (C:List EV)(fin:Bool)(G:List Int)(b:Int)(nn:Bool)(kc:Nat)(cw:Nat->Int)(n:Nat)(ds:Nat->List Int)(i:Int)(k:Nat)(gs:Nat->List Int)(bs:Nat->Int)(k1:Nat)(gs1:Nat->List Int)(bs1:Nat->Int)(h0:0<=i)(h3:kc<=100000)(h4:k<=100000)(ihS:i<kc->sP 94 [pv C 0,(AEZ G),Ah cw i] (rkP n ds))
include C fin G b nn kc cw n ds i k gs bs k1 gs1 bs1 h0 h3 h4 ihS
theorem ABo (ihl:i<kc->(n:Int)≠1->sL (cB (cR (cL (cR (cR (cR (cR (cB (cL (cR (cR (cB (cB (cR (cL (cR (cR (AB prog 91)))))))))))))))))) (rkI b (cw i.toNat) n ds 0) (rkN C fin) ((xL 2,frame 84 [],(rkS C fin k1 gs1 bs1)):RC))(q0:AH i kc)(q1:((↑n:Int)==1)=true):sR 5 (E8) (rkO (AEZ G) b (AM nn kc cw) kc i) ((rkN C fin)) (xN,(frame 84 [(0,sl true 1 G.length fun i=>(E7 G i)),(1,iv b),(2,pt 0 0),(4,pt 2 0),(5,pt 3 0),(6,pt 4 0),(39,sl nn 1 kc fun i=>(BN cw i)),(40,iv ↑kc),(41,iv (i+1))]),(Lq C fin)):=
 kR [[AG i kc,((↑n:Int)==1,true)]] (.mk (dS 68122) [] [some (AEa n ds)] [] []) (kO (kz q0 (kz q1 AD))) (oI ((inR IntKind.i64 (i+1))=true) (.cons (ihS (by simp_all)) (oJ ((inB i kc)=true) .nil))) 3848290697335 31 [0,1,2,3,4] 5
theorem ABp (ihl:i<kc->(n:Int)≠1->sL (cB (cR (cL (cR (cR (cR (cR (cB (cL (cR (cR (cB (cB (cR (cL (cR (cR (AB prog 91)))))))))))))))))) (rkI b (cw i.toNat) n ds 0) (rkN C fin) ((xL 2,frame 84 [],(rkS C fin k1 gs1 bs1)):RC))(q0:AH i kc)(q1:((↑n:Int)==1)=false):sR 5 (E8) (rkO (AEZ G) b (AM nn kc cw) kc i) ((rkN C fin)) (EX.ret,(AEe),(EH C fin k1 gs1 bs1)):=
 kR [[AG i kc,((↑n:Int)==1,false)]] (.mk (dS 4257) [(23,.is 504403158265497634 31 (xL 2,(AEe),(EH C fin k1 gs1 bs1)))] [some (AEa n ds),none] [] []) (kO (kz q0 (kz q1 AD))) (.cons (ihl (by simp_all) (by simp_all)) (.cons (ihS (by simp_all)) (oJ ((inB i kc)=true) .nil))) 0 127 [0,1,2,3,4,5,6] 5
theorem ABq (ihl:i<kc->(n:Int)≠1->sL (cB (cR (cL (cR (cR (cR (cR (cB (cL (cR (cR (cB (cB (cR (cL (cR (cR (AB prog 91)))))))))))))))))) (rkI b (cw i.toNat) n ds 0) (rkN C fin) ((xL 2,frame 84 [],(rkS C fin k1 gs1 bs1)):RC))(q0:Af i kc):sR 5 (E8) (rkO (AEZ G) b (AM nn kc cw) kc i) ((rkN C fin)) (xL 0,(AEq G b),(Lq C fin)):=
 kR (Ae i kc) (.mk (dS 16) [] [] [] []) (kO (kz q0 AD)) .nil 67 31 [0,1,2,3,4] 5
theorem ABr (ihl:i<kc->(n:Int)≠1->sL (cB (cR (cL (cR (cR (cR (cR (cB (cL (cR (cR (cB (cB (cR (cL (cR (cR (AB prog 91)))))))))))))))))) (rkI b (cw i.toNat) n ds 0) (rkS C fin k gs bs) ((xL 2,frame 84 [],(rkC C fin k1 gs1 bs1)):RC))(q0:AH i kc)(q1:((↑n:Int)==1)=true):sR 7 (E8) (rkO (AEZ G) b (AM nn kc cw) kc i) ((rkS C fin k gs bs)) (xN,(frame 84 [(0,sl true 1 G.length fun i=>(E7 G i)),(1,iv b),(2,pt 0 0),(4,pt 2 0),(5,pt 3 0),(6,pt 4 0),(39,sl nn 1 kc fun i=>(BN cw i)),(40,iv ↑kc),(41,iv (i+1))]),(EH C fin k gs bs)):=
 kR [[AG i kc,((↑n:Int)==1,true)]] (.mk (dS 68122) [] [some (AEa n ds)] [] []) (kO (kz q0 (kz q1 AD))) (oI ((inR IntKind.i64 (i+1))=true) (.cons (ihS (by simp_all)) (oJ ((inB i kc)=true) .nil))) 3848290697335 127 [0,1,2,3,4,5,6] 7
theorem ABs (ihl:i<kc->(n:Int)≠1->sL (cB (cR (cL (cR (cR (cR (cR (cB (cL (cR (cR (cB (cB (cR (cL (cR (cR (AB prog 91)))))))))))))))))) (rkI b (cw i.toNat) n ds 0) (rkS C fin k gs bs) ((xL 2,frame 84 [],(rkC C fin k1 gs1 bs1)):RC))(q0:AH i kc)(q1:((↑n:Int)==1)=false):sR 7 (E8) (rkO (AEZ G) b (AM nn kc cw) kc i) ((rkS C fin k gs bs)) (EX.ret,(AEe),(E5 C fin k1 gs1 bs1)):=
 kR [[AG i kc,((↑n:Int)==1,false)]] (.mk (dS 4257) [(23,.is 504403158265497634 127 (xL 2,(AEe),(E5 C fin k1 gs1 bs1)))] [some (AEa n ds),none] [] []) (kO (kz q0 (kz q1 AD))) (.cons (ihl (by simp_all) (by simp_all)) (.cons (ihS (by simp_all)) (oJ ((inB i kc)=true) .nil))) 0 415 [0,1,2,3,4,5,6,7,8] 7
theorem ABt (ihl:i<kc->(n:Int)≠1->sL (cB (cR (cL (cR (cR (cR (cR (cB (cL (cR (cR (cB (cB (cR (cL (cR (cR (AB prog 91)))))))))))))))))) (rkI b (cw i.toNat) n ds 0) (rkS C fin k gs bs) ((xL 2,frame 84 [],(rkC C fin k1 gs1 bs1)):RC))(q0:Af i kc):sR 7 (E8) (rkO (AEZ G) b (AM nn kc cw) kc i) ((rkS C fin k gs bs)) (xL 0,(AEq G b),(EH C fin k gs bs)):=
 kR (Ae i kc) (.mk (dS 16) [] [] [] []) (kO (kz q0 AD)) .nil 67 127 [0,1,2,3,4,5,6] 7
end
noncomputable abbrev AFA (a0:List Int)(a1:Int):=rkO (AFQ a0) a1 (.isl false 0 0 fun _=>[]) 0 0
section
variable (C:List EV)(fin:Bool)(G:List Int)(b:Int)(k:Nat)(gs:Nat->List Int)(bs:Nat->Int)
include C fin G b k gs bs
theorem ABu:sR 5 (E8) (AFA G b) ((rkN C fin)) (xL 0,(AEq G b),(Lq C fin)):=
 kR [[]] (.mk [] [] [] [] []) (kO AD) .nil 67 31 [0,1,2,3,4] 5
theorem ABv:sR 7 (E8) (AFA G b) ((rkS C fin k gs bs)) (xL 0,(AEq G b),(EH C fin k gs bs)):=
 kR [[]] (.mk [] [] [] [] []) (kO AD) .nil 67 127 [0,1,2,3,4,5,6] 7
end
noncomputable abbrev Gx:=cR (AB prog 91)
abbrev AFw (a0:Bool)(a1:Nat)(a2:Nat->ResD)(a3:Bool)(a4:Nat)(a5:Nat->Int)(a6:List (EV×EV))(a7:RulesV)(a8:List (EV×EV)):=Bw a0 a1 a2 a3 a4 a5 a6 a7 a8
noncomputable abbrev AE1 (a0:List Int)(a1:Int)(a2:Bool)(a3:Nat)(a4:Nat->Int):=frame 84 [(0,sl true 1 a0.length fun i=>(E7 a0 i)),(1,iv a1),(2,pt 0 0),(4,pt 2 0),(5,pt 3 0),(6,pt 4 0),(9,sl a2 1 a3 fun i=>(GZ a4 i))]
noncomputable abbrev JT (a0:List Int)(a1:Int):=frame 84 [(0,(C5 a0)),(1,.int .i64 a1),(2,.ptr 0 0),(3,.ptr 1 0),(4,.ptr 2 0),(5,.ptr 3 0),(6,.ptr 4 0)]
abbrev AFx (a0:Bool)(a1:Nat)(a2:Nat->ResD)(a3:Bool)(a4:Nat)(a5:Nat->Int)(a6:List (EV×EV))(a7:RulesV)(a8:List (EV×EV)):=AFw a0 a1 a2 a3 a4 a5 a6 a7 a8
noncomputable abbrev AEr:=cT1 (cR (cL (Gx)))
abbrev AEY (a0:Bool)(a1:Nat)(a2:Nat->ResD)(a3:Bool)(a4:Nat)(a5:Nat->Int)(a6:List (EV×EV))(a7:RulesV)(a8:List (EV×EV)):=AFx a0 a1 a2 a3 a4 a5 a6 a7 a8
section
variable (n0:Bool)(n:Nat)(rs:Nat->ResD)(n1:Bool)(m:Nat)(w:Nat->Int)(e1:List (EV×EV))(R:RulesV)(e3:List (EV×EV))(fin:Bool)(G:List Int)(b:Int)(k:Nat)(gs:Nat->List Int)(bs:Nat->Int)(nn:Bool)(kc:Nat)(cw:Nat->Int)(ta:Int)(tb:Int)(tc:Int)(td:Int)(er:Int)(ihe:sP 93 [AK n0 n rs,AM n1 m w,iv G.length,bv fin] (ag (HR ta tb tc td)))(ihd:sP 92 [Dk R,ag (HR ta tb tc td)] (tu [AM nn kc cw,.int .i64 er]))
include n0 n rs n1 m w e1 R e3 fin G b k gs bs nn kc cw ta tb tc td er ihe ihd
theorem rrN:sL (AEr) (JT G b) (rkN (AEY n0 n rs n1 m w e1 R e3) fin) (xN,(AE1 G b nn kc cw),[ov [Aq n0 n rs n1 m w e1 R e3],ov [bv fin],CJ,CK,Gv]):=
 kL [] (.mk [] [] [some (ag (AS ta tb tc td)),some (tu [AA nn kc cw,iv er])] [] []) KOk.nil (.cons ihd (.cons ihe .nil)) 631 31 [0,1,2,3,4]
theorem rrU:sL (AEr) (JT G b) (rkS (AEY n0 n rs n1 m w e1 R e3) fin k gs bs) (xN,(AE1 G b nn kc cw),[ov [Aq n0 n rs n1 m w e1 R e3],ov [bv fin],CJ,CK,Lo k,oA 1 false k fun i=>(AEX gs i),oA 1 false k fun i=>(BN bs i)]):=
 kL [] (.mk [] [] [some (ag (AS ta tb tc td)),some (tu [AA nn kc cw,iv er])] [] []) KOk.nil (.cons ihd (.cons ihe .nil)) 631 127 [0,1,2,3,4,5,6]
end
noncomputable abbrev AFB:=cB (cR (cL (cR (cR (AB prog 91)))))
abbrev Gy (a0:List Int):=decide ((↑a0.length:Int)>1)
abbrev JU (a0:List Int):=sl true 1 a0.length fun i=>(E7 a0 i)
abbrev AE2 (a0:List Int)(a1:Int):=[JU a0,iv a1,pt 0 0,pt 1 0,pt 2 0,pt 3 0,pt 4 0]
theorem Z8 (n0:Bool)(n:Nat)(rs:Nat->ResD)(n1:Bool)(m:Nat)(w:Nat->Int)(e1:List (EV×EV))(R:RulesV)(e3:List (EV×EV))(fin:Bool)(G:List Int)(b:Int)(k:Nat)(gs:Nat->List Int)(bs:Nat->Int)(h1:(G.length:Int)<=1)(h4:k<=100000)(ih:sL (AFB) (AFA G b) (rkN (AEY n0 n rs n1 m w e1 R e3) fin) ((xL 0,frame 84 [(0,(AEZ G)),(1,.int .i64 b),(6,.ptr 4 0)],(rkN (AEY n0 n rs n1 m w e1 R e3) fin)):RC)):sF 91 (AE2 G b) (rkN (AEY n0 n rs n1 m w e1 R e3) fin) (tu []) [ov [Aq n0 n rs n1 m w e1 R e3],ov [bv fin],CJ,CK,EObj.var false false [EV.ms 5 1 0 1 none,EV.ms 6 1 0 1 none],oA 1 false 1 fun i=>[[JU G]].getD (0+i) [],oA 1 false 1 fun i=>[[iv b]].getD (0+i) []]:=
 kF [[]] (.mk (dS 27) [(11,.is 3848290697335 31 (xL 0,(AEq G b),[ov [Aq n0 n rs n1 m w e1 R e3],ov [bv fin],CJ,CK,Gv]))] [] [] []) (kO AD) (.cons ih (oI ((Gy G)=false) .nil)) 127 [0,1,2,3,4,6,8]
section
variable (n0:Bool)(n:Nat)(rs:Nat->ResD)(n1:Bool)(m:Nat)(w:Nat->Int)(e1:List (EV×EV))(R:RulesV)(e3:List (EV×EV))(fin:Bool)(G:List Int)(b:Int)(k:Nat)(gs:Nat->List Int)(bs:Nat->Int)(nn:Bool)(kc:Nat)(cw:Nat->Int)(k1:Nat)(gs1:Nat->List Int)(bs1:Nat->Int)(ta:Int)(tb:Int)(tc:Int)(td:Int)(er:Int)(z:Bool)(h1:(G.length:Int)>1)(h4:k<=100000)(ihr:sL (AEr) (JT G b) (rkN (AEY n0 n rs n1 m w e1 R e3) fin) ((xN,frame 84 [(0,(AEZ G)),(1,.int .i64 b),(2,.ptr 0 0),(4,.ptr 2 0),(5,.ptr 3 0),(6,.ptr 4 0),(9,nums nn kc cw)],(rkN (AEY n0 n rs n1 m w e1 R e3) fin)):RC))(ih1:z=true->sL (cB (cR (cL (cR (cR (AB prog 91)))))) (rkO (sl true 1 G.length fun j=>[iv (G.getD j 0)]) b (nums nn kc cw) kc 0) (rkN (Bw n0 n rs n1 m w e1 R e3) fin) ((xL 0,frame 84 [(0,(sl true 1 G.length fun j=>[iv (G.getD j 0)])),(1,.int .i64 b),(6,.ptr 4 0)],(rkN (Bw n0 n rs n1 m w e1 R e3) fin)):RC))(ih2:z=false->sL (cB (cR (cL (cR (cR (AB prog 91)))))) (rkO (sl true 1 G.length fun j=>[iv (G.getD j 0)]) b (nums nn kc cw) kc 0) (rkN (Bw n0 n rs n1 m w e1 R e3) fin) ((EX.ret,frame 84 [],(rkS (Bw n0 n rs n1 m w e1 R e3) fin k1 gs1 bs1)):RC))
include n0 n rs n1 m w e1 R e3 fin G b k gs bs nn kc cw k1 gs1 bs1 ta tb tc td er z h1 h4 ihr ih1 ih2
theorem Z9 (q0:(z)=true):sF 91 (AE2 G b) (rkN (AEY n0 n rs n1 m w e1 R e3) fin) (tu []) [ov [Aq n0 n rs n1 m w e1 R e3],ov [bv fin],CJ,CK,EObj.var false false [EV.ms 5 1 0 1 none,EV.ms 6 1 0 1 none],oA 1 false 1 fun i=>[[JU G]].getD (0+i) [],oA 1 false 1 fun i=>[[iv b]].getD (0+i) []]:=
 kF [[(z,true)]] (.mk (dS 26) [(6,.is 127 31 (xN,(AE1 G b nn kc cw),[ov [Aq n0 n rs n1 m w e1 R e3],ov [bv fin],CJ,CK,Gv])),(4,.is 3848290697335 31 (xL 0,(AEq G b),[ov [Aq n0 n rs n1 m w e1 R e3],ov [bv fin],CJ,CK,Gv]))] [] [] []) (kO (kz q0 AD)) (.cons (ih1 (by assumption)) (.cons ihr (oI ((Gy G)=true) .nil))) 127 [0,1,2,3,4,6,8]
theorem zA (q0:Av z):sF 91 (AE2 G b) (rkN (AEY n0 n rs n1 m w e1 R e3) fin) (tu []) [ov [Aq n0 n rs n1 m w e1 R e3],ov [bv fin],CJ,CK,Lo k1,oA 1 false k1 fun i=>(AEX gs1 i),oA 1 false k1 fun i=>(BN bs1 i)]:=
 kF [[(z,false)]] (.mk (dS 26) [(6,.is 127 31 (xN,(AE1 G b nn kc cw),[ov [Aq n0 n rs n1 m w e1 R e3],ov [bv fin],CJ,CK,Gv])),(4,.is 3848290697335 31 (EX.ret,(AEe),[ov [Aq n0 n rs n1 m w e1 R e3],ov [bv fin],CJ,CK,Lo k1,oA 1 false k1 fun i=>(AEX gs1 i),oA 1 false k1 fun i=>(BN bs1 i)]))] [] [] []) (kO (kz q0 AD)) (.cons (ih2 (by assumption)) (.cons ihr (oI ((Gy G)=true) .nil))) 127 [0,1,2,3,4,5,6]
end
abbrev AFC (a0:Nat)(a1:Nat->Int)(a2:Int):=AU a0 (fun i=>[iv (a1 (0+i))]) fun i=>[[iv a2]].getD (0+i) []
abbrev Lr (a0:Nat->List Int)(a1:Nat):=[sl true 1 (a0 (0+a1)).length fun i_1=>[iv ((a0 (0+a1)).getD i_1 0)]]
abbrev AFD (a0:Nat):=decide ((a0+1)*24<=70368744177664) && decide (I7 a0)
abbrev AFE (a0:Nat)(a1:Nat->List Int)(a2:List Int):=AU a0 (fun i=>(Lr a1 i)) fun i=>[[JU a2]].getD (0+i) []
theorem zB (n0:Bool)(n:Nat)(rs:Nat->ResD)(n1:Bool)(m:Nat)(w:Nat->Int)(e1:List (EV×EV))(R:RulesV)(e3:List (EV×EV))(fin:Bool)(G:List Int)(b:Int)(k:Nat)(gs:Nat->List Int)(bs:Nat->Int)(h1:(G.length:Int)<=1)(h4:k<=100000)(ih:sL (AFB) (AFA G b) (rkS (AEY n0 n rs n1 m w e1 R e3) fin k gs bs) ((xL 0,frame 84 [(0,(AEZ G)),(1,.int .i64 b),(6,.ptr 4 0)],(rkS (AEY n0 n rs n1 m w e1 R e3) fin k gs bs)):RC)):sF 91 (AE2 G b) (rkS (AEY n0 n rs n1 m w e1 R e3) fin k gs bs) (tu []) [ov [Aq n0 n rs n1 m w e1 R e3],ov [bv fin],CJ,CK,EObj.var false false [EV.ms 7 1 0 (k+1) none,EV.ms 8 1 0 (k+1) none],oD,oD,oA 1 false (k+1) (AFE k gs G),oA 1 false (k+1) (AFC k bs b)]:=
 kF [[]] (.mk (dS 7082) [(11,.is 3848290697335 127 (xL 0,(AEq G b),[ov [Aq n0 n rs n1 m w e1 R e3],ov [bv fin],CJ,CK,Lo k,oA 1 false k fun i=>(AEX gs i),oA 1 false k fun i=>(BN bs i)]))] [] [] []) (kO AD) (oL ((Hx k)=true) (oL ((AFD k)=true) (.cons ih (oI ((Gy G)=false) .nil)))) 415 [0,1,2,3,4,5,6,8,10]
section
variable (n0:Bool)(n:Nat)(rs:Nat->ResD)(n1:Bool)(m:Nat)(w:Nat->Int)(e1:List (EV×EV))(R:RulesV)(e3:List (EV×EV))(fin:Bool)(G:List Int)(b:Int)(k:Nat)(gs:Nat->List Int)(bs:Nat->Int)(nn:Bool)(kc:Nat)(cw:Nat->Int)(k1:Nat)(gs1:Nat->List Int)(bs1:Nat->Int)(ta:Int)(tb:Int)(tc:Int)(td:Int)(er:Int)(z:Bool)(h1:(G.length:Int)>1)(h4:k<=100000)(ihr:sL (AEr) (JT G b) (rkS (AEY n0 n rs n1 m w e1 R e3) fin k gs bs) ((xN,frame 84 [(0,(AEZ G)),(1,.int .i64 b),(2,.ptr 0 0),(4,.ptr 2 0),(5,.ptr 3 0),(6,.ptr 4 0),(9,nums nn kc cw)],(rkS (AEY n0 n rs n1 m w e1 R e3) fin k gs bs)):RC))(ih1:z=true->sL (cB (cR (cL (cR (cR (AB prog 91)))))) (rkO (sl true 1 G.length fun j=>[iv (G.getD j 0)]) b (nums nn kc cw) kc 0) (rkS (Bw n0 n rs n1 m w e1 R e3) fin k gs bs) ((xL 0,frame 84 [(0,(sl true 1 G.length fun j=>[iv (G.getD j 0)])),(1,.int .i64 b),(6,.ptr 4 0)],(rkS (Bw n0 n rs n1 m w e1 R e3) fin k gs bs)):RC))(ih2:z=false->sL (cB (cR (cL (cR (cR (AB prog 91)))))) (rkO (sl true 1 G.length fun j=>[iv (G.getD j 0)]) b (nums nn kc cw) kc 0) (rkS (Bw n0 n rs n1 m w e1 R e3) fin k gs bs) ((EX.ret,frame 84 [],(rkC (Bw n0 n rs n1 m w e1 R e3) fin k1 gs1 bs1)):RC))
include n0 n rs n1 m w e1 R e3 fin G b k gs bs nn kc cw k1 gs1 bs1 ta tb tc td er z h1 h4 ihr ih1 ih2
theorem zC (q0:(z)=true):sF 91 (AE2 G b) (rkS (AEY n0 n rs n1 m w e1 R e3) fin k gs bs) (tu []) [ov [Aq n0 n rs n1 m w e1 R e3],ov [bv fin],CJ,CK,EObj.var false false [EV.ms 7 1 0 (k+1) none,EV.ms 8 1 0 (k+1) none],oD,oD,oA 1 false (k+1) (AFE k gs G),oA 1 false (k+1) (AFC k bs b)]:=
 kF [[(z,true)]] (.mk (dS 6826) [(6,.is 127 127 (xN,(AE1 G b nn kc cw),[ov [Aq n0 n rs n1 m w e1 R e3],ov [bv fin],CJ,CK,Lo k,oA 1 false k fun i=>(AEX gs i),oA 1 false k fun i=>(BN bs i)])),(4,.is 3848290697335 127 (xL 0,(AEq G b),[ov [Aq n0 n rs n1 m w e1 R e3],ov [bv fin],CJ,CK,Lo k,oA 1 false k fun i=>(AEX gs i),oA 1 false k fun i=>(BN bs i)]))] [] [] []) (kO (kz q0 AD)) (oL ((Hx k)=true) (oL ((AFD k)=true) (.cons (ih1 (by assumption)) (.cons ihr (oI ((Gy G)=true) .nil))))) 415 [0,1,2,3,4,5,6,8,10]
theorem zD (q0:Av z):sF 91 (AE2 G b) (rkS (AEY n0 n rs n1 m w e1 R e3) fin k gs bs) (tu []) [ov [Aq n0 n rs n1 m w e1 R e3],ov [bv fin],CJ,CK,Lp k1,oD,oD,oA 1 false k1 fun i=>(AEX gs1 i),oA 1 false k1 fun i=>(BN bs1 i)]:=
 kF [[(z,false)]] (.mk (dS 26) [(6,.is 127 127 (xN,(AE1 G b nn kc cw),[ov [Aq n0 n rs n1 m w e1 R e3],ov [bv fin],CJ,CK,Lo k,oA 1 false k fun i=>(AEX gs i),oA 1 false k fun i=>(BN bs i)])),(4,.is 3848290697335 127 (EX.ret,(AEe),[ov [Aq n0 n rs n1 m w e1 R e3],ov [bv fin],CJ,CK,Lp k1,oD,oD,oA 1 false k1 fun i=>(AEX gs1 i),oA 1 false k1 fun i=>(BN bs1 i)]))] [] [] []) (kO (kz q0 AD)) (.cons (ih2 (by assumption)) (.cons ihr (oI ((Gy G)=true) .nil))) 415 [0,1,2,3,4,5,6,7,8]
end
def B9 (S:List Int->Int->List (List Int))(G:List Int):List Int->Option (Int×List (List Int))
 | []=>none
 | c :: cs=>if (S G c).length=1 then B9 S G cs else some (c,S G c)
def HL (f:List Int->Int->List (List Int×Int))(c:Int):List (List Int)->Int->List (List Int×Int)
 | [],_=>[]
 | p :: ps,b=>f p b++HL f c ps c
def vis (S:List Int->Int->List (List Int))(C:Nat->List Int):Nat->List Int->Int->List (List Int×Int)
 | 0,G,b=>[(G,b)]
 | n+1,G,b=>if G.length<=1 then [(G,b)] else match B9 S G (C G.length) with
  | none=>[(G,b)]
  | some (c,ps)=>HL (vis S C n) c ps b
theorem Im {S:List Int->Int->List (List Int)}{G:List Int}:∀ {cs:List Int} {c:Int} {ps:List (List Int)},B9 S G cs=some (c,ps)->c∈cs/\ps=S G c/\ps.length≠1
 | [],c,ps,h=>by simp [B9] at h
 | x :: xs,c,ps,h=>by
  rw [B9] at h
  split at h
  ·obtain ⟨h1,h2⟩:=Im h
   exact ⟨List.mem_cons_of_mem _ h1,h2⟩
  ·rename_i hn
   obtain ⟨rfl,rfl⟩:=Prod.mk.inj (Option.some.inj h)
   exact ⟨List.mem_cons_self,rfl,hn⟩
structure VisOk (G:List Int) (b:Int) (R:List (List Int×Int)):Prop where
 all:(R.map Prod.fst).flatten.Perm G
 ne:∀ x∈R,x.1≠[]/\x.1.Pairwise (·<·)
 head:∃ G0 R',R=(G0,b) :: R'/\∀ x∈R',1<=x.2/\x.2<=12
theorem VisOk.one {G:List Int}{b:Int}(h1:G≠[])(h2:G.Pairwise (·<·)):VisOk G b [(G,b)]:=
 ⟨by simp,fun x hx=>by obtain rfl:=List.mem_singleton.1 hx; exact ⟨h1,h2⟩,⟨G,[],rfl,fun x hx=>by cases hx⟩⟩
theorem Rm {f:List Int->Int->List (List Int×Int)}{c:Int}(hc:1<=c/\c<=12):∀ (ps:List (List Int)) (b:Int),ps≠[]->(∀ p∈ps,∀ b,VisOk p b (f p b))->VisOk ps.flatten b (HL f c ps b)
 | [],b,h,_=>absurd rfl h
 | p :: ps,b,_,hf=>by
  have h1:=hf p List.mem_cons_self b
  obtain ⟨G0,R',e0,hR'⟩:=h1.head
  cases ps with
  | nil=>
   rw [HL,HL,List.append_nil]
   simpa using h1
  | cons q qs=>
   have h2:=Rm hc (q :: qs) c (by simp) (fun p hp b=>hf p (List.mem_cons_of_mem _ hp) b)
   obtain ⟨G1,R1,e1,hR1⟩:=h2.head
   rw [HL]
   refine ⟨?_,fun x hx=>?_,G0,R'++HL f c (q :: qs) c,by rw [e0]; rfl,fun x hx=>?_⟩
   ·rw [List.map_append,List.flatten_append,List.flatten_cons]
    exact h1.all.append h2.all
   ·rcases List.mem_append.1 hx with h | h
    ·exact h1.ne x h
    ·exact h2.ne x h
   ·rcases List.mem_append.1 hx with h | h
    ·exact hR' x h
    ·rw [e1] at h
     rcases List.mem_cons.1 h with h | h
     ·rw [h]; exact hc
     ·exact hR1 x h
theorem OZ {l:List Int}{R:List (List Int)}(h:PartsOf l R)(hl:l≠[])(h1:R.length≠1):R≠[]/\∀ p∈R,p.length<l.length:=by
 have hne:R≠[]:=by
  rintro rfl
  have:=h.all.length_eq
  simp at this
  exact hl (List.length_eq_zero_iff.1 this.symm)
 refine ⟨hne,fun p hp=>?_⟩
 obtain ⟨A,B,rfl⟩:=List.append_of_mem hp
 have hlen:=h.all.length_eq
 have key:∃ q,q∈A++B/\q∈A++p :: B:=by
  cases A with
  | cons a A=>exact ⟨a,by simp,by simp⟩
  | nil=>
   cases B with
   | nil=>simp at h1
   | cons b B=>exact ⟨b,by simp,by simp⟩
 obtain ⟨q,hq,hq'⟩:=key
 have hq0:=List.length_pos_iff.2 (h.ne q hq')
 obtain ⟨X,Y,e⟩:=List.append_of_mem hq
 have e2:(A++B).flatten.length=(X++q :: Y).flatten.length:=by rw [e]
 simp only [List.flatten_append,List.length_append,List.flatten_cons] at hlen e2
 omega
def MT (S:List Int->Int->List (List Int)):Prop:=∀ G c,G≠[]->G.length<=8->G.Pairwise (·<·)->1<=c/\c<=12->PartsOf G (S G c)
theorem Pc {S:List Int->Int->List (List Int)}{C:Nat->List Int}(hS:MT S)(hC:∀ n,∀ c∈C n,1<=c/\c<=12):∀ (n:Nat) (G:List Int) (b:Int),G≠[]->G.Pairwise (·<·)->G.length<=8->G.length<=n->VisOk G b (vis S C n G b)
 | 0,G,b,h1,_,_,h4=>absurd (List.length_eq_zero_iff.1 (by omega)) h1
 | n+1,G,b,h1,h2,h3,h4=>by
  rw [vis]
  split
  ·exact VisOk.one h1 h2
  ·split
   ·exact VisOk.one h1 h2
   ·rename_i c ps hf
    obtain ⟨hc,rfl,hn⟩:=Im hf
    have hp:=hS G c h1 h3 h2 (hC _ c hc)
    obtain ⟨h5,h6⟩:=OZ hp h1 hn
    have hv:=Rm (f:=vis S C n) (hC _ c hc) (S G c) b h5 (fun p hp' b=>Pc hS hC n p b (hp.ne p hp') (hp.inc p hp') (by have:=h6 p hp'; omega) (by have:=h6 p hp'; omega))
    exact ⟨hv.all.trans hp.all,hv.ne,hv.head⟩
def AFL (a c:Int)(ps:List (List Int)):Bool:=ps.any (fun p=>p.contains a) && ps.any (fun p=>p.contains c) && !ps.any (fun p=>p.contains a && p.contains c)
def AE7 (a c:Int)(l:List (Int×List (List Int)))(z:Int):Int:=l.foldl (fun z x=>if AFL a c x.2 then x.1 else z) z
def AEb (S:List Int->Int->List (List Int))(C:Nat->List Int):Nat->List Int->List (Int×List (List Int))
 | 0,_=>[]
 | n+1,G=>if G.length<=1 then [] else match B9 S G (C G.length) with
  | none=>[]
  | some (c,ps)=>(c,ps) :: ps.flatMap (AEb S C n)
theorem AE9 (a c:Int)(l m:List (Int×List (List Int)))(z:Int):AE7 a c (l++m) z=AE7 a c m (AE7 a c l z):=List.foldl_append
theorem AFW {a c:Int}:∀ {l:List (Int×List (List Int))} {z:Int},(∀ x∈l,AFL a c x.2=false)->AE7 a c l z=z
 | [],_,_=>rfl
 | x :: l,z,h=>by
  have h1:=h x List.mem_cons_self
  show AE7 a c l (if AFL a c x.2 then x.1 else z)=z
  rw [h1]
  exact AFW fun y hy=>h y (List.mem_cons_of_mem _ hy)
theorem AFF {a c:Int}{ps:List (List Int)}(h:∀ p∈ps,a ∉ p):AFL a c ps=false:=by
 have:ps.any (fun p=>p.contains a)=false:=by
  rw [List.any_eq_false]
  intro p hp
  simpa using h p hp
 unfold AFL
 rw [this]
 rfl
theorem AFX {a c:Int}{ps:List (List Int)}(h:∀ p∈ps,c ∉ p):AFL a c ps=false:=by
 have:ps.any (fun p=>p.contains c)=false:=by
  rw [List.any_eq_false]
  intro p hp
  simpa using h p hp
 unfold AFL
 rw [this]
 simp
theorem AFc {a c:Int}{ps:List (List Int)}{p:List Int}(hp:p∈ps)(ha:a∈p)(hc:c∈p):AFL a c ps=false:=by
 have:ps.any (fun p=>p.contains a && p.contains c)=true:=by
  rw [List.any_eq_true]
  exact ⟨p,hp,by simp [ha,hc]⟩
 unfold AFL
 rw [this]
 simp
theorem AFd {a c:Int}{ps:List (List Int)}{p q:List Int}(hp:p∈ps)(hq:q∈ps)(ha:a∈p)(hc:c∈q)(h:∀ x∈ps,a∈x->c ∉ x):AFL a c ps=true:=by
 have h1:ps.any (fun p=>p.contains a)=true:=List.any_eq_true.2 ⟨p,hp,by simp [ha]⟩
 have h2:ps.any (fun p=>p.contains c)=true:=List.any_eq_true.2 ⟨q,hq,by simp [hc]⟩
 have h3:ps.any (fun p=>p.contains a && p.contains c)=false:=by
  rw [List.any_eq_false]
  intro x hx
  by_cases hxa:a∈x
  ·simp [h x hx hxa]
  ·simp [hxa]
 unfold AFL
 rw [h1,h2,h3]
 rfl
def Adj {α:Type}(P:α->α->Prop):List α->Prop
 | []=>True
 | [_]=>True
 | x :: y :: l=>P x y/\Adj P (y :: l)
theorem Adj.mono {α:Type}{P Q:α->α->Prop}:∀ {l:List α},(∀ x∈l,∀ y∈l,P x y->Q x y)->Adj P l->Adj Q l
 | [],_,_=>trivial
 | [_],_,_=>trivial
 | x :: y :: l,h,h1=>⟨h x List.mem_cons_self y (List.mem_cons_of_mem _ List.mem_cons_self) h1.1,Adj.mono (fun a ha b hb=>h a (List.mem_cons_of_mem _ ha) b (List.mem_cons_of_mem _ hb)) h1.2⟩
theorem Adj.append {α:Type}{P:α->α->Prop}:∀ {l m:List α},Adj P l->Adj P m->(∀ x∈l,∀ y m',m=y :: m'->P x y)->Adj P (l++m)
 | [],_,_,h2,_=>h2
 | [x],[],_,_,_=>trivial
 | [x],y :: m,_,h2,h3=>⟨h3 x List.mem_cons_self y m rfl,h2⟩
 | x :: y :: l,m,h1,h2,h3=>⟨h1.1,Adj.append (l:=y :: l) h1.2 h2 fun a ha=>h3 a (List.mem_cons_of_mem _ ha)⟩
section
variable {S:List Int->Int->List (List Int)}{C:Nat->List Int}(hS:MT S)(hC:∀ n,∀ c∈C n,1<=c/\c<=12)
include hS hC
theorem AFM:∀ (n:Nat) (G:List Int),G≠[]->G.Pairwise (·<·)->G.length<=8->G.length<=n->∀ x∈AEb S C n G,∀ p∈x.2,∀ a∈p,a∈G
 | 0,G,_,_,_,_,x,hx=>by cases hx
 | n+1,G,h1,h2,h3,h4,x,hx=>by
  rw [AEb] at hx
  split at hx
  ·cases hx
  ·split at hx
   ·cases hx
   ·rename_i c ps hf
    obtain ⟨hc,rfl,hn⟩:=Im hf
    have hp:=hS G c h1 h3 h2 (hC _ c hc)
    obtain ⟨h5,h6⟩:=OZ hp h1 hn
    have hmem:∀ p∈S G c,∀ a∈p,a∈G:=fun p hp' a ha=>hp.all.mem_iff.1 (List.mem_flatten.2 ⟨p,hp',ha⟩)
    rcases List.mem_cons.1 hx with rfl | hx
    ·exact hmem
    ·obtain ⟨q,hq,hx⟩:=List.mem_flatMap.1 hx
     intro p hp' a ha
     exact hmem q hq a (AFM n q (hp.ne q hq) (hp.inc q hq) (by have:=h6 q hq; omega) (by have:=h6 q hq; omega) x hx p hp' a ha)
theorem AFN:∀ (n:Nat) (G:List Int) (b:Int),G≠[]->G.Pairwise (·<·)->G.length<=8->G.length<=n->
  Adj (fun x y=>∀ a∈x.1,∀ c∈y.1,∀ z,AE7 a c (AEb S C n G) z=y.2) (vis S C n G b)/\∀ x∈vis S C n G b,∀ a∈x.1,∀ c∈x.1,∀ z,AE7 a c (AEb S C n G) z=z
 | 0,G,b,h1,_,_,h4=>absurd (List.length_eq_zero_iff.1 (by omega)) h1
 | n+1,G,b,h1,h2,h3,h4=>by
  rw [vis,AEb]
  split
  ·exact ⟨trivial,fun x _ a _ c _ z=>rfl⟩
  ·cases hf:B9 S G (C G.length) with
   | none=>exact ⟨trivial,fun x _ a _ c _ z=>rfl⟩
   | some q=>
    obtain ⟨cr,ps⟩:=q
    obtain ⟨hcr,rfl,hn⟩:=Im hf
    have hp:=hS G cr h1 h3 h2 (hC _ cr hcr)
    obtain ⟨h5,h6⟩:=OZ hp h1 hn
    have hnd:(S G cr).flatten.Nodup:=hp.all.nodup_iff.2 (h2.imp fun h=>Int.ne_of_lt h)
    have sub:∀ q∈S G cr,∀ b,VisOk q b (vis S C n q b):=fun q hq b=>Pc hS hC n q b (hp.ne q hq) (hp.inc q hq) (by have:=h6 q hq; omega) (by have:=h6 q hq; omega)
    have mem:∀ q∈S G cr,∀ b,∀ x∈vis S C n q b,∀ a∈x.1,a∈q:=fun q hq b x hx a ha=>(sub q hq b).all.mem_iff.1 (List.mem_flatten.2 ⟨x.1,List.mem_map_of_mem hx,ha⟩)
    have esub:∀ q∈S G cr,∀ x∈AEb S C n q,∀ p∈x.2,∀ a∈p,a∈q:=fun q hq=>AFM hS hC n q (hp.ne q hq) (hp.inc q hq) (by have:=h6 q hq; omega) (by have:=h6 q hq; omega)
    have ih:=fun q hq b=>AFN n q b (hp.ne q hq) (hp.inc q hq) (by have:=h6 q hq; omega) (by have:=h6 q hq; omega)
    have key:∀ (ps pre:List (List Int)) (b:Int),S G cr=pre++ps->
      Adj (fun x y=>∀ a∈x.1,∀ c∈y.1,∀ z,AE7 a c ((cr,S G cr) :: (S G cr).flatMap (AEb S C n)) z=y.2) (HL (vis S C n) cr ps b)/\∀ x∈HL (vis S C n) cr ps b,∀ a∈x.1,∀ c∈x.1,∀ z,AE7 a c ((cr,S G cr) :: (S G cr).flatMap (AEb S C n)) z=z:=by
     intro ps
     induction ps with
     | nil=>intro pre b _; exact ⟨trivial,fun x hx=>by cases hx⟩
     | cons p ps ihp=>
      intro pre b he
      have hpm:p∈S G cr:=by rw [he]; simp
      have hpsm:∀ q∈ps,q∈S G cr:=fun q hq=>by rw [he]; simp [hq]
      have hdis:∀ q,q∈pre∨q∈ps->∀ a∈p,a ∉ q:=by
       have hnd':=hnd
       rw [he,List.flatten_append,List.flatten_cons] at hnd'
       obtain ⟨_,hnd2,hx1⟩:=List.nodup_append.1 hnd'
       obtain ⟨_,_,hx2⟩:=List.nodup_append.1 hnd2
       rintro q (hq | hq) a ha hq'
       ·exact hx1 a (List.mem_flatten.2 ⟨q,hq,hq'⟩) a (List.mem_append_left _ ha) rfl
       ·exact hx2 a ha a (List.mem_flatten.2 ⟨q,hq,hq'⟩) rfl
      have hin:∀ a∈p,∀ c∈p,∀ z,AE7 a c ((cr,S G cr) :: (S G cr).flatMap (AEb S C n)) z=AE7 a c (AEb S C n p) z:=by
       intro a ha c hc z
       show AE7 a c ((S G cr).flatMap (AEb S C n)) (if AFL a c (S G cr) then cr else z)=_
       rw [AFc hpm ha hc]
       have e2:(S G cr).flatMap (AEb S C n)=pre.flatMap (AEb S C n)++(AEb S C n p++ps.flatMap (AEb S C n)):=by
        conv=>lhs; rw [he]
        rw [List.flatMap_append,List.flatMap_cons]
       rw [e2,AE9,AE9]
       rw [AFW (l:=pre.flatMap (AEb S C n)) (fun x hx=>by
        obtain ⟨q,hq,hx⟩:=List.mem_flatMap.1 hx
        exact AFF fun r hr har=>hdis q (.inl hq) a ha (esub q (by rw [he]; simp [hq]) x hx r hr a har))]
       rw [AFW (l:=ps.flatMap (AEb S C n)) (fun x hx=>by
        obtain ⟨q,hq,hx⟩:=List.mem_flatMap.1 hx
        exact AFF fun r hr har=>hdis q (.inr hq) a ha (esub q (hpsm q hq) x hx r hr a har))]
       rfl
      obtain ⟨k1,k2⟩:=ih p hpm b
      obtain ⟨k3,k4⟩:=ihp (pre++[p]) cr (by rw [he]; simp)
      rw [HL]
      refine ⟨Adj.append (Adj.mono (fun x hx y hy h a ha c hc z=>?_) k1) k3 fun x hx y m' hm a ha c hc z=>?_,fun x hx a ha c hc z=>?_⟩
      ·rw [hin a (mem p hpm b x hx a ha) c (mem p hpm b y hy c hc)]
       exact h a ha c hc z
      ·
       have hps:ps≠[]:=by
        rintro rfl
        rw [HL] at hm
        cases hm
       have hv:=Rm (f:=vis S C n) (hC _ cr hcr) ps cr hps fun q hq b=>sub q (hpsm q hq) b
       obtain ⟨G1,R1,e1,_⟩:=hv.head
       rw [e1] at hm
       obtain ⟨rfl,_⟩:=List.cons.inj hm
       have hcps:c∈ps.flatten:=hv.all.mem_iff.1 (List.mem_flatten.2 ⟨G1,by rw [e1]; simp,hc⟩)
       obtain ⟨q,hq,hcq⟩:=List.mem_flatten.1 hcps
       have hap:=mem p hpm b x hx a ha
       have hsep:∀ r∈S G cr,a∈r->c ∉ r:=by
        intro r hr har hcr'
        have hr':=hr
        rw [he] at hr'
        rcases List.mem_append.1 hr' with h | h
        ·exact hdis r (.inl h) a hap har
        ·rcases List.mem_cons.1 h with rfl | h
         ·exact hdis q (.inr hq) c hcr' hcq
         ·exact hdis r (.inr h) a hap har
       show AE7 a c ((S G cr).flatMap (AEb S C n)) (if AFL a c (S G cr) then cr else z)=cr
       rw [AFd hpm (hpsm q hq) hap hcq hsep]
       exact AFW fun y hy=>by
        obtain ⟨r,hr,hy⟩:=List.mem_flatMap.1 hy
        by_cases har:a∈r
        ·exact AFX fun s hs hcs=>hsep r hr har (esub r hr y hy s hs c hcs)
        ·exact AFF fun s hs has=>har (esub r hr y hy s hs a has)
      ·rcases List.mem_append.1 hx with h | h
       ·rw [hin a (mem p hpm b x h a ha) c (mem p hpm b x h c hc)]
        exact k2 x h a ha c hc z
       ·exact k4 x h a ha c hc z
    exact key (S G cr) [] b rfl
end
def C6 (A:List (List Int×Int))(j:Nat):List Int:=(A.getD j ([],0)).1
def Dc (A:List (List Int×Int))(j:Nat):Int:=(A.getD j ([],0)).2
def GD (D:List (List Int))(j:Nat):List Int:=D.getD j []
noncomputable abbrev Xm:Code:=(cB (cB (cR (cL (cR (cR (cR (cR (cB (cL (cR (cR (cB (cB (cR (cL (cR (cR (AB prog 91)))))))))))))))))))
noncomputable abbrev vB4:Code:=(cB (cB (cR (cL (cR (cR (AB prog 91)))))))
abbrev ND (C:List EV)(fin:Bool)(A:List (List Int×Int)):AL:=rkS C fin A.length (C6 A) (Dc A)
abbrev RI (C:List EV)(fin:Bool)(A:List (List Int×Int)):AL:=rkC C fin A.length (C6 A) (Dc A)
def Xn (C:List EV)(fin:Bool)(G:List Int)(b:Int)(L:List (List Int×Int)):Prop:=sF 91 (rkA (FV G) b) (rkN C fin) (EV.tuple []) (ND C fin L)
def Xo (C:List EV)(fin:Bool)(G:List Int)(b:Int)(L:List (List Int×Int)):Prop:=∀ A:List (List Int×Int),A.length+G.length<=1000->sF 91 (rkA (FV G) b) (ND C fin A) (EV.tuple []) (RI C fin (A++L))
section
variable {C:List EV}{fin:Bool}
theorem Kv {D:List (List Int)}{i:Nat}(h:i<D.length):GD D i∈D:=by
 unfold GD
 rw [List.getD_eq_getElem?_getD,List.getElem?_eq_getElem h,Option.getD_some]
 exact List.getElem_mem _
theorem drop_cons (D:List (List Int))(i:Nat)(h:i<D.length):D.drop i=GD D i :: D.drop (i+1):=by
 rw [List.drop_eq_getElem_cons h]
 unfold GD
 rw [List.getD_eq_getElem?_getD,List.getElem?_eq_getElem h,Option.getD_some]
section
variable {f:List Int->Int->List (List Int×Int)}{c:Int}{D:List (List Int)}(hD:D.length<=1000)(hU:∀ p∈D,∀ b,Xn C fin p b (f p b)/\Xo C fin p b (f p b)/\(f p b).length<=p.length)
include hD hU
theorem U1:∀ (j i:Nat) (b:Int) (A:List (List Int×Int)),i+j=D.length->0<i->A.length+(D.drop i).flatten.length<=1000->
  sLR 5 Xm (rkI b c D.length (GD D) i) (ND C fin A) (EX.leave 2,frame 84 [],ND C fin (A++HL f c (D.drop i) c))
 | 0,i,b,A,h,h0,hA=>by
  obtain rfl:i=D.length:=by omega
  rw [List.drop_length,HL,List.append_nil]
  exact SemLR.lastR (ABk C fin b c D.length (GD D) D.length A.length (C6 A) (Dc A) 0 (fun _=>[]) (fun _=>0) (by omega) (by omega) (by omega) (fun h=>by omega) (by simp)) (by simp)
 | j+1,i,b,A,h,h0,hA=>by
  obtain ⟨_,hu,hl⟩:=hU _ (Kv (show i<D.length by omega)) c
  rw [drop_cons D i (by omega),List.flatten_cons,List.length_append] at hA
  rw [drop_cons D i (by omega),HL,<-List.append_assoc]
  refine SemLR.stepR (ABj C fin b c D.length (GD D) i A.length (C6 A) (Dc A) _ _ _ (by omega) (by omega) (by omega) (fun _=>hu A (by omega)) (by simp; omega)) ?_
  exact U1 j (i+1) c (A++f (GD D i) c) (by omega) (by omega) (by rw [List.length_append]; omega)
theorem U2:∀ (j i:Nat) (b:Int) (A:List (List Int×Int)),i+j=D.length->0<i->A.length+(D.drop i).flatten.length<=1000->
  sLR 7 Xm (rkI b c D.length (GD D) i) (RI C fin A) (EX.leave 2,frame 84 [],RI C fin (A++HL f c (D.drop i) c))
 | 0,i,b,A,h,h0,hA=>by
  obtain rfl:i=D.length:=by omega
  rw [List.drop_length,HL,List.append_nil]
  exact SemLR.lastR (ABn C fin b c D.length (GD D) D.length A.length (C6 A) (Dc A) 0 (fun _=>[]) (fun _=>0) (by omega) (by omega) (by omega) (fun h=>by omega) (by simp)) (by simp)
 | j+1,i,b,A,h,h0,hA=>by
  obtain ⟨_,hu,hl⟩:=hU _ (Kv (show i<D.length by omega)) c
  rw [drop_cons D i (by omega),List.flatten_cons,List.length_append] at hA
  rw [drop_cons D i (by omega),HL,<-List.append_assoc]
  refine SemLR.stepR (ABm C fin b c D.length (GD D) i A.length (C6 A) (Dc A) _ _ _ (by omega) (by omega) (by omega) (fun _=>hu A (by omega)) (by simp; omega)) ?_
  exact U2 j (i+1) c (A++f (GD D i) c) (by omega) (by omega) (by rw [List.length_append]; omega)
theorem zE (h0:0<D.length)(hF:D.flatten.length<=1000)(b:Int):
  sL (cB (cR (cL (cR (cR (cR (cR (cB (cL (cR (cR (cB (cB (cR (cL (cR (cR (AB prog 91)))))))))))))))))) (rkI b c D.length (GD D) 0) (rkN C fin) (EX.leave 2,frame 84 [],ND C fin (HL f c D b)):=by
 refine SemLR.cl (m:=5) (c:=Xm) ?_ rfl (by kernel_rfl)
 obtain ⟨hn,_,hl⟩:=hU _ (Kv h0) b
 have e:HL f c D b=f (GD D 0) b++HL f c (D.drop 1) c:=by
  have:=drop_cons D 0 h0
  rw [List.drop_zero] at this
  conv=>lhs; rw [this]
  rw [HL]
 have e2:D.flatten.length=(GD D 0).length+(D.drop 1).flatten.length:=by
  have:=drop_cons D 0 h0
  rw [List.drop_zero] at this
  conv=>lhs; rw [this]
  rw [List.flatten_cons,List.length_append]
 rw [e]
 refine SemLR.stepR (ABi C fin b c D.length (GD D) 0 0 (fun _=>[]) (fun _=>0) _ _ _ rfl (by omega) (by omega) h0 hn) ?_
 exact U1 hD hU (D.length - 1) 1 b (f (GD D 0) b) (by omega) (by omega) (by omega)
theorem zF (h0:0<D.length)(b:Int)(A:List (List Int×Int))(hA:A.length+D.flatten.length<=1000):
  sL (cB (cR (cL (cR (cR (cR (cR (cB (cL (cR (cR (cB (cB (cR (cL (cR (cR (AB prog 91)))))))))))))))))) (rkI b c D.length (GD D) 0) (ND C fin A) (EX.leave 2,frame 84 [],RI C fin (A++HL f c D b)):=by
 refine SemLR.cl (m:=7) (c:=Xm) ?_ rfl (by kernel_rfl)
 obtain ⟨_,hu,hl⟩:=hU _ (Kv h0) b
 have e:HL f c D b=f (GD D 0) b++HL f c (D.drop 1) c:=by
  have:=drop_cons D 0 h0
  rw [List.drop_zero] at this
  conv=>lhs; rw [this]
  rw [HL]
 have e2:D.flatten.length=(GD D 0).length+(D.drop 1).flatten.length:=by
  have:=drop_cons D 0 h0
  rw [List.drop_zero] at this
  conv=>lhs; rw [this]
  rw [List.flatten_cons,List.length_append]
 rw [e,<-List.append_assoc]
 refine SemLR.stepR (ABl C fin b c D.length (GD D) 0 A.length (C6 A) (Dc A) _ _ _ rfl (by omega) (by omega) h0 (hu A (by omega))) ?_
 exact U2 hD hU (D.length - 1) 1 b (A++f (GD D 0) b) (by omega) (by omega) (by rw [List.length_append]; omega)
end
end
theorem Oa (A:List (List Int×Int))(G:List Int)(b:Int)(j:Nat):(j<A.length->C6 (A++[(G,b)]) j=C6 A j/\Dc (A++[(G,b)]) j=Dc A j)/\C6 (A++[(G,b)]) A.length=G/\Dc (A++[(G,b)]) A.length=b:=by
 unfold C6 Dc
 refine ⟨fun h=>?_,?_,?_⟩
 ·simp [List.getD_eq_getElem?_getD,List.getElem?_append_left h]
 ·simp [List.getD_eq_getElem?_getD]
 ·simp [List.getD_eq_getElem?_getD]
theorem Tb (A:List (List Int×Int))(G:List Int)(b:Int)(j:Nat)(hj:j<A.length+1):
  AU A.length (fun (i:Nat)=>[EV.isl true 1 (C6 A (0+i)).length fun (i_1:Nat)=>[EV.int IntKind.i64 ((C6 A (0+i)).getD i_1 0)]]) (fun (i:Nat)=>[[EV.isl true 1 G.length fun (i:Nat)=>[EV.int IntKind.i64 (G.getD i 0)]]].getD (0+i) []) j=
   [EV.isl true 1 (C6 (A++[(G,b)]) j).length fun i=>[EV.int .i64 ((C6 (A++[(G,b)]) j).getD i 0)]]:=by
 obtain ⟨h1,h2,_⟩:=Oa A G b j
 unfold AU
 by_cases h:j<A.length
 ·rw [if_pos h,(h1 h).1]
  dsimp only
  rw [Nat.zero_add]
 ·obtain rfl:j=A.length:=by omega
  rw [if_neg h,h2]
  simp
theorem RJ (A:List (List Int×Int))(G:List Int)(b:Int)(j:Nat)(hj:j<A.length+1):
  AU A.length (fun (i:Nat)=>[EV.int IntKind.i64 (Dc A (0+i))]) (fun (i:Nat)=>[[EV.int IntKind.i64 b]].getD (0+i) []) j=[EV.int .i64 (Dc (A++[(G,b)]) j)]:=by
 obtain ⟨h1,_,h2⟩:=Oa A G b j
 unfold AU
 by_cases h:j<A.length
 ·rw [if_pos h,(h1 h).2]
  dsimp only
  rw [Nat.zero_add]
 ·obtain rfl:j=A.length:=by omega
  rw [if_neg h,h2]
  simp
theorem Io:∀ {L:List (List Int×Int)},(∀ x∈L,x.1≠[])->L.length<=(L.map Prod.fst).flatten.length
 | [],_=>by simp
 | x :: L,h=>by
  have h1:=Io (L:=L) fun y hy=>h y (List.mem_cons_of_mem _ hy)
  have h2:=List.length_pos_iff.2 (h x List.mem_cons_self)
  rw [List.map_cons,List.flatten_cons,List.length_append,List.length_cons]
  omega
theorem VisOk.len {G:List Int}{b:Int}{L:List (List Int×Int)}(h:VisOk G b L):L.length<=G.length:=by
 rw [<-h.all.length_eq]
 exact Io fun x hx=>(h.ne x hx).1
section
variable {C:List EV}{fin:Bool}{S:List Int->Int->List (List Int)}{f:List Int->Int->List (List Int×Int)}{G:List Int}{b:Int}{nn:Bool}{kc:Nat}{cw:Nat->Int}(hk:kc<=100000)
 (hS:∀ i,i<kc->sP 94 [EV.ip C 0,FV G,EV.int .i64 (cw i)] (J7 (S G (cw i))))
 (hGl:G.length<=8) (hV:∀ i,i<kc->(S G (cw i)).length≠1->0<(S G (cw i)).length/\(S G (cw i)).length<=1000/\(S G (cw i)).flatten.length<=G.length/\∀ p∈S G (cw i),∀ b,Xn C fin p b (f p b)/\Xo C fin p b (f p b)/\(f p b).length<=p.length)
include hk hS hGl hV
theorem RK:∀ (j i:Nat),i+j=kc->
  (B9 S G ((List.range' i j).map cw)=none->sLR 5 vB4 (rkO (FV G) b (nums nn kc cw) kc i) (rkN C fin) (EX.leave 0,frame 84 [(0,FV G),(1,.int .i64 b),(6,.ptr 4 0)],rkN C fin))/\
  ∀ c ps,B9 S G ((List.range' i j).map cw)=some (c,ps)->sLR 5 vB4 (rkO (FV G) b (nums nn kc cw) kc i) (rkN C fin) (EX.ret,frame 84 [],ND C fin (HL f c ps b))
 | 0,i,h=>by
  obtain rfl:i=kc:=by omega
  refine ⟨fun _=>?_,fun c ps hf=>by simp [B9] at hf⟩
  exact SemLR.lastR (ABq C fin G b nn i cw 0 (fun _=>[]) i 0 (fun _=>[]) (fun _=>0) 0 (fun _=>[]) (fun _=>0) (by omega) hk (by omega) (fun h=>by omega) (fun h=>by omega) (by simp)) (by simp)
 | j+1,i,h=>by
  have hi:i<kc:=by omega
  have q0:(decide ((i:Int)<(kc:Int)))=true:=decide_eq_true (by omega)
  rw [List.range'_succ,List.map_cons,B9]
  by_cases h1:(S G (cw i)).length=1
  ·rw [if_pos h1]
   obtain ⟨ih1,ih2⟩:=RK j (i+1) (by omega)
   have hr:=ABo C fin G b nn kc cw (S G (cw i)).length (GD (S G (cw i))) (i:Int) 0 (fun _=>[]) (fun _=>0) 0 (fun _=>[]) (fun _=>0) (by omega) hk (by omega) (fun _=>hS i hi) (fun _ hn=>absurd (by omega) hn) q0 (by simp [h1])
   exact ⟨fun hf=>SemLR.stepR hr (ih1 hf),fun c ps hf=>SemLR.stepR hr (ih2 c ps hf)⟩
  ·rw [if_neg h1]
   refine ⟨fun hf=>by simp at hf,fun c ps hf=>?_⟩
   obtain ⟨rfl,rfl⟩:=Prod.mk.inj (Option.some.inj hf)
   obtain ⟨v1,v2,v4,v3⟩:=hV i hi h1
   exact SemLR.lastR (ABp C fin G b nn kc cw (S G (cw i)).length (GD (S G (cw i))) (i:Int) 0 (fun _=>[]) (fun _=>0) _ _ _ (by omega) hk (by omega) (fun _=>hS i hi) (fun _ _=>zE v2 v3 v1 (by omega) b) q0 (by simp; omega)) (by simp)
theorem RL (A:List (List Int×Int))(hA:A.length+G.length<=1000):∀ (j i:Nat),i+j=kc->
  (B9 S G ((List.range' i j).map cw)=none->sLR 7 vB4 (rkO (FV G) b (nums nn kc cw) kc i) (ND C fin A) (EX.leave 0,frame 84 [(0,FV G),(1,.int .i64 b),(6,.ptr 4 0)],ND C fin A))/\
  ∀ c ps,B9 S G ((List.range' i j).map cw)=some (c,ps)->sLR 7 vB4 (rkO (FV G) b (nums nn kc cw) kc i) (ND C fin A) (EX.ret,frame 84 [],RI C fin (A++HL f c ps b))
 | 0,i,h=>by
  obtain rfl:i=kc:=by omega
  refine ⟨fun _=>?_,fun c ps hf=>by simp [B9] at hf⟩
  exact SemLR.lastR (ABt C fin G b nn i cw 0 (fun _=>[]) i A.length (C6 A) (Dc A) 0 (fun _=>[]) (fun _=>0) (by omega) hk (by omega) (fun h=>by omega) (fun h=>by omega) (by simp)) (by simp)
 | j+1,i,h=>by
  have hi:i<kc:=by omega
  have q0:(decide ((i:Int)<(kc:Int)))=true:=decide_eq_true (by omega)
  rw [List.range'_succ,List.map_cons,B9]
  by_cases h1:(S G (cw i)).length=1
  ·rw [if_pos h1]
   obtain ⟨ih1,ih2⟩:=RL A hA j (i+1) (by omega)
   have hr:=ABr C fin G b nn kc cw (S G (cw i)).length (GD (S G (cw i))) (i:Int) A.length (C6 A) (Dc A) 0 (fun _=>[]) (fun _=>0) (by omega) hk (by omega) (fun _=>hS i hi) (fun _ hn=>absurd (by omega) hn) q0 (by simp [h1])
   exact ⟨fun hf=>SemLR.stepR hr (ih1 hf),fun c ps hf=>SemLR.stepR hr (ih2 c ps hf)⟩
  ·rw [if_neg h1]
   refine ⟨fun hf=>by simp at hf,fun c ps hf=>?_⟩
   obtain ⟨rfl,rfl⟩:=Prod.mk.inj (Option.some.inj hf)
   obtain ⟨v1,v2,v4,v3⟩:=hV i hi h1
   exact SemLR.lastR (ABs C fin G b nn kc cw (S G (cw i)).length (GD (S G (cw i))) (i:Int) A.length (C6 A) (Dc A) _ _ _ (by omega) hk (by omega) (fun _=>hS i hi) (fun _ _=>zF v2 v3 v1 b A (by omega)) q0 (by simp; omega)) (by simp)
end
section
variable {n0:Bool}{n:Nat}{rs:Nat->ResD}{n1:Bool}{m:Nat}{w:Nat->Int}{e1:List (EV×EV)}{R:RulesV}{e3:List (EV×EV)}{fin:Bool}{S:List Int->Int->List (List Int)}{Cr:Nat->List Int}
 (hS:MT S) (hC:∀ n,∀ c∈Cr n,1<=c/\c<=12)
 (hS2:∀ G c,G≠[]->G.length<=8->G.Pairwise (·<·)->1<=c/\c<=12->sP 94 [EV.ip (Bw n0 n rs n1 m w e1 R e3) 0,FV G,EV.int .i64 c] (J7 (S G c)))
 (hC2:∀ sz:Nat,∃ (nn:Bool) (kc:Nat) (cw:Nat->Int) (ta tb tc td er:Int),sP 93 [EV.isl n0 13 n fun i=>(rs i).cells,nums n1 m w,EV.int .i64 sz,EV.bool fin] (EV.agg (HR ta tb tc td))/\
  sP 92 [EV.isl R.onn 8 R.on R.orow,EV.agg (HR ta tb tc td)] (EV.tuple [nums nn kc cw,.int .i64 er])/\Cr sz=(List.range' 0 kc).map cw/\kc<=100000)
include hS hC hS2 hC2
theorem Ob:∀ (k:Nat) (G:List Int) (b:Int),G≠[]->G.Pairwise (·<·)->G.length<=8->G.length<=k->
  Xn (Bw n0 n rs n1 m w e1 R e3) fin G b (vis S Cr k G b)/\Xo (Bw n0 n rs n1 m w e1 R e3) fin G b (vis S Cr k G b)
 | 0,G,b,h1,_,_,h4=>absurd (List.length_eq_zero_iff.1 (by omega)) h1
 | k+1,G,b,h1,h2,h3,h4=>by
  have addN:∀ {h':AL},h'=[EObj.var false true [EV.ip (Bw n0 n rs n1 m w e1 R e3) 0],EObj.var false true [EV.bool fin],EObj.var false true [EV.func (Fn.func 51) [] []],rkV,EObj.var false false [EV.ms 5 1 0 1 none,EV.ms 6 1 0 1 none],EObj.arr false true 1 false 1 fun (i:Nat)=>[[EV.isl true 1 G.length fun (i:Nat)=>[EV.int IntKind.i64 (G.getD i 0)]]].getD (0+i) [],EObj.arr false true 1 false 1 fun (i:Nat)=>[[EV.int IntKind.i64 b]].getD (0+i) []]->
    HLe h' (ND (Bw n0 n rs n1 m w e1 R e3) fin [(G,b)]):=fun e=>by
   subst e
   refine .cons (OLe.refl _) (.cons (OLe.refl _) (.cons (OLe.refl _) (.cons (OLe.refl _) (.cons (OLe.refl _) (.cons (OLe.arr fun j hj=>?_) (.cons (OLe.arr fun j hj=>?_) .nil))))))
   ·obtain rfl:j=0:=by omega
    rfl
   ·obtain rfl:j=0:=by omega
    rfl
  have addU:∀ {h':AL} (A:List (List Int×Int)),h'=[EObj.var false true [EV.ip (Bw n0 n rs n1 m w e1 R e3) 0],EObj.var false true [EV.bool fin],EObj.var false true [EV.func (Fn.func 51) [] []],rkV,EObj.var false false [EV.ms 7 1 0 (A.length+1) none,EV.ms 8 1 0 (A.length+1) none],.dead,.dead,
     EObj.arr false true 1 false (A.length+1) (AU A.length (fun (i:Nat)=>[EV.isl true 1 (C6 A (0+i)).length fun (i_1:Nat)=>[EV.int IntKind.i64 ((C6 A (0+i)).getD i_1 0)]]) fun (i:Nat)=>[[EV.isl true 1 G.length fun (i:Nat)=>[EV.int IntKind.i64 (G.getD i 0)]]].getD (0+i) []),
     EObj.arr false true 1 false (A.length+1) (AU A.length (fun (i:Nat)=>[EV.int IntKind.i64 (Dc A (0+i))]) fun (i:Nat)=>[[EV.int IntKind.i64 b]].getD (0+i) [])]->
    HLe h' (RI (Bw n0 n rs n1 m w e1 R e3) fin (A++[(G,b)])):=fun A e=>by
   subst e
   have el:(A++[(G,b)]).length=A.length+1:=by simp
   unfold RI
   rw [el]
   exact .cons (OLe.refl _) (.cons (OLe.refl _) (.cons (OLe.refl _) (.cons (OLe.refl _) (.cons (OLe.refl _) (.cons (OLe.refl _) (.cons (OLe.refl _) (.cons (OLe.arr fun j hj=>Tb A G b j hj) (.cons (OLe.arr fun j hj=>RJ A G b j hj) .nil))))))))
  rw [vis]
  by_cases hl:G.length<=1
  ·rw [if_pos hl]
   refine ⟨?_,fun A hA=>?_⟩
   ·have ho:=SemLR.lastR (ABu (Bw n0 n rs n1 m w e1 R e3) fin G b 0 (fun _=>[]) (fun _=>0)) (by simp)
    have hf:=Z8 n0 n rs n1 m w e1 R e3 fin G b 0 (fun _=>[]) (fun _=>0) (by omega) (by omega) (SemLR.cl (m:=5) (c:=vB4) ho rfl (by kernel_rfl))
    exact SemF.weaken (VLes.refl _) (HLe.refl _) hf (VLe.refl _) (addN rfl)
   ·have ho:=SemLR.lastR (ABv (Bw n0 n rs n1 m w e1 R e3) fin G b A.length (C6 A) (Dc A)) (by simp)
    have hf:=zB n0 n rs n1 m w e1 R e3 fin G b A.length (C6 A) (Dc A) (by omega) (by omega) (SemLR.cl (m:=7) (c:=vB4) ho rfl (by kernel_rfl))
    exact SemF.weaken (VLes.refl _) (HLe.refl _) hf (VLe.refl _) (addU A rfl)
  ·rw [if_neg hl]
   obtain ⟨nn,kc,cw,ta,tb,tc,td,er,he,hd,hcr,hkc⟩:=hC2 G.length
   have hcw:∀ i,i<kc->1<=cw i/\cw i<=12:=fun i hi=>hC G.length (cw i) (by
    rw [hcr]
    exact List.mem_map.2 ⟨i,by simp; omega,rfl⟩)
   have hSi:∀ i,i<kc->sP 94 [EV.ip (Bw n0 n rs n1 m w e1 R e3) 0,FV G,EV.int .i64 (cw i)] (J7 (S G (cw i))):=fun i hi=>hS2 G (cw i) h1 h3 h2 (hcw i hi)
   have hVi:∀ i,i<kc->(S G (cw i)).length≠1->0<(S G (cw i)).length/\(S G (cw i)).length<=1000/\(S G (cw i)).flatten.length<=G.length/\∀ p∈S G (cw i),∀ b,Xn (Bw n0 n rs n1 m w e1 R e3) fin p b (vis S Cr k p b)/\Xo (Bw n0 n rs n1 m w e1 R e3) fin p b (vis S Cr k p b)/\(vis S Cr k p b).length<=p.length:=fun i hi hn=>by
    have hp:=hS G (cw i) h1 h3 h2 (hcw i hi)
    obtain ⟨h5,h6⟩:=OZ hp h1 hn
    have hlen:(S G (cw i)).length<=G.length:=by
     have:=Io (L:=(S G (cw i)).map fun p=>(p,(0:Int))) fun x hx=>by
      obtain ⟨p,hp',rfl⟩:=List.mem_map.1 hx
      exact hp.ne p hp'
     rw [List.map_map,List.length_map] at this
     have e:(S G (cw i)).map (Prod.fst ∘ fun p=>(p,(0:Int)))=S G (cw i):=List.map_id _
     rw [e,hp.all.length_eq] at this
     exact this
    refine ⟨List.length_pos_iff.2 h5,by omega,Nat.le_of_eq hp.all.length_eq,fun p hp' b=>?_⟩
    have h7:=h6 p hp'
    obtain ⟨v1,v2⟩:=Ob k p b (hp.ne p hp') (hp.inc p hp') (by omega) (by omega)
    exact ⟨v1,v2,(Pc hS hC k p b (hp.ne p hp') (hp.inc p hp') (by omega) (by omega)).len⟩
   have hg:(G.length:Int)>1:=by omega
   cases hf:B9 S G (Cr G.length) with
   | none=>
    rw [hcr] at hf
    refine ⟨?_,fun A hA=>?_⟩
    ·have ho:=(RK (fin:=fin) (b:=b) (nn:=nn) hkc hSi h3 hVi kc 0 (by omega)).1 hf
     have hh:=Z9 n0 n rs n1 m w e1 R e3 fin G b 0 (fun _=>[]) (fun _=>0) nn kc cw 0 (fun _=>[]) (fun _=>0) ta tb tc td er true hg (by omega) (rrN n0 n rs n1 m w e1 R e3 fin G b 0 (fun _=>[]) (fun _=>0) nn kc cw ta tb tc td er he hd) (fun _=>SemLR.cl (m:=5) (c:=vB4) ho rfl (by kernel_rfl)) (fun h=>by cases h) rfl
     exact SemF.weaken (VLes.refl _) (HLe.refl _) hh (VLe.refl _) (addN rfl)
    ·have ho:=(RL (fin:=fin) (b:=b) (nn:=nn) hkc hSi h3 hVi A hA kc 0 (by omega)).1 hf
     have hh:=zC n0 n rs n1 m w e1 R e3 fin G b A.length (C6 A) (Dc A) nn kc cw 0 (fun _=>[]) (fun _=>0) ta tb tc td er true hg (by omega) (rrU n0 n rs n1 m w e1 R e3 fin G b A.length (C6 A) (Dc A) nn kc cw ta tb tc td er he hd) (fun _=>SemLR.cl (m:=7) (c:=vB4) ho rfl (by kernel_rfl)) (fun h=>by cases h) rfl
     exact SemF.weaken (VLes.refl _) (HLe.refl _) hh (VLe.refl _) (addU A rfl)
   | some q=>
    obtain ⟨c,ps⟩:=q
    rw [hcr] at hf
    refine ⟨?_,fun A hA=>?_⟩
    ·have ho:=(RK (fin:=fin) (b:=b) (nn:=nn) hkc hSi h3 hVi kc 0 (by omega)).2 c ps hf
     exact zA n0 n rs n1 m w e1 R e3 fin G b 0 (fun _=>[]) (fun _=>0) nn kc cw _ _ _ ta tb tc td er false hg (by omega) (rrN n0 n rs n1 m w e1 R e3 fin G b 0 (fun _=>[]) (fun _=>0) nn kc cw ta tb tc td er he hd) (fun h=>by cases h) (fun _=>SemLR.cl (m:=5) (c:=vB4) ho rfl (by kernel_rfl)) rfl
    ·have ho:=(RL (fin:=fin) (b:=b) (nn:=nn) hkc hSi h3 hVi A hA kc 0 (by omega)).2 c ps hf
     exact zD n0 n rs n1 m w e1 R e3 fin G b A.length (C6 A) (Dc A) nn kc cw _ _ _ ta tb tc td er false hg (by omega) (rrU n0 n rs n1 m w e1 R e3 fin G b A.length (C6 A) (Dc A) nn kc cw ta tb tc td er he hd) (fun h=>by cases h) (fun _=>SemLR.cl (m:=7) (c:=vB4) ho rfl (by kernel_rfl)) rfl
end
abbrev AD9 (a0:Nat)(a1:Nat->Int):=nums true a0 a1
abbrev AEA (a0:Nat)(a1:Nat->Int):=AD9 a0 a1
abbrev AHC (a0:Nat)(a1:Nat->Int):=AEA a0 a1
theorem ABw (n0:Bool)(n:Nat)(rs:Nat->ResD)(m:Nat)(w:Nat->Int)(e1:List (EV×EV))(R:RulesV)(e3:List (EV×EV))(fin:Bool)(k:Nat)(gs:Nat->List Int)(bs:Nat->Int)(ih:sF 91 (rkA (AHC m w) 0) (rkN (Bw n0 n rs true m w e1 R e3) fin) (tu []) (rkS (Bw n0 n rs true m w e1 R e3) fin k gs bs)):sP 50 [pv [AK n0 n rs,Bm m w,EV.im e1,sv R.name,iv R.win,iv R.draw,iv R.loss,Dk R,Fe R,EV.im e3] 0,bv fin,fc (51) [] []] (ag [sl true 1 k fun i=>(Lr gs i),sl true 1 k fun i=>(Cd bs i)]):=
 kPm IK J8 [[]] (.mk [] [] [] [some ((tu [],[ov [pv [AK n0 n rs,Bm m w,EV.im e1,sv R.name,iv R.win,iv R.draw,iv R.loss,Dk R,Fe R,EV.im e3] 0],ov [bv fin],CJ,CK,Lo k,oA 1 false k fun i=>(AEX gs i),oA 1 false k fun i=>(BN bs i)]))] []) (kO AD) (.cons ih .nil)
abbrev AFy (a0:Nat->List Int)(a1:Nat)(a2:Nat):=[iv ((a0 a1).getD a2 0)]
abbrev AEs (a0:Nat)(a1:Nat->List Int):=sl true 1 a0 fun j=>[sl true 1 (a1 j).length fun i=>(AFy a1 j i)]
section
variable (n0:Bool)(n:Nat)(rs:Nat->ResD)(m:Nat)(w:Nat->Int)(e1:List (EV×EV))(R:RulesV)(e3:List (EV×EV))(fin:Bool)(k:Nat)(gs:Nat->List Int)(bs:Nat->Int)(n2:Bool)(m2:Nat)(o:Nat->Int)(n3:Bool)(ln:Nat)(lw:Nat->Int)(er:Int)
include n0 n rs m w e1 R e3 fin k gs bs n2 m2 o n3 ln lw er
theorem RkE (n1:Bool)(he:er≠0)(ih:sP 48 [(AK n0 n rs),AM n1 m w,iv 2,fc (90) [] [.ip [AM n1 m w] 0],AM n2 m2 o,ag R.cells,AM n3 ln lw] (tu [.nilp,.int .i64 er])):sP 20 [AK n0 n rs,AA n1 m w,AA n2 m2 o,ag R.cells,bv fin,AA n3 ln lw] (tu [BC,BC,iv er]):=
 kP [] (.mk (dS 26) [] [none,some (tu [EV.nilp,iv er])] [] []) KOk.nil (oI ((er != 0)=true) (.cons ih .nil))
theorem RkO (ih:sP 48 [(AK n0 n rs),AHC m w,iv 2,fc (90) [] [.ip [AHC m w] 0],AM n2 m2 o,ag R.cells,AM n3 ln lw] (tu [pv (Bw n0 n rs true m w e1 R e3) 0,.int .i64 0]))(ihr:sP 50 [pv (Bw n0 n rs true m w e1 R e3) 0,bv fin,fc (51) [] []] (ag [(AEs k gs),(sl true 1 k fun j=>(BN bs j))])):sP 20 [AK n0 n rs,Bm m w,AA n2 m2 o,ag R.cells,bv fin,AA n3 ln lw] (tu [AEa k gs,Bm k bs,iv 0]):=
 kP [] (.mk [] [] [none,some (tu [pv [AK n0 n rs,Bm m w,EV.im e1,sv R.name,iv R.win,iv R.draw,iv R.loss,Dk R,Fe R,EV.im e3] 0,iv 0]),some (ag [AEa k gs,Bm k bs])] [] []) KOk.nil (.cons ihr (.cons ih .nil))
end
def AT (m:Nat)(w:Nat->Int):List Int:=(List.range m).map w
theorem IL {m:Nat}{w:Nat->Int}(h:Inc m w):(AT m w).Pairwise (·<·):=by
 refine List.pairwise_iff_getElem.2 fun i j hi hj hij=>?_
 unfold AT at hi hj ⊢
 rw [List.length_map,List.length_range] at hi hj
 rw [List.getElem_map,List.getElem_map,List.getElem_range,List.getElem_range]
 exact h.lt hij hj
theorem RM {m:Nat}{w:Nat->Int}{i:Nat}(h:i<m):(AT m w).getD i 0=w i:=by
 unfold AT
 rw [List.getD_eq_getElem?_getD,List.getElem?_eq_getElem (by simpa using h)]
 simp
structure RankBy (n0:Bool) (n:Nat) (rs:Nat->ResD) (n1:Bool) (m:Nat) (w:Nat->Int) (e1:List (EV×EV)) (R:RulesV) (e3:List (EV×EV)) (fin:Bool) (S:List Int->Int->List (List Int)) (Cr:Nat->List Int):Prop where
 split:MT S
 rng:∀ n,∀ c∈Cr n,1<=c/\c<=12
 splitS:∀ G c,G≠[]->G.length<=8->G.Pairwise (·<·)->1<=c/\c<=12->sP 94 [EV.ip (Bw n0 n rs n1 m w e1 R e3) 0,FV G,EV.int .i64 c] (J7 (S G c))
 critS:∀ sz:Nat,∃ (nn:Bool) (kc:Nat) (cw:Nat->Int) (ta tb tc td er:Int),sP 93 [EV.isl n0 13 n fun i=>(rs i).cells,nums n1 m w,EV.int .i64 sz,EV.bool fin] (EV.agg (HR ta tb tc td))/\
  sP 92 [EV.isl R.onn 8 R.on R.orow,EV.agg (HR ta tb tc td)] (EV.tuple [nums nn kc cw,.int .i64 er])/\Cr sz=(List.range' 0 kc).map cw/\kc<=100000
theorem Tc {n0:Bool}{n:Nat}{rs:Nat->ResD}{n1:Bool}{m:Nat}{w:Nat->Int}{e1:List (EV×EV)}{R:RulesV}{e3:List (EV×EV)}{kk:Nat}(hm:m<=100000)(ht:R.Tree kk)(hg:R.Good kk)(hc:CompOk n0 n rs e1 R e3)(fin:Bool):∃ S Cr,RankBy n0 n rs n1 m w e1 R e3 fin S Cr:=by
 have h1:∀ q:List Int×Int,∃ D,q.1≠[]->q.1.length<=8->q.1.Pairwise (·<·)->1<=q.2/\q.2<=12->PartsOf q.1 D/\sP 94 [EV.ip (Bw n0 n rs n1 m w e1 R e3) 0,FV q.1,EV.int .i64 q.2] (J7 D):=by
  intro q
  by_cases h:q.1≠[]/\q.1.length<=8/\q.1.Pairwise (·<·)/\1<=q.2/\q.2<=12
  ·obtain ⟨D,hD⟩:=U0 (n1:=n1) (m:=m) (w:=w) hc q.1 (List.length_pos_iff.2 h.1) h.2.1 h.2.2.1 q.2 h.2.2.2
   exact ⟨D,fun _ _ _ _=>hD⟩
  ·exact ⟨[],fun a b c d=>absurd ⟨a,b,c,d⟩ h⟩
 obtain ⟨S,hS⟩:=Classical.axiomOfChoice h1
 have h2:∀ sz:Nat,∃ l:List Int,(∀ c∈l,1<=c/\c<=12)/\∃ (nn:Bool) (kc:Nat) (cw:Nat->Int) (ta tb tc td er:Int),sP 93 [EV.isl n0 13 n fun i=>(rs i).cells,nums n1 m w,EV.int .i64 sz,EV.bool fin] (EV.agg (HR ta tb tc td))/\
   sP 92 [EV.isl R.onn 8 R.on R.orow,EV.agg (HR ta tb tc td)] (EV.tuple [nums nn kc cw,.int .i64 er])/\l=(List.range' 0 kc).map cw/\kc<=100000:=by
  intro sz
  obtain ⟨a,b,c,d,he⟩:=ZI n0 n rs n1 m w sz fin hc.le hm
  obtain ⟨nn,k,cw,er,hd,hl⟩:=RD kk R ht hg a b c d
  refine ⟨(List.range' 0 k).map cw,fun x hx=>?_,nn,k,cw,a,b,c,d,er,he,hd,rfl,by have:=hl.le; omega⟩
  obtain ⟨i,hi,rfl⟩:=List.mem_map.1 hx
  exact hl.rng i (by simpa using hi)
 obtain ⟨Cr,hCr⟩:=Classical.axiomOfChoice h2
 exact ⟨fun G c=>S (G,c),Cr,fun G c a b d e=>(hS (G,c) a b d e).1,fun n=>(hCr n).1,fun G c a b d e=>(hS (G,c) a b d e).2,fun sz=>(hCr sz).2⟩
def Pd (L:List (List Int×Int)):EV:=.isl true 1 L.length fun j=>[EV.isl true 1 (C6 L j).length fun i=>[EV.int .i64 ((C6 L j).getD i 0)]]
def zG (L:List (List Int×Int)):EV:=.isl true 1 L.length fun j=>[EV.int .i64 (Dc L j)]
theorem U3 {n0:Bool}{n:Nat}{rs:Nat->ResD}{m:Nat}{w:Nat->Int}{e1:List (EV×EV)}{R:RulesV}{e3:List (EV×EV)}{fin:Bool}{S:List Int->Int->List (List Int)}{Cr:Nat->List Int}
  (h:RankBy n0 n rs true m w e1 R e3 fin S Cr) (hI:Inc m w) (h2:2<=m) (h8:m<=8):
  sP 50 [EV.ip (Bw n0 n rs true m w e1 R e3) 0,EV.bool fin,EV.func (.func 51) [] []] (EV.agg [Pd (vis S Cr 8 (AT m w) 0),zG (vis S Cr 8 (AT m w) 0)]):=by
 have hlen:(AT m w).length=m:=by simp [AT]
 have hv:=(Ob (n1:=true) (m:=m) (w:=w) h.split h.rng h.splitS h.critS 8 (AT m w) 0 (fun e=>by rw [e] at hlen; simp at hlen; omega) (IL hI) (by omega) (by omega)).1
 have ha:VLes (rkA (nums true m w) 0) (rkA (FV (AT m w)) 0):=by
  refine .cons ?_ (VLes.refl _)
  unfold FV
  rw [hlen]
  exact VLe.isl fun i hi=>by
   dsimp only
   rw [RM hi]
 have hf:=ABw n0 n rs m w e1 R e3 fin _ _ _ (SemF.weaken ha (HLe.refl _) hv (VLe.refl _) (HLe.refl _))
 refine SemP.res hf (BLs.agg (.cons (BLe.isl fun i _=>?_) (.cons (BLe.isl fun i _=>?_) .nil))).p
 ·exact congrArg (fun j=>[EV.isl true 1 (C6 (vis S Cr 8 (AT m w) 0) j).length fun i=>[EV.int .i64 ((C6 (vis S Cr 8 (AT m w) 0) j).getD i 0)]]) (Nat.zero_add i)
 ·exact congrArg (fun j=>[EV.int .i64 (Dc (vis S Cr 8 (AT m w) 0) j)]) (Nat.zero_add i)
structure OpenOk (kk n:Nat) (rs:Nat->ResD) (m:Nat) (w:Nat->Int) (m2:Nat) (o:Nat->Int) (R:RulesV):Prop where
 two:2<=m
 inc:Inc m w
 off:m2=m
 offs:∀ i,i<m->0<=o i/\o i<=9999
 good:R.Good kk
 res:∀ i,i<n->ResIn m w (rs 0) (rs i)
abbrev YB (n0:Bool)(n:Nat)(rs:Nat->ResD)(n1:Bool)(m:Nat)(w:Nat->Int)(n2:Bool)(m2:Nat)(o:Nat->Int)(n3:Bool)(ln:Nat)(lw:Nat->Int)(R:RulesV):List EV:=
 [EV.isl n0 13 n fun i=>(rs i).cells,nums n1 m w,EV.int .i64 2,EV.func (.func 90) [] [.ip [nums n1 m w] 0],nums n2 m2 o,EV.agg R.cells,nums n3 ln lw]
abbrev Jn (n0:Bool)(n:Nat)(rs:Nat->ResD)(n1:Bool)(m:Nat)(w:Nat->Int)(n2:Bool)(m2:Nat)(o:Nat->Int)(n3:Bool)(ln:Nat)(lw:Nat->Int)(R:RulesV)(fin:Bool):List EV:=
 [EV.isl n0 13 n fun i=>(rs i).cells,nums n1 m w,nums n2 m2 o,EV.agg R.cells,EV.bool fin,nums n3 ln lw]
theorem Xp (kk:Nat)(n0:Bool)(n:Nat)(rs:Nat->ResD)(n1:Bool)(m:Nat)(w:Nat->Int)(n2:Bool)(m2:Nat)(o:Nat->Int)(n3:Bool)(ln:Nat)(lw:Nat->Int)(R:RulesV)(fin:Bool)
  (hn:n<=100000) (hm:m<=8) (hm2:m2<=100000) (hln:ln<=100000) (ht:R.Tree kk) (hn0:n0=true∨n=0) (hn1:n1=true∨m=0):
  (∃ e,e≠0/\sP 20 (Jn n0 n rs n1 m w n2 m2 o n3 ln lw R fin) (EV.tuple [EV.isl false 0 0 fun _=>[],EV.isl false 0 0 fun _=>[],EV.int .i64 e]))∨
  ∃ e1 e3 S Cr,n1=true/\sP 48 (YB n0 n rs n1 m w n2 m2 o n3 ln lw R) (EV.tuple [CM n0 n rs n1 m w e1 R e3,.int .i64 0])/\OpenOk kk n rs m w m2 o R/\CompOk n0 n rs e1 R e3/\RankBy n0 n rs n1 m w e1 R e3 fin S Cr/\
   sP 20 (Jn n0 n rs n1 m w n2 m2 o n3 ln lw R fin) (EV.tuple [Pd (vis S Cr 8 (AT m w) 0),zG (vis S Cr 8 (AT m w) 0),EV.int .i64 0]):=by
 obtain ⟨v,hv,hc⟩:=V9 kk n0 n rs n1 m w n2 m2 o n3 ln lw R 2 hn (by omega) hm2 hln ht
 rcases hc with ⟨e,he,rfl⟩ | ⟨e1,e3,rfl,g1,g3,hk,_,hI,hmm,ho,hg,hr⟩
 ·exact .inl ⟨e,he,RkE n0 n rs m w [] R [] fin 0 (fun _=>[]) (fun _=>0) n2 m2 o n3 ln lw e n1 he hv⟩
 ·have hnt:n1=true:=by rcases hn1 with h | h; exact h; omega
  subst hnt
  have hco:CompOk n0 n rs e1 R e3:=⟨hn0,hn,g1,g3,⟨hg.2.1,hg.2.2.1,hg.2.2.2.1,hg.2.2.2.2.1⟩,fun i hi=>(hr i hi).err⟩
  obtain ⟨S,Cr,hrk⟩:=Tc (n1:=true) (m:=m) (w:=w) (by omega) ht hg hco fin
  refine .inr ⟨e1,e3,S,Cr,rfl,hv,⟨by omega,hI,hmm,ho,hg,hr⟩,hco,hrk,?_⟩
  exact RkO n0 n rs m w e1 R e3 fin _ _ _ n2 m2 o n3 ln lw 0 hv (U3 hrk hI (by omega) hm)
theorem within (n l m:Int):sP 28 (Ak n l m) (bv (wi n l m)):=
 kP [] (.mk [] [(3,.fork true (decide (n>=l)) 64 7 0 0 (.mk (dS 65536) [] [] [] []) (.mk (dS 65536) [] [] [] []))] [] [] []) KOk.nil .nil
theorem zpl (n:Int)(c:Int):sP 52 [iv n,pv [iv c] 0] (iv (bif decide (n<0) then IntKind.i64.wrap (IntKind.i64.wrap (c+1)+n) else n)):=
 kP [] (.mk [] [(0,.fork true (decide (n<0)) 8 0 0 0 (.mk (dS 4300) [] [] [] []) (.mk (dS 16) [] [] [] []))] [] [] []) KOk.nil .nil
noncomputable abbrev Lt (a0:Int)(a1:RulesV)(a2:Int):=frame 40 [(2,.int .i64 a0),(6,sv (ByteArray.mk #[])),(7,fc (52) [] [pt 1 0]),(21,.isl a1.znn 3 a1.zn fun j=>(a1.zs j).cells),(22,.int .i64 a1.zn),(23,.int .i64 a2)]
noncomputable abbrev Lu:=cB (cB (cR (cL (cR (cR (cR (AB prog 21)))))))
abbrev JV (a0:RulesV)(a1:Int):=[ov a0.cells,EObj.var true true [iv a1]]
section
variable (R:RulesV)(c:Int)(k:Int)(a:Int->Int)(W:Int->Int->Int->Bool)(i:Int)(h0:0<=i)(h3:R.zn<=1048576)(ihp:∀ n:Int,sP 52 [iv n,pv [iv c] 0] (iv (a n)))(ihw:∀ n l h:Int,sP 28 [iv n,iv l,iv h] (bv (W n l h)))
include R c k a W i h0 h3 ihp ihw
theorem ABx (q0:(decide (i<↑R.zn))=true)(q1:(W k (a (R.zs i.toNat).frm) (a (R.zs i.toNat).upto))=true):sR 2 (Lu) (Lt k R i) ((JV R c)) (EX.ret,(frame 40 [(6,sv (Ad R i).name)]),[oD,oD]):=
 kR [[(Dm i R),(W k (a (Ad R i).frm) (a (Ad R i).upto),true)]] (.mk (dS 4257) [] [some (iv (a (Ad R i).frm)),some (iv (a (Ad R i).upto)),some (bv (W k (a (Ad R i).frm) (a (Ad R i).upto)))] [] []) (kO (kz q0 (kz q1 AD))) (oT (sP 28 [iv k,iv (a (R.zs i.toNat).frm),iv (a (R.zs i.toNat).upto)] (bv (W k (a (R.zs i.toNat).frm) (a (R.zs i.toNat).upto)))) (ihw _ _ _) (oT (sP 52 [iv (R.zs i.toNat).upto,pv [iv c] 0] (iv (a (R.zs i.toNat).upto))) (ihp _) (oT (sP 52 [iv (R.zs i.toNat).frm,pv [iv c] 0] (iv (a (R.zs i.toNat).frm))) (ihp _) (oJ ((inB i R.zn)=true) .nil)))) 64 0 [0,1] 2
theorem ABy (q0:(decide (i<↑R.zn))=true)(q1:(W k (a (R.zs i.toNat).frm) (a (R.zs i.toNat).upto))=false):sR 2 (Lu) (Lt k R i) ((JV R c)) (xN,(frame 40 [(2,iv k),(6,sv (ByteArray.mk #[])),(7,fc (52) [] [pt 1 0]),(21,sl R.znn 3 R.zn fun i=>(R.zs i).cells),(22,iv ↑R.zn),(23,iv (i+1))]),(JV R c)):=
 kR [[(Dm i R),(W k (a (Ad R i).frm) (a (Ad R i).upto),false)]] (.mk (dS 68122) [] [some (iv (a (Ad R i).frm)),some (iv (a (Ad R i).upto)),some (bv (W k (a (Ad R i).frm) (a (Ad R i).upto)))] [] []) (kO (kz q0 (kz q1 AD))) (oI ((inR IntKind.i64 (i+1))=true) (oT (sP 28 [iv k,iv (a (R.zs i.toNat).frm),iv (a (R.zs i.toNat).upto)] (bv (W k (a (R.zs i.toNat).frm) (a (R.zs i.toNat).upto)))) (ihw _ _ _) (oT (sP 52 [iv (R.zs i.toNat).upto,pv [iv c] 0] (iv (a (R.zs i.toNat).upto))) (ihp _) (oT (sP 52 [iv (R.zs i.toNat).frm,pv [iv c] 0] (iv (a (R.zs i.toNat).frm))) (ihp _) (oJ ((inB i R.zn)=true) .nil))))) 14680260 3 [0,1] 2
theorem ABz (q0:(decide (i<↑R.zn))=false):sR 2 (Lu) (Lt k R i) ((JV R c)) (xL 0,(frame 40 []),[oD,oD]):=
 kR [[(decide (i<↑R.zn),false)]] (.mk (dS 16) [] [] [] []) (kO (kz q0 AD)) .nil 0 0 [0,1] 2
theorem znB:∃ r_:RC,sR 2 (cB (cB (cR (cL (cR (cR (cR (AB prog 21)))))))) (frame 40 [(2,.int .i64 k),(6,sv (ByteArray.mk #[])),(7,fc (52) [] [pt 1 0]),(21,.isl R.znn 3 R.zn fun j=>(R.zs j).cells),(22,.int .i64 R.zn),(23,.int .i64 i)]) ([ov R.cells,EObj.var true true [iv c]]) r_/\((r_=(xN,frame 40 [(2,.int .i64 k),(6,sv (ByteArray.mk #[])),(7,fc (52) [] [pt 1 0]),(21,.isl R.znn 3 R.zn fun j=>(R.zs j).cells),(22,.int .i64 R.zn),(23,.int .i64 (i+1))],[ov R.cells,EObj.var true true [iv c]])/\i<(R.zn:Int)/\(W k (a (R.zs i.toNat).frm) (a (R.zs i.toNat).upto)=false))∨(r_=(EX.ret,frame 40 [(6,sv (R.zs i.toNat).name)],[oD,oD])/\i<(R.zn:Int)/\(W k (a (R.zs i.toNat).frm) (a (R.zs i.toNat).upto)=true))∨(r_=(xL 0,frame 40 [],[oD,oD])/\(R.zn:Int)<=i)):=by
 rcases bT (decide (i<↑R.zn)) with q0 | q0
 ·rcases bT (W k (a (R.zs i.toNat).frm) (a (R.zs i.toNat).upto)) with q1 | q1
  ·exact e1 (ABx R c k a W i h0 h3 ihp ihw q0 q1)
  ·exact e1 (ABy R c k a W i h0 h3 ihp ihw q0 q1)
 ·exact e1 (ABz R c k a W i h0 h3 ihp ihw q0)
end
section
variable (R:RulesV)(c:Int)(k:Int)(W:Int->Int->Int->Bool)(z:Bool)(nm:ByteArray)(ihw:∀ n l h:Int,sP 28 [iv n,iv l,iv h] (bv (W n l h)))(ih1:z=true->sL (cB (cR (cL (cR (cR (cR (AB prog 21))))))) (frame 40 [(2,.int .i64 k),(6,sv (ByteArray.mk #[])),(7,fc (52) [] [pt 1 0]),(21,.isl R.znn 3 R.zn fun j=>(R.zs j).cells),(22,.int .i64 R.zn),(23,.int .i64 0)]) [ov R.cells,ov [iv c]] ((xL 0,frame 40 [],[oD,oD]):RC))(ih2:z=false->sL (cB (cR (cL (cR (cR (cR (AB prog 21))))))) (frame 40 [(2,.int .i64 k),(6,sv (ByteArray.mk #[])),(7,fc (52) [] [pt 1 0]),(21,.isl R.znn 3 R.zn fun j=>(R.zs j).cells),(22,.int .i64 R.zn),(23,.int .i64 0)]) [ov R.cells,ov [iv c]] ((EX.ret,frame 40 [(6,sv nm)],[oD,oD]):RC))
include R c k W z nm ihw ih1 ih2
theorem AB0 (q0:(!W c 2 24)=true):sP 21 [ag R.cells,iv c,iv k] (sv (ByteArray.mk #[])):=
 kP [[(!W c 2 24,true)]] (.mk (dS 1048576) [] [some (bv (W c 2 24))] [] []) (kO (kz q0 AD)) (oT (sP 28 [iv c,iv 2,iv 24] (bv (W c 2 24))) (ihw _ _ _) .nil)
theorem AB1 (q0:(!W c 2 24)=false)(q1:(!W k 1 c)=true):sP 21 [ag R.cells,iv c,iv k] (sv (ByteArray.mk #[])):=
 kP [[(!W c 2 24,false),(!W k 1 c,true)]] (.mk (dS 16777217) [] [some (bv (W c 2 24)),some (bv (W k 1 c))] [] []) (kO (kz q0 (kz q1 AD))) (oT (sP 28 [iv k,iv 1,iv c] (bv (W k 1 c))) (ihw _ _ _) (oT (sP 28 [iv c,iv 2,iv 24] (bv (W c 2 24))) (ihw _ _ _) .nil))
theorem AB2 (q0:(!W c 2 24)=false)(q1:(!W k 1 c)=false)(q2:(z)=true):sP 21 [ag R.cells,iv c,iv k] (sv (ByteArray.mk #[])):=
 kP [[(!W c 2 24,false),(!W k 1 c,false),(z,true)]] (.mk (dS 16777217) [(13,.is 14680260 3 (xL 0,(frame 40 []),[oD,oD]))] [some (bv (W c 2 24)),some (bv (W k 1 c))] [] []) (kO (kz q0 (kz q1 (kz q2 AD)))) (.cons (ih1 (by assumption)) (oT (sP 28 [iv k,iv 1,iv c] (bv (W k 1 c))) (ihw _ _ _) (oT (sP 28 [iv c,iv 2,iv 24] (bv (W c 2 24))) (ihw _ _ _) .nil)))
theorem AB3 (q0:(!W c 2 24)=false)(q1:(!W k 1 c)=false)(q2:Av z):sP 21 [ag R.cells,iv c,iv k] (sv nm):=
 kP [[(!W c 2 24,false),(!W k 1 c,false),(z,false)]] (.mk (dS 16777217) [(13,.is 14680260 3 (EX.ret,(frame 40 [(6,sv nm)]),[oD,oD]))] [some (bv (W c 2 24)),some (bv (W k 1 c))] [] []) (kO (kz q0 (kz q1 (kz q2 AD)))) (.cons (ih2 (by assumption)) (oT (sP 28 [iv k,iv 1,iv c] (bv (W k 1 c))) (ihw _ _ _) (oT (sP 28 [iv c,iv 2,iv 24] (bv (W c 2 24))) (ihw _ _ _) .nil)))
theorem znF:∃ s:ByteArray,sP 21 [ag R.cells,iv c,iv k] (sv s)/\(s=ByteArray.mk #[]∨s=nm):=by
 rcases bT (!W c 2 24) with q0 | q0
 ·exact ⟨_,(AB0 R c k W z nm ihw ih1 ih2 q0),by simp⟩
 ·rcases bT (!W k 1 c) with q1 | q1
  ·exact ⟨_,(AB1 R c k W z nm ihw ih1 ih2 q0 q1),by simp⟩
  ·rcases bT (z) with q2 | q2
   ·exact ⟨_,(AB2 R c k W z nm ihw ih1 ih2 q0 q1 q2),by simp⟩
   ·exact ⟨_,(AB3 R c k W z nm ihw ih1 ih2 q0 q1 q2),by simp⟩
end
abbrev FB (a0:Nat->Int)(a1:Int)(a2:Int)(a3:Int):=a0 (IntKind.i64.wrap ((a1+a2).fdiv 2)).toNat<a3
noncomputable abbrev Lv (a0:Nat)(a1:Nat->Int)(a2:Int)(a3:Int)(a4:Int):=frame 54 [(0,nums true a0 a1),(1,.int .i64 a2),(6,.int .i64 a0),(7,.int .i64 a3),(8,.int .i64 a4)]
noncomputable abbrev JW:=cB (cL (cR (cR (cR (AB prog 27)))))
section
variable (n:Nat)(w:Nat->Int)(c:Int)(i:Int)(j:Int)(h0:0<=i)(h1:i<=j)(h2:j<=n)(h3:n<=100000)(hm:¬ i<j∨(i<=IntKind.i64.wrap ((i+j).fdiv 2)/\IntKind.i64.wrap ((i+j).fdiv 2)<j))
include n w c i j h0 h1 h2 h3 hm
theorem AB4 (q0:(B1 i j)=true)(q1:(decide (FB w i j c))=true):sC (cB (JW)) (Lv n w c i j) ([]) (xN,(frame 54 [(0,sl true 1 n fun i=>[iv (w i)]),(1,iv c),(6,iv ↑n),(7,iv (IntKind.i64.wrap ((i+j).fdiv 2)+1)),(8,iv j)]),[]):=
 kC [[(decide (i<j),true),(decide (FB w i j c),true)]] (.mk (dS 1145147550234) [] [some (bv (decide (FB w i j c)))] [] []) (kO (kz q0 (kz q1 AD))) (oI ((inR IntKind.i64 (IntKind.i64.wrap ((i+j).fdiv 2)+1))=true) (oT (sP 66 [iv (w (IntKind.i64.wrap ((i+j).fdiv 2)).toNat),iv c] (bv (decide (FB w i j c)))) (Rg _ _) (oJ ((inB (IntKind.i64.wrap ((i+j).fdiv 2)) n)=true) (oI ((inR IntKind.u64 (i+j))=true) (oI ((inR IntKind.i64 (i+j))=true) .nil))))) 451 0 0
theorem AB5 (q0:(B1 i j)=true)(q1:(decide (FB w i j c))=false):sC (cB (JW)) (Lv n w c i j) ([]) (xN,(frame 54 [(0,sl true 1 n fun i=>[iv (w i)]),(1,iv c),(6,iv ↑n),(7,iv i),(8,iv (IntKind.i64.wrap ((i+j).fdiv 2)))]),[]):=
 kC [[(decide (i<j),true),(decide (FB w i j c),false)]] (.mk (dS 71571721889) [] [some (bv (decide (FB w i j c)))] [] []) (kO (kz q0 (kz q1 AD))) (oT (sP 66 [iv (w (IntKind.i64.wrap ((i+j).fdiv 2)).toNat),iv c] (bv (decide (FB w i j c)))) (Rg _ _) (oJ ((inB (IntKind.i64.wrap ((i+j).fdiv 2)) n)=true) (oI ((inR IntKind.u64 (i+j))=true) (oI ((inR IntKind.i64 (i+j))=true) .nil)))) 451 0 0
theorem YC (q0:(B1 i j)=false):sC (cB (JW)) (Lv n w c i j) ([]) (xL 0,(frame 54 [(0,sl true 1 n fun i=>[iv (w i)]),(1,iv c),(6,iv ↑n),(7,iv i)]),[]):=
 kC [[(decide (i<j),false)]] (.mk (dS 16) [] [] [] []) (kO (kz q0 AD)) .nil 195 0 0
end
abbrev DQ (a0:Int)(a1:Nat):=decide (a0<(↑a1:Int))
noncomputable abbrev Td (a0:Nat)(a1:Nat->Int)(a2:Int)(a3:Int):RC:=(xL 0,(frame 54 [(0,sl true 1 a0 fun i=>[iv (a1 i)]),(1,iv a2),(6,iv ↑a0),(7,iv a3)]),[])
abbrev EJ (a0:Int):=tu [iv a0,bv true]
section
variable (n:Nat)(w:Nat->Int)(c:Int)(p:Int)(h0:0<=p)(h1:p<n)(h3:n<=100000)(ih:sL (JW) (frame 54 [(0,nums true n w),(1,.int .i64 c),(6,.int .i64 n),(7,.int .i64 0),(8,.int .i64 n)]) [] ((xL 0,frame 54 [(0,nums true n w),(1,.int .i64 c),(6,.int .i64 n),(7,.int .i64 p)],[]):RC))
include n w c p h0 h1 h3 ih
theorem AB6 (q0:(w p.toNat==c)=true):sP 27 [Bm n w,iv c] (EJ p):=
 kP [[(w p.toNat==c,true)]] (.mk (dS 0x1aaaaaaaa0000000a0a) [(8,.is 451 0 (Td n w c p))] [] [] []) (kO (kz q0 AD)) (oI ((DQ p n)=true) (oI ((DQ p n)=true) (oI ((DQ p n)=true) (oI ((DQ p n)=true) (oI ((DQ p n)=true) (oI ((DQ p n)=true) (oJ ((inB p n)=true) (oI ((DQ p n)=true) (oI ((DQ p n)=true) (oI ((DQ p n)=true) (.cons ih .nil)))))))))))
end
section
variable {R:RulesV}(hz:R.zn<=1048576)(hs:∀ i,i<R.zn->(R.zs i).name.size<=24)
include hz hs
theorem U4 (c k:Int):∃ s:ByteArray,sP 21 [EV.agg R.cells,EV.int .i64 c,EV.int .i64 k] (EV.str s)/\s.size<=24:=by
 have H:=SemLR.all (P:=prog) (G:=globs') (rnd:=false) (c:=cB (cB (cR (cL (cR (cR (cR (AB prog 21)))))))) 2 (fun i=>frame 40 [(2,.int .i64 k),(6,EV.str (ByteArray.mk #[])),(7,EV.func (Fn.func 52) [] [EV.ptr 1 0]),(21,.isl R.znn 3 R.zn fun j=>(R.zs j).cells),(22,.int .i64 R.zn),(23,.int .i64 (i:Nat))])
  (fun _=>[EObj.var false true R.cells,EObj.var true true [EV.int .i64 c]]) R.zn (fun _=>True) (fun _=>True) (fun i=>(EX.ret,frame 40 [(6,EV.str (R.zs i).name)],[EObj.dead,EObj.dead])) (EX.leave 0,frame 40 [],[EObj.dead,EObj.dead]) (fun _=>by simp) (by simp) (fun i=>by
   obtain ⟨r,h,h1⟩:=znB R c k _ _ (i:Int) (by omega) hz (fun n=>zpl n c) (fun n l h=>within n l h)
   refine ⟨r,h,?_⟩
   rcases h1 with ⟨h1,h2,_⟩ | ⟨h1,h2,_⟩ | ⟨h1,h2⟩
   ·exact .inl ⟨h1,by omega,trivial⟩
   ·exact .inr (.inl ⟨h1,by omega,trivial⟩)
   ·exact .inr (.inr ⟨h1,by omega⟩))
 have key:∀ {r:RC},sLR 2 (cB (cB (cR (cL (cR (cR (cR (AB prog 21)))))))) (frame 40 [(2,.int .i64 k),(6,EV.str (ByteArray.mk #[])),(7,EV.func (Fn.func 52) [] [EV.ptr 1 0]),(21,.isl R.znn 3 R.zn fun j=>(R.zs j).cells),(22,.int .i64 R.zn),(23,.int .i64 ((0:Nat):Int))]) [EObj.var false true R.cells,EObj.var true true [EV.int .i64 c]] r->
   sL (cB (cR (cL (cR (cR (cR (AB prog 21))))))) (frame 40 [(2,.int .i64 k),(6,EV.str (ByteArray.mk #[])),(7,EV.func (Fn.func 52) [] [EV.ptr 1 0]),(21,.isl R.znn 3 R.zn fun j=>(R.zs j).cells),(22,.int .i64 R.zn),(23,.int .i64 0)]) [EObj.var false true R.cells,EObj.var false true [EV.int .i64 c]] r:=fun h=>
  SemLR.cl (m:=2) (c:=cB (cB (cR (cL (cR (cR (cR (AB prog 21)))))))) (SemLR.frz (r:=1) rfl rfl h) rfl (by kernel_rfl)
 have hempty:(ByteArray.mk #[]).size<=24:=by decide
 rcases H with ⟨h,_⟩ | ⟨i,hi,_,_,h⟩
 ·obtain ⟨s,h1,h2⟩:=znF R c k _ true (ByteArray.mk #[]) (fun n l h=>within n l h) (fun _=>key h) (fun h=>by cases h)
  exact ⟨s,h1,by rcases h2 with rfl | rfl<;>exact hempty⟩
 ·obtain ⟨s,h1,h2⟩:=znF R c k _ false (R.zs i).name (fun n l h=>within n l h) (fun h=>by cases h) (fun _=>key h)
  exact ⟨s,h1,by
   rcases h2 with rfl | rfl
   ·exact hempty
   ·exact hs i hi⟩
theorem Xq:∃ Z:Int->Int->ByteArray,(∀ c k,sP 21 [EV.agg R.cells,EV.int .i64 c,EV.int .i64 k] (EV.str (Z c k)))/\∀ c k,(Z c k).size<=24:=by
 obtain ⟨Z,hZ⟩:=Classical.axiomOfChoice fun q:Int×Int=>U4 hz hs q.1 q.2
 exact ⟨fun c k=>Z (c,k),fun c k=>(hZ (c,k)).1,fun c k=>(hZ (c,k)).2⟩
end
theorem mid (i j:Nat)(h:i+j<=1000000):IntKind.i64.wrap (((i:Int)+(j:Int)).fdiv 2)=(((i+j) / 2:Nat):Int):=by
 have e:((i:Int)+(j:Int)).fdiv 2=(((i+j) / 2:Nat):Int):=by
  rw [Int.fdiv_eq_ediv_of_nonneg _ (by omega)]
  omega
 rw [e]
 exact KT (by rw [Ke]; simp; omega)
section
variable {n:Nat}{w:Nat->Int}(hI:Inc n w)(hn:n<=100000){p:Nat}(hp:p<n)
include hI hn hp
theorem bsL:∀ (d i j:Nat),j - i<=d->i<=p->p<=j->j<=n->SemL prog globs' false (cB (cB (cL (cR (cR (cR (AB prog 27))))))) (frame 54 [(0,nums true n w),(1,.int .i64 (w p)),(6,.int .i64 n),(7,.int .i64 i),(8,.int .i64 j)]) []
  (EX.leave 0,frame 54 [(0,nums true n w),(1,.int .i64 (w p)),(6,.int .i64 n),(7,.int .i64 p)],[])
 | 0,i,j,hd,h1,h2,h3=>by
  obtain rfl:i=p:=by omega
  exact SemL.last (YC n w (w i) i j (by omega) (by omega) (by omega) hn (.inl (by omega)) (by simp; omega)) (by simp)
 | d+1,i,j,hd,h1,h2,h3=>by
  by_cases hij:i<j
  ·have hmid:=mid i j (by omega)
   have q0:(decide ((i:Int)<(j:Int)))=true:=decide_eq_true (by omega)
   have hm:¬ (i:Int)<j∨((i:Int)<=IntKind.i64.wrap (((i:Int)+j).fdiv 2)/\IntKind.i64.wrap (((i:Int)+j).fdiv 2)<j):=by
    rw [hmid]
    omega
   by_cases hw:w ((i+j) / 2)<w p
   ·have hlt:(i+j) / 2<p:=by
     rcases Nat.lt_trichotomy ((i+j) / 2) p with h | h | h
     ·exact h
     ·rw [h] at hw; omega
     ·have:=hI.lt h (by omega); omega
    have h:=AB4 n w (w p) i j (by omega) (by omega) (by omega) hn hm q0 (decide_eq_true (show w (IntKind.i64.wrap (((i:Int)+j).fdiv 2)).toNat<w p by
     rw [hmid]
     exact hw))
    rw [hmid] at h
    exact SemL.step h (bsL d ((i+j) / 2+1) j (by omega) (by omega) (by omega) h3)
   ·have hge:p<=(i+j) / 2:=by
     rcases Nat.lt_or_ge ((i+j) / 2) p with h | h
     ·exact absurd (hI.lt h hp) hw
     ·exact h
    have h:=AB5 n w (w p) i j (by omega) (by omega) (by omega) hn hm q0 (decide_eq_false (show ¬ w (IntKind.i64.wrap (((i:Int)+j).fdiv 2)).toNat<w p by
     rw [hmid]
     exact hw))
    rw [hmid] at h
    exact SemL.step h (bsL d i ((i+j) / 2) (by omega) (by omega) (by omega) (by omega))
  ·obtain rfl:i=p:=by omega
   exact SemL.last (YC n w (w i) i j (by omega) (by omega) (by omega) hn (.inl (by omega)) (by simp; omega)) (by simp)
theorem zH:sP 27 [nums true n w,EV.int .i64 (w p)] (EV.tuple [EV.int .i64 p,EV.bool true]):=
 AB6 n w (w p) p (by omega) (by omega) hn ((bsL hI hn hp n 0 n (by omega) (by omega) (by omega) (Nat.le_refl _)).toCL (by kernel_rfl)) (by simp)
end
abbrev Te (a0:TableD)(a1:Int):=a0.ps a1.toNat
abbrev Tf (a0:TableD)(a1:Int):=Te a0 a1
abbrev Ac (a0:TableD)(a1:Int):=Tf a0 a1
abbrev JX (a0:TableD):=[iv a0.season,iv a0.comp,sl a0.nn 14 a0.len fun i=>(a0.ps i).cells]
def TableD.off (t:TableD):Bool:=bif !wi t.season 0 63 then true else bif !wi t.comp 0 15 then true else !wi (t.len:Int) 2 24
def grp (Z:Int->ByteArray)(row:Int->RowD)(rank:Int):Int->List Int->List PlaceD
 | _,[]=>[]
 | b,c :: cs=>⟨rank,b,Z rank,row c⟩ :: grp Z row rank 0 cs
def placesOf (Z:Int->ByteArray)(row:Int->RowD):Nat->List (List Int×Int)->List PlaceD
 | _,[]=>[]
 | s,x :: R=>grp Z row ((s:Int)+1) x.2 x.1++placesOf Z row (s+x.1.length) R
section
variable (Z:Int->ByteArray)(row:Int->RowD)
theorem QI (rank:Int):∀ (b:Int) (G:List Int),(grp Z row rank b G).map PlaceD.row=G.map row
 | _,[]=>rfl
 | b,c :: cs=>by rw [grp,List.map_cons,List.map_cons,QI rank 0 cs]
theorem Hb:∀ (s:Nat) (R:List (List Int×Int)),(placesOf Z row s R).map PlaceD.row=((R.map Prod.fst).flatten).map row
 | _,[]=>rfl
 | s,x :: R=>by rw [placesOf,List.map_append,QI,Hb,List.map_cons,List.flatten_cons,List.map_append]
theorem HM (rank:Int):∀ (b:Int) (G:List Int),(grp Z row rank b G).length=G.length
 | _,[]=>rfl
 | b,c :: cs=>by rw [grp,List.length_cons,List.length_cons,HM rank 0 cs]
end
def Follow:Nat->Option PlaceD->List PlaceD->Prop
 | _,_,[]=>True
 | s,prev,p :: ps=>(match prev with
   | none=>s=0/\p.rank=1/\p.by'=0
   | some q=>(p.rank=q.rank/\p.by'=0/\q.row.club<p.row.club)∨(p.rank=s+1/\q.rank≠p.rank/\1<=p.by'/\p.by'<=12))/\Follow (s+1) (some p) ps
section
variable {Z:Int->ByteArray}{row:Int->RowD}
end
theorem Follow.get:∀ (P:List PlaceD) (s:Nat) (prev:Option PlaceD),Follow s prev P->∀ i (h:i<P.length),
  (∀ j,i=j+1->∃ hj:j<P.length,(P[i].rank=P[j].rank/\P[i].by'=0/\P[j].row.club<P[i].row.club)∨(P[i].rank=(s+i:Nat)+1/\P[j].rank≠P[i].rank/\1<=P[i].by'/\P[i].by'<=12))/\
  (i=0->prev=none->P[i].rank=1/\P[i].by'=0)
 | [],_,_,_,i,h=>by simp at h
 | p :: ps,s,prev,hF,i,h=>by
  obtain ⟨h1,h2⟩:=hF
  refine ⟨fun j hj=>?_,fun hi hn=>?_⟩
  ·subst hj
   refine ⟨by omega,?_⟩
   cases ps with
   | nil=>simp at h
   | cons q qs=>
    cases j with
    | zero=>
     obtain ⟨h3,_⟩:=h2
     exact h3
    | succ j=>
     have:=(Follow.get (q :: qs) (s+1) (some p) h2 (j+1) (by simpa using h)).1 j rfl
     obtain ⟨hj,h4⟩:=this
     rw [show s+1+(j+1)=s+(j+1+1) by omega] at h4
     exact h4
  ·subst hi
   subst hn
   exact h1.2
theorem H6 {x:Int}(h1: -9223372036854775808<=x)(h2:x<=9223372036854775807):wr x=x:=KT (by rw [Ke]; simp [h1,h2])
def EK (F:Nat->Int):Nat->Int
 | 0=>0
 | n+1=>EK F n+F n
theorem J9 {F G:Nat->Int}:∀ n,(∀ j,j<n->F j=G j)->EK F n=EK G n
 | 0,_=>rfl
 | n+1,h=>by rw [EK,EK,J9 n (fun j hj=>h j (by omega)),h n (by omega)]
theorem NG (F:RowD->Int)(rd:Nat->RowD)(p:Nat)(x:RowD):∀ n,p<n->EK (fun j=>F (DB rd p x j)) n=EK (fun j=>F (rd j)) n+(F x - F (rd p))
 | 0,h=>by omega
 | n+1,h=>by
  rw [EK,EK]
  by_cases hp:p<n
  ·rw [NG F rd p x n hp]
   have:DB rd p x n=rd n:=if_neg (by omega)
   rw [this]
   omega
  ·obtain rfl:p=n:=by omega
   rw [J9 p (G:=fun j=>F (rd j)) (fun j hj=>by
    have:DB rd p x j=rd j:=if_neg (by omega)
    rw [this])]
   have:DB rd p x p=x:=if_pos rfl
   rw [this]
   omega
structure RowOk (k:Nat) (r:RowD):Prop where
 played:0<=r.played/\r.played<=k
 won:0<=r.won
 drawn:0<=r.drawn
 lost:0<=r.lost
 sum:r.won+r.drawn+r.lost=r.played
 for':0<=r.for'/\r.for'<=99*k
 against:0<=r.against/\r.against<=99*k
 awayFor:0<=r.awayFor/\r.awayFor<=99*k
 awayWon:0<=r.awayWon/\r.awayWon<=k
 cards:0<=r.cards/\r.cards<=120*k
 points: -99*(k:Int)<=r.points/\r.points<=99*k
theorem RowOk.mono {k:Nat}{r:RowD}(h:RowOk k r):RowOk (k+1) r:=by
 obtain ⟨h1,h2,h3,h4,h5,h6,h7,h8,h9,h10,h11⟩:=h
 exact ⟨by omega,h2,h3,h4,h5,by omega,by omega,by omega,by omega,by omega,by omega⟩
theorem Oe {k:Nat}(hk:k<=1000){wi dr lo:Int}(hw: -99<=lo/\lo<=dr/\dr<=wi/\wi<=99){s:SideD}(h1:0<=s.own/\s.own<=99)(h2:0<=s.other/\s.other<=99)(h3:0<=s.cards/\s.cards<=120){r:RowD}(h:RowOk k r):
  RowOk (k+1) (AN wi dr lo s r)/\(AN wi dr lo s r).club=r.club/\(AN wi dr lo s r).played=r.played+1/\(AN wi dr lo s r).for'=r.for'+s.own/\(AN wi dr lo s r).against=r.against+s.other/\
  (AN wi dr lo s r).won=r.won+(if s.how=2 then 1 else 0)/\(AN wi dr lo s r).lost=r.lost+(if s.how=0 then 1 else 0):=by
 obtain ⟨g1,g2,g3,g4,g5,g6,g7,g8,g9,g10,g11⟩:=h
 have e1:wr (r.played+1)=r.played+1:=H6 (by omega) (by omega)
 have e2:wr (r.for'+s.own)=r.for'+s.own:=H6 (by omega) (by omega)
 have e3:wr (r.against+s.other)=r.against+s.other:=H6 (by omega) (by omega)
 have e4:wr (r.cards+s.cards)=r.cards+s.cards:=H6 (by omega) (by omega)
 have e5:wr (r.awayFor+s.own)=r.awayFor+s.own:=H6 (by omega) (by omega)
 have e6:wr (r.lost+1)=r.lost+1:=H6 (by omega) (by omega)
 have e7:wr (r.drawn+1)=r.drawn+1:=H6 (by omega) (by omega)
 have e8:wr (r.won+1)=r.won+1:=H6 (by omega) (by omega)
 have e9:wr (r.awayWon+1)=r.awayWon+1:=H6 (by omega) (by omega)
 have e10:wr (r.points+wi)=r.points+wi:=H6 (by omega) (by omega)
 have e11:wr (r.points+dr)=r.points+dr:=H6 (by omega) (by omega)
 have e12:wr (r.points+lo)=r.points+lo:=H6 (by omega) (by omega)
 have hhow:s.how=0∨s.how=1∨s.how=2:=by
  unfold SideD.how
  cases s.both<;>cases decide (s.own<s.other)<;>cases s.own==s.other<;>simp
 unfold AN
 rcases hhow with e | e | e<;>rw [e]<;>unfold Up<;>simp only [e1,e2,e3,e4,e5,e6,e7,e8,e9,e10,e11,e12]<;>cases s.away<;>simp only [cond_true,cond_false]<;>
  exact ⟨⟨by constructor<;>(simp only; omega),by simp only; omega,by simp only; omega,by simp only; omega,by simp only; omega,by constructor<;>(simp only; omega),by constructor<;>(simp only; omega),by constructor<;>(simp only; omega),by constructor<;>(simp only; omega),by constructor<;>(simp only; omega),by constructor<;>(simp only; omega)⟩,trivial,trivial,trivial,trivial,by simp,by simp⟩
theorem VA (r:ResD):(r.homeS.how=2->r.awayS.how=0)/\(r.awayS.how=2->r.homeS.how=0):=by
 unfold SideD.how ResD.homeS ResD.awayS
 cases r.both
 ·simp only [cond_false]
  by_cases h1:r.hg<r.ag
  ·have h2:¬ r.ag<r.hg:=by omega
   have h3:(r.ag==r.hg)=false:=by simp; omega
   simp [h1,h2,h3]
  ·by_cases h2:r.ag<r.hg
   ·have h3:(r.hg==r.ag)=false:=by simp; omega
    simp [h1,h2,h3]
   ·have h3:r.hg=r.ag:=by omega
    simp [h3]
 ·simp
structure RowsOk (n:Nat) (w:Nat->Int) (k:Nat) (rd:Nat->RowD):Prop where
 row:∀ j,j<n->RowOk k (rd j)/\(rd j).club=w j
 played:EK (fun j=>(rd j).played) n=2*k
 won:EK (fun j=>(rd j).won) n<=EK (fun j=>(rd j).lost) n
 goals:EK (fun j=>(rd j).for') n=EK (fun j=>(rd j).against) n
theorem G3 (F:Nat->Int)(h:∀ j,F j=0):∀ n,EK F n=0
 | 0=>rfl
 | n+1=>by rw [EK,G3 F h n,h n]; rfl
theorem QL {n:Nat}{w:Nat->Int}{k:Nat}(hk:k<=1000){wi dr lo:Int}(hw: -99<=lo/\lo<=dr/\dr<=wi/\wi<=99){r:ResD}(ho:r.Ok)(hh:inW n w r.home=true)(ha:inW n w r.away=true){rd:Nat->RowD}(h:RowsOk n w k rd):
  RowsOk n w (k+1) (NC n w wi dr lo r rd):=by
 obtain ⟨p1,p2⟩:=Cv hh
 obtain ⟨q1,q2⟩:=Cv ha
 have hne:Bk n w r.home≠Bk n w r.away:=fun e=>ho.two (by rw [<-p2,<-q2,e])
 obtain ⟨c1,c2,c3,c4,c5,c6,c7⟩:=Oe hk hw (s:=r.homeS) ho.hg ho.ag ho.hc (h.row _ p1).1
 obtain ⟨d1,d2,d3,d4,d5,d6,d7⟩:=Oe hk hw (s:=r.awayS) ho.ag ho.hg ho.ac (h.row _ q1).1
 have ea:DB rd (Bk n w r.home) (AN wi dr lo r.homeS (rd (Bk n w r.home))) (Bk n w r.away)=rd (Bk n w r.away):=if_neg (Ne.symm hne)
 unfold NC
 rw [ea]
 have hsum:∀ F:RowD->Int,EK (fun j=>F (DB (DB rd (Bk n w r.home) (AN wi dr lo r.homeS (rd (Bk n w r.home)))) (Bk n w r.away) (AN wi dr lo r.awayS (rd (Bk n w r.away))) j)) n=
   EK (fun j=>F (rd j)) n+(F (AN wi dr lo r.homeS (rd (Bk n w r.home))) - F (rd (Bk n w r.home)))+(F (AN wi dr lo r.awayS (rd (Bk n w r.away))) - F (rd (Bk n w r.away))):=fun F=>by
  rw [NG F _ _ _ n q1,NG F _ _ _ n p1,ea]
 have howH:=VA r
 have f1:r.homeS.own=r.hg:=rfl
 have f2:r.homeS.other=r.ag:=rfl
 have f3:r.awayS.own=r.ag:=rfl
 have f4:r.awayS.other=r.hg:=rfl
 refine ⟨fun j hj=>?_,?_,?_,?_⟩
 ·by_cases e1:j=Bk n w r.away
  ·rw [show DB _ (Bk n w r.away) _ j=AN wi dr lo r.awayS (rd (Bk n w r.away)) from if_pos e1]
   exact ⟨d1,by rw [d2,(h.row _ q1).2,e1]⟩
  ·rw [show DB _ (Bk n w r.away) _ j=DB rd (Bk n w r.home) (AN wi dr lo r.homeS (rd (Bk n w r.home))) j from if_neg e1]
   by_cases e2:j=Bk n w r.home
   ·rw [show DB rd (Bk n w r.home) _ j=AN wi dr lo r.homeS (rd (Bk n w r.home)) from if_pos e2]
    exact ⟨c1,by rw [c2,(h.row _ p1).2,e2]⟩
   ·rw [show DB rd (Bk n w r.home) _ j=rd j from if_neg e2]
    exact ⟨(h.row j hj).1.mono,(h.row j hj).2⟩
 ·rw [hsum RowD.played,c3,d3,h.played]
  omega
 ·rw [hsum RowD.won,hsum RowD.lost,c6,d6,c7,d7]
  have:=h.won
  obtain ⟨w1,w2⟩:=howH
  by_cases x1:r.homeS.how=2
  ·have x2:=w1 x1
   simp only [x1,x2,if_true,show (0:Nat)≠2 by omega,show (2:Nat)≠0 by omega,if_false]
   omega
  ·by_cases y1:r.awayS.how=2
   ·have y2:=w2 y1
    simp only [y1,y2,if_true,show (0:Nat)≠2 by omega,show (2:Nat)≠0 by omega,if_false]
    omega
   ·simp only [x1,y1,if_false]
    split<;>split<;>omega
 ·rw [hsum RowD.for',hsum RowD.against,c4,c5,d4,d5,f1,f2,f3,f4,h.goals]
  omega
theorem QM {n:Nat}{w:Nat->Int}{wi dr lo:Int}(hw: -99<=lo/\lo<=dr/\dr<=wi/\wi<=99){rs:Nat->ResD}{N:Nat}(hN:N<=1000)(hr:∀ i,i<N->(rs i).Ok/\inW n w (rs i).home=true/\inW n w (rs i).away=true):
  ∀ k,k<=N->RowsOk n w k (Az n w wi dr lo rs k)
 | 0,_=>⟨fun j _=>⟨by
  have e:Az n w wi dr lo rs 0 j=⟨w j,0,0,0,0,0,0,0,0,0,0⟩:=rfl
  rw [e]
  constructor<;>simp,rfl⟩,by rw [(G3 (fun j=>(Az n w wi dr lo rs 0 j).played) (fun _=>rfl) n)]; rfl,by rw [(G3 (fun j=>(Az n w wi dr lo rs 0 j).won) (fun _=>rfl) n),(G3 (fun j=>(Az n w wi dr lo rs 0 j).lost) (fun _=>rfl) n)]; omega,by rw [(G3 (fun j=>(Az n w wi dr lo rs 0 j).for') (fun _=>rfl) n),(G3 (fun j=>(Az n w wi dr lo rs 0 j).against) (fun _=>rfl) n)]⟩
 | k+1,h=>QL (by omega) hw (hr k (by omega)).1 (hr k (by omega)).2.1 (hr k (by omega)).2.2 (QM hw hN hr k (by omega))
abbrev ofP (k:Nat)(ps:Nat->PlaceD):EObj:=.arr false true 14 false k fun j=>(ps j).cells
abbrev ofN (R:RulesV)(s c:Int):AL:=[.var false true R.cells,.var false true [.int .i64 s,.int .i64 c,.isl false 0 0 fun _=>[]]]
abbrev ofS (R:RulesV)(s c:Int)(k:Nat)(ps:Nat->PlaceD):AL:=[.var false true R.cells,.var false false [.int .i64 s,.int .i64 c,.ms 2 14 0 k none],ofP k ps]
abbrev ofC (R:RulesV)(s c:Int)(k:Nat)(ps:Nat->PlaceD):AL:=[.var false true R.cells,.var false false [.int .i64 s,.int .i64 c,.ms 3 14 0 k none],.dead,ofP k ps]
noncomputable def tfT (m:Nat)(w:Nat->Int)(n2:Bool)(o:Nat->Int)(L:Nat)(gs:Nat->List Int)(bs:Nat->Int)(rd:Nat->RowD)(l:List (Nat×EV))(l2:List (Nat×EV)):List EV:=
 frame 132 ([(1,nums true m w),(2,nums n2 m o),(9,.ptr 0 0),(12,.ptr 1 0),(15,.isl true 1 L fun j=>[EV.int .i64 (bs j)]),(16,.isl true 11 m fun j=>(rd j).cells)]++l++[(71,.isl true 1 L fun j=>[EV.isl true 1 (gs j).length fun i=>[EV.int .i64 ((gs j).getD i 0)]]),(72,.int .i64 L)]++l2)
noncomputable abbrev Ly:=cB (cR (cL (cR (cR (cR (cR (cR (cR (AB prog 9)))))))))
noncomputable abbrev Bs:=cB (Ly)
abbrev AEn (a0:Int)(a1:List Int):=decide (a0<↑a1.length)
noncomputable abbrev G5:=cB (cB (cR (cR (cR (cB (cL (cR (cR (Bs)))))))))
noncomputable abbrev AE3 (a0:Nat)(a1:Nat->Int)(a2:Bool)(a3:Nat->Int)(a4:Nat)(a5:Nat->List Int)(a6:Nat->Int)(a7:Nat->RowD)(a8:Int)(a9:Int)(a10:List Int)(a11:Int):=tfT a0 a1 a2 a3 a4 a5 a6 a7 [(17,.int .i64 a8),(19,.int .i64 a9)] [(73,.int .i64 a8),(82,sl true 1 a10.length fun j=>(E7 a10 j)),(83,.int .i64 a10.length),(84,.int .i64 a11)]
theorem AB7 (m:Nat)(w:Nat->Int)(n2:Bool)(o:Nat->Int)(L:Nat)(gs:Nat->List Int)(bs:Nat->Int)(rd:Nat->RowD)(R:RulesV)(Z:Int->Int->ByteArray)(s:Int)(c:Int)(rk:Int)(gi:Int)(G:List Int)(i:Int)(p:Int)(k:Nat)(ps:Nat->PlaceD)(h0:i=0)(h3:G.length<=100000)(h4:k<=100000)(h5:0<=p)(h6:p<m)(h7:m<=100000)(h8:0<=gi)(h9:gi<L)(h10:0<G.length)(ihZ:∀ a b:Int,sP 21 [ag R.cells,iv a,iv b] (sv (Z a b)))(ihb:i<G.length->sP 27 [AHC m w,iv (G.getD i.toNat 0)] (EJ p)):sR 2 (G5) (AE3 m w n2 o L gs bs rd gi rk G i) ((ofN R s c)) (xN,(frame 132 [(1,sl true 1 m fun i=>[iv (w i)]),(2,sl n2 1 m fun i=>[iv (o i)]),(9,pt 0 0),(12,pt 1 0),(15,sl true 1 L fun i=>(BN bs i)),(16,sl true 11 m fun i=>(rd i).cells),(17,iv gi),(19,iv rk),(71,sl true 1 L fun i=>(AEX gs i)),(72,iv ↑L),(73,iv gi),(82,sl true 1 G.length fun i=>(E7 G i)),(83,iv ↑G.length),(84,iv (i+1))]),[ov R.cells,EObj.var false false [iv s,iv c,EV.ms 2 14 0 1 none],oA 14 false 1 fun i=>[[iv rk,Ah bs gi,sv (Z (↑m:Int) rk),iv (rd p.toNat).club,iv (rd p.toNat).played,iv (rd p.toNat).won,iv (rd p.toNat).drawn,iv (rd p.toNat).lost,iv (rd p.toNat).for',iv (rd p.toNat).against,iv (rd p.toNat).awayFor,iv (rd p.toNat).awayWon,iv (rd p.toNat).cards,iv (IntKind.i64.wrap ((rd p.toNat).points - o p.toNat))]].getD (0+i) []]):=
 kR [[]] (.mk (dS 29320343585454) [] [some (EJ p),some (sv (Z (↑m:Int) rk))] [] []) (kO AD) (oI ((inR IntKind.i64 (i+1))=true) (oJ ((inB gi L)=true) (oI ((i==0)=true) (oJ ((inB p m)=true) (oJ ((inB p m)=true) (oT (sP 21 [ag R.cells,iv ↑m,iv rk] (sv (Z (↑m:Int) rk))) (ihZ _ _) (.cons (ihb (by simp_all)) (oJ ((inB i G.length)=true) (oI ((AEn i G)=true) .nil))))))))) 33866451231899660650779142 7 [0,1,7] 2
abbrev Lz (a0:RulesV)(a1:Int)(a2:Int)(a3:Nat)(a4:Nat->PlaceD):=[ov a0.cells,EObj.var false false [iv a1,iv a2,EV.ms 2 14 0 a3 none],oA 14 false a3 fun i=>(a4 i).cells]
abbrev Of (a0:Nat)(a1:Nat->PlaceD)(a2:Int)(a3:Int->Int->ByteArray)(a4:Nat)(a5:Nat->RowD)(a6:Int)(a7:Nat->Int):=AU a0 (fun i=>(a1 (0+i)).cells) fun i=>[[iv a2,iv 0,sv (a3 (↑a4:Int) a2),iv (a5 a6.toNat).club,iv (a5 a6.toNat).played,iv (a5 a6.toNat).won,iv (a5 a6.toNat).drawn,iv (a5 a6.toNat).lost,iv (a5 a6.toNat).for',iv (a5 a6.toNat).against,iv (a5 a6.toNat).awayFor,iv (a5 a6.toNat).awayWon,iv (a5 a6.toNat).cards,iv (IntKind.i64.wrap ((a5 a6.toNat).points - a7 a6.toNat))]].getD (0+i) []
noncomputable abbrev L0 (a0:Nat)(a1:Nat->Int)(a2:Bool)(a3:Nat->Int)(a4:Nat)(a5:Nat->Int)(a6:Nat->RowD)(a7:Nat->List Int)(a8:Int):=frame 132 [(1,sl true 1 a0 fun i=>[iv (a1 i)]),(2,sl a2 1 a0 fun i=>[iv (a3 i)]),(9,pt 0 0),(12,pt 1 0),(15,sl true 1 a4 fun i=>(GZ a5 i)),(16,sl true 11 a0 fun i=>(a6 i).cells),(71,sl true 1 a4 fun i=>(H2 a7 i)),(72,iv ↑a4),(73,iv a8)]
abbrev L1 (a0:Nat):=decide ((a0+1)*120<=70368744177664) && decide (I7 a0)
section
variable (m:Nat)(w:Nat->Int)(n2:Bool)(o:Nat->Int)(L:Nat)(gs:Nat->List Int)(bs:Nat->Int)(rd:Nat->RowD)(R:RulesV)(Z:Int->Int->ByteArray)(s:Int)(c:Int)(rk:Int)(gi:Int)(G:List Int)(i:Int)(p:Int)(k:Nat)(ps:Nat->PlaceD)(h0:0<i)(h3:G.length<=100000)(h4:k<=100000)(h5:0<=p)(h6:p<m)(h7:m<=100000)(h8:0<=gi)(h9:gi<L)(ihZ:∀ a b:Int,sP 21 [ag R.cells,iv a,iv b] (sv (Z a b)))(ihb:i<G.length->sP 27 [AHC m w,iv (G.getD i.toNat 0)] (EJ p))
include m w n2 o L gs bs rd R Z s c rk gi G i p k ps h0 h3 h4 h5 h6 h7 h8 h9 ihZ ihb
theorem AB8 (q0:(AEn i G)=true):sR 2 (G5) (AE3 m w n2 o L gs bs rd gi rk G i) ((ofS R s c k ps)) (xN,(frame 132 [(1,sl true 1 m fun i=>[iv (w i)]),(2,sl n2 1 m fun i=>[iv (o i)]),(9,pt 0 0),(12,pt 1 0),(15,sl true 1 L fun i=>(BN bs i)),(16,sl true 11 m fun i=>(rd i).cells),(17,iv gi),(19,iv rk),(71,sl true 1 L fun i=>(AEX gs i)),(72,iv ↑L),(73,iv gi),(82,sl true 1 G.length fun i=>(E7 G i)),(83,iv ↑G.length),(84,iv (i+1))]),[ov R.cells,EObj.var false false [iv s,iv c,EV.ms 2 14 0 (k+1) none],oA 14 false (k+1) (Of k ps rk Z m rd p o)]):=
 kR [[(decide (i<↑G.length),true)]] (.mk (dS 4473932714) [] [some (EJ p),some (sv (Z (↑m:Int) rk))] [] []) (kO (kz q0 AD)) (oI ((inR IntKind.i64 (i+1))=true) (oL ((L1 k)=true) (oI ((i==0)=false) (oJ ((inB p m)=true) (oJ ((inB p m)=true) (oT (sP 21 [ag R.cells,iv ↑m,iv rk] (sv (Z (↑m:Int) rk))) (ihZ _ _) (.cons (ihb (by simp_all)) (oJ ((inB i G.length)=true) .nil)))))))) 33866451231899660650779142 7 [0,1,8] 2
theorem AB9 (q0:(AEn i G)=false):sR 2 (G5) (AE3 m w n2 o L gs bs rd gi rk G i) ((ofS R s c k ps)) (xL 2,(L0 m w n2 o L bs rd gs gi),(Lz R s c k ps)):=
 kR [[(decide (i<↑G.length),false)]] (.mk (dS 16) [] [] [] []) (kO (kz q0 AD)) .nil 16528282690043758350854 7 [0,1,2] 2
end
theorem ACA (m:Nat)(w:Nat->Int)(n2:Bool)(o:Nat->Int)(L:Nat)(gs:Nat->List Int)(bs:Nat->Int)(rd:Nat->RowD)(R:RulesV)(Z:Int->Int->ByteArray)(s:Int)(c:Int)(rk:Int)(gi:Int)(G:List Int)(i:Int)(p:Int)(k:Nat)(ps:Nat->PlaceD)(h0:i=0)(h3:G.length<=100000)(h4:k<=100000)(h5:0<=p)(h6:p<m)(h7:m<=100000)(h8:0<=gi)(h9:gi<L)(h10:0<G.length)(ihZ:∀ a b:Int,sP 21 [ag R.cells,iv a,iv b] (sv (Z a b)))(ihb:i<G.length->sP 27 [AHC m w,iv (G.getD i.toNat 0)] (EJ p)):sR 3 (G5) (AE3 m w n2 o L gs bs rd gi rk G i) ((ofS R s c k ps)) (xN,(frame 132 [(1,sl true 1 m fun i=>[iv (w i)]),(2,sl n2 1 m fun i=>[iv (o i)]),(9,pt 0 0),(12,pt 1 0),(15,sl true 1 L fun i=>(BN bs i)),(16,sl true 11 m fun i=>(rd i).cells),(17,iv gi),(19,iv rk),(71,sl true 1 L fun i=>(AEX gs i)),(72,iv ↑L),(73,iv gi),(82,sl true 1 G.length fun i=>(E7 G i)),(83,iv ↑G.length),(84,iv (i+1))]),[ov R.cells,EObj.var false false [iv s,iv c,EV.ms 3 14 0 (k+1) none],oD,oA 14 false (k+1) (AU k (fun i=>(ps (0+i)).cells) fun i=>[[iv rk,Ah bs gi,sv (Z (↑m:Int) rk),iv (rd p.toNat).club,iv (rd p.toNat).played,iv (rd p.toNat).won,iv (rd p.toNat).drawn,iv (rd p.toNat).lost,iv (rd p.toNat).for',iv (rd p.toNat).against,iv (rd p.toNat).awayFor,iv (rd p.toNat).awayWon,iv (rd p.toNat).cards,iv (IntKind.i64.wrap ((rd p.toNat).points - o p.toNat))]].getD (0+i) [])]):=
 kR [[]] (.mk (dS 114532592298) [] [some (EJ p),some (sv (Z (↑m:Int) rk))] [] []) (kO AD) (oI ((inR IntKind.i64 (i+1))=true) (oL ((L1 k)=true) (oJ ((inB gi L)=true) (oI ((i==0)=true) (oJ ((inB p m)=true) (oJ ((inB p m)=true) (oT (sP 21 [ag R.cells,iv ↑m,iv rk] (sv (Z (↑m:Int) rk))) (ihZ _ _) (.cons (ihb (by simp_all)) (oJ ((inB i G.length)=true) (oI ((AEn i G)=true) .nil)))))))))) 33866451231899660650779142 11 [0,1,2,8] 3
abbrev Tj (a0:RulesV)(a1:Int)(a2:Int)(a3:Nat)(a4:Nat->PlaceD):=[ov a0.cells,EObj.var false false [iv a1,iv a2,EV.ms 3 14 0 a3 none],oD,oA 14 false a3 fun i=>(a4 i).cells]
noncomputable abbrev EL (a0:Nat)(a1:Nat->Int)(a2:Bool)(a3:Nat->Int)(a4:Nat)(a5:Nat->Int)(a6:Nat->RowD)(a7:Nat->List Int)(a8:Int)(a9:RulesV)(a10:Int)(a11:Int)(a12:Nat)(a13:Nat->PlaceD):RC:=(xL 2,(L0 a0 a1 a2 a3 a4 a5 a6 a7 a8),(Tj a9 a10 a11 a12 a13))
section
variable (m:Nat)(w:Nat->Int)(n2:Bool)(o:Nat->Int)(L:Nat)(gs:Nat->List Int)(bs:Nat->Int)(rd:Nat->RowD)(R:RulesV)(Z:Int->Int->ByteArray)(s:Int)(c:Int)(rk:Int)(gi:Int)(G:List Int)(i:Int)(p:Int)(k:Nat)(ps:Nat->PlaceD)(h0:0<i)(h3:G.length<=100000)(h4:k<=100000)(h5:0<=p)(h6:p<m)(h7:m<=100000)(h8:0<=gi)(h9:gi<L)(ihZ:∀ a b:Int,sP 21 [ag R.cells,iv a,iv b] (sv (Z a b)))(ihb:i<G.length->sP 27 [AHC m w,iv (G.getD i.toNat 0)] (EJ p))
include m w n2 o L gs bs rd R Z s c rk gi G i p k ps h0 h3 h4 h5 h6 h7 h8 h9 ihZ ihb
theorem ACB (q0:(AEn i G)=true):sR 3 (G5) (AE3 m w n2 o L gs bs rd gi rk G i) ((ofC R s c k ps)) (xN,(frame 132 [(1,sl true 1 m fun i=>[iv (w i)]),(2,sl n2 1 m fun i=>[iv (o i)]),(9,pt 0 0),(12,pt 1 0),(15,sl true 1 L fun i=>(BN bs i)),(16,sl true 11 m fun i=>(rd i).cells),(17,iv gi),(19,iv rk),(71,sl true 1 L fun i=>(AEX gs i)),(72,iv ↑L),(73,iv gi),(82,sl true 1 G.length fun i=>(E7 G i)),(83,iv ↑G.length),(84,iv (i+1))]),[ov R.cells,EObj.var false false [iv s,iv c,EV.ms 3 14 0 (k+1) none],oD,oA 14 false (k+1) (Of k ps rk Z m rd p o)]):=
 kR [[(decide (i<↑G.length),true)]] (.mk (dS 4473932714) [] [some (EJ p),some (sv (Z (↑m:Int) rk))] [] []) (kO (kz q0 AD)) (oI ((inR IntKind.i64 (i+1))=true) (oL ((L1 k)=true) (oI ((i==0)=false) (oJ ((inB p m)=true) (oJ ((inB p m)=true) (oT (sP 21 [ag R.cells,iv ↑m,iv rk] (sv (Z (↑m:Int) rk))) (ihZ _ _) (.cons (ihb (by simp_all)) (oJ ((inB i G.length)=true) .nil)))))))) 33866451231899660650779142 11 [0,1,2,9] 3
theorem ACC (q0:(AEn i G)=false):sR 3 (G5) (AE3 m w n2 o L gs bs rd gi rk G i) ((ofC R s c k ps)) (EL m w n2 o L bs rd gs gi R s c k ps):=
 kR [[(decide (i<↑G.length),false)]] (.mk (dS 16) [] [] [] []) (kO (kz q0 AD)) .nil 16528282690043758350854 11 [0,1,2,3] 3
end
noncomputable abbrev Tk (a0:Nat)(a1:Nat->Int)(a2:Bool)(a3:Nat->Int)(a4:Nat)(a5:Nat->List Int)(a6:Nat->Int)(a7:Nat->RowD)(a8:Int):=(tfT a0 a1 a2 a3 a4 a5 a6 a7 [] [(73,.int .i64 a8)])
noncomputable abbrev Tl (a0:Nat)(a1:Nat->Int)(a2:Bool)(a3:Nat->Int)(a4:Nat)(a5:Nat->List Int)(a6:Nat->Int)(a7:Nat->RowD)(a8:Int):=Tk a0 a1 a2 a3 a4 a5 a6 a7 a8
noncomputable abbrev EM (a0:Nat)(a1:Nat->Int)(a2:Bool)(a3:Nat->Int)(a4:Nat)(a5:Nat->Int)(a6:Nat->RowD)(a7:Nat->List Int)(a8:Int)(a9:RulesV)(a10:Int)(a11:Int)(a12:Nat)(a13:Nat->PlaceD):RC:=(xN,(frame 132 [(1,sl true 1 a0 fun i=>[iv (a1 i)]),(2,sl a2 1 a0 fun i=>[iv (a3 i)]),(9,pt 0 0),(12,pt 1 0),(15,sl true 1 a4 fun i=>(GZ a5 i)),(16,sl true 11 a0 fun i=>(a6 i).cells),(71,sl true 1 a4 fun i=>(H2 a7 i)),(72,iv ↑a4),(73,iv (a8+1))]),(Lz a9 a10 a11 a12 a13))
noncomputable abbrev B4 (a0:Nat)(a1:Nat->Int)(a2:Bool)(a3:Nat->Int)(a4:Nat)(a5:Nat->List Int)(a6:Nat->Int)(a7:Nat->RowD)(a8:Int):=Tl a0 a1 a2 a3 a4 a5 a6 a7 a8
theorem ACD (m:Nat)(w:Nat->Int)(n2:Bool)(o:Nat->Int)(L:Nat)(gs:Nat->List Int)(bs:Nat->Int)(rd:Nat->RowD)(R:RulesV)(s:Int)(c:Int)(gi:Int)(k:Nat)(ps:Nat->PlaceD)(k1:Nat)(ps1:Nat->PlaceD)(h0:gi=0)(h3:L<=100000)(h4:k<=100000)(h5:0<L)(ih:gi<L->sL (cB (cR (cR (cR (cB (cL (cR (cR (cB (cB (cR (cL (cR (cR (cR (cR (cR (cR (AB prog 9))))))))))))))))))) (tfT m w n2 o L gs bs rd [(17,.int .i64 gi),(19,.int .i64 1)] [(73,.int .i64 gi),(82,sl true 1 (gs gi.toNat).length fun j=>[iv ((gs gi.toNat).getD j 0)]),(83,.int .i64 (gs gi.toNat).length),(84,.int .i64 0)]) (ofN R s c) ((xL 2,(tfT m w n2 o L gs bs rd [] [(73,.int .i64 gi)]),(ofS R s c k1 ps1)):RC)):sR 2 (Bs) (B4 m w n2 o L gs bs rd gi) ((ofN R s c)) (EM m w n2 o L bs rd gs gi R s c k1 ps1):=
 kR [[]] (.mk (dS 27918766) [(14,.is 33866451231899660650779142 3 (xL 2,(L0 m w n2 o L bs rd gs gi),(Lz R s c k1 ps1)))] [] [] []) (kO AD) (oI ((inR IntKind.i64 (gi+1))=true) (.cons (ih (by simp_all)) (oJ ((inB gi L)=true) (oI ((DQ gi L)=true) .nil)))) 16528282690043758350854 7 [0,1,2] 2
noncomputable abbrev Dy:=frame 132 [(12,pt 1 0)]
abbrev Og (a0:Int)(a1:Nat):=a0<(↑a1:Int)
abbrev FF (a0:Int)(a1:Nat):=[[(decide (Og a0 a1),false)]]
abbrev FG (a0:Int)(a1:Nat):=(DQ a0 a1)=false
abbrev FH (a0:Int)(a1:Nat):=[[(decide (Og a0 a1),true)]]
abbrev FI (a0:Int)(a1:Nat):=(DQ a0 a1)=true
section
variable (m:Nat)(w:Nat->Int)(n2:Bool)(o:Nat->Int)(L:Nat)(gs:Nat->List Int)(bs:Nat->Int)(rd:Nat->RowD)(R:RulesV)(s:Int)(c:Int)(gi:Int)(k:Nat)(ps:Nat->PlaceD)(k1:Nat)(ps1:Nat->PlaceD)(h0:0<gi)(h3:L<=100000)(h4:k<=100000)
include m w n2 o L gs bs rd R s c gi k ps k1 ps1 h0 h3 h4
theorem zK (ih:gi<L->sL (cB (cR (cR (cR (cB (cL (cR (cR (cB (cB (cR (cL (cR (cR (cR (cR (cR (cR (AB prog 9))))))))))))))))))) (tfT m w n2 o L gs bs rd [(17,.int .i64 gi),(19,.int .i64 (((1:Nat):Int)+1))] [(73,.int .i64 gi),(82,sl true 1 (gs gi.toNat).length fun j=>[iv ((gs gi.toNat).getD j 0)]),(83,.int .i64 (gs gi.toNat).length),(84,.int .i64 0)]) (ofS R s c 1 ps) ((xL 2,(tfT m w n2 o L gs bs rd [] [(73,.int .i64 gi)]),(ofC R s c k1 ps1)):RC))(q0:FI gi L):sR 2 (Bs) (B4 m w n2 o L gs bs rd gi) ((ofS R s c 1 ps)) (EM m w n2 o L bs rd gs gi R s c k1 ps1):=
 kR (FH gi L) (.mk (dS 17433006) [(14,.is 33866451231899660650779142 7 (EL m w n2 o L bs rd gs gi R s c k1 ps1))] [] [] []) (kO (kz q0 AD)) (oI ((inR IntKind.i64 (gi+1))=true) (.cons (ih (by simp_all)) (oJ ((inB gi L)=true) .nil))) 16528282690043758350854 7 [0,1,3] 2
theorem AGK (ih:gi<L->sL (cB (cR (cR (cR (cB (cL (cR (cR (cB (cB (cR (cL (cR (cR (cR (cR (cR (cR (AB prog 9))))))))))))))))))) (tfT m w n2 o L gs bs rd [(17,.int .i64 gi),(19,.int .i64 (((1:Nat):Int)+1))] [(73,.int .i64 gi),(82,sl true 1 (gs gi.toNat).length fun j=>[iv ((gs gi.toNat).getD j 0)]),(83,.int .i64 (gs gi.toNat).length),(84,.int .i64 0)]) (ofS R s c 1 ps) ((xL 2,(tfT m w n2 o L gs bs rd [] [(73,.int .i64 gi)]),(ofC R s c k1 ps1)):RC))(q0:FG gi L):sR 2 (Bs) (B4 m w n2 o L gs bs rd gi) ((ofS R s c 1 ps)) (xL 0,(Dy),[ov R.cells,EObj.var false false [iv s,iv c,EV.ms 2 14 0 1 none],oA 14 false 1 fun i=>(ps i).cells]):=
 kR (FF gi L) (.mk (dS 16) [] [] [] []) (kO (kz q0 AD)) .nil 4096 7 [0,1,2] 2
theorem zM (ih:gi<L->sL (cB (cR (cR (cR (cB (cL (cR (cR (cB (cB (cR (cL (cR (cR (cR (cR (cR (cR (AB prog 9))))))))))))))))))) (tfT m w n2 o L gs bs rd [(17,.int .i64 gi),(19,.int .i64 (((2:Nat):Int)+1))] [(73,.int .i64 gi),(82,sl true 1 (gs gi.toNat).length fun j=>[iv ((gs gi.toNat).getD j 0)]),(83,.int .i64 (gs gi.toNat).length),(84,.int .i64 0)]) (ofS R s c 2 ps) ((xL 2,(tfT m w n2 o L gs bs rd [] [(73,.int .i64 gi)]),(ofC R s c k1 ps1)):RC))(q0:FI gi L):sR 2 (Bs) (B4 m w n2 o L gs bs rd gi) ((ofS R s c 2 ps)) (EM m w n2 o L bs rd gs gi R s c k1 ps1):=
 kR (FH gi L) (.mk (dS 17433006) [(14,.is 33866451231899660650779142 7 (EL m w n2 o L bs rd gs gi R s c k1 ps1))] [] [] []) (kO (kz q0 AD)) (oI ((inR IntKind.i64 (gi+1))=true) (.cons (ih (by simp_all)) (oJ ((inB gi L)=true) .nil))) 16528282690043758350854 7 [0,1,3] 2
theorem zN (ih:gi<L->sL (cB (cR (cR (cR (cB (cL (cR (cR (cB (cB (cR (cL (cR (cR (cR (cR (cR (cR (AB prog 9))))))))))))))))))) (tfT m w n2 o L gs bs rd [(17,.int .i64 gi),(19,.int .i64 (((2:Nat):Int)+1))] [(73,.int .i64 gi),(82,sl true 1 (gs gi.toNat).length fun j=>[iv ((gs gi.toNat).getD j 0)]),(83,.int .i64 (gs gi.toNat).length),(84,.int .i64 0)]) (ofS R s c 2 ps) ((xL 2,(tfT m w n2 o L gs bs rd [] [(73,.int .i64 gi)]),(ofC R s c k1 ps1)):RC))(q0:FG gi L):sR 2 (Bs) (B4 m w n2 o L gs bs rd gi) ((ofS R s c 2 ps)) (xL 0,(Dy),[ov R.cells,EObj.var false false [iv s,iv c,EV.ms 2 14 0 2 none],oA 14 false 2 fun i=>(ps i).cells]):=
 kR (FF gi L) (.mk (dS 16) [] [] [] []) (kO (kz q0 AD)) .nil 4096 7 [0,1,2] 2
theorem zO (ih:gi<L->sL (cB (cR (cR (cR (cB (cL (cR (cR (cB (cB (cR (cL (cR (cR (cR (cR (cR (cR (AB prog 9))))))))))))))))))) (tfT m w n2 o L gs bs rd [(17,.int .i64 gi),(19,.int .i64 (((3:Nat):Int)+1))] [(73,.int .i64 gi),(82,sl true 1 (gs gi.toNat).length fun j=>[iv ((gs gi.toNat).getD j 0)]),(83,.int .i64 (gs gi.toNat).length),(84,.int .i64 0)]) (ofS R s c 3 ps) ((xL 2,(tfT m w n2 o L gs bs rd [] [(73,.int .i64 gi)]),(ofC R s c k1 ps1)):RC))(q0:FI gi L):sR 2 (Bs) (B4 m w n2 o L gs bs rd gi) ((ofS R s c 3 ps)) (EM m w n2 o L bs rd gs gi R s c k1 ps1):=
 kR (FH gi L) (.mk (dS 17433006) [(14,.is 33866451231899660650779142 7 (EL m w n2 o L bs rd gs gi R s c k1 ps1))] [] [] []) (kO (kz q0 AD)) (oI ((inR IntKind.i64 (gi+1))=true) (.cons (ih (by simp_all)) (oJ ((inB gi L)=true) .nil))) 16528282690043758350854 7 [0,1,3] 2
theorem zP (ih:gi<L->sL (cB (cR (cR (cR (cB (cL (cR (cR (cB (cB (cR (cL (cR (cR (cR (cR (cR (cR (AB prog 9))))))))))))))))))) (tfT m w n2 o L gs bs rd [(17,.int .i64 gi),(19,.int .i64 (((3:Nat):Int)+1))] [(73,.int .i64 gi),(82,sl true 1 (gs gi.toNat).length fun j=>[iv ((gs gi.toNat).getD j 0)]),(83,.int .i64 (gs gi.toNat).length),(84,.int .i64 0)]) (ofS R s c 3 ps) ((xL 2,(tfT m w n2 o L gs bs rd [] [(73,.int .i64 gi)]),(ofC R s c k1 ps1)):RC))(q0:FG gi L):sR 2 (Bs) (B4 m w n2 o L gs bs rd gi) ((ofS R s c 3 ps)) (xL 0,(Dy),[ov R.cells,EObj.var false false [iv s,iv c,EV.ms 2 14 0 3 none],oA 14 false 3 fun i=>(ps i).cells]):=
 kR (FF gi L) (.mk (dS 16) [] [] [] []) (kO (kz q0 AD)) .nil 4096 7 [0,1,2] 2
theorem zQ (ih:gi<L->sL (cB (cR (cR (cR (cB (cL (cR (cR (cB (cB (cR (cL (cR (cR (cR (cR (cR (cR (AB prog 9))))))))))))))))))) (tfT m w n2 o L gs bs rd [(17,.int .i64 gi),(19,.int .i64 (((4:Nat):Int)+1))] [(73,.int .i64 gi),(82,sl true 1 (gs gi.toNat).length fun j=>[iv ((gs gi.toNat).getD j 0)]),(83,.int .i64 (gs gi.toNat).length),(84,.int .i64 0)]) (ofS R s c 4 ps) ((xL 2,(tfT m w n2 o L gs bs rd [] [(73,.int .i64 gi)]),(ofC R s c k1 ps1)):RC))(q0:FI gi L):sR 2 (Bs) (B4 m w n2 o L gs bs rd gi) ((ofS R s c 4 ps)) (EM m w n2 o L bs rd gs gi R s c k1 ps1):=
 kR (FH gi L) (.mk (dS 17433006) [(14,.is 33866451231899660650779142 7 (EL m w n2 o L bs rd gs gi R s c k1 ps1))] [] [] []) (kO (kz q0 AD)) (oI ((inR IntKind.i64 (gi+1))=true) (.cons (ih (by simp_all)) (oJ ((inB gi L)=true) .nil))) 16528282690043758350854 7 [0,1,3] 2
theorem zR (ih:gi<L->sL (cB (cR (cR (cR (cB (cL (cR (cR (cB (cB (cR (cL (cR (cR (cR (cR (cR (cR (AB prog 9))))))))))))))))))) (tfT m w n2 o L gs bs rd [(17,.int .i64 gi),(19,.int .i64 (((4:Nat):Int)+1))] [(73,.int .i64 gi),(82,sl true 1 (gs gi.toNat).length fun j=>[iv ((gs gi.toNat).getD j 0)]),(83,.int .i64 (gs gi.toNat).length),(84,.int .i64 0)]) (ofS R s c 4 ps) ((xL 2,(tfT m w n2 o L gs bs rd [] [(73,.int .i64 gi)]),(ofC R s c k1 ps1)):RC))(q0:FG gi L):sR 2 (Bs) (B4 m w n2 o L gs bs rd gi) ((ofS R s c 4 ps)) (xL 0,(Dy),[ov R.cells,EObj.var false false [iv s,iv c,EV.ms 2 14 0 4 none],oA 14 false 4 fun i=>(ps i).cells]):=
 kR (FF gi L) (.mk (dS 16) [] [] [] []) (kO (kz q0 AD)) .nil 4096 7 [0,1,2] 2
theorem zS (ih:gi<L->sL (cB (cR (cR (cR (cB (cL (cR (cR (cB (cB (cR (cL (cR (cR (cR (cR (cR (cR (AB prog 9))))))))))))))))))) (tfT m w n2 o L gs bs rd [(17,.int .i64 gi),(19,.int .i64 (((5:Nat):Int)+1))] [(73,.int .i64 gi),(82,sl true 1 (gs gi.toNat).length fun j=>[iv ((gs gi.toNat).getD j 0)]),(83,.int .i64 (gs gi.toNat).length),(84,.int .i64 0)]) (ofS R s c 5 ps) ((xL 2,(tfT m w n2 o L gs bs rd [] [(73,.int .i64 gi)]),(ofC R s c k1 ps1)):RC))(q0:FI gi L):sR 2 (Bs) (B4 m w n2 o L gs bs rd gi) ((ofS R s c 5 ps)) (EM m w n2 o L bs rd gs gi R s c k1 ps1):=
 kR (FH gi L) (.mk (dS 17433006) [(14,.is 33866451231899660650779142 7 (EL m w n2 o L bs rd gs gi R s c k1 ps1))] [] [] []) (kO (kz q0 AD)) (oI ((inR IntKind.i64 (gi+1))=true) (.cons (ih (by simp_all)) (oJ ((inB gi L)=true) .nil))) 16528282690043758350854 7 [0,1,3] 2
theorem zT (ih:gi<L->sL (cB (cR (cR (cR (cB (cL (cR (cR (cB (cB (cR (cL (cR (cR (cR (cR (cR (cR (AB prog 9))))))))))))))))))) (tfT m w n2 o L gs bs rd [(17,.int .i64 gi),(19,.int .i64 (((5:Nat):Int)+1))] [(73,.int .i64 gi),(82,sl true 1 (gs gi.toNat).length fun j=>[iv ((gs gi.toNat).getD j 0)]),(83,.int .i64 (gs gi.toNat).length),(84,.int .i64 0)]) (ofS R s c 5 ps) ((xL 2,(tfT m w n2 o L gs bs rd [] [(73,.int .i64 gi)]),(ofC R s c k1 ps1)):RC))(q0:FG gi L):sR 2 (Bs) (B4 m w n2 o L gs bs rd gi) ((ofS R s c 5 ps)) (xL 0,(Dy),[ov R.cells,EObj.var false false [iv s,iv c,EV.ms 2 14 0 5 none],oA 14 false 5 fun i=>(ps i).cells]):=
 kR (FF gi L) (.mk (dS 16) [] [] [] []) (kO (kz q0 AD)) .nil 4096 7 [0,1,2] 2
theorem zU (ih:gi<L->sL (cB (cR (cR (cR (cB (cL (cR (cR (cB (cB (cR (cL (cR (cR (cR (cR (cR (cR (AB prog 9))))))))))))))))))) (tfT m w n2 o L gs bs rd [(17,.int .i64 gi),(19,.int .i64 (((6:Nat):Int)+1))] [(73,.int .i64 gi),(82,sl true 1 (gs gi.toNat).length fun j=>[iv ((gs gi.toNat).getD j 0)]),(83,.int .i64 (gs gi.toNat).length),(84,.int .i64 0)]) (ofS R s c 6 ps) ((xL 2,(tfT m w n2 o L gs bs rd [] [(73,.int .i64 gi)]),(ofC R s c k1 ps1)):RC))(q0:FI gi L):sR 2 (Bs) (B4 m w n2 o L gs bs rd gi) ((ofS R s c 6 ps)) (EM m w n2 o L bs rd gs gi R s c k1 ps1):=
 kR (FH gi L) (.mk (dS 17433006) [(14,.is 33866451231899660650779142 7 (EL m w n2 o L bs rd gs gi R s c k1 ps1))] [] [] []) (kO (kz q0 AD)) (oI ((inR IntKind.i64 (gi+1))=true) (.cons (ih (by simp_all)) (oJ ((inB gi L)=true) .nil))) 16528282690043758350854 7 [0,1,3] 2
theorem zV (ih:gi<L->sL (cB (cR (cR (cR (cB (cL (cR (cR (cB (cB (cR (cL (cR (cR (cR (cR (cR (cR (AB prog 9))))))))))))))))))) (tfT m w n2 o L gs bs rd [(17,.int .i64 gi),(19,.int .i64 (((6:Nat):Int)+1))] [(73,.int .i64 gi),(82,sl true 1 (gs gi.toNat).length fun j=>[iv ((gs gi.toNat).getD j 0)]),(83,.int .i64 (gs gi.toNat).length),(84,.int .i64 0)]) (ofS R s c 6 ps) ((xL 2,(tfT m w n2 o L gs bs rd [] [(73,.int .i64 gi)]),(ofC R s c k1 ps1)):RC))(q0:FG gi L):sR 2 (Bs) (B4 m w n2 o L gs bs rd gi) ((ofS R s c 6 ps)) (xL 0,(Dy),[ov R.cells,EObj.var false false [iv s,iv c,EV.ms 2 14 0 6 none],oA 14 false 6 fun i=>(ps i).cells]):=
 kR (FF gi L) (.mk (dS 16) [] [] [] []) (kO (kz q0 AD)) .nil 4096 7 [0,1,2] 2
theorem zW (ih:gi<L->sL (cB (cR (cR (cR (cB (cL (cR (cR (cB (cB (cR (cL (cR (cR (cR (cR (cR (cR (AB prog 9))))))))))))))))))) (tfT m w n2 o L gs bs rd [(17,.int .i64 gi),(19,.int .i64 (((7:Nat):Int)+1))] [(73,.int .i64 gi),(82,sl true 1 (gs gi.toNat).length fun j=>[iv ((gs gi.toNat).getD j 0)]),(83,.int .i64 (gs gi.toNat).length),(84,.int .i64 0)]) (ofS R s c 7 ps) ((xL 2,(tfT m w n2 o L gs bs rd [] [(73,.int .i64 gi)]),(ofC R s c k1 ps1)):RC))(q0:FI gi L):sR 2 (Bs) (B4 m w n2 o L gs bs rd gi) ((ofS R s c 7 ps)) (EM m w n2 o L bs rd gs gi R s c k1 ps1):=
 kR (FH gi L) (.mk (dS 17433006) [(14,.is 33866451231899660650779142 7 (EL m w n2 o L bs rd gs gi R s c k1 ps1))] [] [] []) (kO (kz q0 AD)) (oI ((inR IntKind.i64 (gi+1))=true) (.cons (ih (by simp_all)) (oJ ((inB gi L)=true) .nil))) 16528282690043758350854 7 [0,1,3] 2
theorem zX (ih:gi<L->sL (cB (cR (cR (cR (cB (cL (cR (cR (cB (cB (cR (cL (cR (cR (cR (cR (cR (cR (AB prog 9))))))))))))))))))) (tfT m w n2 o L gs bs rd [(17,.int .i64 gi),(19,.int .i64 (((7:Nat):Int)+1))] [(73,.int .i64 gi),(82,sl true 1 (gs gi.toNat).length fun j=>[iv ((gs gi.toNat).getD j 0)]),(83,.int .i64 (gs gi.toNat).length),(84,.int .i64 0)]) (ofS R s c 7 ps) ((xL 2,(tfT m w n2 o L gs bs rd [] [(73,.int .i64 gi)]),(ofC R s c k1 ps1)):RC))(q0:FG gi L):sR 2 (Bs) (B4 m w n2 o L gs bs rd gi) ((ofS R s c 7 ps)) (xL 0,(Dy),[ov R.cells,EObj.var false false [iv s,iv c,EV.ms 2 14 0 7 none],oA 14 false 7 fun i=>(ps i).cells]):=
 kR (FF gi L) (.mk (dS 16) [] [] [] []) (kO (kz q0 AD)) .nil 4096 7 [0,1,2] 2
theorem zY (ih:gi<L->sL (cB (cR (cR (cR (cB (cL (cR (cR (cB (cB (cR (cL (cR (cR (cR (cR (cR (cR (AB prog 9))))))))))))))))))) (tfT m w n2 o L gs bs rd [(17,.int .i64 gi),(19,.int .i64 (((8:Nat):Int)+1))] [(73,.int .i64 gi),(82,sl true 1 (gs gi.toNat).length fun j=>[iv ((gs gi.toNat).getD j 0)]),(83,.int .i64 (gs gi.toNat).length),(84,.int .i64 0)]) (ofS R s c 8 ps) ((xL 2,(tfT m w n2 o L gs bs rd [] [(73,.int .i64 gi)]),(ofC R s c k1 ps1)):RC))(q0:FI gi L):sR 2 (Bs) (B4 m w n2 o L gs bs rd gi) ((ofS R s c 8 ps)) (EM m w n2 o L bs rd gs gi R s c k1 ps1):=
 kR (FH gi L) (.mk (dS 17433006) [(14,.is 33866451231899660650779142 7 (EL m w n2 o L bs rd gs gi R s c k1 ps1))] [] [] []) (kO (kz q0 AD)) (oI ((inR IntKind.i64 (gi+1))=true) (.cons (ih (by simp_all)) (oJ ((inB gi L)=true) .nil))) 16528282690043758350854 7 [0,1,3] 2
theorem zZ (ih:gi<L->sL (cB (cR (cR (cR (cB (cL (cR (cR (cB (cB (cR (cL (cR (cR (cR (cR (cR (cR (AB prog 9))))))))))))))))))) (tfT m w n2 o L gs bs rd [(17,.int .i64 gi),(19,.int .i64 (((8:Nat):Int)+1))] [(73,.int .i64 gi),(82,sl true 1 (gs gi.toNat).length fun j=>[iv ((gs gi.toNat).getD j 0)]),(83,.int .i64 (gs gi.toNat).length),(84,.int .i64 0)]) (ofS R s c 8 ps) ((xL 2,(tfT m w n2 o L gs bs rd [] [(73,.int .i64 gi)]),(ofC R s c k1 ps1)):RC))(q0:FG gi L):sR 2 (Bs) (B4 m w n2 o L gs bs rd gi) ((ofS R s c 8 ps)) (xL 0,(Dy),[ov R.cells,EObj.var false false [iv s,iv c,EV.ms 2 14 0 8 none],oA 14 false 8 fun i=>(ps i).cells]):=
 kR (FF gi L) (.mk (dS 16) [] [] [] []) (kO (kz q0 AD)) .nil 4096 7 [0,1,2] 2
end
theorem ADN (n0:Bool)(n:Nat)(rs:Nat->ResD)(m:Nat)(w:Nat->Int)(n2:Bool)(m2:Nat)(o:Nat->Int)(n3:Bool)(ln:Nat)(lw:Nat->Int)(R:RulesV)(fin:Bool)(e:Int)(n1:Bool)(he:e≠0)(ihr:sP 20 (Jn n0 n rs n1 m w n2 m2 o n3 ln lw R fin) (tu [AHF,AHF,iv e])):sP 9 [AK n0 n rs,AA n1 m w,AA n2 m2 o,ag R.cells,bv fin,AA n3 ln lw] (tu [ag [iv 0,iv 0,BC],iv e]):=
 kP [] (.mk (dS 26) [] [some (tu [BC,BC,iv e])] [] []) KOk.nil (oI ((e != 0)=true) (.cons ihr .nil))
theorem ADO (n0:Bool)(n:Nat)(rs:Nat->ResD)(m:Nat)(w:Nat->Int)(n2:Bool)(m2:Nat)(o:Nat->Int)(n3:Bool)(ln:Nat)(lw:Nat->Int)(R:RulesV)(fin:Bool)(L:Nat)(gs:Nat->List Int)(bs:Nat->Int)(rd:Nat->RowD)(k:Nat)(ps:Nat->PlaceD)(hn:n=0)(ihr:sP 20 (Jn n0 n rs true m w n2 m o n3 ln lw R fin) (tu [(AEs L gs),(sl true 1 L fun j=>(BN bs j)),iv 0]))(ih26:sP 26 [AK n0 n rs,AHC m w,iv R.win,iv R.draw,iv R.loss] (tu [sl true 11 m fun j=>(rd j).cells,iv 0]))(ihl:sL (Ly) (tfT m w n2 o L gs bs rd [] [(73,.int .i64 0)]) (ofN R 0 0) ((xL 0,frame 132 [(12,.ptr 1 0)],(ofS R 0 0 k ps)):RC)):sP 9 [AK n0 n rs,Bm m w,AA n2 m o,ag R.cells,bv fin,AA n3 ln lw] (tu [ag [iv 0,iv 0,sl true 14 k fun i=>(ps (0+i)).cells],iv 0]):=
 kP [] (.mk (dS 66238) [(25,.is 16528282690043758350854 3 (xL 0,(Dy),[ov R.cells,EObj.var false false [iv 0,iv 0,EV.ms 2 14 0 k none],oA 14 false k fun i=>(ps i).cells]))] [some (tu [AEa L gs,Bm L bs,iv 0]),some (tu [sl true 11 m fun i=>(rd i).cells,iv 0])] [] []) KOk.nil (.cons ihl (oI ((JC n)=false) (.cons ih26 (.cons ihr .nil))))
theorem ADP (n0:Bool)(n:Nat)(rs:Nat->ResD)(m:Nat)(w:Nat->Int)(n2:Bool)(m2:Nat)(o:Nat->Int)(n3:Bool)(ln:Nat)(lw:Nat->Int)(R:RulesV)(fin:Bool)(L:Nat)(gs:Nat->List Int)(bs:Nat->Int)(rd:Nat->RowD)(k:Nat)(ps:Nat->PlaceD)(hn:0<n)(ihr:sP 20 (Jn n0 n rs true m w n2 m o n3 ln lw R fin) (tu [(AEs L gs),(sl true 1 L fun j=>(BN bs j)),iv 0]))(ih26:sP 26 [AK n0 n rs,AHC m w,iv R.win,iv R.draw,iv R.loss] (tu [sl true 11 m fun j=>(rd j).cells,iv 0]))(ihl:sL (Ly) (tfT m w n2 o L gs bs rd [] [(73,.int .i64 0)]) (ofN R (rs 0).season (rs 0).comp) ((xL 0,frame 132 [(12,.ptr 1 0)],(ofS R (rs 0).season (rs 0).comp k ps)):RC)):sP 9 [AK n0 n rs,Bm m w,AA n2 m o,ag R.cells,bv fin,AA n3 ln lw] (tu [ag [iv (rs 0).season,iv (rs 0).comp,sl true 14 k fun i=>(ps (0+i)).cells],iv 0]):=
 kP [] (.mk (dS 16953002) [(25,.is 16528282690043758350854 3 (xL 0,(Dy),[ov R.cells,EObj.var false false [iv (rs 0).season,iv (rs 0).comp,EV.ms 2 14 0 k none],oA 14 false k fun i=>(ps i).cells]))] [some (tu [AEa L gs,Bm L bs,iv 0]),some (tu [sl true 11 m fun i=>(rd i).cells,iv 0])] [] []) KOk.nil (.cons ihl (oJ ((inB 0 n)=true) (oJ ((inB 0 n)=true) (oI ((JC n)=true) (.cons ih26 (.cons ihr .nil))))))
def DC (P:List PlaceD)(j:Nat):PlaceD:=P.getD j default
def Cq (m:Nat)(w:Nat->Int)(rd:Nat->RowD)(o:Nat->Int)(c:Int):RowD:={ rd (Bk m w c) with points:=wr ((rd (Bk m w c)).points - o (Bk m w c)) }
noncomputable abbrev Ro:Code:=(cB (cB (cR (cR (cR (cB (cL (cR (cR (cB (cB (cR (cL (cR (cR (cR (cR (cR (cR (AB prog 9))))))))))))))))))))
noncomputable abbrev QN:Code:=(cB (cB (cR (cL (cR (cR (cR (cR (cR (cR (AB prog 9)))))))))))
theorem Oh (P:List PlaceD)(q:PlaceD)(j:Nat)(hj:j<P.length+1):
  AU P.length (fun (i:Nat)=>(DC P (0+i)).cells) (fun (i:Nat)=>[q.cells].getD (0+i) []) j=(DC (P++[q]) j).cells:=by
 unfold AU DC
 by_cases h:j<P.length
 ·rw [if_pos h]
  dsimp only
  rw [Nat.zero_add]
  simp [List.getD_eq_getElem?_getD,List.getElem?_append_left h]
 ·obtain rfl:j=P.length:=by omega
  rw [if_neg h]
  simp [List.getD_eq_getElem?_getD]
theorem JY (G:List Int)(i:Nat)(h:i<G.length):G.drop i=G.getD i 0 :: G.drop (i+1):=by
 rw [List.drop_eq_getElem_cons h,List.getD_eq_getElem?_getD,List.getElem?_eq_getElem h,Option.getD_some]
abbrev tfS (R:RulesV)(s c:Int)(P:List PlaceD):AL:=ofS R s c P.length (DC P)
abbrev tfC (R:RulesV)(s c:Int)(P:List PlaceD):AL:=ofC R s c P.length (DC P)
theorem VB {R:RulesV}{s c:Int}(P:List PlaceD)(q:PlaceD):HLe [EObj.var false true R.cells,EObj.var false false [EV.int IntKind.i64 s,EV.int IntKind.i64 c,EV.ms 2 14 0 (P.length+1) none],EObj.arr false true 14 false (P.length+1) (AU P.length (fun (i:Nat)=>(DC P (0+i)).cells) (fun (i:Nat)=>[q.cells].getD (0+i) []))] (tfS R s c (P++[q])):=by
 have el:(P++[q]).length=P.length+1:=by simp
 unfold tfS
 rw [el]
 exact .cons (OLe.refl _) (.cons (OLe.refl _) (.cons (OLe.arr fun j hj=>Oh P q j hj) .nil))
theorem QO {R:RulesV}{s c:Int}(P:List PlaceD)(q:PlaceD):HLe [EObj.var false true R.cells,EObj.var false false [EV.int IntKind.i64 s,EV.int IntKind.i64 c,EV.ms 3 14 0 (P.length+1) none],EObj.dead,EObj.arr false true 14 false (P.length+1) (AU P.length (fun (i:Nat)=>(DC P (0+i)).cells) (fun (i:Nat)=>[q.cells].getD (0+i) []))] (tfC R s c (P++[q])):=by
 have el:(P++[q]).length=P.length+1:=by simp
 unfold tfC
 rw [el]
 exact .cons (OLe.refl _) (.cons (OLe.refl _) (.cons (OLe.refl _) (.cons (OLe.arr fun j hj=>Oh P q j hj) .nil)))
section
variable {m:Nat}{w:Nat->Int}{n2:Bool}{o:Nat->Int}{L:Nat}{gs:Nat->List Int}{bs:Nat->Int}{rd:Nat->RowD}{R:RulesV}{Z:Int->Int->ByteArray}{s c:Int}(hI:Inc m w)(hm:m<=8)(hm0:0<m)(hL:L<=1000)(hZ:∀ a b:Int,sP 21 [EV.agg R.cells,EV.int .i64 a,EV.int .i64 b] (EV.str (Z a b)))
section
variable {rk:Int}{gi:Nat}(hgi:gi<L){G:List Int}(hG:G.length<=8)(hGi:∀ x∈G,inW m w x=true)
noncomputable abbrev tfI (m:Nat)(w:Nat->Int)(n2:Bool)(o:Nat->Int)(L:Nat)(gs:Nat->List Int)(bs:Nat->Int)(rd:Nat->RowD)(gi:Int)(rk:Int)(G:List Int)(i:Int):List EV:=
 tfT m w n2 o L gs bs rd [(17,.int .i64 gi),(19,.int .i64 rk)] [(73,.int .i64 gi),(82,EV.isl true 1 G.length fun j=>[EV.int .i64 (G.getD j 0)]),(83,.int .i64 G.length),(84,.int .i64 i)]
include hI hm hm0 hL hZ hgi hG hGi
theorem Xr (i:Nat)(h:i<G.length):sP 27 [nums true m w,EV.int .i64 (G.getD i 0)] (EV.tuple [EV.int .i64 (Bk m w (G.getD i 0)),EV.bool true])/\Bk m w (G.getD i 0)<m:=by
 have hin:=hGi (G.getD i 0) (by
  rw [List.getD_eq_getElem?_getD,List.getElem?_eq_getElem h,Option.getD_some]
  exact List.getElem_mem _)
 obtain ⟨h1,h2⟩:=Cv hin
 have:=zH hI (by omega) h1
 rw [h2] at this
 exact ⟨this,h1⟩
theorem YD:∀ (j i:Nat) (P:List PlaceD),i+j=G.length->0<i->P.length+j<=1000->
  sLR 2 Ro (tfI m w n2 o L gs bs rd gi rk G i) (tfS R s c P) (EX.leave 2,tfT m w n2 o L gs bs rd [] [(73,.int .i64 gi)],tfS R s c (P++grp (Z m) (Cq m w rd o) rk 0 (G.drop i)))
 | 0,i,P,h,h0,hP=>by
  obtain rfl:i=G.length:=by omega
  rw [List.drop_length,grp,List.append_nil]
  exact SemLR.lastR (AB9 m w n2 o L gs bs rd R Z s c rk gi G G.length 0 P.length (DC P) (by omega) (by omega) (by omega) (by omega) (by omega) (by omega) (by omega) (by omega) hZ (fun h=>by omega) (by simp)) (by simp)
 | j+1,i,P,h,h0,hP=>by
  obtain ⟨hb,hp⟩:=Xr hI hm hm0 hL hZ hgi hG hGi i (by omega)
  have hr:=AB8 m w n2 o L gs bs rd R Z s c rk gi G i (Bk m w (G.getD i 0)) P.length (DC P) (by omega) (by omega) (by omega) (by omega) (by omega) (by omega) (by omega) (by omega) hZ (fun _=>hb) (decide_eq_true (by omega))
  rw [JY G i (by omega),grp,List.append_cons]
  exact SemLR.stepR (SemCR.weaken hr (VLes.refl _) (VB P ⟨rk,0,Z m rk,Cq m w rd o (G.getD i 0)⟩)) (YD j (i+1) _ (by omega) (by omega) (by rw [List.length_append,List.length_singleton]; omega))
theorem YE:∀ (j i:Nat) (P:List PlaceD),i+j=G.length->0<i->P.length+j<=1000->
  sLR 3 Ro (tfI m w n2 o L gs bs rd gi rk G i) (tfC R s c P) (EX.leave 2,tfT m w n2 o L gs bs rd [] [(73,.int .i64 gi)],tfC R s c (P++grp (Z m) (Cq m w rd o) rk 0 (G.drop i)))
 | 0,i,P,h,h0,hP=>by
  obtain rfl:i=G.length:=by omega
  rw [List.drop_length,grp,List.append_nil]
  exact SemLR.lastR (ACC m w n2 o L gs bs rd R Z s c rk gi G G.length 0 P.length (DC P) (by omega) (by omega) (by omega) (by omega) (by omega) (by omega) (by omega) (by omega) hZ (fun h=>by omega) (by simp)) (by simp)
 | j+1,i,P,h,h0,hP=>by
  obtain ⟨hb,hp⟩:=Xr hI hm hm0 hL hZ hgi hG hGi i (by omega)
  have hr:=ACB m w n2 o L gs bs rd R Z s c rk gi G i (Bk m w (G.getD i 0)) P.length (DC P) (by omega) (by omega) (by omega) (by omega) (by omega) (by omega) (by omega) (by omega) hZ (fun _=>hb) (decide_eq_true (by omega))
  rw [JY G i (by omega),grp,List.append_cons]
  exact SemLR.stepR (SemCR.weaken hr (VLes.refl _) (QO P ⟨rk,0,Z m rk,Cq m w rd o (G.getD i 0)⟩)) (YE j (i+1) _ (by omega) (by omega) (by rw [List.length_append,List.length_singleton]; omega))
theorem ACE (h0:0<G.length):sL (cB (cR (cR (cR (cB (cL (cR (cR (cB (cB (cR (cL (cR (cR (cR (cR (cR (cR (AB prog 9))))))))))))))))))) (tfI m w n2 o L gs bs rd gi rk G 0) (ofN R s c)
  (EX.leave 2,tfT m w n2 o L gs bs rd [] [(73,.int .i64 gi)],tfS R s c (grp (Z m) (Cq m w rd o) rk (bs gi) G)):=by
 refine SemLR.cl (m:=2) (c:=Ro) ?_ rfl (by kernel_rfl)
 obtain ⟨hb,hp⟩:=Xr hI hm hm0 hL hZ hgi hG hGi 0 h0
 have hr:=AB7 m w n2 o L gs bs rd R Z s c rk gi G 0 (Bk m w (G.getD 0 0)) 0 (DC []) rfl (by omega) (by omega) (by omega) (by omega) (by omega) (by omega) (by omega) h0 hZ (fun _=>hb)
 have e:grp (Z m) (Cq m w rd o) rk (bs gi) G=[⟨rk,bs gi,Z m rk,Cq m w rd o (G.getD 0 0)⟩]++grp (Z m) (Cq m w rd o) rk 0 (G.drop 1):=by
  have:=JY G 0 h0
  rw [List.drop_zero] at this
  conv=>lhs; rw [this]
  rfl
 rw [e]
 refine SemLR.stepR (SemCR.weaken hr (VLes.refl _) (.cons (OLe.refl _) (.cons (OLe.refl _) (.cons (OLe.arr fun j hj=>?_) .nil)))) (YD hI hm hm0 hL hZ hgi hG hGi (G.length - 1) 1 [⟨rk,bs gi,Z m rk,Cq m w rd o (G.getD 0 0)⟩] (by omega) (by omega) (by simp; omega))
 obtain rfl:j=0:=by omega
 rfl
theorem ACF (h0:0<G.length)(P:List PlaceD)(hP:P.length<=900):sL (cB (cR (cR (cR (cB (cL (cR (cR (cB (cB (cR (cL (cR (cR (cR (cR (cR (cR (AB prog 9))))))))))))))))))) (tfI m w n2 o L gs bs rd gi rk G 0) (tfS R s c P)
  (EX.leave 2,tfT m w n2 o L gs bs rd [] [(73,.int .i64 gi)],tfC R s c (P++grp (Z m) (Cq m w rd o) rk (bs gi) G)):=by
 refine SemLR.cl (m:=3) (c:=Ro) ?_ rfl (by kernel_rfl)
 obtain ⟨hb,hp⟩:=Xr hI hm hm0 hL hZ hgi hG hGi 0 h0
 have hr:=ACA m w n2 o L gs bs rd R Z s c rk gi G 0 (Bk m w (G.getD 0 0)) P.length (DC P) rfl (by omega) (by omega) (by omega) (by omega) (by omega) (by omega) (by omega) h0 hZ (fun _=>hb)
 have e:grp (Z m) (Cq m w rd o) rk (bs gi) G=[⟨rk,bs gi,Z m rk,Cq m w rd o (G.getD 0 0)⟩]++grp (Z m) (Cq m w rd o) rk 0 (G.drop 1):=by
  have:=JY G 0 h0
  rw [List.drop_zero] at this
  conv=>lhs; rw [this]
  rfl
 rw [e,<-List.append_assoc]
 exact SemLR.stepR (SemCR.weaken hr (VLes.refl _) (QO P ⟨rk,bs gi,Z m rk,Cq m w rd o (G.getD 0 0)⟩)) (YE hI hm hm0 hL hZ hgi hG hGi (G.length - 1) 1 _ (by omega) (by omega) (by rw [List.length_append,List.length_singleton]; omega))
end
end
noncomputable abbrev YF:Code:=(cB (cR (cR (cR (cB (cL (cR (cR (cB (cB (cR (cL (cR (cR (cR (cR (cR (cR (AB prog 9)))))))))))))))))))
section
variable {m:Nat}{w:Nat->Int}{n2:Bool}{o:Nat->Int}{L:Nat}{gs:Nat->List Int}{bs:Nat->Int}{rd:Nat->RowD}{R:RulesV}{s c:Int}{gi:Int}{ps:Nat->PlaceD}{k1:Nat}{ps1:Nat->PlaceD}
theorem ACG (k:Nat)(hk:1<=k/\k<=8)(h0:0<gi)(h3:L<=100000)(ih:gi<L->sL YF (tfI m w n2 o L gs bs rd gi ((k:Int)+1) (gs gi.toNat) 0) (ofS R s c k ps) (EX.leave 2,tfT m w n2 o L gs bs rd [] [(73,.int .i64 gi)],ofC R s c k1 ps1))(q0:(decide (gi<(L:Int)))=true):
  sR 2 QN (tfT m w n2 o L gs bs rd [] [(73,.int .i64 gi)]) (ofS R s c k ps) (EX.normal,tfT m w n2 o L gs bs rd [] [(73,.int .i64 (gi+1))],ofS R s c k1 ps1):=by
 rcases (by omega:k=1∨k=2∨k=3∨k=4∨k=5∨k=6∨k=7∨k=8) with rfl | rfl | rfl | rfl | rfl | rfl | rfl | rfl
 ·exact zK m w n2 o L gs bs rd R s c gi 0 ps k1 ps1 h0 h3 (by omega) ih q0
 ·exact zM m w n2 o L gs bs rd R s c gi 0 ps k1 ps1 h0 h3 (by omega) ih q0
 ·exact zO m w n2 o L gs bs rd R s c gi 0 ps k1 ps1 h0 h3 (by omega) ih q0
 ·exact zQ m w n2 o L gs bs rd R s c gi 0 ps k1 ps1 h0 h3 (by omega) ih q0
 ·exact zS m w n2 o L gs bs rd R s c gi 0 ps k1 ps1 h0 h3 (by omega) ih q0
 ·exact zU m w n2 o L gs bs rd R s c gi 0 ps k1 ps1 h0 h3 (by omega) ih q0
 ·exact zW m w n2 o L gs bs rd R s c gi 0 ps k1 ps1 h0 h3 (by omega) ih q0
 ·exact zY m w n2 o L gs bs rd R s c gi 0 ps k1 ps1 h0 h3 (by omega) ih q0
theorem ACH (k:Nat)(hk:1<=k/\k<=8)(h0:0<gi)(h3:L<=100000)(ih:gi<L->sL YF (tfI m w n2 o L gs bs rd gi ((k:Int)+1) (gs gi.toNat) 0) (ofS R s c k ps) (EX.leave 2,tfT m w n2 o L gs bs rd [] [(73,.int .i64 gi)],ofC R s c k1 ps1))(q0:(decide (gi<(L:Int)))=false):
  sR 2 QN (tfT m w n2 o L gs bs rd [] [(73,.int .i64 gi)]) (ofS R s c k ps) (EX.leave 0,frame 132 [(12,.ptr 1 0)],ofS R s c k ps):=by
 rcases (by omega:k=1∨k=2∨k=3∨k=4∨k=5∨k=6∨k=7∨k=8) with rfl | rfl | rfl | rfl | rfl | rfl | rfl | rfl
 ·exact AGK m w n2 o L gs bs rd R s c gi 0 ps k1 ps1 h0 h3 (by omega) ih q0
 ·exact zN m w n2 o L gs bs rd R s c gi 0 ps k1 ps1 h0 h3 (by omega) ih q0
 ·exact zP m w n2 o L gs bs rd R s c gi 0 ps k1 ps1 h0 h3 (by omega) ih q0
 ·exact zR m w n2 o L gs bs rd R s c gi 0 ps k1 ps1 h0 h3 (by omega) ih q0
 ·exact zT m w n2 o L gs bs rd R s c gi 0 ps k1 ps1 h0 h3 (by omega) ih q0
 ·exact zV m w n2 o L gs bs rd R s c gi 0 ps k1 ps1 h0 h3 (by omega) ih q0
 ·exact zX m w n2 o L gs bs rd R s c gi 0 ps k1 ps1 h0 h3 (by omega) ih q0
 ·exact zZ m w n2 o L gs bs rd R s c gi 0 ps k1 ps1 h0 h3 (by omega) ih q0
end
theorem NH (Lg:List (List Int×Int))(i:Nat)(h:i<Lg.length):Lg.drop i=(C6 Lg i,Dc Lg i) :: Lg.drop (i+1):=by
 rw [List.drop_eq_getElem_cons h]
 unfold C6 Dc
 rw [List.getD_eq_getElem?_getD,List.getElem?_eq_getElem h,Option.getD_some]
theorem QP {Lg:List (List Int×Int)}{i:Nat}(h:i<Lg.length):(C6 Lg i,Dc Lg i)∈Lg:=by
 unfold C6 Dc
 rw [List.getD_eq_getElem?_getD,List.getElem?_eq_getElem h,Option.getD_some]
 exact List.getElem_mem _
section
variable {m:Nat}{w:Nat->Int}{n2:Bool}{o:Nat->Int}{rd:Nat->RowD}{R:RulesV}{Z:Int->Int->ByteArray}{s c:Int}(hI:Inc m w)(hm:m<=8)(hm0:0<m)(hZ:∀ a b:Int,sP 21 [EV.agg R.cells,EV.int .i64 a,EV.int .i64 b] (EV.str (Z a b)))
 {Lg:List (List Int×Int)} (hL:Lg.length<=1000) (hg:∀ x∈Lg,x.1≠[]/\x.1.length<=8/\∀ c∈x.1,inW m w c=true)
include hI hm hm0 hZ hL hg
theorem YG:∀ (j gi:Nat) (P:List PlaceD),gi+j=Lg.length->0<gi->1<=P.length->P.length+((Lg.drop gi).map Prod.fst).flatten.length<=8->
  sLR 2 QN (tfT m w n2 o Lg.length (C6 Lg) (Dc Lg) rd [] [(73,.int .i64 gi)]) (tfS R s c P) (EX.leave 0,frame 132 [(12,.ptr 1 0)],tfS R s c (P++placesOf (Z m) (Cq m w rd o) P.length (Lg.drop gi)))
 | 0,gi,P,h,h0,h1,hP=>by
  obtain rfl:gi=Lg.length:=by omega
  rw [List.drop_length,placesOf,List.append_nil]
  exact SemLR.lastR (ACH (k1:=0) (ps1:=DC []) P.length ⟨h1,by omega⟩ (by omega) (by omega) (fun h=>by omega) (by simp)) (by simp)
 | j+1,gi,P,h,h0,h1,hP=>by
  have hgi:gi<Lg.length:=by omega
  rw [NH Lg gi hgi] at hP ⊢
  rw [List.map_cons,List.flatten_cons,List.length_append] at hP
  dsimp only at hP
  obtain ⟨g1,g2,g3⟩:=hg _ (QP hgi)
  have hin:=ACF (n2:=n2) (o:=o) (gs:=C6 Lg) (bs:=Dc Lg) (rd:=rd) (s:=s) (c:=c) (rk:=(P.length:Int)+1) hI hm hm0 hL hZ hgi g2 g3 (List.length_pos_iff.2 g1) P (by omega)
  rw [placesOf,<-List.append_assoc]
  have hr:=ACG P.length ⟨h1,by omega⟩ (by omega) (by omega) (fun _=>hin) (decide_eq_true (by omega))
  rw [show (gi:Int)+1=((gi+1:Nat):Int) from rfl] at hr
  have:=YG j (gi+1) (P++grp (Z m) (Cq m w rd o) ((P.length:Int)+1) (Dc Lg gi) (C6 Lg gi)) (by omega) (by omega) (by rw [List.length_append]; omega) (by rw [List.length_append,HM]; omega)
  rw [List.length_append,HM] at this
  exact SemLR.stepR hr this
theorem z0 (h0:0<Lg.length)(hall:(Lg.map Prod.fst).flatten.length<=8):
  sL (cB (cR (cL (cR (cR (cR (cR (cR (cR (AB prog 9)))))))))) (tfT m w n2 o Lg.length (C6 Lg) (Dc Lg) rd [] [(73,.int .i64 0)]) (ofN R s c) (EX.leave 0,frame 132 [(12,.ptr 1 0)],tfS R s c (placesOf (Z m) (Cq m w rd o) 0 Lg)):=by
 refine SemLR.cl (m:=2) (c:=QN) ?_ rfl (by kernel_rfl)
 obtain ⟨g1,g2,g3⟩:=hg _ (QP h0)
 have hin:=ACE (n2:=n2) (o:=o) (gs:=C6 Lg) (bs:=Dc Lg) (rd:=rd) (s:=s) (c:=c) (rk:=1) hI hm hm0 hL hZ h0 g2 g3 (List.length_pos_iff.2 g1)
 have e:placesOf (Z m) (Cq m w rd o) 0 Lg=grp (Z m) (Cq m w rd o) 1 (Dc Lg 0) (C6 Lg 0)++placesOf (Z m) (Cq m w rd o) (grp (Z m) (Cq m w rd o) 1 (Dc Lg 0) (C6 Lg 0)).length (Lg.drop 1):=by
  have:=NH Lg 0 h0
  rw [List.drop_zero] at this
  conv=>lhs; rw [this]
  rw [placesOf,HM]
  simp
 have hlen:(Lg.map Prod.fst).flatten.length=(C6 Lg 0).length+((Lg.drop 1).map Prod.fst).flatten.length:=by
  have:=NH Lg 0 h0
  rw [List.drop_zero] at this
  conv=>lhs; rw [this]
  rw [List.map_cons,List.flatten_cons,List.length_append]
 have hpos:=List.length_pos_iff.2 g1
 replace hpos:0<(C6 Lg 0).length:=hpos
 rw [e]
 have hr0:=ACD m w n2 o Lg.length (C6 Lg) (Dc Lg) rd R s c 0 0 (DC []) _ _ rfl (by omega) (by omega) h0 (fun _=>hin)
 have hr:sR 2 QN (tfT m w n2 o Lg.length (C6 Lg) (Dc Lg) rd [] [(73,.int .i64 0)]) (ofN R s c) (EX.normal,tfT m w n2 o Lg.length (C6 Lg) (Dc Lg) rd [] [(73,.int .i64 (0+1))],tfS R s c (grp (Z m) (Cq m w rd o) 1 (Dc Lg 0) (C6 Lg 0))):=hr0
 rw [show (0:Int)+1=((1:Nat):Int) from rfl] at hr
 refine SemLR.stepR hr ?_
 have hgl:=HM (Z m) (Cq m w rd o) 1 (Dc Lg 0) (C6 Lg 0)
 exact YG hI hm hm0 hZ hL hg (Lg.length - 1) 1 _ (by omega) (by omega) (by omega) (by omega)
end
def Cs (n:Nat)(rs:Nat->ResD)(m:Nat)(w:Nat->Int)(o:Nat->Int)(R:RulesV)(Z:Int->Int->ByteArray)(Lg:List (List Int×Int)):TableD:=
 ⟨if n=0 then 0 else (rs 0).season,if n=0 then 0 else (rs 0).comp,true,(placesOf (Z m) (Cq m w (Az m w R.win R.draw R.loss rs n) o) 0 Lg).length,DC (placesOf (Z m) (Cq m w (Az m w R.win R.draw R.loss rs n) o) 0 Lg)⟩
def YH:EV:=EV.agg [EV.int .i64 0,EV.int .i64 0,EV.isl false 0 0 fun _=>[]]
structure TabBy (kk:Nat) (n0:Bool) (n:Nat) (rs:Nat->ResD) (n1:Bool) (m:Nat) (w:Nat->Int) (n2:Bool) (m2:Nat) (o:Nat->Int) (n3:Bool) (ln:Nat) (lw:Nat->Int) (R:RulesV) (fin:Bool) (e1 e3:List (EV×EV)) (S:List Int->Int->List (List Int)) (Cr:Nat->List Int) (Z:Int->Int->ByteArray):Prop where
 nn:n1=true
 opn:sP 48 (YB n0 n rs n1 m w n2 m2 o n3 ln lw R) (EV.tuple [CM n0 n rs n1 m w e1 R e3,.int .i64 0])
 ok:OpenOk kk n rs m w m2 o R
 comp:CompOk n0 n rs e1 R e3
 by_:RankBy n0 n rs n1 m w e1 R e3 fin S Cr
 zone:∀ c k,sP 21 [EV.agg R.cells,EV.int .i64 c,EV.int .i64 k] (EV.str (Z c k))
 size:∀ c k,(Z c k).size<=24
theorem ACI (kk:Nat)(n0:Bool)(n:Nat)(rs:Nat->ResD)(n1:Bool)(m:Nat)(w:Nat->Int)(n2:Bool)(m2:Nat)(o:Nat->Int)(n3:Bool)(ln:Nat)(lw:Nat->Int)(R:RulesV)(fin:Bool)
  (hn:n<=100000) (hm:m<=8) (hm2:m2<=100000) (hln:ln<=100000) (ht:R.Tree kk) (hn0:n0=true∨n=0) (hn1:n1=true∨m=0):
  (∃ e,e≠0/\sP 20 (Jn n0 n rs n1 m w n2 m2 o n3 ln lw R fin) (EV.tuple [EV.isl false 0 0 fun _=>[],EV.isl false 0 0 fun _=>[],EV.int .i64 e])/\sP 9 (Jn n0 n rs n1 m w n2 m2 o n3 ln lw R fin) (EV.tuple [YH,EV.int .i64 e]))∨
  ∃ e1 e3 S Cr Z,TabBy kk n0 n rs n1 m w n2 m2 o n3 ln lw R fin e1 e3 S Cr Z/\
   sP 20 (Jn n0 n rs n1 m w n2 m2 o n3 ln lw R fin) (EV.tuple [Pd (vis S Cr 8 (AT m w) 0),zG (vis S Cr 8 (AT m w) 0),EV.int .i64 0])/\
   sP 9 (Jn n0 n rs n1 m w n2 m2 o n3 ln lw R fin) (EV.tuple [(Cs n rs m w o R Z (vis S Cr 8 (AT m w) 0)).ev,EV.int .i64 0]):=by
 rcases Xp kk n0 n rs n1 m w n2 m2 o n3 ln lw R fin hn hm hm2 hln ht hn0 hn1 with ⟨e,he,h⟩ | ⟨e1,e3,S,Cr,rfl,hop,hok,hco,hrk,hr⟩
 ·exact .inl ⟨e,he,h,ADN n0 n rs m w n2 m2 o n3 ln lw R fin e n1 he h⟩
 ·obtain ⟨Z,hZ,hZs⟩:=Xq ht.2.1 hok.good.1
  refine .inr ⟨e1,e3,S,Cr,Z,⟨rfl,hop,hok,hco,hrk,hZ,hZs⟩,hr,?_⟩
  obtain rfl:=hok.off
  have hlen:(AT m2 w).length=m2:=by simp [AT]
  have h2:=hok.two
  have hv:=Pc hrk.split hrk.rng 8 (AT m2 w) 0 (fun e=>by rw [e] at hlen; simp at hlen; omega) (IL hok.inc) (by omega) (by omega)
  obtain ⟨_,hg1,hg2,hg3,hg4,_⟩:=hok.good
  have hrows:=QC m2 ⟨h2,hm⟩ n0 n rs true w R.win R.draw R.loss hn hok.inc ⟨hg1,hg2,hg3,hg4⟩ fun i hi=>⟨(hok.res i hi).err,(hok.res i hi).home,(hok.res i hi).away⟩
  have hmem:∀ x∈vis S Cr 8 (AT m2 w) 0,∀ c∈x.1,c∈AT m2 w:=fun x hx c hc=>hv.all.mem_iff.1 (List.mem_flatten.2 ⟨x.1,List.mem_map_of_mem hx,hc⟩)
  have hflat:=hv.all.length_eq
  have hlv:(vis S Cr 8 (AT m2 w) 0).length<=8:=by have:=hv.len; omega
  have hg:∀ x∈vis S Cr 8 (AT m2 w) 0,x.1≠[]/\x.1.length<=8/\∀ c∈x.1,inW m2 w c=true:=fun x hx=>by
   refine ⟨(hv.ne x hx).1,?_,fun c hc=>?_⟩
   ·obtain ⟨A,B,e⟩:=List.append_of_mem hx
    rw [e,List.map_append,List.map_cons,List.flatten_append,List.flatten_cons,List.length_append,List.length_append] at hflat
    omega
   ·obtain ⟨i,hi,rfl⟩:=List.mem_map.1 (hmem x hx c hc)
    unfold inW
    rw [List.any_eq_true]
    exact ⟨i,hi,by simp⟩
  have h0:0<(vis S Cr 8 (AT m2 w) 0).length:=by
   obtain ⟨G0,R',e,_⟩:=hv.head
   rw [e]
   simp
  have hloop:=fun (s c:Int)=>z0 (n2:=n2) (o:=o) (rd:=Az m2 w R.win R.draw R.loss rs n) (s:=s) (c:=c) hok.inc hm (by omega) hZ (by omega) hg h0 (by omega)
  rcases Nat.eq_zero_or_pos n with hz | hz
  ·have hx:=ADO n0 n rs m2 w n2 0 o n3 ln lw R fin _ _ _ _ _ _ hz hr hrows (hloop 0 0)
   have e:(Cs n rs m2 w o R Z (vis S Cr 8 (AT m2 w) 0)).ev=.agg [.int .i64 0,.int .i64 0,.isl true 14 (placesOf (Z m2) (Cq m2 w (Az m2 w R.win R.draw R.loss rs n) o) 0 (vis S Cr 8 (AT m2 w) 0)).length fun i=>(DC (placesOf (Z m2) (Cq m2 w (Az m2 w R.win R.draw R.loss rs n) o) 0 (vis S Cr 8 (AT m2 w) 0)) (0+i)).cells]:=by
    unfold Cs TableD.ev
    simp only [Nat.zero_add,if_pos hz]
   rw [e]
   exact hx
  ·have hx:=ADP n0 n rs m2 w n2 0 o n3 ln lw R fin _ _ _ _ _ _ hz hr hrows (hloop _ _)
   have e:(Cs n rs m2 w o R Z (vis S Cr 8 (AT m2 w) 0)).ev=.agg [.int .i64 (rs 0).season,.int .i64 (rs 0).comp,.isl true 14 (placesOf (Z m2) (Cq m2 w (Az m2 w R.win R.draw R.loss rs n) o) 0 (vis S Cr 8 (AT m2 w) 0)).length fun i=>(DC (placesOf (Z m2) (Cq m2 w (Az m2 w R.win R.draw R.loss rs n) o) 0 (vis S Cr 8 (AT m2 w) 0)) (0+i)).cells]:=by
    unfold Cs TableD.ev
    simp only [Nat.zero_add,if_neg (Nat.pos_iff_ne_zero.1 hz)]
   rw [e]
   exact hx
noncomputable abbrev JZ:=cB (cR (cL (cR (cR (cR (AB prog 62))))))
noncomputable abbrev L2 (a0:Int)(a1:Int)(a2:Int):=frame 34 [(1,.int .i64 a0),(2,.ptr 0 0),(5,.int .i64 a1),(6,.int .i64 a2)]
abbrev Ja (a0:Int)(a1:Int)(a2:Int)(a3:Bool)(a4:Nat)(a5:Nat->CondV):=[ov [iv a0,.int .i64 a1,.int .i64 a2,.isl a3 4 a4 fun j=>(a5 j).cells]]
section
variable (kind:Int)(vr:Int)(nu:Int)(nn:Bool)(len:Nat)(ps:Nat->CondV)(d:Int)(n:Int)(i:Int)(r:Int)(h0:0<=i)(h1:0<d)(h2:d<=100)(h3:len<=100000000)(ih:i<len->sP 62 [ag (ps i.toNat).cells,iv (d - 1)] (iv r))
include kind vr nu nn len ps d n i r h0 h1 h2 h3 ih
theorem ACJ (q0:AH i len)(q1:(decide (n<1000))=true):sC (cB (JZ)) (L2 d n i) ((Ja kind vr nu nn len ps)) (xN,(frame 34 [(1,iv d),(2,pt 0 0),(5,iv (IntKind.i64.wrap (n+r))),(6,iv (i+1))]),[ov [iv kind,iv vr,iv nu,A1 nn len ps]]):=
 kC [[AG i len,(decide (n<1000),true)]] (.mk (dS 4295076554) [] [some (iv r)] [] []) (kO (kz q0 (kz q1 AD))) (oI ((inR IntKind.i64 (i+1))=true) (.cons (ih (by simp_all)) (oI ((inR IntKind.i64 (d - 1))=true) (oJ ((inB i len)=true) .nil)))) 102 1 1
theorem ACK (q0:AH i len)(q1:(decide (n<1000))=false):sC (cB (JZ)) (L2 d n i) ((Ja kind vr nu nn len ps)) (xL 0,(frame 34 [(5,iv n)]),[oD]):=
 kC [[AG i len,(decide (n<1000),false)]] (.mk (dS 65537) [] [] [] []) (kO (kz q0 (kz q1 AD))) .nil 32 0 1
theorem ACL (q0:Af i len):sC (cB (JZ)) (L2 d n i) ((Ja kind vr nu nn len ps)) (xL 0,(frame 34 [(5,iv n)]),[oD]):=
 kC (Ae i len) (.mk (dS 4096) [] [] [] []) (kO (kz q0 AD)) .nil 32 0 1
theorem fpB:∃ r_:RC,sC (cB (cB (cR (cL (cR (cR (cR (AB prog 62)))))))) (frame 34 [(1,.int .i64 d),(2,.ptr 0 0),(5,.int .i64 n),(6,.int .i64 i)]) ([ov [iv kind,.int .i64 vr,.int .i64 nu,.isl nn 4 len fun j=>(ps j).cells]]) r_/\((∃ n',r_=(xN,frame 34 [(1,.int .i64 d),(2,.ptr 0 0),(5,.int .i64 n'),(6,.int .i64 (i+1))],[ov [iv kind,.int .i64 vr,.int .i64 nu,.isl nn 4 len fun j=>(ps j).cells]])/\i<len)∨r_=(xL 0,frame 34 [(5,.int .i64 n)],[oD])):=by
 rcases bT (decide (i<↑len)) with q0 | q0
 ·rcases bT (decide (n<1000)) with q1 | q1
  ·exact e10 (ACJ kind vr nu nn len ps d n i r h0 h1 h2 h3 ih q0 q1)
  ·exact e10 (ACK kind vr nu nn len ps d n i r h0 h1 h2 h3 ih q0 q1)
 ·exact e10 (ACL kind vr nu nn len ps d n i r h0 h1 h2 h3 ih q0)
end
section
variable (kind:Int)(vr:Int)(nu:Int)(nn:Bool)(len:Nat)(ps:Nat->CondV)(d:Int)
include kind vr nu nn len ps d
theorem ACN (hd:d=0):sP 62 [ag [iv kind,iv vr,iv nu,A1 nn len ps],iv d] (iv 1000):=
 kP [[]] (.mk (dS 26) [] [] [] []) (kO AD) (oI ((d==0)=true) .nil)
theorem ACO (n:Int)(hd:0<d)(ih:sL (JZ) (frame 34 [(1,.int .i64 d),(2,.ptr 0 0),(5,.int .i64 len),(6,.int .i64 0)]) (Ja kind vr nu nn len ps) ((xL 0,frame 34 [(5,.int .i64 n)],[oD]):RC)):sP 62 [ag [iv kind,iv vr,iv nu,A1 nn len ps],iv d] (iv n):=
 kP [[]] (.mk (dS 27) [(13,.is 102 1 (xL 0,(frame 34 [(5,iv n)]),[oD]))] [] [] []) (kO AD) (.cons ih (oI ((d==0)=false) .nil))
end
noncomputable abbrev Jb:=cB (cR (cL (cR (cR (cR (AB prog 25))))))
noncomputable abbrev L3 (a0:Bool)(a1:Nat)(a2:Nat->StepV)(a3:Int)(a4:Int)(a5:Int):=frame 47 [(0,(sl a0 8 a1 fun j=>(a2 j).cells)),(1,.int .i64 a3),(5,.int .i64 a4),(6,.int .i64 a5)]
section
variable (nn:Bool)(len:Nat)(ps:Nat->StepV)(d:Int)(n:Int)(i:Int)(r0:Int)(r1:Int)(r2:Int)(h0:0<=i)(h1:0<d)(h2:d<=100)(h3:len<=100000000)(ih0:i<len->sP 62 [ag (ps i.toNat).cond.cells,iv 20] (iv r0))(ih1:i<len->sP 25 [sl (ps i.toNat).n1 8 (ps i.toNat).l1 (ps i.toNat).r1,iv (d - 1)] (iv r1))(ih2:i<len->sP 25 [sl (ps i.toNat).n2 8 (ps i.toNat).l2 (ps i.toNat).r2,iv (d - 1)] (iv r2))
include nn len ps d n i r0 r1 r2 h0 h1 h2 h3 ih0 ih1 ih2
theorem ACP (q0:AH i len)(q1:(decide (n<1000))=true):sC (cB (Jb)) (L3 nn len ps d n i) ([]) (xN,(frame 47 [(0,sl nn 8 len fun i=>(ps i).cells),(1,iv d),(5,iv (IntKind.i64.wrap (IntKind.i64.wrap (IntKind.i64.wrap (IntKind.i64.wrap (n+1)+r0)+r1)+r2))),(6,iv (i+1))]),[]):=
 kC [[AG i len,(decide (n<1000),true)]] (.mk (dS 72059564533263050) [] [some (iv r0),some (iv r1),some (iv r2)] [] []) (kO (kz q0 (kz q1 AD))) (oI ((inR IntKind.i64 (i+1))=true) (.cons (ih2 (by simp_all)) (oI ((inR IntKind.i64 (d - 1))=true) (oJ ((inB i len)=true) (.cons (ih1 (by simp_all)) (oI ((inR IntKind.i64 (d - 1))=true) (oJ ((inB i len)=true) (.cons (ih0 (by simp_all)) (oJ ((inB i len)=true) .nil))))))))) 99 0 0
theorem ACQ (q0:AH i len)(q1:(decide (n<1000))=false):sC (cB (Jb)) (L3 nn len ps d n i) ([]) (xL 0,(frame 47 [(5,iv n)]),[]):=
 kC [[AG i len,(decide (n<1000),false)]] (.mk (dS 65537) [] [] [] []) (kO (kz q0 (kz q1 AD))) .nil 32 0 0
theorem ACR (q0:Af i len):sC (cB (Jb)) (L3 nn len ps d n i) ([]) (xL 0,(frame 47 [(5,iv n)]),[]):=
 kC (Ae i len) (.mk (dS 4096) [] [] [] []) (kO (kz q0 AD)) .nil 32 0 0
theorem fsB:∃ r_:RC,sC (cB (cB (cR (cL (cR (cR (cR (AB prog 25)))))))) (frame 47 [(0,(sl nn 8 len fun j=>(ps j).cells)),(1,.int .i64 d),(5,.int .i64 n),(6,.int .i64 i)]) [] r_/\((∃ n',r_=(xN,frame 47 [(0,(sl nn 8 len fun j=>(ps j).cells)),(1,.int .i64 d),(5,.int .i64 n'),(6,.int .i64 (i+1))],[])/\i<len)∨r_=(xL 0,frame 47 [(5,.int .i64 n)],[])):=by
 rcases bT (decide (i<↑len)) with q0 | q0
 ·rcases bT (decide (n<1000)) with q1 | q1
  ·exact e10 (ACP nn len ps d n i r0 r1 r2 h0 h1 h2 h3 ih0 ih1 ih2 q0 q1)
  ·exact e10 (ACQ nn len ps d n i r0 r1 r2 h0 h1 h2 h3 ih0 ih1 ih2 q0 q1)
 ·exact e10 (ACR nn len ps d n i r0 r1 r2 h0 h1 h2 h3 ih0 ih1 ih2 q0)
end
theorem ACS (nn:Bool)(len:Nat)(ps:Nat->StepV)(d:Int)(hd:d=0):sP 25 [CQ nn len ps,iv d] (iv 1000):=
 kP [[]] (.mk (dS 26) [] [] [] []) (kO AD) (oI ((d==0)=true) .nil)
theorem ACT (nn:Bool)(len:Nat)(ps:Nat->StepV)(d:Int)(n:Int)(hd:0<d)(ih:sL (Jb) (frame 47 [(0,(sl nn 8 len fun j=>(ps j).cells)),(1,.int .i64 d),(5,.int .i64 0),(6,.int .i64 0)]) [] ((xL 0,frame 47 [(5,.int .i64 n)],[]):RC)):sP 25 [CQ nn len ps,iv d] (iv n):=
 kP [[]] (.mk (dS 27) [(13,.is 99 0 (xL 0,(frame 47 [(5,iv n)]),[]))] [] [] []) (kO AD) (.cons ih (oI ((d==0)=false) .nil))
abbrev F5 (a0:Nat):=(decide ((↑a0:Int)<=30),true)
abbrev G6 (a0:Nat):=(decide ((↑a0:Int)<=40),true)
abbrev H7 (a0:Nat):=(decide ((↑a0:Int)<=8),true)
abbrev H8 (a0:Nat):=(decide ((↑a0:Int)<=8))=true
abbrev G7 (a0:Nat):=(decide ((↑a0:Int)<=40))=true
abbrev F6 (a0:Nat):=(decide ((↑a0:Int)<=30))=true
section
variable (n0:Bool)(n:Nat)(rs:Nat->ResD)(n1:Bool)(m:Nat)(w:Nat->Int)(n2:Bool)(m2:Nat)(o:Nat->Int)(n3:Bool)(ln:Nat)(lw:Nat->Int)(R:RulesV)(r:Int)(ih:sP 25 [Dk R,iv 20] (iv r))
include n0 n rs n1 m w n2 m2 o n3 ln lw R r ih
theorem z3 (q0:G7 n)(q1:H8 m)(q2:F6 m2)(q3:F6 ln)(q4:(decide ((↑R.name.size:Int)<=100))=true)(q5:(decide ((↑R.zn:Int)<=20))=true):sP 8 [AK n0 n rs,AA n1 m w,AA n2 m2 o,AA n3 ln lw,ag R.cells] (bv (decide (r<=40))):=
 kP [[(G6 n),(H7 m),(F5 m2),(F5 ln),(decide ((↑R.name.size:Int)<=100),true),(decide ((↑R.zn:Int)<=20),true)]] (.mk (dS 0x1000011112222333334444455555) [] [some (iv r)] [] []) (kO (kz q0 (kz q1 (kz q2 (kz q3 (kz q4 (kz q5 AD))))))) (.cons ih .nil)
theorem z4 (q0:G7 n)(q1:H8 m)(q2:F6 m2)(q3:F6 ln)(q4:(decide ((↑R.name.size:Int)<=100))=true)(q5:(decide ((↑R.zn:Int)<=20))=false):sP 8 [AK n0 n rs,AA n1 m w,AA n2 m2 o,AA n3 ln lw,ag R.cells] (bv false):=
 kP [[(G6 n),(H7 m),(F5 m2),(F5 ln),(decide ((↑R.name.size:Int)<=100),true),(decide ((↑R.zn:Int)<=20),false)]] (.mk (dS 0x1000011112222333334444455555) [] [] [] []) (kO (kz q0 (kz q1 (kz q2 (kz q3 (kz q4 (kz q5 AD))))))) .nil
theorem z5 (q0:G7 n)(q1:H8 m)(q2:F6 m2)(q3:F6 ln)(q4:(decide ((↑R.name.size:Int)<=100))=false):sP 8 [AK n0 n rs,AA n1 m w,AA n2 m2 o,AA n3 ln lw,ag R.cells] (bv false):=
 kP [[(G6 n),(H7 m),(F5 m2),(F5 ln),(decide ((↑R.name.size:Int)<=100),false)]] (.mk (dS 0x10000111122223333344444) [] [] [] []) (kO (kz q0 (kz q1 (kz q2 (kz q3 (kz q4 AD)))))) .nil
theorem z6 (q0:G7 n)(q1:H8 m)(q2:F6 m2)(q3:(decide ((↑ln:Int)<=30))=false):sP 8 [AK n0 n rs,AA n1 m w,AA n2 m2 o,AA n3 ln lw,ag R.cells] (bv false):=
 kP [[(G6 n),(H7 m),(F5 m2),(decide ((↑ln:Int)<=30),false)]] (.mk (dS 0x100001111222233333) [] [] [] []) (kO (kz q0 (kz q1 (kz q2 (kz q3 AD))))) .nil
theorem z7 (q0:G7 n)(q1:H8 m)(q2:(decide ((↑m2:Int)<=30))=false):sP 8 [AK n0 n rs,AA n1 m w,AA n2 m2 o,AA n3 ln lw,ag R.cells] (bv false):=
 kP [[(G6 n),(H7 m),(decide ((↑m2:Int)<=30),false)]] (.mk (dS 281475263046178) [] [] [] []) (kO (kz q0 (kz q1 (kz q2 AD)))) .nil
theorem z8 (q0:G7 n)(q1:(decide ((↑m:Int)<=8))=false):sP 8 [AK n0 n rs,AA n1 m w,AA n2 m2 o,AA n3 ln lw,ag R.cells] (bv false):=
 kP [[(G6 n),(decide ((↑m:Int)<=8),false)]] (.mk (DG) [] [] [] []) (kO (kz q0 (kz q1 AD))) .nil
theorem z9 (q0:(decide ((↑n:Int)<=40))=false):sP 8 [AK n0 n rs,AA n1 m w,AA n2 m2 o,AA n3 ln lw,ag R.cells] (bv false):=
 kP [[(decide ((↑n:Int)<=40),false)]] (.mk (dS 65536) [] [] [] []) (kO (kz q0 AD)) .nil
theorem ADQ:∃ b:Bool,sP 8 [sl n0 13 n fun i=>(rs i).cells,nums n1 m w,nums n2 m2 o,nums n3 ln lw,ag R.cells] (bv b)/\(b=true->n<=40/\m<=8/\m2<=30/\ln<=30):=by
 rcases bT (decide ((↑n:Int)<=40)) with q0 | q0
 ·rcases bT (decide ((↑m:Int)<=8)) with q1 | q1
  ·rcases bT (decide ((↑m2:Int)<=30)) with q2 | q2
   ·rcases bT (decide ((↑ln:Int)<=30)) with q3 | q3
    ·rcases bT (decide ((↑R.name.size:Int)<=100)) with q4 | q4
     ·rcases bT (decide ((↑R.zn:Int)<=20)) with q5 | q5
      ·exact e7 (z3 n0 n rs n1 m w n2 m2 o n3 ln lw R r ih q0 q1 q2 q3 q4 q5)
      ·exact e7 (z4 n0 n rs n1 m w n2 m2 o n3 ln lw R r ih q0 q1 q2 q3 q4 q5)
     ·exact e7 (z5 n0 n rs n1 m w n2 m2 o n3 ln lw R r ih q0 q1 q2 q3 q4)
    ·exact e7 (z6 n0 n rs n1 m w n2 m2 o n3 ln lw R r ih q0 q1 q2 q3)
   ·exact e7 (z7 n0 n rs n1 m w n2 m2 o n3 ln lw R r ih q0 q1 q2)
  ·exact e7 (z8 n0 n rs n1 m w n2 m2 o n3 ln lw R r ih q0 q1)
 ·exact e7 (z9 n0 n rs n1 m w n2 m2 o n3 ln lw R r ih q0)
end
theorem QQ:∀ (k:Nat) (c:CondV),TreeC k c->∀ d:Int,0<=d->d<=100->∃ r,sP 62 [EV.agg c.cells,EV.int .i64 d] (EV.int .i64 r)
 | 0,c,h,_,_,_=>h.elim
 | k+1,c,h,d,h0,h1=>by
  obtain ⟨hl,ps,hps⟩:=h
  have hc:=(Kr fun i hi=>(hps i hi).1).agg.p
  rcases Int.lt_or_eq_of_le h0 with hd | hd
  ·have hsub:∀ i:Nat,∃ r,i<c.len->sP 62 [EV.agg (ps i).cells,EV.int .i64 (d - 1)] (EV.int .i64 r):=fun i=>by
    by_cases hi:i<c.len
    ·obtain ⟨r,hr⟩:=QQ k (ps i) (hps i hi).2 (d - 1) (by omega) (by omega)
     exact ⟨r,fun _=>hr⟩
    ·exact ⟨0,fun h=>absurd h hi⟩
   obtain ⟨rf,hrf⟩:=Classical.axiomOfChoice hsub
   obtain ⟨r,⟨n',rfl⟩,hL⟩:=SemL.ex (P:=prog) (G:=globs') (rnd:=false) (c:=(cB (cB (cR (cL (cR (cR (cR (AB prog 62))))))))) (X:=Int×Nat) (fun x=>frame 34 [(1,.int .i64 d),(2,.ptr 0 0),(5,.int .i64 x.1),(6,.int .i64 x.2)]) (fun _=>[EObj.var false true [EV.int .i64 c.kind,.int .i64 c.var,.int .i64 c.n,.isl c.nn 4 c.len fun j=>(ps j).cells]]) c.len (fun i x=>x.2=i)
    (fun r=>∃ n,r=(EX.leave 0,frame 34 [(5,.int .i64 n)],[EObj.dead])) (by
     rintro i ⟨n,j⟩ hi hj
     obtain rfl:j=i:=hj
     obtain ⟨r,h,⟨n',h2,_⟩ | h2⟩:=fpB c.kind c.var c.n c.nn c.len ps d n (j:Int) (rf j) (by omega) hd (by omega) (by omega) (fun _=>hrf j hi)
     ·subst h2
      exact .inl ⟨⟨n',j+1⟩,rfl,h⟩
     ·subst h2
      exact .inr ⟨_,⟨n,rfl⟩,by simp,h⟩) (by
     rintro ⟨n,j⟩ hj
     obtain rfl:j=c.len:=hj
     obtain ⟨r,h,⟨n',h2,hlt⟩ | h2⟩:=fpB c.kind c.var c.n c.nn c.len ps d n (c.len:Int) 0 (by omega) hd (by omega) (by omega) (fun h=>by omega)
     ·omega
     ·subst h2
      exact ⟨_,⟨n,rfl⟩,by simp,h⟩) c.len 0 ⟨c.len,0⟩ (by omega) rfl
   exact ⟨n',(ACO c.kind c.var c.n c.nn c.len ps d n' hd (hL.toCL (by kernel_rfl))).weaken (.cons hc (.cons (PLe.refl _) .nil)) (PLe.refl _)⟩
  ·exact ⟨1000,(ACN c.kind c.var c.n c.nn c.len ps d hd.symm).weaken (.cons hc (.cons (PLe.refl _) .nil)) (PLe.refl _)⟩
theorem NI:∀ (k:Nat) (nn:Bool) (len:Nat) (ps:Nat->StepV),len<=1048576->(∀ i,i<len->TreeS k (ps i))->∀ d:Int,0<=d->d<=100->∃ r,sP 25 [EV.isl nn 8 len fun j=>(ps j).cells,EV.int .i64 d] (EV.int .i64 r)
 | k,nn,len,ps,hl,ht,d,h0,h1=>by
  rcases Int.lt_or_eq_of_le h0 with hd | hd
  ·have hsub:∀ i:Nat,∃ r:Int×Int×Int,i<len->sP 62 [EV.agg (ps i).cond.cells,EV.int .i64 20] (EV.int .i64 r.1)/\sP 25 [EV.isl (ps i).n1 8 (ps i).l1 (ps i).r1,EV.int .i64 (d - 1)] (EV.int .i64 r.2.1)/\sP 25 [EV.isl (ps i).n2 8 (ps i).l2 (ps i).r2,EV.int .i64 (d - 1)] (EV.int .i64 r.2.2):=fun i=>by
    by_cases hi:i<len
    ·have hti:=ht i hi
     cases k with
     | zero=>exact hti.elim
     | succ k=>
      obtain ⟨t1,t2,t3,⟨p1,t4⟩,⟨p2,t5⟩⟩:=hti
      obtain ⟨r0,hr0⟩:=QQ (k+1) (ps i).cond t1 20 (by omega) (by omega)
      obtain ⟨r1,hr1⟩:=NI k (ps i).n1 (ps i).l1 p1 (by omega) (fun j hj=>(t4 j hj).2) (d - 1) (by omega) (by omega)
      obtain ⟨r2,hr2⟩:=NI k (ps i).n2 (ps i).l2 p2 (by omega) (fun j hj=>(t5 j hj).2) (d - 1) (by omega) (by omega)
      exact ⟨(r0,r1,r2),fun _=>⟨hr0,hr1.weaken (.cons (PLe.isl fun j hj=>(t4 j hj).1) (PLes.refl _)) (PLe.refl _),hr2.weaken (.cons (PLe.isl fun j hj=>(t5 j hj).1) (PLes.refl _)) (PLe.refl _)⟩⟩
    ·exact ⟨(0,0,0),fun h=>absurd h hi⟩
   obtain ⟨rf,hrf⟩:=Classical.axiomOfChoice hsub
   obtain ⟨r,⟨n',rfl⟩,hL⟩:=SemL.ex (P:=prog) (G:=globs') (rnd:=false) (c:=(cB (cB (cR (cL (cR (cR (cR (AB prog 25))))))))) (X:=Int×Nat) (fun x=>frame 47 [(0,.isl nn 8 len fun j=>(ps j).cells),(1,.int .i64 d),(5,.int .i64 x.1),(6,.int .i64 x.2)]) (fun _=>[]) len (fun i x=>x.2=i)
    (fun r=>∃ n,r=(EX.leave 0,frame 47 [(5,.int .i64 n)],[])) (by
     rintro i ⟨n,j⟩ hi hj
     obtain rfl:j=i:=hj
     obtain ⟨a0,a1,a2⟩:=hrf j hi
     obtain ⟨r,h,⟨n',h2,_⟩ | h2⟩:=fsB nn len ps d n (j:Int) (rf j).1 (rf j).2.1 (rf j).2.2 (by omega) hd (by omega) (by omega) (fun _=>a0) (fun _=>a1) (fun _=>a2)
     ·subst h2
      exact .inl ⟨⟨n',j+1⟩,rfl,h⟩
     ·subst h2
      exact .inr ⟨_,⟨n,rfl⟩,by simp,h⟩) (by
     rintro ⟨n,j⟩ hj
     obtain rfl:j=len:=hj
     obtain ⟨r,h,⟨n',h2,hlt⟩ | h2⟩:=fsB nn j ps d n (j:Int) 0 0 0 (by omega) hd (by omega) (by omega) (fun h=>by omega) (fun h=>by omega) (fun h=>by omega)
     ·omega
     ·subst h2
      exact ⟨_,⟨n,rfl⟩,by simp,h⟩) len 0 ⟨0,0⟩ (by omega) rfl
   exact ⟨n',ACT nn len ps d n' hd (hL.toCL (by kernel_rfl))⟩
  ·exact ⟨1000,ACS nn len ps d hd.symm⟩
theorem yA {kk:Nat}(n0:Bool)(n:Nat)(rs:Nat->ResD)(n1:Bool)(m:Nat)(w:Nat->Int)(n2:Bool)(m2:Nat)(o:Nat->Int)(n3:Bool)(ln:Nat)(lw:Nat->Int)(R:RulesV)(ht:R.Tree kk):
  ∃ b:Bool,sP 8 [EV.isl n0 13 n fun i=>(rs i).cells,nums n1 m w,nums n2 m2 o,nums n3 ln lw,EV.agg R.cells] (EV.bool b)/\(b=true->n<=40/\m<=8/\m2<=30/\ln<=30):=by
 obtain ⟨h1,h2,ps,hps⟩:=ht
 obtain ⟨r,hr⟩:=NI kk R.onn R.on ps h1 (fun i hi=>(hps i hi).2) 20 (by omega) (by omega)
 exact ADQ n0 n rs n1 m w n2 m2 o n3 ln lw R r (hr.weaken (.cons (PLe.isl fun i hi=>(hps i hi).1) (PLes.refl _)) (PLe.refl _))
def Rr (P:Program)(t:Go.TypeId):Option (List Go.TypeId):=match P.underlying t with | some (.struct fs)=>some (fs.toList.map (·.type)) | _=>none
def Pf (T:Go.TypeId->List EV->Prop):List Go.TypeId->List EV->Prop
 | [],vs=>vs=[]
 | t :: ts,vs=>∃ a b,vs=a++b/\T t a/\Pf T ts b
theorem NM {T:Go.TypeId->List EV->Prop}:∀ (fs:List Field) (vs:List EV),MV T fs vs->Pf T (fs.map (·.type)) vs
 | [],_,h=>h
 | f :: fs,vs,h=>by
  obtain ⟨a,b,h1,h2,h3⟩:=h
  exact ⟨a,b,h1,h2,NM fs b h3⟩
theorem G8 {P:Program}{B n:Nat}{t:Go.TypeId}{ts:List Go.TypeId}{vs:List EV}(hu:Rr P t=some ts)(h:B6 P B n t vs):∃ k,n=k+1/\Pf (B6 P B k) ts vs:=by
 unfold Rr at hu
 split at hu
 ·rename_i fs hfs
  obtain rfl:=Option.some.inj hu
  cases n with
  | zero=>exact h.elim
  | succ n=>
   unfold B6 at h
   rw [hfs] at h
   exact ⟨n,rfl,NM _ _ h⟩
 ·cases hu
theorem HN {P:Program}{B n:Nat}{t e:Go.TypeId}{vs:List EV}(hu:P.underlying t=some (.slice e))(h:B6 P B n t vs):
  ∃ k,n=k+1/\(vs=[.isl false (P.cellsOf e) 0 fun _=>[]]∨∃ len row,vs=[.isl true (P.cellsOf e) len row]/\len*wT P e<=B/\∀ i,i<len->B6 P B k e (row i)):=by
 cases n with
 | zero=>exact h.elim
 | succ n=>unfold B6 at h; rw [hu] at h; exact ⟨n,rfl,h⟩
section
variable {B n:Nat}{vs:List EV}
theorem DE (h:B6 prog B n 3 vs):∃ i,vs=[.int .i64 i]:=by
 cases n with
 | zero=>exact h.elim
 | succ n=>unfold B6 at h; rw [show prog.underlying 3=some (.int .i64) by kernel_rfl] at h; exact h
theorem Rs (h:B6 prog B n 4 vs):∃ b,vs=[.bool b]:=by
 cases n with
 | zero=>exact h.elim
 | succ n=>unfold B6 at h; rw [show prog.underlying 4=some .bool by kernel_rfl] at h; exact h
theorem VD (h:B6 prog B n 9 vs):∃ s,vs=[.str s]:=by
 cases n with
 | zero=>exact h.elim
 | succ n=>unfold B6 at h; rw [show prog.underlying 9=some .string by kernel_rfl] at h; exact h
theorem Xu (h:B6 prog B n 50 vs):∃ a b c d,vs=[.int .i64 a,.int .i64 b,.int .i64 c,.int .i64 d]:=by
 obtain ⟨k,_,h⟩:=G8 (ts:=[3,3,3,3]) (by kernel_rfl) h
 obtain ⟨a1,b1,rfl,h1,a2,b2,rfl,h2,a3,b3,rfl,h3,a4,b4,rfl,h4,rfl⟩:=h
 obtain ⟨i1,rfl⟩:=DE h1
 obtain ⟨i2,rfl⟩:=DE h2
 obtain ⟨i3,rfl⟩:=DE h3
 obtain ⟨i4,rfl⟩:=DE h4
 exact ⟨i1,i2,i3,i4,rfl⟩
theorem yB (h:B6 prog B n 78 vs):∃ r:ResD,vs=r.cells:=by
 obtain ⟨k,_,h⟩:=G8 (ts:=[50,3,3,3,3,3,3,3,4,4]) (by kernel_rfl) h
 obtain ⟨a1,b1,rfl,h1,a2,b2,rfl,h2,a3,b3,rfl,h3,a4,b4,rfl,h4,a5,b5,rfl,h5,a6,b6,rfl,h6,a7,b7,rfl,h7,a8,b8,rfl,h8,a9,b9,rfl,h9,a10,b10,rfl,h10,rfl⟩:=h
 obtain ⟨j1,j2,j3,j4,rfl⟩:=Xu h1
 obtain ⟨i2,rfl⟩:=DE h2
 obtain ⟨i3,rfl⟩:=DE h3
 obtain ⟨i4,rfl⟩:=DE h4
 obtain ⟨i5,rfl⟩:=DE h5
 obtain ⟨i6,rfl⟩:=DE h6
 obtain ⟨i7,rfl⟩:=DE h7
 obtain ⟨i8,rfl⟩:=DE h8
 obtain ⟨i9,rfl⟩:=Rs h9
 obtain ⟨i10,rfl⟩:=Rs h10
 exact ⟨⟨j1,j2,j3,j4,i2,i3,i4,i5,i6,i7,i8,i9,i10⟩,rfl⟩
theorem Xv (h:B6 prog B n 134 vs):∃ z:ZoneD,vs=z.cells:=by
 obtain ⟨k,_,h⟩:=G8 (ts:=[9,3,3]) (by kernel_rfl) h
 obtain ⟨a1,b1,rfl,h1,a2,b2,rfl,h2,a3,b3,rfl,h3,rfl⟩:=h
 obtain ⟨i1,rfl⟩:=VD h1
 obtain ⟨i2,rfl⟩:=DE h2
 obtain ⟨i3,rfl⟩:=DE h3
 exact ⟨⟨i1,i2,i3⟩,rfl⟩
end
theorem KC {X:Type}[Inhabited X]{B k e esz:Nat}{cells:X->List EV}{vs:List EV}{Q:X->Prop}(hc:prog.cellsOf e=esz)(hX:∀ v,B6 prog B k e v->∃ x,v=cells x/\Q x)
  (h:vs=[.isl false (prog.cellsOf e) 0 fun _=>[]]∨∃ len row,vs=[.isl true (prog.cellsOf e) len row]/\len*wT prog e<=B/\∀ i,i<len->B6 prog B k e (row i)):
  ∃ nn len row,vs=[.isl nn esz len row]/\(nn=true∨len=0)/\len*wT prog e<=B/\∃ xs:Nat->X,∀ i,i<len->row i=cells (xs i)/\Q (xs i):=by
 subst hc
 rcases h with rfl | ⟨len,row,rfl,hl,hr⟩
 ·exact ⟨false,0,_,rfl,.inr rfl,by simp,fun _=>default,fun i hi=>by omega⟩
 ·have hx:∀ i,∃ x:X,i<len->row i=cells x/\Q x:=fun i=>by
   by_cases hi:i<len
   ·obtain ⟨x,h1,h2⟩:=hX _ (hr i hi)
    exact ⟨x,fun _=>⟨h1,h2⟩⟩
   ·exact ⟨default,fun h=>absurd h hi⟩
  obtain ⟨xs,hxs⟩:=Classical.axiomOfChoice hx
  exact ⟨true,len,row,rfl,.inl rfl,hl,xs,hxs⟩
theorem TreeC.mono:∀ {k:Nat} {c:CondV},TreeC k c->TreeC (k+1) c
 | 0,c,h=>h.elim
 | k+1,c,h=>by
  obtain ⟨h1,ps,h2⟩:=h
  exact ⟨h1,ps,fun i hi=>⟨(h2 i hi).1,(h2 i hi).2.mono⟩⟩
theorem TreeS.mono:∀ {k:Nat} {s:StepV},TreeS k s->TreeS (k+1) s
 | 0,c,h=>h.elim
 | k+1,c,h=>by
  obtain ⟨h1,h2,h3,⟨p1,h4⟩,⟨p2,h5⟩⟩:=h
  exact ⟨h1.mono,h2,h3,⟨p1,fun i hi=>⟨(h4 i hi).1,(h4 i hi).2.mono⟩⟩,⟨p2,fun i hi=>⟨(h5 i hi).1,(h5 i hi).2.mono⟩⟩⟩
theorem ADS:wT prog 139=5:=by kernel_rfl
theorem ACc:wT prog 141=6:=by kernel_rfl
theorem ADT:wT prog 134=4:=by kernel_rfl
theorem w3:wT prog 3=1:=by kernel_rfl
theorem w78:wT prog 78=11:=by kernel_rfl
theorem Rt:∀ (n:Nat) (vs:List EV),B6 prog 1048576 n 139 vs->∃ c:CondV,vs=c.cells/\TreeC n c
 | 0,_,h=>h.elim
 | n+1,vs,h=>by
  obtain ⟨k,hk,h⟩:=G8 (ts:=[3,3,3,137]) (by kernel_rfl) h
  obtain rfl:n=k:=by omega
  obtain ⟨a1,b1,rfl,h1,a2,b2,rfl,h2,a3,b3,rfl,h3,a4,b4,rfl,h4,rfl⟩:=h
  obtain ⟨i1,rfl⟩:=DE h1
  obtain ⟨i2,rfl⟩:=DE h2
  obtain ⟨i3,rfl⟩:=DE h3
  obtain ⟨j,rfl,h4⟩:=HN (e:=139) (by kernel_rfl) h4
  obtain ⟨nn,len,row,rfl,_,hl,ps,hps⟩:=KC (esz:=4) (by kernel_rfl) (Rt j) h4
  rw [ADS] at hl
  exact ⟨⟨i1,i2,i3,nn,len,row⟩,rfl,by show len<=1048576; omega,ps,fun i hi=>⟨(hps i hi).1,(hps i hi).2.mono⟩⟩
theorem Pg:∀ (n:Nat) (vs:List EV),B6 prog 1048576 n 141 vs->∃ s:StepV,vs=s.cells/\TreeS n s
 | 0,_,h=>h.elim
 | n+1,vs,h=>by
  obtain ⟨k,hk,h⟩:=G8 (ts:=[3,3,139,24,24]) (by kernel_rfl) h
  obtain rfl:n=k:=by omega
  obtain ⟨a1,b1,rfl,h1,a2,b2,rfl,h2,a3,b3,rfl,h3,a4,b4,rfl,h4,a5,b5,rfl,h5,rfl⟩:=h
  obtain ⟨i1,rfl⟩:=DE h1
  obtain ⟨i2,rfl⟩:=DE h2
  obtain ⟨c,rfl,hc⟩:=Rt n _ h3
  obtain ⟨j,rfl,h4⟩:=HN (e:=141) (by kernel_rfl) h4
  obtain ⟨j',hj',h5⟩:=HN (e:=141) (by kernel_rfl) h5
  obtain rfl:j=j':=by omega
  obtain ⟨n1,l1,r1,rfl,_,hl1,ps,hps⟩:=KC (esz:=8) (by kernel_rfl) (Pg j) h4
  obtain ⟨n2,l2,r2,rfl,_,hl2,qs,hqs⟩:=KC (esz:=8) (by kernel_rfl) (Pg j) h5
  rw [ACc] at hl1 hl2
  exact ⟨⟨i1,i2,c,n1,l1,r1,n2,l2,r2⟩,rfl,hc.mono,by show l1<=500000; omega,by show l2<=500000; omega,⟨ps,fun i hi=>⟨(hps i hi).1,(hps i hi).2.mono⟩⟩,⟨qs,fun i hi=>⟨(hqs i hi).1,(hqs i hi).2.mono⟩⟩⟩
theorem tb_rules {n:Nat}{vs:List EV}(h:B6 prog 1048576 n 27 vs):∃ (R:RulesV) (k:Nat),PLe (.agg vs) (.agg R.cells)/\R.Tree k:=by
 obtain ⟨k,_,h⟩:=G8 (ts:=[9,3,3,3,24,25]) (by kernel_rfl) h
 obtain ⟨a1,b1,rfl,h1,a2,b2,rfl,h2,a3,b3,rfl,h3,a4,b4,rfl,h4,a5,b5,rfl,h5,a6,b6,rfl,h6,rfl⟩:=h
 obtain ⟨i1,rfl⟩:=VD h1
 obtain ⟨i2,rfl⟩:=DE h2
 obtain ⟨i3,rfl⟩:=DE h3
 obtain ⟨i4,rfl⟩:=DE h4
 obtain ⟨j,rfl,h5⟩:=HN (e:=141) (by kernel_rfl) h5
 obtain ⟨j',_,h6⟩:=HN (e:=134) (by kernel_rfl) h6
 obtain ⟨n1,l1,r1,rfl,_,hl1,ps,hps⟩:=KC (esz:=8) (by kernel_rfl) (Pg j) h5
 obtain ⟨n2,l2,r2,rfl,_,hl2,zs,hzs⟩:=KC (esz:=3) (Q:=fun _:ZoneD=>True) (cells:=ZoneD.cells) (by kernel_rfl) (fun v hv=>by obtain ⟨z,hz⟩:=Xv hv; exact ⟨z,hz,trivial⟩) h6
 rw [ACc] at hl1
 rw [ADT] at hl2
 refine ⟨⟨i1,i2,i3,i4,n1,l1,r1,n2,l2,zs⟩,j,?_,by show l1<=1048576; omega,by show l2<=1048576; omega,ps,hps⟩
 exact (BLs.agg (.cons (BLe.refl _) (.cons (BLe.refl _) (.cons (BLe.refl _) (.cons (BLe.refl _) (.cons (BLe.refl _) (.cons (BLe.isl fun i hi=>(hzs i hi).1) .nil))))))).p
theorem tb_nums {n:Nat}{x:EV}(h:B6 prog 1048576 n 23 [x]):∃ nn len w,PLe x (nums nn len w)/\(nn=true∨len=0)/\len<=1048576:=by
 obtain ⟨j,_,h⟩:=HN (e:=3) (by kernel_rfl) h
 obtain ⟨nn,len,row,e,hnn,hl,w,hw⟩:=KC (esz:=1) (Q:=fun _:Int=>True) (cells:=fun i=>[.int .i64 i]) (by kernel_rfl) (fun v hv=>by obtain ⟨i,hi⟩:=DE hv; exact ⟨i,hi,trivial⟩) h
 rw [w3] at hl
 obtain rfl:x=_:=by simpa using e
 exact ⟨nn,len,w,PLe.isl fun i hi=>(hw i hi).1,hnn,by omega⟩
theorem tb_results {n:Nat}{x:EV}(h:B6 prog 1048576 n 22 [x]):∃ nn len,∃ rs:Nat->ResD,PLe x (.isl nn 13 len fun i=>(rs i).cells)/\(nn=true∨len=0)/\len<=1048576:=by
 obtain ⟨j,_,h⟩:=HN (e:=78) (by kernel_rfl) h
 obtain ⟨nn,len,row,e,hnn,hl,rs,hrs⟩:=KC (esz:=13) (Q:=fun _:ResD=>True) (cells:=ResD.cells) (by kernel_rfl) (fun v hv=>by obtain ⟨i,hi⟩:=yB hv; exact ⟨i,hi,trivial⟩) h
 rw [w78] at hl
 obtain rfl:x=_:=by simpa using e
 exact ⟨nn,len,rs,PLe.isl fun i hi=>(hrs i hi).1,hnn,by omega⟩
def okA (t:Go.TypeId):Bool:=[3,4,9,22,23,24,25,27,50,78,134,137,139,141].contains t
theorem Xw:([3,4,9,22,23,24,25,27,50,78,134,137,139,141]:List Nat).all (fun t=>okL prog okA t)=true:=by kernel_rfl
theorem okA_ok (t:Go.TypeId)(h:okA t=true):okL prog okA t=true:=List.all_eq_true.1 Xw t (by simpa [okA] using h)
end Go.Ev
