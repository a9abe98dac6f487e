/- A part of the proof. -/
import Derived.Test.YtclmacpbedkelaaGreatDoorUD
import Derived.Test.YtclmacpbedkelaaGreatDoorUH
import Derived.Test.YtclmacpbedkelaaGreatDoorUG
import Derived.Test.YtclmacpbedkelaaGreatDoorUM
set_option linter.unusedSimpArgs false
set_option linter.unusedVariables false
set_option linter.unusedSectionVars false
namespace Go.Ev
open Go.Proofs.Tryz (prog)
set_option maxRecDepth 100000
set_option maxHeartbeats 0
theorem sane_ok:sP 7 [] (EV.bool true):=Xt.1
def AEc (f:FuncId):Bool:=pures f || f==91
def AEj (f:FuncId):Bool:=f==91 || f==53 || f==54 || f==55 || f==56 || f==50 || f==0
abbrev rbV:EObj:=.var false false [.func (.func 91) [] [.ptr 0 0,.ptr 1 0,.ptr 2 0,.ptr 6 0,.ptr 7 0]]
abbrev rbP (C:List EV)(fin:Bool)(x y z:Int):AL:=[.var false true [.ip C 0],.var false true [.bool fin],.var false false [.func (.func 53) [] [.ptr 3 0,.ptr 4 0,.ptr 5 0]],.var false true [.int .i64 x],.var false true [.int .i64 y],.var false true [.int .i64 z],rbV]
abbrev rbN (C:List EV)(fin:Bool)(x y z:Int):AL:=rbP C fin x y z++[.var false true [.isl false 0 0 fun _=>[],.isl false 0 0 fun _=>[]]]
abbrev rbS (C:List EV)(fin:Bool)(x y z:Int)(k:Nat)(gs:Nat->List Int)(bs:Nat->Int):AL:=rbP C fin x y z++[.var false false [.ms 8 1 0 k none,.ms 9 1 0 k none],rkG k gs,rkB k bs]
abbrev rbC (C:List EV)(fin:Bool)(x y z:Int)(k:Nat)(gs:Nat->List Int)(bs:Nat->Int):AL:=rbP C fin x y z++[.var false false [.ms 10 1 0 k none,.ms 11 1 0 k none],.dead,.dead,rkG k gs,rkB k bs]
abbrev rbA (p:EV)(b:Int):List EV:=[p,.int .i64 b,.ptr 0 0,.ptr 1 0,.ptr 2 0,.ptr 6 0,.ptr 7 0]
noncomputable def rbI (b c:Int)(n:Nat)(ds:Nat->List Int)(i:Int):List EV:=frame 84 [(1,.int .i64 b),(5,.ptr 6 0),(11,.int .i64 c),(56,rkP n ds),(57,.int .i64 n),(58,.int .i64 i)]
noncomputable def rbO (g:EV)(b:Int)(cs:EV)(k:Nat)(i:Int):List EV:=frame 84 [(0,g),(1,.int .i64 b),(2,.ptr 0 0),(4,.ptr 2 0),(5,.ptr 6 0),(6,.ptr 7 0),(39,cs),(40,.int .i64 k),(41,.int .i64 i)]
abbrev rb3 (x y z:Int):AL:=[.var false true [.int .i64 x],.var false true [.int .i64 y],.var false true [.int .i64 z]]
noncomputable abbrev AEo:=cB (cR (cL (cR (AB prog 54))))
abbrev AFz (a0:Int):=[ov [iv a0]]
noncomputable abbrev AFR (a0:Nat)(a1:Nat->List Int)(a2:Int):=frame 19 [(0,(rkP a0 a1)),(1,fc (55) [] [.ptr 0 0]),(6,(rkP a0 a1)),(7,.int .i64 a0),(8,.int .i64 a2)]
abbrev AF0 (a0:Int):=AFz a0
abbrev v7 (a0:Int):=AF0 a0
section
variable (n:Nat)(ds:Nat->List Int)(a:Int)(cb:Nat->Bool)(i:Int)(h0:0<=i)(h3:n<=100000)(ih:i<n->sP 35 [AEm ds i,iv a] (AEd cb i))
include n ds a cb i h0 h3 ih
theorem AGU (q0:AH i n)(q1:(cb i.toNat)=true):sR 1 (cB (AEo)) (AFR n ds i) ((v7 a)) (EX.ret,(frame 19 [(1,fc (55) [] [pt 0 0]),(4,iv i)]),(v7 a)):=
 kRm AEc AEj [[AG i n,(cb i.toNat,true)]] (.mk (dS 4257) [] [some (AEd cb i)] [] []) (kO (kz q0 (kz q1 AD))) (.cons (ih (by simp_all)) (oJ ((inB i n)=true) .nil)) 18 1 [0] 1
theorem AGV (q0:AH i n)(q1:(cb i.toNat)=false):sR 1 (cB (AEo)) (AFR n ds i) ((v7 a)) (xN,(frame 19 [(0,sl true 1 n fun i=>(AEX ds i)),(1,fc (55) [] [pt 0 0]),(6,sl true 1 n fun i=>(AEX ds i)),(7,iv ↑n),(8,iv (i+1))]),(v7 a)):=
 kRm AEc AEj [[AG i n,(cb i.toNat,false)]] (.mk (dS 68122) [] [some (AEd cb i)] [] []) (kO (kz q0 (kz q1 AD))) (oI ((inR IntKind.i64 (i+1))=true) (.cons (ih (by simp_all)) (oJ ((inB i n)=true) .nil))) 451 1 [0] 1
theorem AGW (q0:Af i n):sR 1 (cB (AEo)) (AFR n ds i) ((v7 a)) (xL 0,(frame 19 [(1,fc (55) [] [pt 0 0])]),(v7 a)):=
 kRm AEc AEj (Ae i n) (.mk (dS 16) [] [] [] []) (kO (kz q0 AD)) .nil 2 1 [0] 1
end
noncomputable abbrev AFe (a0:Nat)(a1:Nat->List Int):=frame 19 [(0,(rkP a0 a1)),(1,fc (55) [] [.ptr 0 0]),(6,(rkP a0 a1)),(7,.int .i64 a0),(8,.int .i64 0)]
theorem AGX (n:Nat)(ds:Nat->List Int)(a:Int)(cb:Nat->Bool)(i:Int)(ihl:sL (AEo) (AFe n ds) (v7 a) ((EX.ret,frame 19 [(1,fc (55) [] [.ptr 0 0]),(4,iv i)],(v7 a)):RC)):sF 54 [AEa n ds,fc (55) [] [pt 0 0]] (v7 a) (iv i) (v7 a):=
 kFm AEc AEj [[]] (.mk [] [(6,.is 451 1 (EX.ret,(frame 19 [(1,fc (55) [] [pt 0 0]),(4,iv i)]),(v7 a)))] [] [] []) (kO AD) (.cons ihl .nil) 1 [0]
theorem AGY (n:Nat)(ds:Nat->List Int)(a:Int)(cb:Nat->Bool)(ihl:sL (AEo) (AFe n ds) (v7 a) ((xL 0,frame 19 [(1,fc (55) [] [.ptr 0 0])],(v7 a)):RC)):sF 54 [AEa n ds,fc (55) [] [pt 0 0]] (v7 a) (iv (-1)) (v7 a):=
 kFm AEc AEj [[]] (.mk [] [(6,.is 451 1 (xL 0,(frame 19 [(1,fc (55) [] [pt 0 0])]),(v7 a)))] [] [] []) (kO AD) (.cons ihl .nil) 1 [0]
noncomputable abbrev AFS (a0:Nat)(a1:Nat->List Int)(a2:Int):=frame 19 [(0,(rkP a0 a1)),(1,fc (56) [] [.ptr 0 0]),(6,(rkP a0 a1)),(7,.int .i64 a0),(8,.int .i64 a2)]
section
variable (n:Nat)(ds:Nat->List Int)(a:Int)(cb:Nat->Bool)(i:Int)(h0:0<=i)(h3:n<=100000)(ih:i<n->sP 35 [AEm ds i,iv a] (AEd cb i))
include n ds a cb i h0 h3 ih
theorem AGZ (q0:AH i n)(q1:(cb i.toNat)=true):sR 1 (cB (AEo)) (AFS n ds i) ((v7 a)) (EX.ret,(frame 19 [(1,fc (56) [] [pt 0 0]),(4,iv i)]),(v7 a)):=
 kRm AEc AEj [[AG i n,(cb i.toNat,true)]] (.mk (dS 4257) [] [some (AEd cb i)] [] []) (kO (kz q0 (kz q1 AD))) (.cons (ih (by simp_all)) (oJ ((inB i n)=true) .nil)) 18 1 [0] 1
theorem AGa (q0:AH i n)(q1:(cb i.toNat)=false):sR 1 (cB (AEo)) (AFS n ds i) ((v7 a)) (xN,(frame 19 [(0,sl true 1 n fun i=>(AEX ds i)),(1,fc (56) [] [pt 0 0]),(6,sl true 1 n fun i=>(AEX ds i)),(7,iv ↑n),(8,iv (i+1))]),(v7 a)):=
 kRm AEc AEj [[AG i n,(cb i.toNat,false)]] (.mk (dS 68122) [] [some (AEd cb i)] [] []) (kO (kz q0 (kz q1 AD))) (oI ((inR IntKind.i64 (i+1))=true) (.cons (ih (by simp_all)) (oJ ((inB i n)=true) .nil))) 451 1 [0] 1
theorem AGb (q0:Af i n):sR 1 (cB (AEo)) (AFS n ds i) ((v7 a)) (xL 0,(frame 19 [(1,fc (56) [] [pt 0 0])]),(v7 a)):=
 kRm AEc AEj (Ae i n) (.mk (dS 16) [] [] [] []) (kO (kz q0 AD)) .nil 2 1 [0] 1
end
noncomputable abbrev AFf (a0:Nat)(a1:Nat->List Int):=frame 19 [(0,(rkP a0 a1)),(1,fc (56) [] [.ptr 0 0]),(6,(rkP a0 a1)),(7,.int .i64 a0),(8,.int .i64 0)]
theorem AGc (n:Nat)(ds:Nat->List Int)(a:Int)(cb:Nat->Bool)(i:Int)(ihl:sL (AEo) (AFf n ds) (v7 a) ((EX.ret,frame 19 [(1,fc (56) [] [.ptr 0 0]),(4,iv i)],(v7 a)):RC)):sF 54 [AEa n ds,fc (56) [] [pt 0 0]] (v7 a) (iv i) (v7 a):=
 kFm AEc AEj [[]] (.mk [] [(6,.is 451 1 (EX.ret,(frame 19 [(1,fc (56) [] [pt 0 0]),(4,iv i)]),(v7 a)))] [] [] []) (kO AD) (.cons ihl .nil) 1 [0]
theorem AGd (n:Nat)(ds:Nat->List Int)(a:Int)(cb:Nat->Bool)(ihl:sL (AEo) (AFf n ds) (v7 a) ((xL 0,frame 19 [(1,fc (56) [] [.ptr 0 0])],(v7 a)):RC)):sF 54 [AEa n ds,fc (56) [] [pt 0 0]] (v7 a) (iv (-1)) (v7 a):=
 kFm AEc AEj [[]] (.mk [] [(6,.is 451 1 (xL 0,(frame 19 [(1,fc (56) [] [pt 0 0])]),(v7 a)))] [] [] []) (kO AD) (.cons ihl .nil) 1 [0]
abbrev AEp (a0:Int)(a1:Int)(a2:Int):=[ov [iv a0],ov [iv a1],ov [iv a2]]
section
variable (n:Nat)(ds:Nat->List Int)(a:Int)(b:Int)(z:Int)(c:Int)(x:Int)(y:Int)(iha:sF 54 [rkP n ds,fc (55) [] [.ptr 0 0]] (v7 a) (iv x) (v7 a))(ihb:sF 54 [rkP n ds,fc (56) [] [.ptr 0 0]] (v7 b) (iv y) (v7 b))
include n ds a b z c x y iha ihb
theorem AG7 (q0:(Cw x)=true)(q1:(Cw y)=true)(q2:(x != y)=true):sF 53 [iv c,AEa n ds,pt 0 0,pt 1 0,pt 2 0] (AEp a b z) (tu []) (AEp a b c):=
 kFm AEc AEj [[(AEy x),(AEy y),(x != y,true)]] (.mk (dS 4295037202) [] [] [some ((iv x,(v7 a))),some ((iv y,(v7 b)))] []) (kO (kz q0 (kz q1 (kz q2 AD)))) (.cons ihb (.cons iha .nil)) 7 [0,1,2]
theorem AG8 (q0:(Cw x)=true)(q1:(Cw y)=true)(q2:(x != y)=false):sF 53 [iv c,AEa n ds,pt 0 0,pt 1 0,pt 2 0] (AEp a b z) (tu []) (AEp a b z):=
 kFm AEc AEj [[(AEy x),(AEy y),(x != y,false)]] (.mk (dS 4295037202) [] [] [some ((iv x,(v7 a))),some ((iv y,(v7 b)))] []) (kO (kz q0 (kz q1 (kz q2 AD)))) (.cons ihb (.cons iha .nil)) 7 [0,1,2]
theorem AG9 (q0:(Cw x)=true)(q1:(Cw y)=false):sF 53 [iv c,AEa n ds,pt 0 0,pt 1 0,pt 2 0] (AEp a b z) (tu []) (AEp a b z):=
 kFm AEc AEj [[(AEy x),(decide (y>=0),false)]] (.mk (dS 268439825) [] [] [some ((iv x,(v7 a))),some ((iv y,(v7 b)))] []) (kO (kz q0 (kz q1 AD))) (.cons ihb (.cons iha .nil)) 7 [0,1,2]
theorem AHA (q0:(Cw x)=false):sF 53 [iv c,AEa n ds,pt 0 0,pt 1 0,pt 2 0] (AEp a b z) (tu []) (AEp a b z):=
 kFm AEc AEj [[(decide (x>=0),false)]] (.mk (dS 4096) [] [] [some ((iv x,(v7 a))),some ((iv y,(v7 b)))] []) (kO (kz q0 AD)) (.cons ihb (.cons iha .nil)) 7 [0,1,2]
end
abbrev AFT (a0:Nat):=EObj.var false false [EV.ms 8 1 0 a0 none,EV.ms 9 1 0 a0 none]
abbrev AEf:=EObj.var false false [fc (53) [] [pt 3 0,pt 4 0,pt 5 0]]
abbrev AEg:=EObj.var false false [fc (91) [] [pt 0 0,pt 1 0,pt 2 0,pt 6 0,pt 7 0]]
abbrev AEl (a0:List EV)(a1:Bool)(a2:Int)(a3:Int)(a4:Int)(a5:Nat)(a6:Nat->List Int)(a7:Nat->Int):=[Ln a0,ov [bv a1],AEf,ov [iv a2],ov [iv a3],ov [iv a4],AEg,AFT a5,oA 1 false a5 fun i=>(H2 a6 i),oA 1 false a5 fun i=>(GZ a7 i)]
theorem AGe (C:List EV)(fin:Bool)(x:Int)(y:Int)(z:Int)(z1:Int)(b:Int)(c:Int)(n:Nat)(ds:Nat->List Int)(i:Int)(k:Nat)(gs:Nat->List Int)(bs:Nat->Int)(k1:Nat)(gs1:Nat->List Int)(bs1:Nat->Int)(h0:i=0)(h3:n<=100000)(h4:k<=100000)(h5:0<n)(ih:sF 91 (rbA (AEm ds i) b) (rbN C fin x y z) (tu []) (rbS C fin x y z1 k1 gs1 bs1)):sR 8 (AEk) (rbI b c n ds i) ((rbN C fin x y z)) (xN,(frame 84 [(1,iv b),(5,pt 6 0),(11,iv c),(56,sl true 1 n fun i=>(AEX ds i)),(57,iv ↑n),(58,iv (i+1))]),(AEl C fin x y z1 k1 gs1 bs1)):=
 kRm AEc AEj [[]] (.mk (dS 109242) [] [] [some ((tu [],(AEl C fin x y z1 k1 gs1 bs1)))] []) (kO AD) (oI ((inR IntKind.i64 (i+1))=true) (.cons ih (oI ((Ap i)=false) (oJ ((inB i n)=true) (oI ((Bl i n)=true) .nil))))) 504403158265497634 1023 [0,1,2,3,4,5,6,7,8,9] 8
abbrev AFU (a0:Nat):=EObj.var false false [EV.ms 10 1 0 a0 none,EV.ms 11 1 0 a0 none]
abbrev AEt (a0:List EV)(a1:Bool)(a2:Int)(a3:Int)(a4:Int)(a5:Nat)(a6:Nat->List Int)(a7:Nat->Int):=[Ln a0,ov [bv a1],AEf,ov [iv a2],ov [iv a3],ov [iv a4],AEg,AFU a5,oD,oD,oA 1 false a5 fun i=>(H2 a6 i),oA 1 false a5 fun i=>(GZ a7 i)]
section
variable (C:List EV)(fin:Bool)(x:Int)(y:Int)(z:Int)(z1:Int)(b:Int)(c:Int)(n:Nat)(ds:Nat->List Int)(i:Int)(k:Nat)(gs:Nat->List Int)(bs:Nat->Int)(k1:Nat)(gs1:Nat->List Int)(bs1:Nat->Int)(h0:0<i)(h3:n<=100000)(h4:k<=100000)(ih:i<n->sF 91 (rbA (AEm ds i) c) (rbS C fin x y z k gs bs) (tu []) (rbC C fin x y z1 k1 gs1 bs1))
include C fin x y z z1 b c n ds i k gs bs k1 gs1 bs1 h0 h3 h4 ih
theorem AGf (q0:AH i n):sR 8 (AEk) (rbI b c n ds i) ((rbS C fin x y z k gs bs)) (xN,(frame 84 [(1,iv c),(5,pt 6 0),(11,iv c),(56,sl true 1 n fun i=>(AEX ds i)),(57,iv ↑n),(58,iv (i+1))]),(AEl C fin x y z1 k1 gs1 bs1)):=
 kRm AEc AEj [[AG i n]] (.mk (dS 68266) [] [] [some ((tu [],(AEt C fin x y z1 k1 gs1 bs1)))] []) (kO (kz q0 AD)) (oI ((inR IntKind.i64 (i+1))=true) (.cons (ih (by simp_all)) (oI ((Ap i)=true) (oJ ((inB i n)=true) .nil)))) 504403158265497634 1023 [0,1,2,3,4,5,6,7,10,11] 8
theorem AGg (q0:Af i n):sR 8 (AEk) (rbI b c n ds i) ((rbS C fin x y z k gs bs)) (xL 2,(AEe),(AEl C fin x y z k gs bs)):=
 kRm AEc AEj (Ae i n) (.mk (dS 16) [] [] [] []) (kO (kz q0 AD)) .nil 0 1023 [0,1,2,3,4,5,6,7,8,9] 8
end
theorem AGh (C:List EV)(fin:Bool)(x:Int)(y:Int)(z:Int)(z1:Int)(b:Int)(c:Int)(n:Nat)(ds:Nat->List Int)(i:Int)(k:Nat)(gs:Nat->List Int)(bs:Nat->Int)(k1:Nat)(gs1:Nat->List Int)(bs1:Nat->Int)(h0:i=0)(h3:n<=100000)(h4:k<=100000)(h5:0<n)(ih:sF 91 (rbA (AEm ds i) b) (rbS C fin x y z k gs bs) (tu []) (rbC C fin x y z1 k1 gs1 bs1)):sR 10 (AEk) (rbI b c n ds i) ((rbS C fin x y z k gs bs)) (xN,(frame 84 [(1,iv b),(5,pt 6 0),(11,iv c),(56,sl true 1 n fun i=>(AEX ds i)),(57,iv ↑n),(58,iv (i+1))]),(AEt C fin x y z1 k1 gs1 bs1)):=
 kRm AEc AEj [[]] (.mk (dS 109242) [] [] [some ((tu [],(AEt C fin x y z1 k1 gs1 bs1)))] []) (kO AD) (oI ((inR IntKind.i64 (i+1))=true) (.cons ih (oI ((Ap i)=false) (oJ ((inB i n)=true) (oI ((Bl i n)=true) .nil))))) 504403158265497634 3327 [0,1,2,3,4,5,6,7,8,9,10,11] 10
section
variable (C:List EV)(fin:Bool)(x:Int)(y:Int)(z:Int)(z1:Int)(b:Int)(c:Int)(n:Nat)(ds:Nat->List Int)(i:Int)(k:Nat)(gs:Nat->List Int)(bs:Nat->Int)(k1:Nat)(gs1:Nat->List Int)(bs1:Nat->Int)(h0:0<i)(h3:n<=100000)(h4:k<=100000)(ih:i<n->sF 91 (rbA (AEm ds i) c) (rbS C fin x y z k gs bs) (tu []) (rbC C fin x y z1 k1 gs1 bs1))
include C fin x y z z1 b c n ds i k gs bs k1 gs1 bs1 h0 h3 h4 ih
theorem AGi (q0:AH i n):sR 10 (AEk) (rbI b c n ds i) ((rbC C fin x y z k gs bs)) (xN,(frame 84 [(1,iv c),(5,pt 6 0),(11,iv c),(56,sl true 1 n fun i=>(AEX ds i)),(57,iv ↑n),(58,iv (i+1))]),(AEt C fin x y z1 k1 gs1 bs1)):=
 kRm AEc AEj [[AG i n]] (.mk (dS 68266) [] [] [some ((tu [],(AEt C fin x y z1 k1 gs1 bs1)))] []) (kO (kz q0 AD)) (oI ((inR IntKind.i64 (i+1))=true) (.cons (ih (by simp_all)) (oI ((Ap i)=true) (oJ ((inB i n)=true) .nil)))) 504403158265497634 3327 [0,1,2,3,4,5,6,7,8,9,12,13] 10
theorem AGj (q0:Af i n):sR 10 (AEk) (rbI b c n ds i) ((rbC C fin x y z k gs bs)) (xL 2,(AEe),(AEt C fin x y z k gs bs)):=
 kRm AEc AEj (Ae i n) (.mk (dS 16) [] [] [] []) (kO (kz q0 AD)) .nil 0 3327 [0,1,2,3,4,5,6,7,8,9,10,11] 10
end
abbrev AE6 (a0:List EV)(a1:Bool)(a2:Int)(a3:Int)(a4:Int):=[Ln a0,ov [bv a1],AEf,ov [iv a2],ov [iv a3],ov [iv a4],AEg,ov [BC,BC]]
section
variable (C:List EV)(fin:Bool)(x:Int)(y:Int)(z:Int)(z1:Int)(b:Int)(c:Int)(n:Nat)(ds:Nat->List Int)(k:Nat)(gs:Nat->List Int)(bs:Nat->Int)(iht:sF 53 [iv c,rkP n ds,.ptr 0 0,.ptr 1 0,.ptr 2 0] (rb3 x y z) (tu []) (rb3 x y z1))
include C fin x y z z1 b c n ds k gs bs iht
theorem bpN:sL (cL (AFP)) (frame 84 [(1,.int .i64 b),(4,.ptr 2 0),(5,.ptr 6 0),(11,.int .i64 c),(12,rkP n ds)]) (rbN C fin x y z) (xN,(frame 84 [(1,iv b),(5,pt 6 0),(11,iv c),(12,sl true 1 n fun i=>(AEX ds i))]),(AE6 C fin x y z1)):=
 kLm AEc AEj [] (.mk [] [] [] [some ((tu [],(AEp x y z1)))] []) KOk.nil (.cons iht .nil) 6178 255 [0,1,2,3,4,5,6,7]
theorem bpU:sL (cL (AFP)) (frame 84 [(1,.int .i64 b),(4,.ptr 2 0),(5,.ptr 6 0),(11,.int .i64 c),(12,rkP n ds)]) (rbS C fin x y z k gs bs) (xN,(frame 84 [(1,iv b),(5,pt 6 0),(11,iv c),(12,sl true 1 n fun i=>(AEX ds i))]),(AEl C fin x y z1 k gs bs)):=
 kLm AEc AEj [] (.mk [] [] [] [some ((tu [],(AEp x y z1)))] []) KOk.nil (.cons iht .nil) 6178 1023 [0,1,2,3,4,5,6,7,8,9]
end
noncomputable abbrev AEu (a0:List Int)(a1:Int):=frame 84 [(0,sl true 1 a0.length fun i=>(E7 a0 i)),(1,iv a1),(6,pt 7 0)]
section
variable (C:List EV)(fin:Bool)(x:Int)(y:Int)(z:Int)(z1:Int)(z2:Int)(G:List Int)(b:Int)(nn:Bool)(kc:Nat)(cw:Nat->Int)(n:Nat)(ds:Nat->List Int)(i:Int)(k:Nat)(gs:Nat->List Int)(bs:Nat->Int)(k1:Nat)(gs1:Nat->List Int)(bs1:Nat->Int)(h0:0<=i)(h3:kc<=100000)(h4:k<=100000)(ihS:i<kc->sP 94 [pv C 0,(AEZ G),Ah cw i] (rkP n ds))(iht:i<kc->(n:Int)≠1->sL (cL (cR (cR (cR (cB (cL (cR (cR (cB (cB (cR (cL (cR (cR (AB prog 91))))))))))))))) (frame 84 [(1,.int .i64 b),(4,.ptr 2 0),(5,.ptr 6 0),(11,.int .i64 (cw i.toNat)),(12,rkP n ds)]) (rbN C fin x y z) ((xN,frame 84 [(1,.int .i64 b),(5,.ptr 6 0),(11,.int .i64 (cw i.toNat)),(12,rkP n ds)],(rbN C fin x y z1)):RC))(ihl:i<kc->(n:Int)≠1->sL (cB (cR (cL (cR (cR (cR (cR (cB (cL (cR (cR (cB (cB (cR (cL (cR (cR (AB prog 91)))))))))))))))))) (rbI b (cw i.toNat) n ds 0) (rbN C fin x y z1) ((xL 2,frame 84 [],(rbS C fin x y z2 k1 gs1 bs1)):RC))
include C fin x y z z1 z2 G b nn kc cw n ds i k gs bs k1 gs1 bs1 h0 h3 h4 ihS iht ihl
theorem AGk (q0:AH i kc)(q1:((↑n:Int)==1)=true):sR 8 (E8) (rbO (AEZ G) b (AM nn kc cw) kc i) ((rbN C fin x y z)) (xN,(frame 84 [(0,sl true 1 G.length fun i=>(E7 G i)),(1,iv b),(2,pt 0 0),(4,pt 2 0),(5,pt 6 0),(6,pt 7 0),(39,sl nn 1 kc fun i=>(BN cw i)),(40,iv ↑kc),(41,iv (i+1))]),(AE6 C fin x y z)):=
 kR [[AG i kc,((↑n:Int)==1,true)]] (.mk (dS 68122) [] [some (AEa n ds)] [] []) (kO (kz q0 (kz q1 AD))) (oI ((inR IntKind.i64 (i+1))=true) (.cons (ihS (by simp_all)) (oJ ((inB i kc)=true) .nil))) 3848290697335 255 [0,1,2,3,4,5,6,7] 8
theorem AGl (q0:AH i kc)(q1:((↑n:Int)==1)=false):sR 8 (E8) (rbO (AEZ G) b (AM nn kc cw) kc i) ((rbN C fin x y z)) (EX.ret,(AEe),(AEl C fin x y z2 k1 gs1 bs1)):=
 kR [[AG i kc,((↑n:Int)==1,false)]] (.mk (dS 4257) [(17,.is 6194 255 (xN,(frame 84 [(1,iv b),(5,pt 6 0),(11,iv (cw i.toNat)),(12,sl true 1 n fun i=>(AEX ds i))]),(AE6 C fin x y z1))),(4,.is 504403158265497634 255 (xL 2,(AEe),(AEl C fin x y z2 k1 gs1 bs1)))] [some (AEa n ds)] [] []) (kO (kz q0 (kz q1 AD))) (.cons (ihl (by simp_all) (by simp_all)) (.cons (iht (by simp_all) (by simp_all)) (.cons (ihS (by simp_all)) (oJ ((inB i kc)=true) .nil)))) 0 1023 [0,1,2,3,4,5,6,7,8,9] 8
theorem AGm (q0:Af i kc):sR 8 (E8) (rbO (AEZ G) b (AM nn kc cw) kc i) ((rbN C fin x y z)) (xL 0,(AEu G b),(AE6 C fin x y z)):=
 kR (Ae i kc) (.mk (dS 16) [] [] [] []) (kO (kz q0 AD)) .nil 67 255 [0,1,2,3,4,5,6,7] 8
end
noncomputable abbrev AFG (a0:List Int)(a1:Int):=rbO (AFQ a0) a1 (.isl false 0 0 fun _=>[]) 0 0
theorem AGn (C:List EV)(fin:Bool)(x:Int)(y:Int)(z:Int)(G:List Int)(b:Int)(k:Nat)(gs:Nat->List Int)(bs:Nat->Int):sR 8 (E8) (AFG G b) ((rbN C fin x y z)) (xL 0,(AEu G b),(AE6 C fin x y z)):=
 kR [[]] (.mk [] [] [] [] []) (kO AD) .nil 67 255 [0,1,2,3,4,5,6,7] 8
section
variable (C:List EV)(fin:Bool)(x:Int)(y:Int)(z:Int)(z1:Int)(z2:Int)(G:List Int)(b:Int)(nn:Bool)(kc:Nat)(cw:Nat->Int)(n:Nat)(ds:Nat->List Int)(i:Int)(k:Nat)(gs:Nat->List Int)(bs:Nat->Int)(k1:Nat)(gs1:Nat->List Int)(bs1:Nat->Int)(h0:0<=i)(h3:kc<=100000)(h4:k<=100000)(ihS:i<kc->sP 94 [pv C 0,(AEZ G),Ah cw i] (rkP n ds))(iht:i<kc->(n:Int)≠1->sL (cL (cR (cR (cR (cB (cL (cR (cR (cB (cB (cR (cL (cR (cR (AB prog 91))))))))))))))) (frame 84 [(1,.int .i64 b),(4,.ptr 2 0),(5,.ptr 6 0),(11,.int .i64 (cw i.toNat)),(12,rkP n ds)]) (rbS C fin x y z k gs bs) ((xN,frame 84 [(1,.int .i64 b),(5,.ptr 6 0),(11,.int .i64 (cw i.toNat)),(12,rkP n ds)],(rbS C fin x y z1 k gs bs)):RC))(ihl:i<kc->(n:Int)≠1->sL (cB (cR (cL (cR (cR (cR (cR (cB (cL (cR (cR (cB (cB (cR (cL (cR (cR (AB prog 91)))))))))))))))))) (rbI b (cw i.toNat) n ds 0) (rbS C fin x y z1 k gs bs) ((xL 2,frame 84 [],(rbC C fin x y z2 k1 gs1 bs1)):RC))
include C fin x y z z1 z2 G b nn kc cw n ds i k gs bs k1 gs1 bs1 h0 h3 h4 ihS iht ihl
theorem AGo (q0:AH i kc)(q1:((↑n:Int)==1)=true):sR 10 (E8) (rbO (AEZ G) b (AM nn kc cw) kc i) ((rbS C fin x y z k gs bs)) (xN,(frame 84 [(0,sl true 1 G.length fun i=>(E7 G i)),(1,iv b),(2,pt 0 0),(4,pt 2 0),(5,pt 6 0),(6,pt 7 0),(39,sl nn 1 kc fun i=>(BN cw i)),(40,iv ↑kc),(41,iv (i+1))]),(AEl C fin x y z k gs bs)):=
 kR [[AG i kc,((↑n:Int)==1,true)]] (.mk (dS 68122) [] [some (AEa n ds)] [] []) (kO (kz q0 (kz q1 AD))) (oI ((inR IntKind.i64 (i+1))=true) (.cons (ihS (by simp_all)) (oJ ((inB i kc)=true) .nil))) 3848290697335 1023 [0,1,2,3,4,5,6,7,8,9] 10
theorem AGp (q0:AH i kc)(q1:((↑n:Int)==1)=false):sR 10 (E8) (rbO (AEZ G) b (AM nn kc cw) kc i) ((rbS C fin x y z k gs bs)) (EX.ret,(AEe),(AEt C fin x y z2 k1 gs1 bs1)):=
 kR [[AG i kc,((↑n:Int)==1,false)]] (.mk (dS 4257) [(17,.is 6194 1023 (xN,(frame 84 [(1,iv b),(5,pt 6 0),(11,iv (cw i.toNat)),(12,sl true 1 n fun i=>(AEX ds i))]),(AEl C fin x y z1 k gs bs))),(4,.is 504403158265497634 1023 (xL 2,(AEe),(AEt C fin x y z2 k1 gs1 bs1)))] [some (AEa n ds)] [] []) (kO (kz q0 (kz q1 AD))) (.cons (ihl (by simp_all) (by simp_all)) (.cons (iht (by simp_all) (by simp_all)) (.cons (ihS (by simp_all)) (oJ ((inB i kc)=true) .nil)))) 0 3327 [0,1,2,3,4,5,6,7,8,9,10,11] 10
theorem AGq (q0:Af i kc):sR 10 (E8) (rbO (AEZ G) b (AM nn kc cw) kc i) ((rbS C fin x y z k gs bs)) (xL 0,(AEu G b),(AEl C fin x y z k gs bs)):=
 kR (Ae i kc) (.mk (dS 16) [] [] [] []) (kO (kz q0 AD)) .nil 67 1023 [0,1,2,3,4,5,6,7,8,9] 10
end
theorem AGr (C:List EV)(fin:Bool)(x:Int)(y:Int)(z:Int)(G:List Int)(b:Int)(k:Nat)(gs:Nat->List Int)(bs:Nat->Int):sR 10 (E8) (AFG G b) ((rbS C fin x y z k gs bs)) (xL 0,(AEu G b),(AEl C fin x y z k gs bs)):=
 kR [[]] (.mk [] [] [] [] []) (kO AD) .nil 67 1023 [0,1,2,3,4,5,6,7,8,9] 10
noncomputable abbrev AFH (a0:List Int)(a1:Int):=frame 84 [(0,(C5 a0)),(1,.int .i64 a1),(2,.ptr 0 0),(3,.ptr 1 0),(4,.ptr 2 0),(5,.ptr 6 0),(6,.ptr 7 0)]
noncomputable abbrev AE4 (a0:List Int)(a1:Int)(a2:Bool)(a3:Nat)(a4:Nat->Int):=frame 84 [(0,sl true 1 a0.length fun i=>(E7 a0 i)),(1,iv a1),(2,pt 0 0),(4,pt 2 0),(5,pt 6 0),(6,pt 7 0),(9,sl a2 1 a3 fun i=>(GZ a4 i))]
theorem brN (n0:Bool)(n:Nat)(rs:Nat->ResD)(n1:Bool)(m:Nat)(w:Nat->Int)(e1:List (EV×EV))(R:RulesV)(e3:List (EV×EV))(fin:Bool)(x:Int)(y:Int)(z:Int)(z1:Int)(G:List Int)(b:Int)(k:Nat)(gs:Nat->List Int)(bs:Nat->Int)(nn:Bool)(kc:Nat)(cw:Nat->Int)(ta:Int)(tb:Int)(tc:Int)(td:Int)(er:Int)(ihe:sP 93 [AK n0 n rs,AM n1 m w,iv G.length,bv fin] (ag (HR ta tb tc td)))(ihd:sP 92 [Dk R,ag (HR ta tb tc td)] (tu [AM nn kc cw,.int .i64 er])):sL (AEr) (AFH G b) (rbN (AEY n0 n rs n1 m w e1 R e3) fin x y z) (xN,(AE4 G b nn kc cw),[ov [Aq n0 n rs n1 m w e1 R e3],ov [bv fin],AEf,ov [iv x],ov [iv y],ov [iv z],AEg,Gv]):=
 kL [] (.mk [] [] [some (ag (AS ta tb tc td)),some (tu [AA nn kc cw,iv er])] [] []) KOk.nil (.cons ihd (.cons ihe .nil)) 631 255 [0,1,2,3,4,5,6,7]
abbrev AE5 (a0:List Int)(a1:Int):=[JU a0,iv a1,pt 0 0,pt 1 0,pt 2 0,pt 6 0,pt 7 0]
theorem AGL (n0:Bool)(n:Nat)(rs:Nat->ResD)(n1:Bool)(m:Nat)(w:Nat->Int)(e1:List (EV×EV))(R:RulesV)(e3:List (EV×EV))(fin:Bool)(x:Int)(y:Int)(z:Int)(z1:Int)(G:List Int)(b:Int)(k:Nat)(gs:Nat->List Int)(bs:Nat->Int)(h1:(G.length:Int)<=1)(h4:k<=100000)(ih:sL (AFB) (AFG G b) (rbN (AEY n0 n rs n1 m w e1 R e3) fin x y z) ((xL 0,frame 84 [(0,(AEZ G)),(1,.int .i64 b),(6,.ptr 7 0)],(rbN (AEY n0 n rs n1 m w e1 R e3) fin x y z)):RC)):sF 91 (AE5 G b) (rbN (AEY n0 n rs n1 m w e1 R e3) fin x y z) (tu []) [ov [Aq n0 n rs n1 m w e1 R e3],ov [bv fin],AEf,ov [iv x],ov [iv y],ov [iv z],AEg,EObj.var false false [EV.ms 8 1 0 1 none,EV.ms 9 1 0 1 none],oA 1 false 1 fun i=>[[JU G]].getD (0+i) [],oA 1 false 1 fun i=>[[iv b]].getD (0+i) []]:=
 kF [[]] (.mk (dS 27) [(11,.is 3848290697335 255 (xL 0,(AEu G b),[ov [Aq n0 n rs n1 m w e1 R e3],ov [bv fin],AEf,ov [iv x],ov [iv y],ov [iv z],AEg,Gv]))] [] [] []) (kO AD) (.cons ih (oI ((Gy G)=false) .nil)) 1023 [0,1,2,3,4,5,6,7,9,11]
abbrev AEz (a0:Bool)(a1:Nat)(a2:Nat->ResD)(a3:Bool)(a4:Nat)(a5:Nat->Int)(a6:List (EV×EV))(a7:RulesV)(a8:List (EV×EV))(a9:Bool)(a10:Int)(a11:Int)(a12:Int)(a13:Nat)(a14:Nat->List Int)(a15:Nat->Int):=[ov [N0 a0 a1 a2 a3 a4 a5 a6 a7 a8],ov [bv a9],AEf,ov [iv a10],ov [iv a11],ov [iv a12],AEg,AFT a13,oA 1 false a13 fun i=>(C4 a14 i),oA 1 false a13 fun i=>(Nz a15 i)]
section
variable (n0:Bool)(n:Nat)(rs:Nat->ResD)(n1:Bool)(m:Nat)(w:Nat->Int)(e1:List (EV×EV))(R:RulesV)(e3:List (EV×EV))(fin:Bool)(x:Int)(y:Int)(z:Int)(z1:Int)(G:List Int)(b:Int)(k:Nat)(gs:Nat->List Int)(bs:Nat->Int)(nn:Bool)(kc:Nat)(cw:Nat->Int)(k1:Nat)(gs1:Nat->List Int)(bs1:Nat->Int)(ta:Int)(tb:Int)(tc:Int)(td:Int)(er:Int)(zb:Bool)(h1:(G.length:Int)>1)(h4:k<=100000)(ihr:sL (AEr) (AFH G b) (rbN (AEY n0 n rs n1 m w e1 R e3) fin x y z) ((xN,frame 84 [(0,(AEZ G)),(1,.int .i64 b),(2,.ptr 0 0),(4,.ptr 2 0),(5,.ptr 6 0),(6,.ptr 7 0),(9,nums nn kc cw)],(rbN (AEY n0 n rs n1 m w e1 R e3) fin x y z)):RC))(ih1:zb=true->sL (cB (cR (cL (cR (cR (AB prog 91)))))) (rbO (sl true 1 G.length fun j=>[iv (G.getD j 0)]) b (nums nn kc cw) kc 0) (rbN (Bw n0 n rs n1 m w e1 R e3) fin x y z) ((xL 0,frame 84 [(0,(sl true 1 G.length fun j=>[iv (G.getD j 0)])),(1,.int .i64 b),(6,.ptr 7 0)],(rbN (Bw n0 n rs n1 m w e1 R e3) fin x y z)):RC))(ih2:zb=false->sL (cB (cR (cL (cR (cR (AB prog 91)))))) (rbO (sl true 1 G.length fun j=>[iv (G.getD j 0)]) b (nums nn kc cw) kc 0) (rbN (Bw n0 n rs n1 m w e1 R e3) fin x y z) ((EX.ret,frame 84 [],(rbS (Bw n0 n rs n1 m w e1 R e3) fin x y z1 k1 gs1 bs1)):RC))
include n0 n rs n1 m w e1 R e3 fin x y z z1 G b k gs bs nn kc cw k1 gs1 bs1 ta tb tc td er zb h1 h4 ihr ih1 ih2
theorem AGM (q0:(zb)=true):sF 91 (AE5 G b) (rbN (AEY n0 n rs n1 m w e1 R e3) fin x y z) (tu []) [ov [Aq n0 n rs n1 m w e1 R e3],ov [bv fin],AEf,ov [iv x],ov [iv y],ov [iv z],AEg,EObj.var false false [EV.ms 8 1 0 1 none,EV.ms 9 1 0 1 none],oA 1 false 1 fun i=>[[JU G]].getD (0+i) [],oA 1 false 1 fun i=>[[iv b]].getD (0+i) []]:=
 kF [[(zb,true)]] (.mk (dS 26) [(6,.is 127 255 (xN,(AE4 G b nn kc cw),[ov [Aq n0 n rs n1 m w e1 R e3],ov [bv fin],AEf,ov [iv x],ov [iv y],ov [iv z],AEg,Gv])),(4,.is 3848290697335 255 (xL 0,(AEu G b),[ov [Aq n0 n rs n1 m w e1 R e3],ov [bv fin],AEf,ov [iv x],ov [iv y],ov [iv z],AEg,Gv]))] [] [] []) (kO (kz q0 AD)) (.cons (ih1 (by assumption)) (.cons ihr (oI ((Gy G)=true) .nil))) 1023 [0,1,2,3,4,5,6,7,9,11]
theorem AGN (q0:Av zb):sF 91 (AE5 G b) (rbN (AEY n0 n rs n1 m w e1 R e3) fin x y z) (tu []) (AEz n0 n rs n1 m w e1 R e3 fin x y z1 k1 gs1 bs1):=
 kF [[(zb,false)]] (.mk (dS 26) [(6,.is 127 255 (xN,(AE4 G b nn kc cw),[ov [Aq n0 n rs n1 m w e1 R e3],ov [bv fin],AEf,ov [iv x],ov [iv y],ov [iv z],AEg,Gv])),(4,.is 3848290697335 255 (EX.ret,(AEe),(AEz n0 n rs n1 m w e1 R e3 fin x y z1 k1 gs1 bs1)))] [] [] []) (kO (kz q0 AD)) (.cons (ih2 (by assumption)) (.cons ihr (oI ((Gy G)=true) .nil))) 1023 [0,1,2,3,4,5,6,7,8,9]
end
theorem brU (n0:Bool)(n:Nat)(rs:Nat->ResD)(n1:Bool)(m:Nat)(w:Nat->Int)(e1:List (EV×EV))(R:RulesV)(e3:List (EV×EV))(fin:Bool)(x:Int)(y:Int)(z:Int)(z1:Int)(G:List Int)(b:Int)(k:Nat)(gs:Nat->List Int)(bs:Nat->Int)(nn:Bool)(kc:Nat)(cw:Nat->Int)(ta:Int)(tb:Int)(tc:Int)(td:Int)(er:Int)(ihe:sP 93 [AK n0 n rs,AM n1 m w,iv G.length,bv fin] (ag (HR ta tb tc td)))(ihd:sP 92 [Dk R,ag (HR ta tb tc td)] (tu [AM nn kc cw,.int .i64 er])):sL (AEr) (AFH G b) (rbS (AEY n0 n rs n1 m w e1 R e3) fin x y z k gs bs) (xN,(AE4 G b nn kc cw),(AEz n0 n rs n1 m w e1 R e3 fin x y z k gs bs)):=
 kL [] (.mk [] [] [some (ag (AS ta tb tc td)),some (tu [AA nn kc cw,iv er])] [] []) KOk.nil (.cons ihd (.cons ihe .nil)) 631 1023 [0,1,2,3,4,5,6,7,8,9]
theorem AGO (n0:Bool)(n:Nat)(rs:Nat->ResD)(n1:Bool)(m:Nat)(w:Nat->Int)(e1:List (EV×EV))(R:RulesV)(e3:List (EV×EV))(fin:Bool)(x:Int)(y:Int)(z:Int)(z1:Int)(G:List Int)(b:Int)(k:Nat)(gs:Nat->List Int)(bs:Nat->Int)(h1:(G.length:Int)<=1)(h4:k<=100000)(ih:sL (AFB) (AFG G b) (rbS (AEY n0 n rs n1 m w e1 R e3) fin x y z k gs bs) ((xL 0,frame 84 [(0,(AEZ G)),(1,.int .i64 b),(6,.ptr 7 0)],(rbS (AEY n0 n rs n1 m w e1 R e3) fin x y z k gs bs)):RC)):sF 91 (AE5 G b) (rbS (AEY n0 n rs n1 m w e1 R e3) fin x y z k gs bs) (tu []) [ov [Aq n0 n rs n1 m w e1 R e3],ov [bv fin],AEf,ov [iv x],ov [iv y],ov [iv z],AEg,EObj.var false false [EV.ms 10 1 0 (k+1) none,EV.ms 11 1 0 (k+1) none],oD,oD,oA 1 false (k+1) (AFE k gs G),oA 1 false (k+1) (AFC k bs b)]:=
 kF [[]] (.mk (dS 7082) [(11,.is 3848290697335 1023 (xL 0,(AEu G b),(AEz n0 n rs n1 m w e1 R e3 fin x y z k gs bs)))] [] [] []) (kO AD) (oL ((Hx k)=true) (oL ((AFD k)=true) (.cons ih (oI ((Gy G)=false) .nil)))) 3327 [0,1,2,3,4,5,6,7,8,9,11,13]
section
variable (n0:Bool)(n:Nat)(rs:Nat->ResD)(n1:Bool)(m:Nat)(w:Nat->Int)(e1:List (EV×EV))(R:RulesV)(e3:List (EV×EV))(fin:Bool)(x:Int)(y:Int)(z:Int)(z1:Int)(G:List Int)(b:Int)(k:Nat)(gs:Nat->List Int)(bs:Nat->Int)(nn:Bool)(kc:Nat)(cw:Nat->Int)(k1:Nat)(gs1:Nat->List Int)(bs1:Nat->Int)(ta:Int)(tb:Int)(tc:Int)(td:Int)(er:Int)(zb:Bool)(h1:(G.length:Int)>1)(h4:k<=100000)(ihr:sL (AEr) (AFH G b) (rbS (AEY n0 n rs n1 m w e1 R e3) fin x y z k gs bs) ((xN,frame 84 [(0,(AEZ G)),(1,.int .i64 b),(2,.ptr 0 0),(4,.ptr 2 0),(5,.ptr 6 0),(6,.ptr 7 0),(9,nums nn kc cw)],(rbS (AEY n0 n rs n1 m w e1 R e3) fin x y z k gs bs)):RC))(ih1:zb=true->sL (cB (cR (cL (cR (cR (AB prog 91)))))) (rbO (sl true 1 G.length fun j=>[iv (G.getD j 0)]) b (nums nn kc cw) kc 0) (rbS (Bw n0 n rs n1 m w e1 R e3) fin x y z k gs bs) ((xL 0,frame 84 [(0,(sl true 1 G.length fun j=>[iv (G.getD j 0)])),(1,.int .i64 b),(6,.ptr 7 0)],(rbS (Bw n0 n rs n1 m w e1 R e3) fin x y z k gs bs)):RC))(ih2:zb=false->sL (cB (cR (cL (cR (cR (AB prog 91)))))) (rbO (sl true 1 G.length fun j=>[iv (G.getD j 0)]) b (nums nn kc cw) kc 0) (rbS (Bw n0 n rs n1 m w e1 R e3) fin x y z k gs bs) ((EX.ret,frame 84 [],(rbC (Bw n0 n rs n1 m w e1 R e3) fin x y z1 k1 gs1 bs1)):RC))
include n0 n rs n1 m w e1 R e3 fin x y z z1 G b k gs bs nn kc cw k1 gs1 bs1 ta tb tc td er zb h1 h4 ihr ih1 ih2
theorem AGP (q0:(zb)=true):sF 91 (AE5 G b) (rbS (AEY n0 n rs n1 m w e1 R e3) fin x y z k gs bs) (tu []) [ov [Aq n0 n rs n1 m w e1 R e3],ov [bv fin],AEf,ov [iv x],ov [iv y],ov [iv z],AEg,EObj.var false false [EV.ms 10 1 0 (k+1) none,EV.ms 11 1 0 (k+1) none],oD,oD,oA 1 false (k+1) (AFE k gs G),oA 1 false (k+1) (AFC k bs b)]:=
 kF [[(zb,true)]] (.mk (dS 6826) [(6,.is 127 1023 (xN,(AE4 G b nn kc cw),(AEz n0 n rs n1 m w e1 R e3 fin x y z k gs bs))),(4,.is 3848290697335 1023 (xL 0,(AEu G b),(AEz n0 n rs n1 m w e1 R e3 fin x y z k gs bs)))] [] [] []) (kO (kz q0 AD)) (oL ((Hx k)=true) (oL ((AFD k)=true) (.cons (ih1 (by assumption)) (.cons ihr (oI ((Gy G)=true) .nil))))) 3327 [0,1,2,3,4,5,6,7,8,9,11,13]
theorem AGQ (q0:Av zb):sF 91 (AE5 G b) (rbS (AEY n0 n rs n1 m w e1 R e3) fin x y z k gs bs) (tu []) [ov [Aq n0 n rs n1 m w e1 R e3],ov [bv fin],AEf,ov [iv x],ov [iv y],ov [iv z1],AEg,AFU k1,oD,oD,oA 1 false k1 fun i=>(AEX gs1 i),oA 1 false k1 fun i=>(BN bs1 i)]:=
 kF [[(zb,false)]] (.mk (dS 26) [(6,.is 127 1023 (xN,(AE4 G b nn kc cw),(AEz n0 n rs n1 m w e1 R e3 fin x y z k gs bs))),(4,.is 3848290697335 1023 (EX.ret,(AEe),[ov [Aq n0 n rs n1 m w e1 R e3],ov [bv fin],AEf,ov [iv x],ov [iv y],ov [iv z1],AEg,AFU k1,oD,oD,oA 1 false k1 fun i=>(AEX gs1 i),oA 1 false k1 fun i=>(BN bs1 i)]))] [] [] []) (kO (kz q0 AD)) (.cons (ih2 (by assumption)) (.cons ihr (oI ((Gy G)=true) .nil))) 3327 [0,1,2,3,4,5,6,7,8,9,10,11]
end
section
variable (n0:Bool)(n:Nat)(rs:Nat->ResD)(m:Nat)(w:Nat->Int)(e1:List (EV×EV))(R:RulesV)(e3:List (EV×EV))(fin:Bool)(x:Int)(y:Int)(z:Int)(z1:Int)(k:Nat)(gs:Nat->List Int)(bs:Nat->Int)
include n0 n rs m w e1 R e3 fin x y z z1 k gs bs
theorem AGs (ih:sF 91 (rbA (AHC m w) 0) (rbN (Bw n0 n rs true m w e1 R e3) fin x y z) (tu []) (rbS (Bw n0 n rs true m w e1 R e3) fin x y z1 k gs bs)):sF 50 [pv [AK n0 n rs,Bm m w,EV.im e1,sv R.name,iv R.win,iv R.draw,iv R.loss,Dk R,Fe R,EV.im e3] 0,bv fin,fc (53) [] [pt 0 0,pt 1 0,pt 2 0]] (rb3 x y z) (ag [EV.ms 3 1 0 k none,EV.ms 4 1 0 k none]) [ov [iv x],ov [iv y],ov [iv z1],oA 1 false k fun i=>(AEX gs i),oA 1 false k fun i=>(BN bs i)]:=
 kFm AEc AEj [[]] (.mk [] [] [] [some ((tu [],[ov [pv [AK n0 n rs,Bm m w,EV.im e1,sv R.name,iv R.win,iv R.draw,iv R.loss,Dk R,Fe R,EV.im e3] 0],ov [bv fin],AEf,ov [iv x],ov [iv y],ov [iv z1],AEg,AFT k,oA 1 false k fun i=>(AEX gs i),oA 1 false k fun i=>(BN bs i)]))] []) (kO AD) (.cons ih .nil) 31 [0,1,2,8,9]
theorem AGt (n2:Bool)(m2:Nat)(o:Nat->Int)(n3:Bool)(ln:Nat)(lw:Nat->Int)(ih:sP 48 [(AK n0 n rs),AHC m w,iv 2,fc (90) [] [.ip [AHC m w] 0],AM n2 m2 o,ag R.cells,AM n3 ln lw] (tu [pv (Bw n0 n rs true m w e1 R e3) 0,.int .i64 0]))(ihx:sP 35 [AHC m w,iv x] (bv true))(ihy:sP 35 [AHC m w,iv y] (bv true))(ihr:sF 50 [pv (Bw n0 n rs true m w e1 R e3) 0,bv fin,fc (53) [] [.ptr 0 0,.ptr 1 0,.ptr 2 0]] (rb3 x y 0) (ag [EV.ms 3 1 0 k none,EV.ms 4 1 0 k none]) [ov [.int .i64 x],.var false true [.int .i64 y],.var false true [.int .i64 z1],rkG k gs,rkB k bs]):sP 22 [AK n0 n rs,Bm m w,AA n2 m2 o,ag R.cells,bv fin,AA n3 ln lw,iv x,iv y] (tu [iv z1,iv 0]):=
 kPm AEc AEj [[]] (.mk [] [] [none,some (tu [pv [AK n0 n rs,Bm m w,EV.im e1,sv R.name,iv R.win,iv R.draw,iv R.loss,Dk R,Fe R,EV.im e3] 0,iv 0]),some (bv true),some (bv true)] [some ((ag [EV.ms 3 1 0 k none,EV.ms 4 1 0 k none],[ov [iv x],ov [iv y],ov [iv z1],oA 1 false k fun i=>(AEX gs i),oA 1 false k fun i=>(BN bs i)]))] []) (kO AD) (.cons ihr (.cons ihy (.cons ihx (.cons ih .nil))))
end
def inL (l:List Int)(x:Int):Bool:=inW l.length (fun t=>l.getD t 0) x
theorem AFt {l:List Int}{x:Int}:inL l x=true↔x∈l:=by
 unfold inL
 rw [Km]
 constructor
 ·rintro ⟨i,hi,e⟩
  rw [List.getD_eq_getElem?_getD,List.getElem?_eq_getElem hi,Option.getD_some] at e
  exact e▸List.getElem_mem hi
 ·intro h
  obtain ⟨i,hi,e⟩:=List.getElem_of_mem h
  exact ⟨i,hi,by rw [List.getD_eq_getElem?_getD,List.getElem?_eq_getElem hi,Option.getD_some,e]⟩
def AEx (cb:Nat->Bool):Nat->Nat->Option Nat
 | _,0=>none
 | i,k+1=>bif cb i then some i else AEx cb (i+1) k
theorem AFY {cb:Nat->Bool}:∀ {k i},AEx cb i k=none->∀ j,i<=j->j<i+k->cb j=false
 | 0,i,_,j,h1,h2=>by omega
 | k+1,i,h,j,h1,h2=>by
  rw [AEx] at h
  cases hc:cb i with
  | true=>rw [hc] at h; cases h
  | false=>
   rw [hc] at h
   rcases Nat.eq_or_lt_of_le h1 with rfl | h3
   ·exact hc
   ·exact AFY h j (by omega) (by omega)
theorem AFZ {cb:Nat->Bool}{j:Nat}:∀ {k i},AEx cb i k=some j->j<i+k/\cb j=true
 | 0,i,h=>by cases h
 | k+1,i,h=>by
  rw [AEx] at h
  cases hc:cb i with
  | true=>
   rw [hc] at h
   obtain rfl:=Option.some.inj h
   exact ⟨by omega,hc⟩
  | false=>
   rw [hc] at h
   have:=AFZ h
   exact ⟨by omega,this.2⟩
def AFm (x:Int)(D:List (List Int)):Option Nat:=AEx (fun j=>inL (GD D j) x) 0 D.length
def AGA (x y:Int)(D:List (List Int)):Bool:=match AFm x D,AFm y D with
 | some i,some k=>i != k
 | _,_=>false
theorem AGB {x y:Int}{D:List (List Int)}(hD:D.flatten.Nodup):AGA x y D=AFL x y D:=by
 have hat:∀ {p:List Int},p∈D->∃ i,i<D.length/\GD D i=p:=fun hp=>by
  obtain ⟨i,hi,e⟩:=List.getElem_of_mem hp
  exact ⟨i,hi,by unfold GD; rw [List.getD_eq_getElem?_getD,List.getElem?_eq_getElem hi,Option.getD_some,e]⟩
 have hno:∀ {z:Int},AFm z D=none->∀ p∈D,z ∉ p:=fun h p hp hz=>by
  obtain ⟨i,hi,rfl⟩:=hat hp
  have h1:inL (GD D i) _=false:=AFY h i (Nat.zero_le _) (by omega)
  rw [AFt.2 hz] at h1
  cases h1
 have hyes:∀ {z:Int} {i:Nat},AFm z D=some i->i<D.length/\z∈GD D i:=fun h=>by
  obtain ⟨h1,h2⟩:=AFZ h
  exact ⟨by omega,AFt.1 h2⟩
 have hdis:∀ {z:Int} {i j:Nat},i<D.length->j<D.length->z∈GD D i->z∈GD D j->i=j:=by
  intro z i j hi hj h1 h2
  obtain ⟨_,hp⟩:=List.pairwise_flatten.1 hD
  have hp:=List.pairwise_iff_getElem.1 hp
  have e:∀ {k:Nat} (hk:k<D.length),GD D k=D[k]:=fun hk=>by unfold GD; rw [List.getD_eq_getElem?_getD,List.getElem?_eq_getElem hk,Option.getD_some]
  rw [e hi] at h1
  rw [e hj] at h2
  rcases Nat.lt_trichotomy i j with h | h | h
  ·exact absurd rfl (hp i j hi hj h z h1 z h2)
  ·exact h
  ·exact absurd rfl (hp j i hj hi h z h2 z h1)
 unfold AGA
 cases hx:AFm x D with
 | none=>exact (AFF (hno hx)).symm
 | some i=>
  cases hy:AFm y D with
  | none=>exact (AFX (hno hy)).symm
  | some k=>
   obtain ⟨hi,hxi⟩:=hyes hx
   obtain ⟨hk,hyk⟩:=hyes hy
   by_cases e:i=k
   ·subst e
    rw [AFc (Kv hi) hxi hyk]
    simp
   ·rw [AFd (Kv hi) (Kv hk) hxi hyk fun r hr hxr hyr=>by
     obtain ⟨l,hl,rfl⟩:=hat hr
     exact e ((hdis hi hl hxi hxr).trans (hdis hl hk hyr hyk))]
    simpa using e
noncomputable abbrev AGu:Code:=cB (cB (cR (cL (cR (AB prog 54)))))
def ixV:Option Nat->Int
 | none=>-1
 | some i=>i
section
variable (x:Int)(n:Nat)(ds:Nat->List Int)(h3:n<=100000)(hd:∀ j,(ds j).length<=100000)
include h3 hd
theorem AGv:∀ (k i:Nat),i+k=n->sLR 1 AGu (frame 19 [(0,rkP n ds),(1,EV.func (.func 55) [] [.ptr 0 0]),(6,rkP n ds),(7,.int .i64 n),(8,.int .i64 i)]) [EObj.var false true [EV.int .i64 x]]
  (match AEx (fun j=>inL (ds j) x) i k with
   | none=>(EX.leave 0,frame 19 [(1,EV.func (.func 55) [] [.ptr 0 0])],[EObj.var false true [EV.int .i64 x]])
   | some j=>(EX.ret,frame 19 [(1,EV.func (.func 55) [] [.ptr 0 0]),(4,.int .i64 j)],[EObj.var false true [EV.int .i64 x]]))
 | 0,i,h=>SemLR.lastR (AGW n ds x (fun j=>inL (ds j) x) i (by omega) h3 (fun h=>by omega) (by simp; omega)) (by simp [AEx])
 | k+1,i,h=>by
  have q0:(decide ((i:Int)<(n:Int)))=true:=decide_eq_true (by omega)
  have hc:(i:Int)<n->sP 35 [EV.isl true 1 (ds (i:Int).toNat).length fun j=>[EV.int .i64 ((ds (i:Int).toNat).getD j 0)],EV.int .i64 x] (EV.bool (inL (ds i) x)):=fun _=>PZ true _ _ x (hd _)
  rw [AEx]
  cases hb:inL (ds i) x with
  | true=>exact SemLR.lastR (AGU n ds x (fun j=>inL (ds j) x) i (by omega) h3 hc q0 hb) (by simp)
  | false=>exact SemLR.stepR (AGV n ds x (fun j=>inL (ds j) x) i (by omega) h3 hc q0 hb) (AGv k (i+1) (by omega))
theorem AGC:sF 54 [rkP n ds,EV.func (.func 55) [] [.ptr 0 0]] [EObj.var false true [EV.int .i64 x]] (EV.int .i64 (ixV (AEx (fun j=>inL (ds j) x) 0 n))) [EObj.var false true [EV.int .i64 x]]:=by
 have h:=AGv x n ds h3 hd n 0 (by omega)
 cases hf:AEx (fun j=>inL (ds j) x) 0 n with
 | none=>
  rw [hf] at h
  exact AGY n ds x (fun _=>false) (SemLR.cl (path:=cB (cR (cL (cR (AB prog 54))))) h rfl (by kernel_rfl))
 | some j=>
  rw [hf] at h
  exact AGX n ds x (fun _=>false) j (SemLR.cl (path:=cB (cR (cL (cR (AB prog 54))))) h rfl (by kernel_rfl))
theorem AGw:∀ (k i:Nat),i+k=n->sLR 1 AGu (frame 19 [(0,rkP n ds),(1,EV.func (.func 56) [] [.ptr 0 0]),(6,rkP n ds),(7,.int .i64 n),(8,.int .i64 i)]) [EObj.var false true [EV.int .i64 x]]
  (match AEx (fun j=>inL (ds j) x) i k with
   | none=>(EX.leave 0,frame 19 [(1,EV.func (.func 56) [] [.ptr 0 0])],[EObj.var false true [EV.int .i64 x]])
   | some j=>(EX.ret,frame 19 [(1,EV.func (.func 56) [] [.ptr 0 0]),(4,.int .i64 j)],[EObj.var false true [EV.int .i64 x]]))
 | 0,i,h=>SemLR.lastR (AGb n ds x (fun j=>inL (ds j) x) i (by omega) h3 (fun h=>by omega) (by simp; omega)) (by simp [AEx])
 | k+1,i,h=>by
  have q0:(decide ((i:Int)<(n:Int)))=true:=decide_eq_true (by omega)
  have hc:(i:Int)<n->sP 35 [EV.isl true 1 (ds (i:Int).toNat).length fun j=>[EV.int .i64 ((ds (i:Int).toNat).getD j 0)],EV.int .i64 x] (EV.bool (inL (ds i) x)):=fun _=>PZ true _ _ x (hd _)
  rw [AEx]
  cases hb:inL (ds i) x with
  | true=>exact SemLR.lastR (AGZ n ds x (fun j=>inL (ds j) x) i (by omega) h3 hc q0 hb) (by simp)
  | false=>exact SemLR.stepR (AGa n ds x (fun j=>inL (ds j) x) i (by omega) h3 hc q0 hb) (AGw k (i+1) (by omega))
theorem AGD:sF 54 [rkP n ds,EV.func (.func 56) [] [.ptr 0 0]] [EObj.var false true [EV.int .i64 x]] (EV.int .i64 (ixV (AEx (fun j=>inL (ds j) x) 0 n))) [EObj.var false true [EV.int .i64 x]]:=by
 have h:=AGw x n ds h3 hd n 0 (by omega)
 cases hf:AEx (fun j=>inL (ds j) x) 0 n with
 | none=>
  rw [hf] at h
  exact AGd n ds x (fun _=>false) (SemLR.cl (path:=cB (cR (cL (cR (AB prog 54))))) h rfl (by kernel_rfl))
 | some j=>
  rw [hf] at h
  exact AGc n ds x (fun _=>false) j (SemLR.cl (path:=cB (cR (cL (cR (AB prog 54))))) h rfl (by kernel_rfl))
end
def AFb (x y c:Int)(D:List (List Int))(z:Int):Int:=if AGA x y D then c else z
theorem AFj (x y z c:Int)(D:List (List Int))(h3:D.length<=100000)(hd:∀ j,(GD D j).length<=100000):
  sF 53 [EV.int .i64 c,rkP D.length (GD D),.ptr 0 0,.ptr 1 0,.ptr 2 0] (rb3 x y z) (EV.tuple []) (rb3 x y (AFb x y c D z)):=by
 have hx:=AGC x D.length (GD D) h3 hd
 have hy:=AGD y D.length (GD D) h3 hd
 unfold AFb AGA AFm
 cases h1:AEx (fun j=>inL (GD D j) x) 0 D.length with
 | none=>
  rw [h1] at hx
  exact AHA _ _ x y z c _ _ hx hy (by rfl)
 | some i=>
  rw [h1] at hx
  have q0:(decide (ixV (some i)>=0))=true:=decide_eq_true (show (i:Int)>=0 by omega)
  cases h2:AEx (fun j=>inL (GD D j) y) 0 D.length with
  | none=>
   rw [h2] at hy
   exact AG9 _ _ x y z c _ _ hx hy q0 (by rfl)
  | some k=>
   rw [h2] at hy
   have q1:(decide (ixV (some k)>=0))=true:=decide_eq_true (show (k:Int)>=0 by omega)
   by_cases e:i=k
   ·subst e
    simp only [bne_self_eq_false,Bool.false_eq_true,if_false]
    exact AG8 _ _ x y z c _ _ hx hy q0 q1 (by simp)
   ·rw [if_pos (by simpa using e)]
    exact AG7 _ _ x y z c _ _ hx hy q0 q1 (by simp only [ixV,bne_iff_ne]; omega)
abbrev AFa (C:List EV)(fin:Bool)(x y z:Int)(A:List (List Int×Int)):AL:=rbS C fin x y z A.length (C6 A) (Dc A)
abbrev AFn (C:List EV)(fin:Bool)(x y z:Int)(A:List (List Int×Int)):AL:=rbC C fin x y z A.length (C6 A) (Dc A)
def AGE (C:List EV)(fin:Bool)(x y:Int)(G:List Int)(b:Int)(L:List (List Int×Int))(T:Int->Int):Prop:=∀ z,sF 91 (rbA (FV G) b) (rbN C fin x y z) (EV.tuple []) (AFa C fin x y (T z) L)
def AGF (C:List EV)(fin:Bool)(x y:Int)(G:List Int)(b:Int)(L:List (List Int×Int))(T:Int->Int):Prop:=∀ z,∀ A:List (List Int×Int),A.length+G.length<=1000->sF 91 (rbA (FV G) b) (AFa C fin x y z A) (EV.tuple []) (AFn C fin x y (T z) (A++L))
def zL (g:List Int->Int->Int):List (List Int)->Int->Int
 | [],z=>z
 | p :: ps,z=>zL g ps (g p z)
section
variable {C:List EV}{fin:Bool}{x y:Int}
section
variable {f:List Int->Int->List (List Int×Int)}{g:List Int->Int->Int}{c:Int}{D:List (List Int)}(hD:D.length<=1000)(hU:∀ p∈D,∀ b,AGE C fin x y p b (f p b) (g p)/\AGF C fin x y p b (f p b) (g p)/\(f p b).length<=p.length)
include hD hU
theorem AF3:∀ (j i:Nat) (b z:Int) (A:List (List Int×Int)),i+j=D.length->0<i->A.length+(D.drop i).flatten.length<=1000->
  sLR 8 Xm (rbI b c D.length (GD D) i) (AFa C fin x y z A) (EX.leave 2,frame 84 [],AFa C fin x y (zL g (D.drop i) z) (A++HL f c (D.drop i) c))
 | 0,i,b,z,A,h,h0,hA=>by
  obtain rfl:i=D.length:=by omega
  rw [List.drop_length,HL,zL,List.append_nil]
  exact SemLR.lastR (AGg C fin x y z 0 b c D.length (GD D) D.length A.length (C6 A) (Dc A) 0 (fun _=>[]) (fun _=>0) (by omega) (by omega) (by omega) (fun h=>by omega) (by simp)) (by simp)
 | j+1,i,b,z,A,h,h0,hA=>by
  obtain ⟨_,hu,hl⟩:=hU _ (Kv (show i<D.length by omega)) c
  rw [drop_cons D i (by omega),List.flatten_cons,List.length_append] at hA
  rw [drop_cons D i (by omega),HL,zL,<-List.append_assoc]
  refine SemLR.stepR (AGf C fin x y z (g (GD D i) z) b c D.length (GD D) i A.length (C6 A) (Dc A) _ _ _ (by omega) (by omega) (by omega) (fun _=>hu z A (by omega)) (by simp; omega)) ?_
  exact AF3 j (i+1) c _ (A++f (GD D i) c) (by omega) (by omega) (by rw [List.length_append]; omega)
theorem AF4:∀ (j i:Nat) (b z:Int) (A:List (List Int×Int)),i+j=D.length->0<i->A.length+(D.drop i).flatten.length<=1000->
  sLR 10 Xm (rbI b c D.length (GD D) i) (AFn C fin x y z A) (EX.leave 2,frame 84 [],AFn C fin x y (zL g (D.drop i) z) (A++HL f c (D.drop i) c))
 | 0,i,b,z,A,h,h0,hA=>by
  obtain rfl:i=D.length:=by omega
  rw [List.drop_length,HL,zL,List.append_nil]
  exact SemLR.lastR (AGj C fin x y z 0 b c D.length (GD D) D.length A.length (C6 A) (Dc A) 0 (fun _=>[]) (fun _=>0) (by omega) (by omega) (by omega) (fun h=>by omega) (by simp)) (by simp)
 | j+1,i,b,z,A,h,h0,hA=>by
  obtain ⟨_,hu,hl⟩:=hU _ (Kv (show i<D.length by omega)) c
  rw [drop_cons D i (by omega),List.flatten_cons,List.length_append] at hA
  rw [drop_cons D i (by omega),HL,zL,<-List.append_assoc]
  refine SemLR.stepR (AGi C fin x y z (g (GD D i) z) b c D.length (GD D) i A.length (C6 A) (Dc A) _ _ _ (by omega) (by omega) (by omega) (fun _=>hu z A (by omega)) (by simp; omega)) ?_
  exact AF4 j (i+1) c _ (A++f (GD D i) c) (by omega) (by omega) (by rw [List.length_append]; omega)
theorem AGR (h0:0<D.length)(hF:D.flatten.length<=1000)(b z:Int):
  sL (cB (cR (cL (cR (cR (cR (cR (cB (cL (cR (cR (cB (cB (cR (cL (cR (cR (AB prog 91)))))))))))))))))) (rbI b c D.length (GD D) 0) (rbN C fin x y z) (EX.leave 2,frame 84 [],AFa C fin x y (zL g D z) (HL f c D b)):=by
 refine SemLR.cl (m:=8) (c:=Xm) ?_ rfl (by kernel_rfl)
 obtain ⟨hn,_,hl⟩:=hU _ (Kv h0) b
 have e0:=drop_cons D 0 h0
 rw [List.drop_zero] at e0
 have e:HL f c D b=f (GD D 0) b++HL f c (D.drop 1) c:=by
  conv=>lhs; rw [e0]
  rw [HL]
 have ez:zL g D z=zL g (D.drop 1) (g (GD D 0) z):=by
  conv=>lhs; rw [e0]
  rw [zL]
 have e2:D.flatten.length=(GD D 0).length+(D.drop 1).flatten.length:=by
  conv=>lhs; rw [e0]
  rw [List.flatten_cons,List.length_append]
 rw [e,ez]
 refine SemLR.stepR (AGe C fin x y z (g (GD D 0) z) b c D.length (GD D) 0 0 (fun _=>[]) (fun _=>0) _ _ _ rfl (by omega) (by omega) h0 (hn z)) ?_
 exact AF3 hD hU (D.length - 1) 1 b _ (f (GD D 0) b) (by omega) (by omega) (by omega)
theorem AGS (h0:0<D.length)(b z:Int)(A:List (List Int×Int))(hA:A.length+D.flatten.length<=1000):
  sL (cB (cR (cL (cR (cR (cR (cR (cB (cL (cR (cR (cB (cB (cR (cL (cR (cR (AB prog 91)))))))))))))))))) (rbI b c D.length (GD D) 0) (AFa C fin x y z A) (EX.leave 2,frame 84 [],AFn C fin x y (zL g D z) (A++HL f c D b)):=by
 refine SemLR.cl (m:=10) (c:=Xm) ?_ rfl (by kernel_rfl)
 obtain ⟨_,hu,hl⟩:=hU _ (Kv h0) b
 have e0:=drop_cons D 0 h0
 rw [List.drop_zero] at e0
 have e:HL f c D b=f (GD D 0) b++HL f c (D.drop 1) c:=by
  conv=>lhs; rw [e0]
  rw [HL]
 have ez:zL g D z=zL g (D.drop 1) (g (GD D 0) z):=by
  conv=>lhs; rw [e0]
  rw [zL]
 have e2:D.flatten.length=(GD D 0).length+(D.drop 1).flatten.length:=by
  conv=>lhs; rw [e0]
  rw [List.flatten_cons,List.length_append]
 rw [e,ez,<-List.append_assoc]
 refine SemLR.stepR (AGh C fin x y z (g (GD D 0) z) b c D.length (GD D) 0 A.length (C6 A) (Dc A) _ _ _ rfl (by omega) (by omega) h0 (hu z A (by omega))) ?_
 exact AF4 hD hU (D.length - 1) 1 b _ (A++f (GD D 0) b) (by omega) (by omega) (by rw [List.length_append]; omega)
end
end
theorem AFk {D:List (List Int)}{n:Nat}(h:∀ p∈D,p.length<=n)(j:Nat):(GD D j).length<=n:=by
 rcases Nat.lt_or_ge j D.length with hj | hj
 ·exact h _ (Kv hj)
 ·unfold GD
  rw [List.getD_eq_getElem?_getD,List.getElem?_eq_none hj]
  exact Nat.zero_le _
section
variable {C:List EV}{fin:Bool}{x y:Int}{S:List Int->Int->List (List Int)}{f:List Int->Int->List (List Int×Int)}{g:List Int->Int->Int}{G:List Int}{b:Int}{nn:Bool}{kc:Nat}{cw:Nat->Int}(hk:kc<=100000)
 (hS:∀ i,i<kc->sP 94 [EV.ip C 0,FV G,EV.int .i64 (cw i)] (J7 (S G (cw i))))
 (hGl:G.length<=8) (hV:∀ i,i<kc->(S G (cw i)).length≠1->0<(S G (cw i)).length/\(S G (cw i)).length<=1000/\(S G (cw i)).flatten.length<=G.length/\(∀ p∈S G (cw i),p.length<=1000)/\∀ p∈S G (cw i),∀ b,AGE C fin x y p b (f p b) (g p)/\AGF C fin x y p b (f p b) (g p)/\(f p b).length<=p.length)
include hk hS hGl hV
theorem AFo (z:Int):∀ (j i:Nat),i+j=kc->
  (B9 S G ((List.range' i j).map cw)=none->sLR 8 vB4 (rbO (FV G) b (nums nn kc cw) kc i) (rbN C fin x y z) (EX.leave 0,frame 84 [(0,FV G),(1,.int .i64 b),(6,.ptr 7 0)],rbN C fin x y z))/\
  ∀ c ps,B9 S G ((List.range' i j).map cw)=some (c,ps)->sLR 8 vB4 (rbO (FV G) b (nums nn kc cw) kc i) (rbN C fin x y z) (EX.ret,frame 84 [],AFa C fin x y (zL g ps (AFb x y c ps z)) (HL f c ps b))
 | 0,i,h=>by
  obtain rfl:i=kc:=by omega
  refine ⟨fun _=>?_,fun c ps hf=>by simp [B9] at hf⟩
  exact SemLR.lastR (AGm C fin x y z 0 0 G b nn i cw 0 (fun _=>[]) i 0 (fun _=>[]) (fun _=>0) 0 (fun _=>[]) (fun _=>0) (by omega) hk (by omega) (fun h=>by omega) (fun h=>by omega) (fun h=>by omega) (by simp)) (by simp)
 | j+1,i,h=>by
  have hi:i<kc:=by omega
  have q0:(decide ((i:Int)<(kc:Int)))=true:=decide_eq_true (by omega)
  rw [List.range'_succ,List.map_cons,B9]
  by_cases h1:(S G (cw i)).length=1
  ·rw [if_pos h1]
   obtain ⟨ih1,ih2⟩:=AFo z j (i+1) (by omega)
   have hr:=AGk C fin x y z 0 0 G b nn kc cw (S G (cw i)).length (GD (S G (cw i))) (i:Int) 0 (fun _=>[]) (fun _=>0) 0 (fun _=>[]) (fun _=>0) (by omega) hk (by omega) (fun _=>hS i hi) (fun _ hn=>absurd (by omega) hn) (fun _ hn=>absurd (by omega) hn) q0 (by simp [h1])
   exact ⟨fun hf=>SemLR.stepR hr (ih1 hf),fun c ps hf=>SemLR.stepR hr (ih2 c ps hf)⟩
  ·rw [if_neg h1]
   refine ⟨fun hf=>by simp at hf,fun c ps hf=>?_⟩
   obtain ⟨rfl,rfl⟩:=Prod.mk.inj (Option.some.inj hf)
   obtain ⟨v1,v2,v4,v5,v3⟩:=hV i hi h1
   exact SemLR.lastR (AGl C fin x y z (AFb x y (cw i) (S G (cw i)) z) _ G b nn kc cw (S G (cw i)).length (GD (S G (cw i))) (i:Int) 0 (fun _=>[]) (fun _=>0) _ _ _ (by omega) hk (by omega) (fun _=>hS i hi)
    (fun _ _=>bpN C fin x y z _ b (cw i) _ (GD (S G (cw i))) 0 (fun _=>[]) (fun _=>0) (AFj x y z (cw i) (S G (cw i)) (by omega) fun j=>Nat.le_trans (AFk v5 j) (by omega)))
    (fun _ _=>AGR v2 v3 v1 (by omega) b _) q0 (by simp; omega)) (by simp)
theorem AFp (z:Int)(A:List (List Int×Int))(hA:A.length+G.length<=1000):∀ (j i:Nat),i+j=kc->
  (B9 S G ((List.range' i j).map cw)=none->sLR 10 vB4 (rbO (FV G) b (nums nn kc cw) kc i) (AFa C fin x y z A) (EX.leave 0,frame 84 [(0,FV G),(1,.int .i64 b),(6,.ptr 7 0)],AFa C fin x y z A))/\
  ∀ c ps,B9 S G ((List.range' i j).map cw)=some (c,ps)->sLR 10 vB4 (rbO (FV G) b (nums nn kc cw) kc i) (AFa C fin x y z A) (EX.ret,frame 84 [],AFn C fin x y (zL g ps (AFb x y c ps z)) (A++HL f c ps b))
 | 0,i,h=>by
  obtain rfl:i=kc:=by omega
  refine ⟨fun _=>?_,fun c ps hf=>by simp [B9] at hf⟩
  exact SemLR.lastR (AGq C fin x y z 0 0 G b nn i cw 0 (fun _=>[]) i A.length (C6 A) (Dc A) 0 (fun _=>[]) (fun _=>0) (by omega) hk (by omega) (fun h=>by omega) (fun h=>by omega) (fun h=>by omega) (by simp)) (by simp)
 | j+1,i,h=>by
  have hi:i<kc:=by omega
  have q0:(decide ((i:Int)<(kc:Int)))=true:=decide_eq_true (by omega)
  rw [List.range'_succ,List.map_cons,B9]
  by_cases h1:(S G (cw i)).length=1
  ·rw [if_pos h1]
   obtain ⟨ih1,ih2⟩:=AFp z A hA j (i+1) (by omega)
   have hr:=AGo C fin x y z 0 0 G b nn kc cw (S G (cw i)).length (GD (S G (cw i))) (i:Int) A.length (C6 A) (Dc A) 0 (fun _=>[]) (fun _=>0) (by omega) hk (by omega) (fun _=>hS i hi) (fun _ hn=>absurd (by omega) hn) (fun _ hn=>absurd (by omega) hn) q0 (by simp [h1])
   exact ⟨fun hf=>SemLR.stepR hr (ih1 hf),fun c ps hf=>SemLR.stepR hr (ih2 c ps hf)⟩
  ·rw [if_neg h1]
   refine ⟨fun hf=>by simp at hf,fun c ps hf=>?_⟩
   obtain ⟨rfl,rfl⟩:=Prod.mk.inj (Option.some.inj hf)
   obtain ⟨v1,v2,v4,v5,v3⟩:=hV i hi h1
   exact SemLR.lastR (AGp C fin x y z (AFb x y (cw i) (S G (cw i)) z) _ G b nn kc cw (S G (cw i)).length (GD (S G (cw i))) (i:Int) A.length (C6 A) (Dc A) _ _ _ (by omega) hk (by omega) (fun _=>hS i hi)
    (fun _ _=>bpU C fin x y z _ b (cw i) _ (GD (S G (cw i))) A.length (C6 A) (Dc A) (AFj x y z (cw i) (S G (cw i)) (by omega) fun j=>Nat.le_trans (AFk v5 j) (by omega)))
    (fun _ _=>AGS v2 v3 v1 b _ A (by omega)) q0 (by simp; omega)) (by simp)
end
def bz (S:List Int->Int->List (List Int))(Cr:Nat->List Int)(x y:Int):Nat->List Int->Int->Int
 | 0,_,z=>z
 | n+1,G,z=>if G.length<=1 then z else match B9 S G (Cr G.length) with
  | none=>z
  | some (c,ps)=>zL (bz S Cr x y n) ps (AFb x y c ps z)
section
variable {n0:Bool}{n:Nat}{rs:Nat->ResD}{n1:Bool}{m:Nat}{w:Nat->Int}{e1:List (EV×EV)}{R:RulesV}{e3:List (EV×EV)}{fin:Bool}{x y:Int}{S:List Int->Int->List (List Int)}{Cr:Nat->List Int}
 (hS:MT S) (hC:∀ n,∀ c∈Cr n,1<=c/\c<=12)
 (hS2:∀ G c,G≠[]->G.length<=8->G.Pairwise (·<·)->1<=c/\c<=12->sP 94 [EV.ip (Bw n0 n rs n1 m w e1 R e3) 0,FV G,EV.int .i64 c] (J7 (S G c)))
 (hC2:∀ sz:Nat,∃ (nn:Bool) (kc:Nat) (cw:Nat->Int) (ta tb tc td er:Int),sP 93 [EV.isl n0 13 n fun i=>(rs i).cells,nums n1 m w,EV.int .i64 sz,EV.bool fin] (EV.agg (HR ta tb tc td))/\
  sP 92 [EV.isl R.onn 8 R.on R.orow,EV.agg (HR ta tb tc td)] (EV.tuple [nums nn kc cw,.int .i64 er])/\Cr sz=(List.range' 0 kc).map cw/\kc<=100000)
include hS hC hS2 hC2
theorem AFg:∀ (k:Nat) (G:List Int) (b:Int),G≠[]->G.Pairwise (·<·)->G.length<=8->G.length<=k->
  AGE (Bw n0 n rs n1 m w e1 R e3) fin x y G b (vis S Cr k G b) (bz S Cr x y k G)/\AGF (Bw n0 n rs n1 m w e1 R e3) fin x y G b (vis S Cr k G b) (bz S Cr x y k G)
 | 0,G,b,h1,_,_,h4=>absurd (List.length_eq_zero_iff.1 (by omega)) h1
 | k+1,G,b,h1,h2,h3,h4=>by
  have addN:∀ {h':AL} (z:Int),h'=rbP (Bw n0 n rs n1 m w e1 R e3) fin x y z++[EObj.var false false [EV.ms 8 1 0 1 none,EV.ms 9 1 0 1 none],EObj.arr false true 1 false 1 fun (i:Nat)=>[[EV.isl true 1 G.length fun (i:Nat)=>[EV.int IntKind.i64 (G.getD i 0)]]].getD (0+i) [],EObj.arr false true 1 false 1 fun (i:Nat)=>[[EV.int IntKind.i64 b]].getD (0+i) []]->
    HLe h' (AFa (Bw n0 n rs n1 m w e1 R e3) fin x y z [(G,b)]):=fun z e=>by
   subst e
   refine .cons (OLe.refl _) (.cons (OLe.refl _) (.cons (OLe.refl _) (.cons (OLe.refl _) (.cons (OLe.refl _) (.cons (OLe.refl _) (.cons (OLe.refl _) (.cons (OLe.refl _) (.cons (OLe.arr fun j hj=>?_) (.cons (OLe.arr fun j hj=>?_) .nil)))))))))
   ·obtain rfl:j=0:=by omega
    rfl
   ·obtain rfl:j=0:=by omega
    rfl
  have addU:∀ {h':AL} (z:Int) (A:List (List Int×Int)),h'=rbP (Bw n0 n rs n1 m w e1 R e3) fin x y z++[EObj.var false false [EV.ms 10 1 0 (A.length+1) none,EV.ms 11 1 0 (A.length+1) none],.dead,.dead,
     EObj.arr false true 1 false (A.length+1) (AU A.length (fun (i:Nat)=>[EV.isl true 1 (C6 A (0+i)).length fun (i_1:Nat)=>[EV.int IntKind.i64 ((C6 A (0+i)).getD i_1 0)]]) fun (i:Nat)=>[[EV.isl true 1 G.length fun (i:Nat)=>[EV.int IntKind.i64 (G.getD i 0)]]].getD (0+i) []),
     EObj.arr false true 1 false (A.length+1) (AU A.length (fun (i:Nat)=>[EV.int IntKind.i64 (Dc A (0+i))]) fun (i:Nat)=>[[EV.int IntKind.i64 b]].getD (0+i) [])]->
    HLe h' (AFn (Bw n0 n rs n1 m w e1 R e3) fin x y z (A++[(G,b)])):=fun z A e=>by
   subst e
   have el:(A++[(G,b)]).length=A.length+1:=by simp
   unfold AFn
   rw [el]
   exact .cons (OLe.refl _) (.cons (OLe.refl _) (.cons (OLe.refl _) (.cons (OLe.refl _) (.cons (OLe.refl _) (.cons (OLe.refl _) (.cons (OLe.refl _) (.cons (OLe.refl _) (.cons (OLe.refl _) (.cons (OLe.refl _) (.cons (OLe.arr fun j hj=>Tb A G b j hj) (.cons (OLe.arr fun j hj=>RJ A G b j hj) .nil)))))))))))
  have hbz:bz S Cr x y (k+1) G=fun z=>if G.length<=1 then z else match B9 S G (Cr G.length) with
   | none=>z
   | some (c,ps)=>zL (bz S Cr x y k) ps (AFb x y c ps z):=by
   funext z
   rw [bz]
  rw [vis,hbz]
  by_cases hl:G.length<=1
  ·simp only [if_pos hl]
   refine ⟨fun z=>?_,fun z A hA=>?_⟩
   ·have ho:=SemLR.lastR (AGn (Bw n0 n rs n1 m w e1 R e3) fin x y z G b 0 (fun _=>[]) (fun _=>0)) (by simp)
    have hf:=AGL n0 n rs n1 m w e1 R e3 fin x y z 0 G b 0 (fun _=>[]) (fun _=>0) (by omega) (by omega) (SemLR.cl (m:=8) (c:=vB4) ho rfl (by kernel_rfl))
    exact SemF.weaken (VLes.refl _) (HLe.refl _) hf (VLe.refl _) (addN z rfl)
   ·have ho:=SemLR.lastR (AGr (Bw n0 n rs n1 m w e1 R e3) fin x y z G b A.length (C6 A) (Dc A)) (by simp)
    have hf:=AGO n0 n rs n1 m w e1 R e3 fin x y z 0 G b A.length (C6 A) (Dc A) (by omega) (by omega) (SemLR.cl (m:=10) (c:=vB4) ho rfl (by kernel_rfl))
    exact SemF.weaken (VLes.refl _) (HLe.refl _) hf (VLe.refl _) (addU z A rfl)
  ·simp only [if_neg hl]
   obtain ⟨nn,kc,cw,ta,tb,tc,td,er,he,hd,hcr,hkc⟩:=hC2 G.length
   have hcw:∀ i,i<kc->1<=cw i/\cw i<=12:=fun i hi=>hC G.length (cw i) (by
    rw [hcr]
    exact List.mem_map.2 ⟨i,by simp; omega,rfl⟩)
   have hSi:∀ i,i<kc->sP 94 [EV.ip (Bw n0 n rs n1 m w e1 R e3) 0,FV G,EV.int .i64 (cw i)] (J7 (S G (cw i))):=fun i hi=>hS2 G (cw i) h1 h3 h2 (hcw i hi)
   have hVi:∀ i,i<kc->(S G (cw i)).length≠1->0<(S G (cw i)).length/\(S G (cw i)).length<=1000/\(S G (cw i)).flatten.length<=G.length/\(∀ p∈S G (cw i),p.length<=1000)/\∀ p∈S G (cw i),∀ b,AGE (Bw n0 n rs n1 m w e1 R e3) fin x y p b (vis S Cr k p b) (bz S Cr x y k p)/\AGF (Bw n0 n rs n1 m w e1 R e3) fin x y p b (vis S Cr k p b) (bz S Cr x y k p)/\(vis S Cr k p b).length<=p.length:=fun i hi hn=>by
    have hp:=hS G (cw i) h1 h3 h2 (hcw i hi)
    obtain ⟨h5,h6⟩:=OZ hp h1 hn
    have hlen:(S G (cw i)).length<=G.length:=by
     have:=Io (L:=(S G (cw i)).map fun p=>(p,(0:Int))) fun x hx=>by
      obtain ⟨p,hp',rfl⟩:=List.mem_map.1 hx
      exact hp.ne p hp'
     rw [List.map_map,List.length_map] at this
     have e:(S G (cw i)).map (Prod.fst ∘ fun p=>(p,(0:Int)))=S G (cw i):=List.map_id _
     rw [e,hp.all.length_eq] at this
     exact this
    refine ⟨List.length_pos_iff.2 h5,by omega,Nat.le_of_eq hp.all.length_eq,fun p hp'=>by have:=h6 p hp'; omega,fun p hp' b=>?_⟩
    have h7:=h6 p hp'
    obtain ⟨v1,v2⟩:=AFg k p b (hp.ne p hp') (hp.inc p hp') (by omega) (by omega)
    exact ⟨v1,v2,(Pc hS hC k p b (hp.ne p hp') (hp.inc p hp') (by omega) (by omega)).len⟩
   have hg:(G.length:Int)>1:=by omega
   cases hf:B9 S G (Cr G.length) with
   | none=>
    rw [hcr] at hf
    refine ⟨fun z=>?_,fun z A hA=>?_⟩
    ·have ho:=(AFo (fin:=fin) (b:=b) (nn:=nn) hkc hSi h3 hVi z kc 0 (by omega)).1 hf
     have hh:=AGM n0 n rs n1 m w e1 R e3 fin x y z 0 G b 0 (fun _=>[]) (fun _=>0) nn kc cw 0 (fun _=>[]) (fun _=>0) ta tb tc td er true hg (by omega) (brN n0 n rs n1 m w e1 R e3 fin x y z 0 G b 0 (fun _=>[]) (fun _=>0) nn kc cw ta tb tc td er he hd) (fun _=>SemLR.cl (m:=8) (c:=vB4) ho rfl (by kernel_rfl)) (fun h=>by cases h) rfl
     exact SemF.weaken (VLes.refl _) (HLe.refl _) hh (VLe.refl _) (addN z rfl)
    ·have ho:=(AFp (fin:=fin) (b:=b) (nn:=nn) hkc hSi h3 hVi z A hA kc 0 (by omega)).1 hf
     have hh:=AGP n0 n rs n1 m w e1 R e3 fin x y z 0 G b A.length (C6 A) (Dc A) nn kc cw 0 (fun _=>[]) (fun _=>0) ta tb tc td er true hg (by omega) (brU n0 n rs n1 m w e1 R e3 fin x y z 0 G b A.length (C6 A) (Dc A) nn kc cw ta tb tc td er he hd) (fun _=>SemLR.cl (m:=10) (c:=vB4) ho rfl (by kernel_rfl)) (fun h=>by cases h) rfl
     exact SemF.weaken (VLes.refl _) (HLe.refl _) hh (VLe.refl _) (addU z A rfl)
   | some q=>
    obtain ⟨c,ps⟩:=q
    rw [hcr] at hf
    refine ⟨fun z=>?_,fun z A hA=>?_⟩
    ·have ho:=(AFo (fin:=fin) (b:=b) (nn:=nn) hkc hSi h3 hVi z kc 0 (by omega)).2 c ps hf
     exact AGN n0 n rs n1 m w e1 R e3 fin x y z _ G b 0 (fun _=>[]) (fun _=>0) nn kc cw _ _ _ ta tb tc td er false hg (by omega) (brN n0 n rs n1 m w e1 R e3 fin x y z 0 G b 0 (fun _=>[]) (fun _=>0) nn kc cw ta tb tc td er he hd) (fun h=>by cases h) (fun _=>SemLR.cl (m:=8) (c:=vB4) ho rfl (by kernel_rfl)) rfl
    ·have ho:=(AFp (fin:=fin) (b:=b) (nn:=nn) hkc hSi h3 hVi z A hA kc 0 (by omega)).2 c ps hf
     exact AGQ n0 n rs n1 m w e1 R e3 fin x y z _ G b A.length (C6 A) (Dc A) nn kc cw _ _ _ ta tb tc td er false hg (by omega) (brU n0 n rs n1 m w e1 R e3 fin x y z 0 G b A.length (C6 A) (Dc A) nn kc cw ta tb tc td er he hd) (fun h=>by cases h) (fun _=>SemLR.cl (m:=10) (c:=vB4) ho rfl (by kernel_rfl)) rfl
end
theorem AFu {x y:Int}{g:List Int->Int->Int}{h:List Int->List (Int×List (List Int))}:∀ (ps:List (List Int)) (z:Int),(∀ p∈ps,∀ z,g p z=AE7 x y (h p) z)->zL g ps z=AE7 x y (ps.flatMap h) z
 | [],_,_=>rfl
 | p :: ps,z,hp=>by
  rw [zL,hp p List.mem_cons_self,List.flatMap_cons,AE9]
  exact AFu ps _ fun q hq=>hp q (List.mem_cons_of_mem _ hq)
theorem AGJ {S:List Int->Int->List (List Int)}{C:Nat->List Int}(hS:MT S)(hC:∀ n,∀ c∈C n,1<=c/\c<=12)(x y:Int):∀ (n:Nat) (G:List Int) (z:Int),G≠[]->G.Pairwise (·<·)->G.length<=8->G.length<=n->bz S C x y n G z=AE7 x y (AEb S C n G) z
 | 0,G,z,h1,_,_,h4=>absurd (List.length_eq_zero_iff.1 (by omega)) h1
 | n+1,G,z,h1,h2,h3,h4=>by
  rw [bz,AEb]
  split
  ·rfl
  ·cases hf:B9 S G (C G.length) with
   | none=>rfl
   | some q=>
    obtain ⟨c,ps⟩:=q
    obtain ⟨hc,rfl,hn⟩:=Im hf
    have hp:=hS G c h1 h3 h2 (hC _ c hc)
    obtain ⟨h5,h6⟩:=OZ hp h1 hn
    have hnd:(S G c).flatten.Nodup:=hp.all.nodup_iff.2 (h2.imp fun h=>Int.ne_of_lt h)
    show zL (bz S C x y n) (S G c) (AFb x y c (S G c) z)=AE7 x y ((S G c).flatMap (AEb S C n)) (if AFL x y (S G c) then c else z)
    rw [AFb,AGB hnd]
    exact AFu _ _ fun p hp' z=>AGJ hS hC x y n p z (hp.ne p hp') (hp.inc p hp') (by have:=h6 p hp'; omega) (by have:=h6 p hp'; omega)
theorem AFl {n0:Bool}{n:Nat}{rs:Nat->ResD}{m:Nat}{w:Nat->Int}{e1:List (EV×EV)}{R:RulesV}{e3:List (EV×EV)}{fin:Bool}{S:List Int->Int->List (List Int)}{Cr:Nat->List Int}
  (h:RankBy n0 n rs true m w e1 R e3 fin S Cr) (hI:Inc m w) (h2:2<=m) (h8:m<=8) {n2:Bool} {m2:Nat} {o:Nat->Int} {n3:Bool} {ln:Nat} {lw:Nat->Int}
  (hop:sP 48 (YB n0 n rs true m w n2 m2 o n3 ln lw R) (EV.tuple [CM n0 n rs true m w e1 R e3,.int .i64 0])) {x y:Int} (hx:inW m w x=true) (hy:inW m w y=true):
  sP 22 [EV.isl n0 13 n fun i=>(rs i).cells,nums true m w,nums n2 m2 o,EV.agg R.cells,EV.bool fin,nums n3 ln lw,EV.int .i64 x,EV.int .i64 y] (EV.tuple [.int .i64 (AE7 x y (AEb S Cr 8 (AT m w)) 0),.int .i64 0]):=by
 have hlen:(AT m w).length=m:=by simp [AT]
 have hne:AT m w≠[]:=fun e=>by rw [e] at hlen; simp at hlen; omega
 have hv:=(AFg (n1:=true) (m:=m) (w:=w) (x:=x) (y:=y) h.split h.rng h.splitS h.critS 8 (AT m w) 0 hne (IL hI) (by omega) (by omega)).1 0
 rw [AGJ h.split h.rng x y 8 (AT m w) 0 hne (IL hI) (by omega) (by omega)] at hv
 have ha:VLes (rbA (nums true m w) 0) (rbA (FV (AT m w)) 0):=by
  refine .cons ?_ (VLes.refl _)
  unfold FV
  rw [hlen]
  exact VLe.isl fun i hi=>by
   dsimp only
   rw [RM hi]
 have hf:=AGs n0 n rs m w e1 R e3 fin x y 0 _ _ _ _ (SemF.weaken ha (HLe.refl _) hv (VLe.refl _) (HLe.refl _))
 have cx:=PZ true m w x (by omega)
 have cy:=PZ true m w y (by omega)
 rw [hx] at cx
 rw [hy] at cy
 exact AGt n0 n rs m w e1 R e3 fin x y 0 _ _ _ _ n2 m2 o n3 ln lw hop cx cy hf
section
variable {kk:Nat}{n0:Bool}{n:Nat}{rs:Nat->ResD}{n1:Bool}{m:Nat}{w:Nat->Int}{n2:Bool}{m2:Nat}{o:Nat->Int}{n3:Bool}{ln:Nat}{lw:Nat->Int}{R:RulesV}{fin:Bool}{e1 e3:List (EV×EV)}{S:List Int->Int->List (List Int)}{Cr:Nat->List Int}{Z:Int->Int->ByteArray}
 (h:TabBy kk n0 n rs n1 m w n2 m2 o n3 ln lw R fin e1 e3 S Cr Z) (hn:n<=40) (hm:m<=8)
include h hn hm
theorem Jd:VisOk (AT m w) 0 (vis S Cr 8 (AT m w) 0):=by
 have hlen:(AT m w).length=m:=by simp [AT]
 have h2:=h.ok.two
 exact Pc h.by_.split h.by_.rng 8 (AT m w) 0 (fun e=>by rw [e] at hlen; simp at hlen; omega) (IL h.ok.inc) (by omega) (by omega)
theorem Ip:RowsOk m w n (Az m w R.win R.draw R.loss rs n):=
 QM ⟨h.ok.good.2.1,h.ok.good.2.2.1,h.ok.good.2.2.2.1,h.ok.good.2.2.2.2.1⟩ (by omega) (fun i hi=>⟨LH (h.ok.res i hi).err,(h.ok.res i hi).home,(h.ok.res i hi).away⟩) n (Nat.le_refl _)
theorem Xs {j:Nat}(hj:j<m):Bk m w (w j)=j:=by
 have hin:inW m w (w j)=true:=by
  unfold inW
  rw [List.any_eq_true]
  exact ⟨j,by simpa using hj,by simp⟩
 obtain ⟨h1,h2⟩:=Cv hin
 exact h.ok.inc.inj h1 hj h2
theorem NK {j:Nat}(hj:j<m):Cq m w (Az m w R.win R.draw R.loss rs n) o (w j)={ Az m w R.win R.draw R.loss rs n j with points:=(Az m w R.win R.draw R.loss rs n j).points - o j }:=by
 unfold Cq
 rw [Xs h hn hm hj]
 have hr:=((Ip h hn hm).row j hj).1.points
 have ho:=h.ok.offs j hj
 rw [H6 (by omega) (by omega)]
theorem Rp {x:List Int×Int}(hx:x∈vis S Cr 8 (AT m w) 0){c:Int}(hc:c∈x.1):∃ j,j<m/\c=w j:=by
 have:=(Jd h hn hm).all.mem_iff.1 (List.mem_flatten.2 ⟨x.1,List.mem_map_of_mem hx,hc⟩)
 obtain ⟨j,hj,e⟩:=List.mem_map.1 this
 exact ⟨j,by simpa using hj,e.symm⟩
def Dd (n:Nat)(rs:Nat->ResD)(m:Nat)(w:Nat->Int)(o:Nat->Int)(R:RulesV)(Z:Int->Int->ByteArray)(L:List (List Int×Int)):List PlaceD:=placesOf (Z m) (Cq m w (Az m w R.win R.draw R.loss rs n) o) 0 L
theorem NL {x:List Int×Int}(hx:x∈vis S Cr 8 (AT m w) 0){c:Int}(hc:c∈x.1):(Cq m w (Az m w R.win R.draw R.loss rs n) o c).club=c:=by
 obtain ⟨j,hj,rfl⟩:=Rp h hn hm hx hc
 rw [NK h hn hm hj]
 exact ((Ip h hn hm).row j hj).2
theorem Ol:(Dd n rs m w o R Z (vis S Cr 8 (AT m w) 0)).map (fun p=>p.row.club)=((vis S Cr 8 (AT m w) 0).map Prod.fst).flatten:=by
 have e:(Dd n rs m w o R Z (vis S Cr 8 (AT m w) 0)).map (fun p=>p.row.club)=((Dd n rs m w o R Z (vis S Cr 8 (AT m w) 0)).map PlaceD.row).map RowD.club:=by rw [List.map_map]; rfl
 rw [e]
 unfold Dd
 rw [Hb,List.map_map]
 refine (List.map_congr_left fun c hc=>?_).trans (List.map_id _)
 obtain ⟨l,hl,hc⟩:=List.mem_flatten.1 hc
 obtain ⟨x,hx,rfl⟩:=List.mem_map.1 hl
 exact NL h hn hm hx hc
theorem Rq:(Dd n rs m w o R Z (vis S Cr 8 (AT m w) 0)).length=m:=by
 have:=congrArg List.length (Ol h hn hm)
 rw [List.length_map,(Jd h hn hm).all.length_eq] at this
 rw [this]
 simp [AT]
end
noncomputable abbrev AFI:=cB (cR (cL (cR (cR (cR (cR (cR (cR (cR (AB prog 6))))))))))
abbrev AEv (a0:RulesV)(a1:TableD):=[ov a0.cells,ov [.int .i64 a1.season,.int .i64 a1.comp,.isl a1.nn 14 a1.len fun j=>(a1.ps j).cells]]
abbrev AEh (a0:Int)(a1:TableD):=decide (a0>=(↑a1.len:Int))
abbrev AFV (a0:TableD)(a1:Int):=!(a0.ps a1.toNat).zone.data.toList==(a0.ps a1.toNat).zone.data.toList
abbrev AEw (a0:RulesV)(a1:TableD):=[ov a0.cells,ov (JX a1)]
noncomputable abbrev AFJ:=cB (cB (cR (cR (cB (cL (cR (cR (cB (AFI)))))))))
noncomputable abbrev AFK (a0:Bool)(a1:Nat)(a2:Nat->ResD)(a3:Nat)(a4:Nat->Int)(a5:Bool)(a6:Nat)(a7:Nat->Int)(a8:Bool)(a9:Bool)(a10:Nat)(a11:Nat->Int)(a12:Nat)(a13:Nat->Int)(a14:Int)(a15:Int)(a16:Nat->List Int)(a17:List Int)(a18:Int):=frame 179 [(0,sl a0 13 a1 fun j=>(a2 j).cells),(1,nums true a3 a4),(2,nums a5 a6 a7),(4,.bool a8),(5,nums a9 a10 a11),(9,.ptr 0 0),(13,.ptr 1 0),(16,(sl true 1 a12 fun j=>(Nz a13 j))),(18,.int .i64 a14),(19,.int .i64 a15),(72,(AEs a12 a16)),(73,.int .i64 a12),(74,.int .i64 a15),(79,FV a17),(80,.int .i64 a17.length),(81,.int .i64 a18)]
theorem AGx (n0:Bool)(N:Nat)(rs:Nat->ResD)(m:Nat)(w:Nat->Int)(n2:Bool)(m2:Nat)(o:Nat->Int)(R:RulesV)(fin:Bool)(n3:Bool)(ln:Nat)(lw:Nat->Int)(t:TableD)(L:Nat)(gs:Nat->List Int)(bs:Nat->Int)(nx:Int)(i:Int)(Gr:List Int)(k:Int)(hk0:0<=k)(hkn:k<=nx)(hi0:0<=i)(hiL:i<L)(hL:L<=100000)(hl:t.len<=100000)(hg:Gr.length<=100000)(hnl:nx<t.len)(hkg:k<Gr.length)(hcl:(t.ps nx.toNat).row.club=Gr.getD k.toNat 0)(hrk:(t.ps nx.toNat).rank=nx - k+1)(hk:k=0)(hn:nx=0)(hby:(t.ps nx.toNat).by'=bs i.toNat)(ih21:sP 21 [ag R.cells,iv m,iv (nx - k+1)] (sv (Ac t nx).zone))(q0:((t.ps nx.toNat).row.club != Gr.getD k.toNat 0)=false)(q1:((t.ps nx.toNat).rank != nx - k+1)=false)(q2:((t.ps nx.toNat).by' != bs i.toNat)=false):sR 2 (AFJ) (AFK n0 N rs m w n2 m2 o fin n3 ln lw L bs nx i gs Gr k) ((AEv R t)) (xN,(frame 179 [(0,sl n0 13 N fun i=>(rs i).cells),(1,sl true 1 m fun i=>[iv (w i)]),(2,sl n2 1 m2 fun i=>[iv (o i)]),(4,bv fin),(5,sl n3 1 ln fun i=>(BN lw i)),(9,pt 0 0),(13,pt 1 0),(16,sl true 1 L fun i=>(BN bs i)),(18,iv (nx+1)),(19,iv i),(72,sl true 1 L fun i=>(AEX gs i)),(73,iv ↑L),(74,iv i),(79,sl true 1 Gr.length fun i=>(E7 Gr i)),(80,iv ↑Gr.length),(81,iv (k+1))]),(AEw R t)):=
 kR [[((Ac t nx).row.club != Gr.getD k.toNat 0,false),((Ac t nx).rank != nx - k+1,false),((Ac t nx).by' != bs i.toNat,false)]] (.mk (dS 0x1aabbbbbbaaa00000a0a001111122222222a2a222bbaa) [] [some (sv (Ac t nx).zone)] [] []) (kO (kz q0 (kz q1 (kz q2 AD)))) (oI ((inR IntKind.i64 (k+1))=true) (oI ((inR IntKind.i64 (nx+1))=true) (oI ((Ap nx)=false) (oI ((AFV t nx)=false) (.cons ih21 (oI ((inR IntKind.i64 (nx - k+1))=true) (oI ((inR IntKind.i64 (nx - k))=true) (oI ((inR IntKind.i64 (nx - k+1))=true) (oI ((inR IntKind.i64 (nx - k))=true) (oJ ((inB i L)=true) (oI ((k==0)=true) (oJ ((inB nx t.len)=true) (oI ((decide (i>=↑L))=false) (oI ((AEh nx t)=false) (oI ((AEh nx t)=false) (oI ((AEh nx t)=false) (oI ((AEh nx t)=false) (oI ((AEh nx t)=false) (oJ ((inB k Gr.length)=true) (oI ((AEn k Gr)=true) .nil)))))))))))))))))))) 4264296934031289628828215 3 [0,1] 2
theorem AGy (n0:Bool)(N:Nat)(rs:Nat->ResD)(m:Nat)(w:Nat->Int)(n2:Bool)(m2:Nat)(o:Nat->Int)(R:RulesV)(fin:Bool)(n3:Bool)(ln:Nat)(lw:Nat->Int)(t:TableD)(L:Nat)(gs:Nat->List Int)(bs:Nat->Int)(nx:Int)(i:Int)(Gr:List Int)(k:Int)(hk0:0<=k)(hkn:k<=nx)(hi0:0<=i)(hiL:i<L)(hL:L<=100000)(hl:t.len<=100000)(hg:Gr.length<=100000)(hnl:nx<t.len)(hkg:k<Gr.length)(hcl:(t.ps nx.toNat).row.club=Gr.getD k.toNat 0)(hrk:(t.ps nx.toNat).rank=nx - k+1)(hk:k=0)(hn:0<nx)(hby:(t.ps nx.toNat).by'=bs i.toNat)(ih21:sP 21 [ag R.cells,iv m,iv (nx - k+1)] (sv (Ac t nx).zone))(ih22:sP 22 [sl n0 13 N fun j=>(rs j).cells,AHC m w,AM n2 m2 o,ag R.cells,bv fin,AM n3 ln lw,iv (t.ps (nx - 1).toNat).row.club,iv (Gr.getD k.toNat 0)] (tu [iv (Ac t nx).by',iv 0]))(q0:((t.ps nx.toNat).row.club != Gr.getD k.toNat 0)=false)(q1:((t.ps nx.toNat).rank != nx - k+1)=false)(q2:((t.ps nx.toNat).by' != bs i.toNat)=false)(q3:((t.ps nx.toNat).by' != (t.ps nx.toNat).by')=false):sR 2 (AFJ) (AFK n0 N rs m w n2 m2 o fin n3 ln lw L bs nx i gs Gr k) ((AEv R t)) (xN,(frame 179 [(0,sl n0 13 N fun i=>(rs i).cells),(1,sl true 1 m fun i=>[iv (w i)]),(2,sl n2 1 m2 fun i=>[iv (o i)]),(4,bv fin),(5,sl n3 1 ln fun i=>(BN lw i)),(9,pt 0 0),(13,pt 1 0),(16,sl true 1 L fun i=>(BN bs i)),(18,iv (nx+1)),(19,iv i),(72,sl true 1 L fun i=>(AEX gs i)),(73,iv ↑L),(74,iv i),(79,sl true 1 Gr.length fun i=>(E7 Gr i)),(80,iv ↑Gr.length),(81,iv (k+1))]),(AEw R t)):=
 kR [[((Ac t nx).row.club != Gr.getD k.toNat 0,false),((Ac t nx).rank != nx - k+1,false),((Ac t nx).by' != bs i.toNat,false),((Ac t nx).by' != (Ac t nx).by',false)]] (.mk (dS 0x1aabbbbbbaaa00000a0a001111122222222a2a222baaa053eaa) [] [some (sv (Ac t nx).zone),some (tu [iv (Ac t nx).by',iv 0])] [] []) (kO (kz q0 (kz q1 (kz q2 (kz q3 AD))))) (oI ((inR IntKind.i64 (k+1))=true) (oI ((inR IntKind.i64 (nx+1))=true) (.cons ih22 (oJ ((inB (nx - 1) t.len)=true) (oI ((inR IntKind.i64 (nx - 1))=true) (oI ((Ap nx)=true) (oI ((AFV t nx)=false) (.cons ih21 (oI ((inR IntKind.i64 (nx - k+1))=true) (oI ((inR IntKind.i64 (nx - k))=true) (oI ((inR IntKind.i64 (nx - k+1))=true) (oI ((inR IntKind.i64 (nx - k))=true) (oJ ((inB i L)=true) (oI ((k==0)=true) (oJ ((inB nx t.len)=true) (oI ((decide (i>=↑L))=false) (oI ((AEh nx t)=false) (oI ((AEh nx t)=false) (oI ((AEh nx t)=false) (oI ((AEh nx t)=false) (oI ((AEh nx t)=false) (oJ ((inB k Gr.length)=true) (oI ((AEn k Gr)=true) .nil))))))))))))))))))))))) 4264296934031289628828215 3 [0,1] 2
theorem AGz (n0:Bool)(N:Nat)(rs:Nat->ResD)(m:Nat)(w:Nat->Int)(n2:Bool)(m2:Nat)(o:Nat->Int)(R:RulesV)(fin:Bool)(n3:Bool)(ln:Nat)(lw:Nat->Int)(t:TableD)(L:Nat)(gs:Nat->List Int)(bs:Nat->Int)(nx:Int)(i:Int)(Gr:List Int)(k:Int)(hk0:0<=k)(hkn:k<=nx)(hi0:0<=i)(hiL:i<L)(hL:L<=100000)(hl:t.len<=100000)(hg:Gr.length<=100000)(hnl:nx<t.len)(hkg:k<Gr.length)(hcl:(t.ps nx.toNat).row.club=Gr.getD k.toNat 0)(hrk:(t.ps nx.toNat).rank=nx - k+1)(hk:0<k)(hn:0<nx)(hby:(t.ps nx.toNat).by'=0)(ih21:sP 21 [ag R.cells,iv m,iv (nx - k+1)] (sv (Ac t nx).zone))(ih22:sP 22 [sl n0 13 N fun j=>(rs j).cells,AHC m w,AM n2 m2 o,ag R.cells,bv fin,AM n3 ln lw,iv (t.ps (nx - 1).toNat).row.club,iv (Gr.getD k.toNat 0)] (tu [iv (Ac t nx).by',iv 0]))(q0:((t.ps nx.toNat).row.club != Gr.getD k.toNat 0)=false)(q1:((t.ps nx.toNat).rank != nx - k+1)=false)(q2:((t.ps nx.toNat).by' != 0)=false)(q3:((t.ps nx.toNat).by' != (t.ps nx.toNat).by')=false):sR 2 (AFJ) (AFK n0 N rs m w n2 m2 o fin n3 ln lw L bs nx i gs Gr k) ((AEv R t)) (xN,(frame 179 [(0,sl n0 13 N fun i=>(rs i).cells),(1,sl true 1 m fun i=>[iv (w i)]),(2,sl n2 1 m2 fun i=>[iv (o i)]),(4,bv fin),(5,sl n3 1 ln fun i=>(BN lw i)),(9,pt 0 0),(13,pt 1 0),(16,sl true 1 L fun i=>(BN bs i)),(18,iv (nx+1)),(19,iv i),(72,sl true 1 L fun i=>(AEX gs i)),(73,iv ↑L),(74,iv i),(79,sl true 1 Gr.length fun i=>(E7 Gr i)),(80,iv ↑Gr.length),(81,iv (k+1))]),(AEw R t)):=
 kR [[((Ac t nx).row.club != Gr.getD k.toNat 0,false),((Ac t nx).rank != nx - k+1,false),((Ac t nx).by' != 0,false),((Ac t nx).by' != (Ac t nx).by',false)]] (.mk (dS 0x1aabbbbbbab00000a0a001111122222222a2a222baaa053eaa) [] [some (sv (Ac t nx).zone),some (tu [iv (Ac t nx).by',iv 0])] [] []) (kO (kz q0 (kz q1 (kz q2 (kz q3 AD))))) (oI ((inR IntKind.i64 (k+1))=true) (oI ((inR IntKind.i64 (nx+1))=true) (.cons ih22 (oJ ((inB (nx - 1) t.len)=true) (oI ((inR IntKind.i64 (nx - 1))=true) (oI ((Ap nx)=true) (oI ((AFV t nx)=false) (.cons ih21 (oI ((inR IntKind.i64 (nx - k+1))=true) (oI ((inR IntKind.i64 (nx - k))=true) (oI ((inR IntKind.i64 (nx - k+1))=true) (oI ((inR IntKind.i64 (nx - k))=true) (oI ((k==0)=false) (oJ ((inB nx t.len)=true) (oI ((decide (i>=↑L))=false) (oI ((AEh nx t)=false) (oI ((AEh nx t)=false) (oI ((AEh nx t)=false) (oI ((AEh nx t)=false) (oI ((AEh nx t)=false) (oJ ((inB k Gr.length)=true) (oI ((AEn k Gr)=true) .nil)))))))))))))))))))))) 4264296934031289628828215 3 [0,1] 2
section
variable (n0:Bool)(N:Nat)(rs:Nat->ResD)(m:Nat)(w:Nat->Int)(n2:Bool)(m2:Nat)(o:Nat->Int)(R:RulesV)(fin:Bool)(n3:Bool)(ln:Nat)(lw:Nat->Int)(t:TableD)(L:Nat)(gs:Nat->List Int)(bs:Nat->Int)(nx:Int)(i:Int)
include n0 N rs m w n2 m2 o R fin n3 ln lw t L gs bs nx i
theorem AG0 (Gr:List Int)(k:Int)(hk:Gr.length<=k):sR 2 (AFJ) (AFK n0 N rs m w n2 m2 o fin n3 ln lw L bs nx i gs Gr k) ((AEv R t)) (xL 2,(frame 179 [(0,sl n0 13 N fun i=>(rs i).cells),(1,sl true 1 m fun i=>[iv (w i)]),(2,sl n2 1 m2 fun i=>[iv (o i)]),(4,bv fin),(5,sl n3 1 ln fun i=>(BN lw i)),(9,pt 0 0),(13,pt 1 0),(16,sl true 1 L fun i=>(BN bs i)),(18,iv nx),(72,sl true 1 L fun i=>(AEX gs i)),(73,iv ↑L),(74,iv i)]),(AEw R t)):=
 kR [[]] (.mk (dS 27) [] [] [] []) (kO AD) (oI ((AEn k Gr)=false) .nil) 33056565380087516832311 3 [0,1] 2
theorem AG1 (ny:Int)(h0:0<=i)(h3:L<=100000)(ih:i<L->sL (cB (cR (cR (cB (cL (cR (cR (cB (cB (cR (cL (cR (cR (cR (cR (cR (cR (cR (AB prog 6))))))))))))))))))) (frame 179 [(0,sl n0 13 N fun j=>(rs j).cells),(1,nums true m w),(2,nums n2 m2 o),(4,.bool fin),(5,nums n3 ln lw),(9,.ptr 0 0),(13,.ptr 1 0),(16,(sl true 1 L fun j=>[iv (bs j)])),(18,.int .i64 nx),(19,.int .i64 i),(72,(sl true 1 L fun j=>[sl true 1 (gs j).length fun i=>[iv ((gs j).getD i 0)]])),(73,.int .i64 L),(74,.int .i64 i),(79,FV (gs i.toNat)),(80,.int .i64 (gs i.toNat).length),(81,.int .i64 0)]) [ov R.cells,ov [.int .i64 t.season,.int .i64 t.comp,.isl t.nn 14 t.len fun j=>(t.ps j).cells]] ((xL 2,frame 179 [(0,sl n0 13 N fun j=>(rs j).cells),(1,nums true m w),(2,nums n2 m2 o),(4,.bool fin),(5,nums n3 ln lw),(9,.ptr 0 0),(13,.ptr 1 0),(16,(sl true 1 L fun j=>[iv (bs j)])),(18,.int .i64 ny),(72,(sl true 1 L fun j=>[sl true 1 (gs j).length fun i=>[iv ((gs j).getD i 0)]])),(73,.int .i64 L),(74,.int .i64 i)],[ov R.cells,ov [.int .i64 t.season,.int .i64 t.comp,.isl t.nn 14 t.len fun j=>(t.ps j).cells]]):RC))(q0:AH i L):sR 2 (cB (AFI)) (frame 179 [(0,sl n0 13 N fun j=>(rs j).cells),(1,nums true m w),(2,nums n2 m2 o),(4,.bool fin),(5,nums n3 ln lw),(9,.ptr 0 0),(13,.ptr 1 0),(16,(sl true 1 L fun j=>(BN bs j))),(18,.int .i64 nx),(72,(AEs L gs)),(73,.int .i64 L),(74,.int .i64 i)]) ((AEv R t)) (xN,(frame 179 [(0,sl n0 13 N fun i=>(rs i).cells),(1,sl true 1 m fun i=>[iv (w i)]),(2,sl n2 1 m2 fun i=>[iv (o i)]),(4,bv fin),(5,sl n3 1 ln fun i=>(BN lw i)),(9,pt 0 0),(13,pt 1 0),(16,sl true 1 L fun i=>(BN bs i)),(18,iv ny),(72,sl true 1 L fun i=>(AEX gs i)),(73,iv ↑L),(74,iv (i+1))]),(AEw R t)):=
 kR [[AG i L]] (.mk (dS 4266) [(12,.is 4264296934031289628828215 3 (xL 2,(frame 179 [(0,sl n0 13 N fun i=>(rs i).cells),(1,sl true 1 m fun i=>[iv (w i)]),(2,sl n2 1 m2 fun i=>[iv (o i)]),(4,bv fin),(5,sl n3 1 ln fun i=>(BN lw i)),(9,pt 0 0),(13,pt 1 0),(16,sl true 1 L fun i=>(BN bs i)),(18,iv ny),(72,sl true 1 L fun i=>(AEX gs i)),(73,iv ↑L),(74,iv i)]),(AEw R t)))] [] [] []) (kO (kz q0 AD)) (oI ((inR IntKind.i64 (i+1))=true) (.cons (ih (by simp_all)) (oJ ((inB i L)=true) .nil))) 33056565380087516832311 3 [0,1] 2
theorem AG2 (ny:Int)(h0:0<=i)(h3:L<=100000)(ih:i<L->sL (cB (cR (cR (cB (cL (cR (cR (cB (cB (cR (cL (cR (cR (cR (cR (cR (cR (cR (AB prog 6))))))))))))))))))) (frame 179 [(0,sl n0 13 N fun j=>(rs j).cells),(1,nums true m w),(2,nums n2 m2 o),(4,.bool fin),(5,nums n3 ln lw),(9,.ptr 0 0),(13,.ptr 1 0),(16,(sl true 1 L fun j=>[iv (bs j)])),(18,.int .i64 nx),(19,.int .i64 i),(72,(sl true 1 L fun j=>[sl true 1 (gs j).length fun i=>[iv ((gs j).getD i 0)]])),(73,.int .i64 L),(74,.int .i64 i),(79,FV (gs i.toNat)),(80,.int .i64 (gs i.toNat).length),(81,.int .i64 0)]) [ov R.cells,ov [.int .i64 t.season,.int .i64 t.comp,.isl t.nn 14 t.len fun j=>(t.ps j).cells]] ((xL 2,frame 179 [(0,sl n0 13 N fun j=>(rs j).cells),(1,nums true m w),(2,nums n2 m2 o),(4,.bool fin),(5,nums n3 ln lw),(9,.ptr 0 0),(13,.ptr 1 0),(16,(sl true 1 L fun j=>[iv (bs j)])),(18,.int .i64 ny),(72,(sl true 1 L fun j=>[sl true 1 (gs j).length fun i=>[iv ((gs j).getD i 0)]])),(73,.int .i64 L),(74,.int .i64 i)],[ov R.cells,ov [.int .i64 t.season,.int .i64 t.comp,.isl t.nn 14 t.len fun j=>(t.ps j).cells]]):RC))(q0:Af i L):sR 2 (cB (AFI)) (frame 179 [(0,sl n0 13 N fun j=>(rs j).cells),(1,nums true m w),(2,nums n2 m2 o),(4,.bool fin),(5,nums n3 ln lw),(9,.ptr 0 0),(13,.ptr 1 0),(16,(sl true 1 L fun j=>(BN bs j))),(18,.int .i64 nx),(72,(AEs L gs)),(73,.int .i64 L),(74,.int .i64 i)]) ((AEv R t)) (xL 0,(frame 179 [(13,pt 1 0),(18,iv nx)]),(AEw R t)):=
 kR (Ae i L) (.mk (dS 16) [] [] [] []) (kO (kz q0 AD)) .nil 270336 3 [0,1] 2
end
section
variable (n0:Bool)(N:Nat)(rs:Nat->ResD)(n1:Bool)(m:Nat)(w:Nat->Int)(n2:Bool)(m2:Nat)(o:Nat->Int)(R:RulesV)(fin:Bool)(n3:Bool)(ln:Nat)(lw:Nat->Int)
include n0 N rs n1 m w n2 m2 o R fin n3 ln lw
theorem t6F (ihs:sP 7 [] (bv true))(ihf:sP 8 [AK n0 N rs,AM n1 m w,AM n2 m2 o,AM n3 ln lw,ag R.cells] (bv false)):sP 6 [AK n0 N rs,AA n1 m w,AA n2 m2 o,ag R.cells,bv fin,AA n3 ln lw] (bv true):=
 kP [] (.mk [] [] [some (bv true),some (bv false)] [] []) KOk.nil (.cons ihf (.cons ihs .nil))
theorem t6Z (hz:(R.zn:Int)>20)(ihs:sP 7 [] (bv true))(ihf:sP 8 [AK n0 N rs,AM n1 m w,AM n2 m2 o,AM n3 ln lw,ag R.cells] (bv true)):sP 6 [AK n0 N rs,AA n1 m w,AA n2 m2 o,ag R.cells,bv fin,AA n3 ln lw] (bv true):=
 kP [] (.mk (dS 67246) [] [some (bv true),some (bv true)] [] []) KOk.nil (oI ((decide ((↑R.zn:Int)>20))=true) (.cons ihf (.cons ihs .nil)))
theorem t6E (e:Int)(hz:(R.zn:Int)<=20)(he:e≠0)(ihs:sP 7 [] (bv true))(ihf:sP 8 [AK n0 N rs,AM n1 m w,AM n2 m2 o,AM n3 ln lw,ag R.cells] (bv true))(iho:sP 9 [AK n0 N rs,AM n1 m w,AM n2 m2 o,ag R.cells,bv fin,AM n3 ln lw] (tu [ag [iv 0,iv 0,AHF],iv e]))(ihr:sP 20 [AK n0 N rs,AM n1 m w,AM n2 m2 o,ag R.cells,bv fin,AM n3 ln lw] (tu [AHF,AHF,iv e])):sP 6 [AK n0 N rs,AA n1 m w,AA n2 m2 o,ag R.cells,bv fin,AA n3 ln lw] (bv (e==e)):=
 kP [] (.mk (dS 275507882) [] [some (bv true),some (bv true),some (tu [ag [iv 0,iv 0,BC],iv e]),some (tu [BC,BC,iv e])] [] []) KOk.nil (oI ((e != 0)=true) (oI ((e != 0)=true) (oI ((e != 0)=true) (.cons ihr (.cons iho (oI ((decide ((↑R.zn:Int)>20))=false) (.cons ihf (.cons ihs .nil))))))))
end
theorem t6O (n0:Bool)(N:Nat)(rs:Nat->ResD)(n1:Bool)(m:Nat)(w:Nat->Int)(n2:Bool)(m2:Nat)(o:Nat->Int)(R:RulesV)(fin:Bool)(n3:Bool)(ln:Nat)(lw:Nat->Int)(t:TableD)(L:Nat)(gs:Nat->List Int)(bs:Nat->Int)(hz:(R.zn:Int)<=20)(ihs:sP 7 [] (bv true))(ihf:sP 8 [AK n0 N rs,AHC m w,AM n2 m2 o,AM n3 ln lw,ag R.cells] (bv true))(iho:sP 9 [AK n0 N rs,AHC m w,AM n2 m2 o,ag R.cells,bv fin,AM n3 ln lw] (tu [t.ev,iv 0]))(ihr:sP 20 [AK n0 N rs,AHC m w,AM n2 m2 o,ag R.cells,bv fin,AM n3 ln lw] (tu [(AEs L gs),(sl true 1 L fun j=>(BN bs j)),iv 0]))(ihl:sL (AFI) (frame 179 [(0,sl n0 13 N fun j=>(rs j).cells),(1,nums true m w),(2,nums n2 m2 o),(4,.bool fin),(5,nums n3 ln lw),(9,.ptr 0 0),(13,.ptr 1 0),(16,(sl true 1 L fun j=>(BN bs j))),(18,.int .i64 0),(72,(AEs L gs)),(73,.int .i64 L),(74,.int .i64 0)]) (AEv R t) ((xL 0,frame 179 [(13,.ptr 1 0),(18,.int .i64 t.len)],(AEv R t)):RC)):sP 6 [AK n0 N rs,Bm m w,AA n2 m2 o,ag R.cells,bv fin,AA n3 ln lw] (bv ((↑t.len:Int)==(↑t.len:Int))):=
 kP [] (.mk (dS 67262) [(27,.is 33056565380087516832311 3 (xL 0,(frame 179 [(13,pt 1 0),(18,iv ↑t.len)]),(AEw R t)))] [some (bv true),some (bv true),some (tu [ag (JX t),iv 0]),some (tu [AEa L gs,Bm L bs,iv 0])] [] []) KOk.nil (.cons ihl (.cons ihr (.cons iho (oI ((decide ((↑R.zn:Int)>20))=false) (.cons ihf (.cons ihs .nil))))))
theorem AF1 {A B:List PlaceD}{k:Nat}(hk:k<A.length):DC (A++B) k=DC A k:=by
 unfold DC
 rw [List.getD_eq_getElem?_getD,List.getD_eq_getElem?_getD,List.getElem?_append_left hk]
theorem AFq {A B:List PlaceD}{k:Nat}:DC (A++B) (A.length+k)=DC B k:=by
 unfold DC
 rw [List.getD_eq_getElem?_getD,List.getD_eq_getElem?_getD,List.getElem?_append_right (by omega),Nat.add_sub_cancel_left]
def AEi (Lg:List (List Int×Int))(i:Nat):Nat:=((Lg.take i).map Prod.fst).flatten.length
section
variable (Z:Int->ByteArray)(row:Int->RowD)
theorem AF5 (rank:Int):∀ (b:Int) (G:List Int) (k:Nat),k<G.length->DC (grp Z row rank b G) k=⟨rank,if k=0 then b else 0,Z rank,row (G.getD k 0)⟩
 | b,c :: cs,0,_=>rfl
 | b,c :: cs,k+1,h=>by
  rw [grp]
  show DC (grp Z row rank 0 cs) k=_
  rw [AF5 rank 0 cs k (by simpa using h)]
  simp
theorem AFh:∀ (R:List (List Int×Int)) (s i k:Nat),i<R.length->k<(C6 R i).length->DC (placesOf Z row s R) (AEi R i+k)=⟨((s+AEi R i:Nat):Int)+1,if k=0 then Dc R i else 0,Z (((s+AEi R i:Nat):Int)+1),row ((C6 R i).getD k 0)⟩/\AEi R i+k<(placesOf Z row s R).length
 | x :: R,s,0,k,hi,hk=>by
  have e:AEi (x :: R) 0=0:=rfl
  have hk':k<x.1.length:=hk
  rw [e,Nat.zero_add,Nat.add_zero,placesOf]
  refine ⟨?_,by rw [List.length_append,HM]; omega⟩
  rw [AF1 (by rw [HM]; exact hk'),AF5 Z row _ _ _ k hk']
  rfl
 | x :: R,s,i+1,k,hi,hk=>by
  have e:AEi (x :: R) (i+1)=x.1.length+AEi R i:=by
   unfold AEi
   rw [List.take_succ_cons,List.map_cons,List.flatten_cons,List.length_append]
  obtain ⟨h1,h2⟩:=AFh R (s+x.1.length) i k (by simpa using hi) hk
  rw [placesOf,e]
  refine ⟨?_,by rw [List.length_append,HM]; omega⟩
  have h3:=AFq (A:=grp Z row ((s:Int)+1) x.2 x.1) (B:=placesOf Z row (s+x.1.length) R) (k:=AEi R i+k)
  rw [HM,<-Nat.add_assoc] at h3
  rw [h3,h1,<-Nat.add_assoc]
  rfl
end
theorem AF6 (Lg:List (List Int×Int)):AEi Lg Lg.length=(Lg.map Prod.fst).flatten.length:=by
 unfold AEi
 rw [List.take_length]
theorem AFi (Lg:List (List Int×Int))(i:Nat)(hi:i<Lg.length):AEi Lg (i+1)=AEi Lg i+(C6 Lg i).length:=by
 unfold AEi
 rw [List.take_succ_eq_append_getElem hi,List.map_append,List.flatten_append,List.length_append]
 simp only [List.map_cons,List.map_nil,List.flatten_cons,List.flatten_nil,List.append_nil]
 unfold C6
 rw [List.getD_eq_getElem?_getD,List.getElem?_eq_getElem hi,Option.getD_some]
structure GrOk (m:Nat) (Z:Int->Int->ByteArray) (w:Nat->Int) (bt:Int->Int->Int) (t:TableD) (Lg:List (List Int×Int)):Prop where
 len:t.len=AEi Lg Lg.length
 few:t.len<=1000
 ne:∀ i,i<Lg.length->0<(C6 Lg i).length
 pl:∀ i k,i<Lg.length->k<(C6 Lg i).length->(t.ps (AEi Lg i+k)).row.club=(C6 Lg i).getD k 0/\(t.ps (AEi Lg i+k)).rank=(AEi Lg i:Int)+1/\(t.ps (AEi Lg i+k)).by'=(if k=0 then Dc Lg i else 0)/\(t.ps (AEi Lg i+k)).zone=Z m ((AEi Lg i:Int)+1)/\AEi Lg i+k<t.len
 inw:∀ i c,i<Lg.length->c∈C6 Lg i->inW m w c=true
 same:∀ i a c,i<Lg.length->a∈C6 Lg i->c∈C6 Lg i->bt a c=0
 next:∀ i a c,i+1<Lg.length->a∈C6 Lg i->c∈C6 Lg (i+1)->bt a c=Dc Lg (i+1)
theorem AFO {G:List Int}{k:Nat}(h:k<G.length):G.getD k 0∈G:=by
 rw [List.getD_eq_getElem?_getD,List.getElem?_eq_getElem h,Option.getD_some]
 exact List.getElem_mem h
noncomputable abbrev AG3:Code:=cB (cB (cR (cR (cB (cL (cR (cR (cB (cB (cR (cL (cR (cR (cR (cR (cR (cR (cR (AB prog 6)))))))))))))))))))
noncomputable abbrev AG4:Code:=cB (cB (cR (cL (cR (cR (cR (cR (cR (cR (cR (AB prog 6)))))))))))
section
variable (n0:Bool)(N:Nat)(rs:Nat->ResD)(m:Nat)(w:Nat->Int)(n2:Bool)(m2:Nat)(o:Nat->Int)(R:RulesV)(fin:Bool)(n3:Bool)(ln:Nat)(lw:Nat->Int)(t:TableD)(Lg:List (List Int×Int))
def g6L:List (Nat×EV):=[(0,EV.isl n0 13 N fun j=>(rs j).cells),(1,nums true m w),(2,nums n2 m2 o),(4,.bool fin),(5,nums n3 ln lw),(9,.ptr 0 0),(13,.ptr 1 0),(16,EV.isl true 1 Lg.length fun j=>[EV.int .i64 (Dc Lg j)])]
def g6E:EV:=EV.isl true 1 Lg.length fun j=>[EV.isl true 1 (C6 Lg j).length fun i=>[EV.int .i64 ((C6 Lg j).getD i 0)]]
noncomputable def g6I (nx i:Int)(G:List Int)(k:Int):List EV:=frame 179 (g6L n0 N rs m w n2 m2 o fin n3 ln lw Lg++[(18,.int .i64 nx),(19,.int .i64 i),(72,g6E Lg),(73,.int .i64 Lg.length),(74,.int .i64 i),(79,FV G),(80,.int .i64 G.length),(81,.int .i64 k)])
noncomputable def g6T (nx i:Int):List EV:=frame 179 (g6L n0 N rs m w n2 m2 o fin n3 ln lw Lg++[(18,.int .i64 nx),(72,g6E Lg),(73,.int .i64 Lg.length),(74,.int .i64 i)])
abbrev g6H:AL:=[EObj.var false true R.cells,EObj.var false true [.int .i64 t.season,.int .i64 t.comp,.isl t.nn 14 t.len fun j=>(t.ps j).cells]]
variable {n0 N rs m w n2 m2 o R fin n3 ln lw t Lg}{Z:Int->Int->ByteArray}{bt:Int->Int->Int}(hO:GrOk m Z w bt t Lg)(hL:Lg.length<=1000)
 (hZ:∀ c k,sP 21 [EV.agg R.cells,EV.int .i64 c,EV.int .i64 k] (EV.str (Z c k)))
 (hB:∀ a c,inW m w a=true->inW m w c=true->sP 22 [EV.isl n0 13 N fun i=>(rs i).cells,nums true m w,nums n2 m2 o,EV.agg R.cells,EV.bool fin,nums n3 ln lw,EV.int .i64 a,EV.int .i64 c] (EV.tuple [.int .i64 (bt a c),.int .i64 0]))
include hO hL hZ hB
theorem AG5 (i:Nat)(hi:i<Lg.length):∀ (j k:Nat),k+j=(C6 Lg i).length->
  sLR 2 AG3 (g6I n0 N rs m w n2 m2 o fin n3 ln lw Lg ((AEi Lg i+k:Nat):Int) i (C6 Lg i) k) (g6H R t) (EX.leave 2,g6T n0 N rs m w n2 m2 o fin n3 ln lw Lg ((AEi Lg (i+1):Nat):Int) i,g6H R t)
 | 0,k,h=>by
  obtain rfl:k=(C6 Lg i).length:=by omega
  rw [AFi Lg i hi]
  exact SemLR.lastR (AG0 n0 N rs m w n2 m2 o R fin n3 ln lw t Lg.length (C6 Lg) (Dc Lg) _ i (C6 Lg i) (C6 Lg i).length (by omega)) (by simp)
 | j+1,k,h=>by
  have hk:k<(C6 Lg i).length:=by omega
  obtain ⟨p1,p2,p3,p4,p5⟩:=hO.pl i k hi hk
  have ih:=AG5 i hi j (k+1) (by omega)
  rw [show ((AEi Lg i+(k+1):Nat):Int)=((AEi Lg i+k:Nat):Int)+1 by omega,show ((k+1:Nat):Int)=(k:Int)+1 by omega] at ih
  refine SemLR.stepR ?_ ih
  have hf:=hO.few
  have hglen:(C6 Lg i).length<=1000:=by
   have h1:=(hO.pl i ((C6 Lg i).length - 1) hi (by omega)).2.2.2.2
   omega
  have hz:sP 21 [EV.agg R.cells,EV.int .i64 m,EV.int .i64 (((AEi Lg i+k:Nat):Int) - k+1)] (EV.str (t.ps ((AEi Lg i+k:Nat):Int).toNat).zone):=by
   rw [Int.toNat_natCast,p4,show ((AEi Lg i+k:Nat):Int) - k+1=(AEi Lg i:Int)+1 by omega]
   exact hZ _ _
  have r1:(t.ps ((AEi Lg i+k:Nat):Int).toNat).row.club=(C6 Lg i).getD (k:Int).toNat 0:=by
   rw [Int.toNat_natCast,Int.toNat_natCast]; exact p1
  have r2:(t.ps ((AEi Lg i+k:Nat):Int).toNat).rank=((AEi Lg i+k:Nat):Int) - k+1:=by
   rw [Int.toNat_natCast,p2]; omega
  have q0:((t.ps ((AEi Lg i+k:Nat):Int).toNat).row.club != (C6 Lg i).getD (k:Int).toNat 0)=false:=by simpa using r1
  have q1:((t.ps ((AEi Lg i+k:Nat):Int).toNat).rank != ((AEi Lg i+k:Nat):Int) - k+1)=false:=by rw [r2]; exact bne_self_eq_false _
  have mem:=AFO hk
  have hsub:0<AEi Lg i+k->(((AEi Lg i+k:Nat):Int) - 1).toNat=AEi Lg i+k - 1:=fun _=>by omega
  rcases Nat.eq_zero_or_pos k with rfl | hk0
  ·have r3:(t.ps ((AEi Lg i+0:Nat):Int).toNat).by'=Dc Lg (i:Int).toNat:=by
    rw [Int.toNat_natCast,Int.toNat_natCast,p3,if_pos rfl]
   have q2:((t.ps ((AEi Lg i+0:Nat):Int).toNat).by' != Dc Lg (i:Int).toNat)=false:=by rw [r3]; exact bne_self_eq_false _
   rcases Nat.eq_zero_or_pos i with rfl | hi0
   ·exact AGx n0 N rs m w n2 m2 o R fin n3 ln lw t Lg.length (C6 Lg) (Dc Lg) _ _ (C6 Lg 0) _ (by omega) (by omega) (by omega) (by omega) (by omega) (by omega) (by omega) (by omega) (by omega) r1 r2 rfl rfl r3 hz q0 q1 q2
   ·have hprev:0<(C6 Lg (i - 1)).length:=hO.ne (i - 1) (by omega)
    have hoff:AEi Lg i=AEi Lg (i - 1)+(C6 Lg (i - 1)).length:=by
     have:=AFi Lg (i - 1) (by omega)
     rwa [Nat.sub_add_cancel hi0] at this
    obtain ⟨a1,_⟩:=hO.pl (i - 1) ((C6 Lg (i - 1)).length - 1) (by omega) (by omega)
    have ea:(t.ps (((AEi Lg i+0:Nat):Int) - 1).toNat).row.club=(C6 Lg (i - 1)).getD ((C6 Lg (i - 1)).length - 1) 0:=by
     rw [hsub (by omega),<-a1]
     congr 2
     congr 1
     omega
    have hm:(C6 Lg (i - 1)).getD ((C6 Lg (i - 1)).length - 1) 0∈C6 Lg (i - 1):=AFO (by omega)
    have hb:=hB _ _ (hO.inw (i - 1) _ (by omega) hm) (hO.inw i _ hi mem)
    have hnx:=hO.next (i - 1) _ _ (by omega) hm (by rw [Nat.sub_add_cancel hi0]; exact mem)
    rw [Nat.sub_add_cancel hi0] at hnx
    rw [hnx,<-ea] at hb
    have hb':sP 22 [EV.isl n0 13 N fun i=>(rs i).cells,nums true m w,nums n2 m2 o,EV.agg R.cells,EV.bool fin,nums n3 ln lw,EV.int .i64 (t.ps (((AEi Lg i+0:Nat):Int) - 1).toNat).row.club,EV.int .i64 ((C6 Lg i).getD ((0:Nat):Int).toNat 0)] (EV.tuple [.int .i64 (t.ps ((AEi Lg i+0:Nat):Int).toNat).by',.int .i64 0]):=by
     rw [r3,Int.toNat_natCast]
     exact hb
    exact AGy n0 N rs m w n2 m2 o R fin n3 ln lw t Lg.length (C6 Lg) (Dc Lg) _ _ (C6 Lg i) _ (by omega) (by omega) (by omega) (by omega) (by omega) (by omega) (by omega) (by omega) (by omega) r1 r2 rfl (by omega) r3 hz hb' q0 q1 q2 (bne_self_eq_false _)
  ·have r3:(t.ps ((AEi Lg i+k:Nat):Int).toNat).by'=0:=by
    rw [Int.toNat_natCast,p3,if_neg (by omega)]
   have q2:((t.ps ((AEi Lg i+k:Nat):Int).toNat).by' != 0)=false:=by rw [r3]; rfl
   obtain ⟨a1,_⟩:=hO.pl i (k - 1) hi (by omega)
   have ea:(t.ps (((AEi Lg i+k:Nat):Int) - 1).toNat).row.club=(C6 Lg i).getD (k - 1) 0:=by
    rw [hsub (by omega),<-a1]
    congr 2
    congr 1
    omega
   have hm:(C6 Lg i).getD (k - 1) 0∈C6 Lg i:=AFO (by omega)
   have hb:=hB _ _ (hO.inw i _ hi hm) (hO.inw i _ hi mem)
   rw [hO.same i _ _ hi hm mem,<-ea] at hb
   have hb':sP 22 [EV.isl n0 13 N fun i=>(rs i).cells,nums true m w,nums n2 m2 o,EV.agg R.cells,EV.bool fin,nums n3 ln lw,EV.int .i64 (t.ps (((AEi Lg i+k:Nat):Int) - 1).toNat).row.club,EV.int .i64 ((C6 Lg i).getD (k:Int).toNat 0)] (EV.tuple [.int .i64 (t.ps ((AEi Lg i+k:Nat):Int).toNat).by',.int .i64 0]):=by
    rw [r3,Int.toNat_natCast]
    exact hb
   exact AGz n0 N rs m w n2 m2 o R fin n3 ln lw t Lg.length (C6 Lg) (Dc Lg) _ _ (C6 Lg i) _ (by omega) (by omega) (by omega) (by omega) (by omega) (by omega) (by omega) (by omega) (by omega) r1 r2 (by omega) (by omega) r3 hz hb' q0 q1 q2 (bne_self_eq_false _)
theorem AG6:∀ (j i:Nat),i+j=Lg.length->
  sLR 2 AG4 (g6T n0 N rs m w n2 m2 o fin n3 ln lw Lg ((AEi Lg i:Nat):Int) i) (g6H R t) (EX.leave 0,frame 179 [(13,.ptr 1 0),(18,.int .i64 t.len)],g6H R t)
 | 0,i,h=>by
  obtain rfl:i=Lg.length:=by omega
  rw [hO.len]
  exact SemLR.lastR (AG2 n0 N rs m w n2 m2 o R fin n3 ln lw t Lg.length (C6 Lg) (Dc Lg) _ Lg.length 0 (by omega) (by omega) (fun h=>by omega) (by simp)) (by simp)
 | j+1,i,h=>by
  have hi:i<Lg.length:=by omega
  have hin:=SemLR.cl (path:=(cB (cR (cR (cB (cL (cR (cR (cB (cB (cR (cL (cR (cR (cR (cR (cR (cR (cR (AB prog 6)))))))))))))))))))) (AG5 hO hL hZ hB i hi (C6 Lg i).length 0 (by omega)) rfl (by kernel_rfl)
  have ih:=AG6 j (i+1) (by omega)
  rw [show ((i+1:Nat):Int)=(i:Int)+1 by omega] at ih
  exact SemLR.stepR (AG1 n0 N rs m w n2 m2 o R fin n3 ln lw t Lg.length (C6 Lg) (Dc Lg) _ i _ (by omega) (by omega) (fun _=>hin) (decide_eq_true (by omega))) ih
end
theorem AF7 {P:List Int×Int->List Int×Int->Prop}:∀ (l:List (List Int×Int)) (i:Nat),i+1<l.length->Adj P l->P (C6 l i,Dc l i) (C6 l (i+1),Dc l (i+1))
 | [],_,h,_=>by simp at h
 | [_],_,h,_=>by simp at h
 | x :: y :: l,0,_,h=>h.1
 | x :: y :: l,i+1,hi,h=>AF7 (y :: l) i (by simpa using hi) h.2
section
variable {kk:Nat}{n0:Bool}{n:Nat}{rs:Nat->ResD}{n1:Bool}{m:Nat}{w:Nat->Int}{n2:Bool}{m2:Nat}{o:Nat->Int}{n3:Bool}{ln:Nat}{lw:Nat->Int}{R:RulesV}{fin:Bool}{e1 e3:List (EV×EV)}{S:List Int->Int->List (List Int)}{Cr:Nat->List Int}{Z:Int->Int->ByteArray}
 (h:TabBy kk n0 n rs n1 m w n2 m2 o n3 ln lw R fin e1 e3 S Cr Z) (hn:n<=40) (hm:m<=8)
include h hn hm
theorem AFr:GrOk m Z w (fun a c=>AE7 a c (AEb S Cr 8 (AT m w)) 0) (Cs n rs m w o R Z (vis S Cr 8 (AT m w) 0)) (vis S Cr 8 (AT m w) 0):=by
 have hv:=Jd h hn hm
 have hlen:=Rq h hn hm
 have hcl:(AT m w).length=m:=by simp [AT]
 have h2:=h.ok.two
 obtain ⟨ha,hsame⟩:=AFN h.by_.split h.by_.rng 8 (AT m w) 0 (fun e=>by rw [e] at hcl; simp at hcl; omega) (IL h.ok.inc) (by omega) (by omega)
 have hoff:AEi (vis S Cr 8 (AT m w) 0) (vis S Cr 8 (AT m w) 0).length=m:=by
  rw [AF6,hv.all.length_eq,hcl]
 have hrow:∀ i k,i<(vis S Cr 8 (AT m w) 0).length->k<(C6 (vis S Cr 8 (AT m w) 0) i).length->(Cq m w (Az m w R.win R.draw R.loss rs n) o ((C6 (vis S Cr 8 (AT m w) 0) i).getD k 0)).club=(C6 (vis S Cr 8 (AT m w) 0) i).getD k 0:=fun i k hi hk=>NL h hn hm (QP hi) (AFO hk)
 refine ⟨?_,?_,fun i hi=>List.length_pos_iff.2 (hv.ne _ (QP hi)).1,fun i k hi hk=>?_,fun i c hi hc=>?_,fun i a c hi ha' hc=>?_,fun i a c hi ha' hc=>?_⟩
 ·rw [hoff]; exact hlen
 ·have e:(Cs n rs m w o R Z (vis S Cr 8 (AT m w) 0)).len=m:=hlen
  omega
 ·obtain ⟨p1,p2⟩:=AFh (Z m) (Cq m w (Az m w R.win R.draw R.loss rs n) o) (vis S Cr 8 (AT m w) 0) 0 i k hi hk
  rw [Nat.zero_add] at p1
  have e:(Cs n rs m w o R Z (vis S Cr 8 (AT m w) 0)).ps (AEi (vis S Cr 8 (AT m w) 0) i+k)=_:=p1
  rw [e]
  exact ⟨hrow i k hi hk,rfl,rfl,rfl,p2⟩
 ·obtain ⟨j,hj,rfl⟩:=Rp h hn hm (QP hi) hc
  exact Km.2 ⟨j,hj,rfl⟩
 ·exact hsame _ (QP hi) a ha' c hc 0
 ·exact AF7 _ i hi ha a ha' c hc 0
end
theorem law6 (hs:sP 7 [] (EV.bool true)){kk:Nat}(n0:Bool)(n:Nat)(rs:Nat->ResD)(n1:Bool)(m:Nat)(w:Nat->Int)(n2:Bool)(m2:Nat)(o:Nat->Int)(n3:Bool)(ln:Nat)(lw:Nat->Int)(R:RulesV)(fin:Bool)(ht:R.Tree kk)(hn0:n0=true∨n=0)(hn1:n1=true∨m=0):
  sP 6 (Jn n0 n rs n1 m w n2 m2 o n3 ln lw R fin) (EV.bool true):=by
 obtain ⟨few,hfew,hf⟩:=yA n0 n rs n1 m w n2 m2 o n3 ln lw R ht
 cases few with
 | false=>exact t6F n0 n rs n1 m w n2 m2 o R fin n3 ln lw hs hfew
 | true=>
  obtain ⟨f1,f2,f3,f4⟩:=hf rfl
  by_cases hz:(R.zn:Int)>20
  ·exact t6Z n0 n rs n1 m w n2 m2 o R fin n3 ln lw hz hs hfew
  ·rcases ACI kk n0 n rs n1 m w n2 m2 o n3 ln lw R fin (by omega) f2 (by omega) (by omega) ht hn0 hn1 with ⟨e,he,hr,ho⟩ | ⟨e1,e3,S,Cr,Z,hT,hr,ho⟩
   ·have:=t6E n0 n rs n1 m w n2 m2 o R fin n3 ln lw e (by omega) he hs hfew ho hr
    simpa using this
   ·obtain rfl:=hT.nn
    have hO:=AFr hT f1 f2
    have hlen:=Rq hT f1 f2
    have hL:(vis S Cr 8 (AT m w) 0).length<=1000:=by
     have h1:=(Jd hT f1 f2).len
     have h2:(AT m w).length=m:=by simp [AT]
     omega
    have hl:=SemLR.cl (path:=cB (cR (cL (cR (cR (cR (cR (cR (cR (cR (AB prog 6))))))))))) (AG6 hO hL hT.zone (fun a c ha hc=>AFl hT.by_ hT.ok.inc hT.ok.two f2 hT.opn ha hc) (vis S Cr 8 (AT m w) 0).length 0 (by omega)) rfl (by kernel_rfl)
    have:=t6O n0 n rs true m w n2 m2 o R fin n3 ln lw _ _ _ _ (by omega) hs hfew ho hr hl
    simpa using this
end Go.Ev
