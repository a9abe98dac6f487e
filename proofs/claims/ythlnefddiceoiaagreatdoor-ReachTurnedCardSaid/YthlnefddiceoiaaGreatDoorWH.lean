/- A part of the proof. -/
import Derived.Test.YthlnefddiceoiaaGreatDoorWD
import Derived.Test.YthlnefddiceoiaaGreatDoorWG
import Derived.Test.YthlnefddiceoiaaGreatDoorWE
import Derived.Test.YthlnefddiceoiaaGreatDoorWB
import Derived.ChangeArms
import Derived.ChangeShapes
import Derived.OpenShut
import Derived.FnData
import GoSem.ClaimJoined
set_option linter.unusedSimpArgs false
set_option linter.unusedVariables false
set_option linter.unusedSectionVars false
namespace Go.Ev
open Go.Proofs.Tryz (prog)
set_option maxRecDepth 100000
set_option maxHeartbeats 0
noncomputable abbrev HT:Code:=(cB (cR (cL (cR (cR (cR (AY prog 6)))))))
noncomputable abbrev ACP:Code:=(cB (cB (cR (cL (cR (cR (cR (AY prog 6))))))))
abbrev J8 (a0:uL)(a1:Int):=decide (a0.uZ (a1 - 1).toNat>=a0.uZ a1.toNat)
abbrev J9 (a0:uL)(a1:Int):=(decide (a0.uZ a1.toNat<0))=false
noncomputable abbrev AEQ (a0:uL):RC:=(EX.ret,(frame 158 [(1,pt 0 0),(2,iv 280),(3,iv ↑a0.n)]),[oV a0.cells])
noncomputable abbrev Dw (a0:uL)(a1:Int):=frame 158 [(1,pt 0 0),(3,iv a0.n),(4,iv a1)]
noncomputable abbrev AE2:=cB (cB (cR (cL (cR (cR (cR (AY prog 6)))))))
section
variable (q:uL)(i:Int)(h0:0<=i)(hm:q.m'=q.n)(hn:q.n<=24)(q0:DK i q)
include q i h0 hm hn q0
theorem ACQ (q1:(decide (q.uZ i.toNat<0))=true):sR 1 (AE2) (Dw q i) ([oV q.cells]) (AEQ q):=
 kR _ (.mk (dS 71421726993) [] [] [] []) (kO (kz q0 (kz q1 AN))) (rB i q.n .nil) 14 1 [0] 1
theorem ACR (q1:J9 q i)(q2:(decide (q.uZ i.toNat>=192))=true):sR 1 (AE2) (Dw q i) ([oV q.cells]) (AEQ q):=
 kR _ (.mk (dS 0x10a1111a11122222) [] [] [] []) (kO (kz q0 (kz q1 (kz q2 AN)))) (rB i q.n (rB i q.n .nil)) 14 1 [0] 1
theorem ACS (q1:J9 q i)(q2:(decide (q.uZ i.toNat>=192))=false)(q3:CH i)(q4:(J8 q i)=true):sR 1 (AE2) (Dw q i) ([oV q.cells]) (AEQ q):=
 kR _ (.mk (dS 0x10a1111a1112223333a3a33333a332324444444) [] [] [] []) (kO (kz q0 (kz q1 (kz q2 (kz q3 (kz q4 AN)))))) (rB i q.n (rB (i - 1) q.n (rI (i - 1) (rB i q.n (rB i q.n .nil))))) 14 1 [0] 1
end
abbrev Gt (a0:uL)(a1:Int):=decide (a0.uV a1.toNat< -99999)
section
variable (q:uL)(i:Int)(h0:0<=i)(hm:q.m'=q.n)(hn:q.n<=24)(q0:DK i q)(q1:J9 q i)(q2:(decide (q.uZ i.toNat>=192))=false)(q3:CH i)(q4:(J8 q i)=false)
include q i h0 hm hn q0 q1 q2 q3 q4
theorem ACT (q5:(Gt q i)=true):sR 1 (AE2) (Dw q i) ([oV q.cells]) (AEQ q):=
 kR _ (.mk (dS 0x10a1111a1112223333a3a33333a332324444a4445555555) [] [] [] []) (kO (kz q0 (kz q1 (kz q2 (kz q3 (kz q4 (kz q5 AN))))))) (rB i q.m' (rB i q.n (rB (i - 1) q.n (rI (i - 1) (rB i q.n (rB i q.n .nil)))))) 14 1 [0] 1
theorem ACU (q5:(Gt q i)=false)(q6:(decide (q.uV i.toNat>99999))=true):sR 1 (AE2) (Dw q i) ([oV q.cells]) (AEQ q):=
 kR _ (.mk (dS 0x10a1111a1112223333a3a33333a332324444a4445555a5556) [] [] [] []) (kO (kz q0 (kz q1 (kz q2 (kz q3 (kz q4 (kz q5 (kz q6 AN)))))))) (rB i q.m' (rB i q.m' (rB i q.n (rB (i - 1) q.n (rI (i - 1) (rB i q.n (rB i q.n .nil))))))) 14 1 [0] 1
theorem ACV (q5:(Gt q i)=false)(q6:(decide (q.uV i.toNat>99999))=false):sR 1 (AE2) (Dw q i) ([oV q.cells]) (xN,(frame 158 [(1,pt 0 0),(3,iv ↑q.n),(4,iv (i+1))]),[oV q.cells]):=
 kR _ (.mk (dS 0x10a1111a1112223333a3a33333a332324444a4445555a5556a) [] [] [] []) (kO (kz q0 (kz q1 (kz q2 (kz q3 (kz q4 (kz q5 (kz q6 AN)))))))) (rI (i+1) (rB i q.m' (rB i q.m' (rB i q.n (rB (i - 1) q.n (rI (i - 1) (rB i q.n (rB i q.n .nil)))))))) 26 1 [0] 1
end
section
variable (q:uL)(i:Int)(h0:0<=i)(hm:q.m'=q.n)(hn:q.n<=24)(q0:DK i q)(q1:J9 q i)(q2:(decide (q.uZ i.toNat>=192))=false)(q3:FV i)
include q i h0 hm hn q0 q1 q2 q3
theorem ACW (q4:(Gt q i)=true):sR 1 (AE2) (Dw q i) ([oV q.cells]) (AEQ q):=
 kR _ (.mk (dS 0x10a1111a11122233333333333323204ae034e444444) [] [] [] []) (kO (kz q0 (kz q1 (kz q2 (kz q3 (kz q4 AN)))))) (rB i q.m' (rB i q.n (rB i q.n .nil))) 14 1 [0] 1
theorem ACX (q4:(Gt q i)=false)(q5:(decide (q.uV i.toNat>99999))=true):sR 1 (AE2) (Dw q i) ([oV q.cells]) (AEQ q):=
 kR _ (.mk (dS 0x10a1111a11122233333333333323204ae034e444a4445) [] [] [] []) (kO (kz q0 (kz q1 (kz q2 (kz q3 (kz q4 (kz q5 AN))))))) (rB i q.m' (rB i q.m' (rB i q.n (rB i q.n .nil)))) 14 1 [0] 1
theorem ACY (q4:(Gt q i)=false)(q5:(decide (q.uV i.toNat>99999))=false):sR 1 (AE2) (Dw q i) ([oV q.cells]) (xN,(frame 158 [(1,pt 0 0),(3,iv ↑q.n),(4,iv (i+1))]),[oV q.cells]):=
 kR _ (.mk (dS 0x10a1111a11122233333333333323204ae034e444a4445a) [] [] [] []) (kO (kz q0 (kz q1 (kz q2 (kz q3 (kz q4 (kz q5 AN))))))) (rI (i+1) (rB i q.m' (rB i q.m' (rB i q.n (rB i q.n .nil))))) 26 1 [0] 1
end
noncomputable abbrev Cv (a0:uL):=frame 158 [(1,pt 0 0),(3,iv ↑a0.n)]
noncomputable abbrev AEU (a0:uL):RC:=(xL 0,(Cv a0),[oV a0.cells])
theorem ACZ (q:uL)(i:Int)(h0:0<=i)(hm:q.m'=q.n)(hn:q.n<=24)(q0:(decide (i<↑q.n))=false):sR 1 (AE2) (Dw q i) ([oV q.cells]) (AEU q):=
 kR _ (.mk (dS 16) [] [] [] []) (kO (kz q0 AN)) .nil 10 1 [0] 1
theorem rcA (q:uL)(i:Int)(h0:0<=i)(hm:q.m'=q.n)(hn:q.n<=24):∃ r_:RC,sR 1 (cB (cB (cR (cL (cR (cR (cR (AY prog 6)))))))) (frame 158 [(1,pt 0 0),(3,iv q.n),(4,iv i)]) ([oV q.cells]) r_/\((r_=(xN,frame 158 [(1,pt 0 0),(3,iv q.n),(4,iv (i+1))],[oV q.cells])/\i<q.n/\(0<=q.uZ i.toNat/\q.uZ i.toNat<192/\(0<i->q.uZ (i - 1).toNat<q.uZ i.toNat)/\-99999<=q.uV i.toNat/\q.uV i.toNat<=99999))∨(r_=(EX.ret,frame 158 [(1,pt 0 0),(2,iv 280),(3,iv q.n)],[oV q.cells])/\i<q.n/\¬ (0<=q.uZ i.toNat/\q.uZ i.toNat<192/\(0<i->q.uZ (i - 1).toNat<q.uZ i.toNat)/\-99999<=q.uV i.toNat/\q.uV i.toNat<=99999))∨(r_=(xL 0,frame 158 [(1,pt 0 0),(3,iv q.n)],[oV q.cells])/\q.n<=i)):=by
 rcases bT (decide (i<↑q.n)) with q0 | q0
 ·rcases bT (decide (q.uZ i.toNat<0)) with q1 | q1
  ·exact e1 (ACQ q i h0 hm hn q0 q1)
  ·rcases bT (decide (q.uZ i.toNat>=192)) with q2 | q2
   ·exact e1 (ACR q i h0 hm hn q0 q1 q2)
   ·rcases bT (decide (i>0)) with q3 | q3
    ·rcases bT (decide (q.uZ (i - 1).toNat>=q.uZ i.toNat)) with q4 | q4
     ·exact e1 (ACS q i h0 hm hn q0 q1 q2 q3 q4)
     ·rcases bT (decide (q.uV i.toNat< -99999)) with q5 | q5
      ·exact e1 (ACT q i h0 hm hn q0 q1 q2 q3 q4 q5)
      ·rcases bT (decide (q.uV i.toNat>99999)) with q6 | q6
       ·exact e1 (ACU q i h0 hm hn q0 q1 q2 q3 q4 q5 q6)
       ·exact e1 (ACV q i h0 hm hn q0 q1 q2 q3 q4 q5 q6)
    ·rcases bT (decide (q.uV i.toNat< -99999)) with q4 | q4
     ·exact e1 (ACW q i h0 hm hn q0 q1 q2 q3 q4)
     ·rcases bT (decide (q.uV i.toNat>99999)) with q5 | q5
      ·exact e1 (ACX q i h0 hm hn q0 q1 q2 q3 q4 q5)
      ·exact e1 (ACY q i h0 hm hn q0 q1 q2 q3 q4 q5)
 ·exact e1 (ACZ q i h0 hm hn q0)
noncomputable abbrev HU:Code:=(cB (cR (cL (cR (cR (cR (cR (AY prog 6))))))))
noncomputable abbrev ACa:Code:=(cB (cB (cR (cL (cR (cR (cR (cR (AY prog 6)))))))))
abbrev KA (a0:uL)(a1:Int):=decide ((a0.op a1.toNat).left>=(↑a0.n:Int))
abbrev KB (a0:uL)(a1:Int):=(decide ((a0.op a1.toNat).left<0))=false
noncomputable abbrev AGB:=cR (cR (cR (AY prog 6)))
noncomputable abbrev Fu (a0:uL)(a1:Int):=frame 158 [(1,pt 0 0),(3,iv a0.n),(5,iv a1)]
noncomputable abbrev AFJ:=cB (cB (cR (cL (cR (AGB)))))
abbrev FG (a0:Int)(a1:uL):=(BN a0 a1)=true
section
variable (q:uL)(i:Int)(h0:0<=i)(hn:q.n<=24)(hn0:2<=q.n)(hM:q.m<=552)(q0:FG i q)
include q i h0 hn hn0 hM q0
theorem ACb (q1:(decide ((q.op i.toNat).left<0))=true):sR 1 (AFJ) (Fu q i) ([oV q.cells]) (AEQ q):=
 kR _ (.mk (dS 278991121) [] [] [] []) (kO (kz q0 (kz q1 AN))) (rB i q.m .nil) 14 1 [0] 1
theorem ACc (q1:KB q i)(q2:(KA q i)=true):sR 1 (AFJ) (Fu q i) ([oV q.cells]) (AEQ q):=
 kR _ (.mk (dS 18283962114594) [] [] [] []) (kO (kz q0 (kz q1 (kz q2 AN)))) (rB i q.m .nil) 14 1 [0] 1
theorem ACd (q1:KB q i)(q2:(KA q i)=false)(q3:(decide ((q.op i.toNat).right<0))=true):sR 1 (AFJ) (Fu q i) ([oV q.cells]) (AEQ q):=
 kR _ (.mk (dS 0x10a11111222233333) [] [] [] []) (kO (kz q0 (kz q1 (kz q2 (kz q3 AN))))) (rB i q.m .nil) 14 1 [0] 1
theorem ACe (q1:KB q i)(q2:(KA q i)=false)(q3:(decide ((q.op i.toNat).right<0))=false)(q4:(decide ((q.op i.toNat).right>=(↑q.n:Int)))=true):sR 1 (AFJ) (Fu q i) ([oV q.cells]) (AEQ q):=
 kR _ (.mk (dS 0x10a11111222233333444444) [] [] [] []) (kO (kz q0 (kz q1 (kz q2 (kz q3 (kz q4 AN)))))) (rB i q.m .nil) 14 1 [0] 1
end
abbrev KC (a0:uL)(a1:Int):=(a0.op a1.toNat).left==(a0.op a1.toNat).right
section
variable (q:uL)(i:Int)(h0:0<=i)(hn:q.n<=24)(hn0:2<=q.n)(hM:q.m<=552)(q0:FG i q)(q1:KB q i)(q2:(KA q i)=false)(q3:(decide ((q.op i.toNat).right<0))=false)(q4:(decide ((q.op i.toNat).right>=(↑q.n:Int)))=false)
include q i h0 hn hn0 hM q0 q1 q2 q3 q4
theorem ACf (q5:(KC q i)=true):sR 1 (AFJ) (Fu q i) ([oV q.cells]) (AEQ q):=
 kR _ (.mk (dS 0x10a111112222333334444445) [] [] [] []) (kO (kz q0 (kz q1 (kz q2 (kz q3 (kz q4 (kz q5 AN))))))) (rB i q.m .nil) 14 1 [0] 1
theorem ACg (q5:(KC q i)=false):sR 1 (AFJ) (Fu q i) ([oV q.cells]) (xN,(frame 158 [(1,pt 0 0),(3,iv ↑q.n),(5,iv (i+1))]),[oV q.cells]):=
 kR _ (.mk (dS 0x10a111112222333334444445a) [] [] [] []) (kO (kz q0 (kz q1 (kz q2 (kz q3 (kz q4 (kz q5 AN))))))) (rI (i+1) (rB i q.m .nil)) 42 1 [0] 1
end
noncomputable abbrev AEX (a0:uL):RC:=(xL 2,(Cv a0),[oV a0.cells])
section
variable (q:uL)(i:Int)(h0:0<=i)(hn:q.n<=24)(hn0:2<=q.n)(hM:q.m<=552)
include q i h0 hn hn0 hM
theorem ACh (q0:(BN i q)=false):sR 1 (AFJ) (Fu q i) ([oV q.cells]) (AEX q):=
 kR _ (.mk (dS 16) [] [] [] []) (kO (kz q0 AN)) .nil 10 1 [0] 1
theorem rcB:∃ r_:RC,sR 1 (cB (cB (cR (cL (cR (cR (cR (cR (AY prog 6))))))))) (frame 158 [(1,pt 0 0),(3,iv q.n),(5,iv i)]) ([oV q.cells]) r_/\((r_=(xN,frame 158 [(1,pt 0 0),(3,iv q.n),(5,iv (i+1))],[oV q.cells])/\i<q.m/\(0<=(q.op i.toNat).left/\(q.op i.toNat).left<q.n/\0<=(q.op i.toNat).right/\(q.op i.toNat).right<q.n/\(q.op i.toNat).left≠(q.op i.toNat).right))∨(r_=(EX.ret,frame 158 [(1,pt 0 0),(2,iv 280),(3,iv q.n)],[oV q.cells])/\i<q.m/\¬ (0<=(q.op i.toNat).left/\(q.op i.toNat).left<q.n/\0<=(q.op i.toNat).right/\(q.op i.toNat).right<q.n/\(q.op i.toNat).left≠(q.op i.toNat).right))∨(r_=(xL 2,frame 158 [(1,pt 0 0),(3,iv q.n)],[oV q.cells])/\q.m<=i)):=by
 rcases bT (decide (i<↑q.m)) with q0 | q0
 ·rcases bT (decide ((q.op i.toNat).left<0)) with q1 | q1
  ·exact e1 (ACb q i h0 hn hn0 hM q0 q1)
  ·rcases bT (decide ((q.op i.toNat).left>=(↑q.n:Int))) with q2 | q2
   ·exact e1 (ACc q i h0 hn hn0 hM q0 q1 q2)
   ·rcases bT (decide ((q.op i.toNat).right<0)) with q3 | q3
    ·exact e1 (ACd q i h0 hn hn0 hM q0 q1 q2 q3)
    ·rcases bT (decide ((q.op i.toNat).right>=(↑q.n:Int))) with q4 | q4
     ·exact e1 (ACe q i h0 hn hn0 hM q0 q1 q2 q3 q4)
     ·rcases bT ((q.op i.toNat).left==(q.op i.toNat).right) with q5 | q5
      ·exact e1 (ACf q i h0 hn hn0 hM q0 q1 q2 q3 q4 q5)
      ·exact e1 (ACg q i h0 hn hn0 hM q0 q1 q2 q3 q4 q5)
 ·exact e1 (ACh q i h0 hn hn0 hM q0)
end
noncomputable abbrev ACi:Code:=(cB (cR (cL (cR (cR (cR (AY prog 13)))))))
noncomputable abbrev ACj:Code:=(cB (cB (cR (cL (cR (cR (cR (AY prog 13))))))))
noncomputable abbrev Dy (a0:uL)(a1:Int):=frame 117 [(1,pt 0 0),(3,iv a0.n),(41,AW a0.nc a0.n a0.uZ),(42,iv a0.n),(43,iv a1)]
noncomputable abbrev AES (a0:uL):RC:=(EX.ret,(frame 117 [(1,pt 0 0),(2,iv 280),(3,iv ↑a0.n)]),[oV a0.cells])
noncomputable abbrev AE3:=cB (cB (cR (cL (cR (cR (cR (AY prog 13)))))))
section
variable (q:uL)(i:Int)(h0:0<=i)(hm:q.m'=q.n)(hn:q.n<=24)(q0:DK i q)(q1:(decide (q.uZ i.toNat>=0))=true)
include q i h0 hm hn q0 q1
theorem ACk (q2:(!decide (q.uZ i.toNat<=191))=true):sR 1 (AE3) (Dy q i) ([oV q.cells]) (AES q):=
 kR _ (.mk (dS 18283962180130) [] [] [] []) (kO (kz q0 (kz q1 (kz q2 AN)))) (rB i q.n .nil) 14 1 [0] 1
theorem ACl (q2:(!decide (q.uZ i.toNat<=191))=false)(q3:CH i)(q4:(J8 q i)=true):sR 1 (AE3) (Dy q i) ([oV q.cells]) (AES q):=
 kR _ (.mk (dS 0x10a11112223333a3a33323244444444) [] [] [] []) (kO (kz q0 (kz q1 (kz q2 (kz q3 (kz q4 AN)))))) (rB (i - 1) q.n (rI (i - 1) (rB i q.n .nil))) 14 1 [0] 1
end
abbrev Gu (a0:uL)(a1:Int):=decide (a0.uV a1.toNat>=-99999)
section
variable (q:uL)(i:Int)(h0:0<=i)(hm:q.m'=q.n)(hn:q.n<=24)(q0:DK i q)(q1:(decide (q.uZ i.toNat>=0))=true)(q2:(!decide (q.uZ i.toNat<=191))=false)(q3:CH i)(q4:(J8 q i)=false)
include q i h0 hm hn q0 q1 q2 q3 q4
theorem ACm (q5:(Gu q i)=true)(q6:(!decide (q.uV i.toNat<=99999))=true):sR 1 (AE3) (Dy q i) ([oV q.cells]) (AES q):=
 kR _ (.mk (dS 0x10a11112223333a3a3332324444a445555446) [] [] [] []) (kO (kz q0 (kz q1 (kz q2 (kz q3 (kz q4 (kz q5 (kz q6 AN)))))))) (rB i q.m' (rB (i - 1) q.n (rI (i - 1) (rB i q.n .nil)))) 14 1 [0] 1
theorem ACn (q5:(Gu q i)=true)(q6:(!decide (q.uV i.toNat<=99999))=false):sR 1 (AE3) (Dy q i) ([oV q.cells]) (xN,(frame 117 [(1,pt 0 0),(3,iv ↑q.n),(41,sl q.nc 1 q.n fun i=>[iv (q.uZ i)]),(42,iv ↑q.n),(43,iv (i+1))]),[oV q.cells]):=
 kR _ (.mk (dS 0x10a11112223333a3a3332324444a445555446a) [] [] [] []) (kO (kz q0 (kz q1 (kz q2 (kz q3 (kz q4 (kz q5 (kz q6 AN)))))))) (rI (i+1) (rB i q.m' (rB (i - 1) q.n (rI (i - 1) (rB i q.n .nil))))) 15393162788874 1 [0] 1
theorem ACo (q5:(Gu q i)=false):sR 1 (AE3) (Dy q i) ([oV q.cells]) (AES q):=
 kR _ (.mk (dS 0x10a11112223333a3a3332324444a44555544) [] [] [] []) (kO (kz q0 (kz q1 (kz q2 (kz q3 (kz q4 (kz q5 AN))))))) (rB i q.m' (rB (i - 1) q.n (rI (i - 1) (rB i q.n .nil)))) 14 1 [0] 1
end
section
variable (q:uL)(i:Int)(h0:0<=i)(hm:q.m'=q.n)(hn:q.n<=24)(q0:DK i q)(q1:(decide (q.uZ i.toNat>=0))=true)(q2:(!decide (q.uZ i.toNat<=191))=false)(q3:FV i)
include q i h0 hm hn q0 q1 q2 q3
theorem ACp (q4:(Gu q i)=true)(q5:(!decide (q.uV i.toNat<=99999))=true):sR 1 (AE3) (Dy q i) ([oV q.cells]) (AES q):=
 kR _ (.mk (dS 0x10a11112223333333323204ae024e444025e) [] [] [] []) (kO (kz q0 (kz q1 (kz q2 (kz q3 (kz q4 (kz q5 AN))))))) (rB i q.m' (rB i q.n .nil)) 14 1 [0] 1
theorem ACq (q4:(Gu q i)=true)(q5:(!decide (q.uV i.toNat<=99999))=false):sR 1 (AE3) (Dy q i) ([oV q.cells]) (xN,(frame 117 [(1,pt 0 0),(3,iv ↑q.n),(41,sl q.nc 1 q.n fun i=>[iv (q.uZ i)]),(42,iv ↑q.n),(43,iv (i+1))]),[oV q.cells]):=
 kR _ (.mk (dS 0x10a11112223333333323204ae024e444025ea) [] [] [] []) (kO (kz q0 (kz q1 (kz q2 (kz q3 (kz q4 (kz q5 AN))))))) (rI (i+1) (rB i q.m' (rB i q.n .nil))) 15393162788874 1 [0] 1
theorem ACr (q4:(Gu q i)=false):sR 1 (AE3) (Dy q i) ([oV q.cells]) (AES q):=
 kR _ (.mk (dS 0x10a11112223333333323204ae024e444) [] [] [] []) (kO (kz q0 (kz q1 (kz q2 (kz q3 (kz q4 AN)))))) (rB i q.m' (rB i q.n .nil)) 14 1 [0] 1
end
theorem ACs (q:uL)(i:Int)(h0:0<=i)(hm:q.m'=q.n)(hn:q.n<=24)(q0:DK i q)(q1:(decide (q.uZ i.toNat>=0))=false):sR 1 (AE3) (Dy q i) ([oV q.cells]) (AES q):=
 kR _ (.mk (dS 17436945) [] [] [] []) (kO (kz q0 (kz q1 AN))) (rB i q.n .nil) 14 1 [0] 1
noncomputable abbrev KD (a0:uL):=frame 117 [(1,pt 0 0),(3,iv ↑a0.n)]
theorem ACt (q:uL)(i:Int)(h0:0<=i)(hm:q.m'=q.n)(hn:q.n<=24)(q0:(decide (i<↑q.n))=false):sR 1 (AE3) (Dy q i) ([oV q.cells]) (xL 0,(KD q),[oV q.cells]):=
 kR _ (.mk (dS 16) [] [] [] []) (kO (kz q0 AN)) .nil 10 1 [0] 1
theorem ckA (q:uL)(i:Int)(h0:0<=i)(hm:q.m'=q.n)(hn:q.n<=24):∃ r_:RC,sR 1 (cB (cB (cR (cL (cR (cR (cR (AY prog 13)))))))) (frame 117 [(1,pt 0 0),(3,iv q.n),(41,AW q.nc q.n q.uZ),(42,iv q.n),(43,iv i)]) ([oV q.cells]) r_/\((r_=(xN,frame 117 [(1,pt 0 0),(3,iv q.n),(41,AW q.nc q.n q.uZ),(42,iv q.n),(43,iv (i+1))],[oV q.cells])/\i<q.n/\(0<=q.uZ i.toNat/\q.uZ i.toNat<192/\(0<i->q.uZ (i - 1).toNat<q.uZ i.toNat)/\-99999<=q.uV i.toNat/\q.uV i.toNat<=99999))∨(r_=(EX.ret,frame 117 [(1,pt 0 0),(2,iv 280),(3,iv q.n)],[oV q.cells])/\i<q.n/\¬ (0<=q.uZ i.toNat/\q.uZ i.toNat<192/\(0<i->q.uZ (i - 1).toNat<q.uZ i.toNat)/\-99999<=q.uV i.toNat/\q.uV i.toNat<=99999))∨(r_=(xL 0,frame 117 [(1,pt 0 0),(3,iv q.n)],[oV q.cells])/\q.n<=i)):=by
 rcases bT (decide (i<↑q.n)) with q0 | q0
 ·rcases bT (decide (q.uZ i.toNat>=0)) with q1 | q1
  ·rcases bT (!decide (q.uZ i.toNat<=191)) with q2 | q2
   ·exact e1 (ACk q i h0 hm hn q0 q1 q2)
   ·rcases bT (decide (i>0)) with q3 | q3
    ·rcases bT (decide (q.uZ (i - 1).toNat>=q.uZ i.toNat)) with q4 | q4
     ·exact e1 (ACl q i h0 hm hn q0 q1 q2 q3 q4)
     ·rcases bT (decide (q.uV i.toNat>=-99999)) with q5 | q5
      ·rcases bT (!decide (q.uV i.toNat<=99999)) with q6 | q6
       ·exact e1 (ACm q i h0 hm hn q0 q1 q2 q3 q4 q5 q6)
       ·exact e1 (ACn q i h0 hm hn q0 q1 q2 q3 q4 q5 q6)
      ·exact e1 (ACo q i h0 hm hn q0 q1 q2 q3 q4 q5)
    ·rcases bT (decide (q.uV i.toNat>=-99999)) with q4 | q4
     ·rcases bT (!decide (q.uV i.toNat<=99999)) with q5 | q5
      ·exact e1 (ACp q i h0 hm hn q0 q1 q2 q3 q4 q5)
      ·exact e1 (ACq q i h0 hm hn q0 q1 q2 q3 q4 q5)
     ·exact e1 (ACr q i h0 hm hn q0 q1 q2 q3 q4)
  ·exact e1 (ACs q i h0 hm hn q0 q1)
 ·exact e1 (ACt q i h0 hm hn q0)
noncomputable abbrev ACu:Code:=(cB (cR (cL (cR (cR (cR (cR (AY prog 13))))))))
noncomputable abbrev ACv:Code:=(cB (cB (cR (cL (cR (cR (cR (cR (AY prog 13)))))))))
abbrev MT (a0:uL)(a1:Int):=!decide ((a0.op a1.toNat).right<=(↑a0.n:Int) - 1)
noncomputable abbrev AGC:=cR (cR (cR (AY prog 13)))
abbrev IE (a0:uL)(a1:Int):=!decide ((a0.op a1.toNat).left<=(↑a0.n:Int) - 1)
abbrev IF (a0:uL)(a1:Int):=(decide ((a0.op a1.toNat).left>=0))=true
noncomputable abbrev AFK:=cB (cB (cR (cL (cR (AGC)))))
section
variable (q:uL)(i:Int)(h0:0<=i)(hn:q.n<=24)(hn0:2<=q.n)(hM:q.m<=552)
include q i h0 hn hn0 hM
theorem ACw (q0:FG i q)(q1:IF q i)(q2:(IE q i)=true):sR 1 (AFK) (frame 117 [(1,pt 0 0),(3,iv q.n),(76,sl q.no 2 q.m fun i=>(q.op i).cells),(77,iv q.m),(78,iv i)]) ([oV q.cells]) (AES q):=
 kR _ (.mk (dS 75049438495777314) [] [] [] []) (kO (kz q0 (kz q1 (kz q2 AN)))) (rI ((↑q.n:Int) - 1) (rB i q.m .nil)) 14 1 [0] 1
theorem ACx (q0:FG i q)(q1:IF q i)(q2:(IE q i)=false)(q3:(decide ((q.op i.toNat).right>=0))=true)(q4:(MT q i)=true):sR 1 (AFK) (frame 117 [(1,pt 0 0),(3,iv q.n),(76,sl q.no 2 q.m fun i=>(q.op i).cells),(77,iv q.m),(78,iv i)]) ([oV q.cells]) (AES q):=
 kR _ (.mk (dS 0x10aa11112222a2333322444444) [] [] [] []) (kO (kz q0 (kz q1 (kz q2 (kz q3 (kz q4 AN)))))) (rI ((↑q.n:Int) - 1) (rI ((↑q.n:Int) - 1) (rB i q.m .nil))) 14 1 [0] 1
theorem ACy (q0:FG i q)(q1:IF q i)(q2:(IE q i)=false)(q3:(decide ((q.op i.toNat).right>=0))=true)(q4:(MT q i)=false)(q5:(KC q i)=true):sR 1 (AFK) (frame 117 [(1,pt 0 0),(3,iv q.n),(76,sl q.no 2 q.m fun i=>(q.op i).cells),(77,iv q.m),(78,iv i)]) ([oV q.cells]) (AES q):=
 kR _ (.mk (dS 0x10aa11112222a23333224444445) [] [] [] []) (kO (kz q0 (kz q1 (kz q2 (kz q3 (kz q4 (kz q5 AN))))))) (rI ((↑q.n:Int) - 1) (rI ((↑q.n:Int) - 1) (rB i q.m .nil))) 14 1 [0] 1
theorem ACz (q0:FG i q)(q1:IF q i)(q2:(IE q i)=false)(q3:(decide ((q.op i.toNat).right>=0))=true)(q4:(MT q i)=false)(q5:(KC q i)=false):sR 1 (AFK) (frame 117 [(1,pt 0 0),(3,iv q.n),(76,sl q.no 2 q.m fun i=>(q.op i).cells),(77,iv q.m),(78,iv i)]) ([oV q.cells]) (xN,(frame 117 [(1,pt 0 0),(3,iv ↑q.n),(76,sl q.no 2 q.m fun i=>(q.op i).cells),(77,iv ↑q.m),(78,iv (i+1))]),[oV q.cells]):=
 kR _ (.mk (dS 0x10aa11112222a23333224444445a) [] [] [] []) (kO (kz q0 (kz q1 (kz q2 (kz q3 (kz q4 (kz q5 AN))))))) (rI (i+1) (rI ((↑q.n:Int) - 1) (rI ((↑q.n:Int) - 1) (rB i q.m .nil)))) 528905046081400263933962 1 [0] 1
theorem AC0 (q0:FG i q)(q1:IF q i)(q2:(IE q i)=false)(q3:(decide ((q.op i.toNat).right>=0))=false):sR 1 (AFK) (frame 117 [(1,pt 0 0),(3,iv q.n),(76,sl q.no 2 q.m fun i=>(q.op i).cells),(77,iv q.m),(78,iv i)]) ([oV q.cells]) (AES q):=
 kR _ (.mk (dS 0x10aa11112222a2333322) [] [] [] []) (kO (kz q0 (kz q1 (kz q2 (kz q3 AN))))) (rI ((↑q.n:Int) - 1) (rI ((↑q.n:Int) - 1) (rB i q.m .nil))) 14 1 [0] 1
theorem AC1 (q0:FG i q)(q1:(decide ((q.op i.toNat).left>=0))=false):sR 1 (AFK) (frame 117 [(1,pt 0 0),(3,iv q.n),(76,sl q.no 2 q.m fun i=>(q.op i).cells),(77,iv q.m),(78,iv i)]) ([oV q.cells]) (AES q):=
 kR _ (.mk (dS 279580945) [] [] [] []) (kO (kz q0 (kz q1 AN))) (rI ((↑q.n:Int) - 1) (rB i q.m .nil)) 14 1 [0] 1
theorem AC2 (q0:(BN i q)=false):sR 1 (AFK) (frame 117 [(1,pt 0 0),(3,iv q.n),(76,sl q.no 2 q.m fun i=>(q.op i).cells),(77,iv q.m),(78,iv i)]) ([oV q.cells]) (xL 2,(KD q),[oV q.cells]):=
 kR _ (.mk (dS 16) [] [] [] []) (kO (kz q0 AN)) .nil 10 1 [0] 1
theorem ckB:∃ r_:RC,sR 1 (cB (cB (cR (cL (cR (cR (cR (cR (AY prog 13))))))))) (frame 117 [(1,pt 0 0),(3,iv q.n),(76,sl q.no 2 q.m fun i=>(q.op i).cells),(77,iv q.m),(78,iv i)]) ([oV q.cells]) r_/\((r_=(xN,frame 117 [(1,pt 0 0),(3,iv q.n),(76,sl q.no 2 q.m fun i=>(q.op i).cells),(77,iv q.m),(78,iv (i+1))],[oV q.cells])/\i<q.m/\(0<=(q.op i.toNat).left/\(q.op i.toNat).left<q.n/\0<=(q.op i.toNat).right/\(q.op i.toNat).right<q.n/\(q.op i.toNat).left≠(q.op i.toNat).right))∨(r_=(EX.ret,frame 117 [(1,pt 0 0),(2,iv 280),(3,iv q.n)],[oV q.cells])/\i<q.m/\¬ (0<=(q.op i.toNat).left/\(q.op i.toNat).left<q.n/\0<=(q.op i.toNat).right/\(q.op i.toNat).right<q.n/\(q.op i.toNat).left≠(q.op i.toNat).right))∨(r_=(xL 2,frame 117 [(1,pt 0 0),(3,iv q.n)],[oV q.cells])/\q.m<=i)):=by
 rcases bT (decide (i<↑q.m)) with q0 | q0
 ·rcases bT (decide ((q.op i.toNat).left>=0)) with q1 | q1
  ·rcases bT (!decide ((q.op i.toNat).left<=(↑q.n:Int) - 1)) with q2 | q2
   ·exact e1 (ACw q i h0 hn hn0 hM q0 q1 q2)
   ·rcases bT (decide ((q.op i.toNat).right>=0)) with q3 | q3
    ·rcases bT (!decide ((q.op i.toNat).right<=(↑q.n:Int) - 1)) with q4 | q4
     ·exact e1 (ACx q i h0 hn hn0 hM q0 q1 q2 q3 q4)
     ·rcases bT ((q.op i.toNat).left==(q.op i.toNat).right) with q5 | q5
      ·exact e1 (ACy q i h0 hn hn0 hM q0 q1 q2 q3 q4 q5)
      ·exact e1 (ACz q i h0 hn hn0 hM q0 q1 q2 q3 q4 q5)
    ·exact e1 (AC0 q i h0 hn hn0 hM q0 q1 q2 q3)
  ·exact e1 (AC1 q i h0 hn hn0 hM q0 q1)
 ·exact e1 (AC2 q i h0 hn hn0 hM q0)
end
abbrev ER (a0:uL):=decide (a0.aI>999)
abbrev IG (a0:uL):=(decide (a0.aI<a0.draw))=false
abbrev Gv (a0:uL):=(decide (a0.draw<0))=false
section
variable (q:uL)(b1:Bool)(b2:Bool)(ihA1:2<=q.n->q.n<=24->q.m'=q.n->q.m<=552->b1=true->sL HT (frame 158 [(1,pt 0 0),(3,iv q.n),(4,iv 0)]) [oV q.cells] ((xL 0,frame 158 [(1,pt 0 0),(3,iv q.n)],[oV q.cells]):RC))(ihA2:2<=q.n->q.n<=24->q.m'=q.n->q.m<=552->b1=false->sL HT (frame 158 [(1,pt 0 0),(3,iv q.n),(4,iv 0)]) [oV q.cells] ((EX.ret,frame 158 [(1,pt 0 0),(2,iv 280),(3,iv q.n)],[oV q.cells]):RC))(ihB1:2<=q.n->q.n<=24->q.m'=q.n->q.m<=552->b2=true->sL HU (frame 158 [(1,pt 0 0),(3,iv q.n),(5,iv 0)]) [oV q.cells] ((xL 2,frame 158 [(1,pt 0 0),(3,iv q.n)],[oV q.cells]):RC))(ihB2:2<=q.n->q.n<=24->q.m'=q.n->q.m<=552->b2=false->sL HU (frame 158 [(1,pt 0 0),(3,iv q.n),(5,iv 0)]) [oV q.cells] ((EX.ret,frame 158 [(1,pt 0 0),(2,iv 280),(3,iv q.n)],[oV q.cells]):RC))
include q b1 b2 ihA1 ihA2 ihB1 ihB2
theorem AC3 (q0:(decide (q.draw<0))=true):sP 6 (Au q) (iv 280):=
 kP _ (.mk (dS 16777216) [] [] [] []) (kO (kz q0 AN)) .nil
theorem AC4 (q0:Gv q)(q1:(decide (q.aI<q.draw))=true):sP 6 (Au q) (iv 280):=
 kP _ (.mk (dS 1099511632145) [] [] [] []) (kO (kz q0 (kz q1 AN))) .nil
theorem AC5 (q0:Gv q)(q1:IG q)(q2:(ER q)=true):sP 6 (Au q) (iv 280):=
 kP _ (.mk (dS 4503599645266466) [] [] [] []) (kO (kz q0 (kz q1 (kz q2 AN)))) .nil
theorem AC6 (q0:Gv q)(q1:IG q)(q2:(ER q)=false)(q3:(decide ((↑q.n:Int)<2))=true):sP 6 (Au q) (iv 280):=
 kP _ (.mk (dS 0x10000001111222333) [] [] [] []) (kO (kz q0 (kz q1 (kz q2 (kz q3 AN))))) .nil
end
abbrev Gw (a0:uL):=decide ((↑a0.m:Int)>552)
abbrev Gx (a0:uL):=(decide ((↑a0.n:Int)>24))=false
section
variable (q:uL)(b1:Bool)(b2:Bool)(ihA1:2<=q.n->q.n<=24->q.m'=q.n->q.m<=552->b1=true->sL HT (frame 158 [(1,pt 0 0),(3,iv q.n),(4,iv 0)]) [oV q.cells] ((xL 0,frame 158 [(1,pt 0 0),(3,iv q.n)],[oV q.cells]):RC))(ihA2:2<=q.n->q.n<=24->q.m'=q.n->q.m<=552->b1=false->sL HT (frame 158 [(1,pt 0 0),(3,iv q.n),(4,iv 0)]) [oV q.cells] ((EX.ret,frame 158 [(1,pt 0 0),(2,iv 280),(3,iv q.n)],[oV q.cells]):RC))(ihB1:2<=q.n->q.n<=24->q.m'=q.n->q.m<=552->b2=true->sL HU (frame 158 [(1,pt 0 0),(3,iv q.n),(5,iv 0)]) [oV q.cells] ((xL 2,frame 158 [(1,pt 0 0),(3,iv q.n)],[oV q.cells]):RC))(ihB2:2<=q.n->q.n<=24->q.m'=q.n->q.m<=552->b2=false->sL HU (frame 158 [(1,pt 0 0),(3,iv q.n),(5,iv 0)]) [oV q.cells] ((EX.ret,frame 158 [(1,pt 0 0),(2,iv 280),(3,iv q.n)],[oV q.cells]):RC))(q0:Gv q)(q1:IG q)(q2:(ER q)=false)(q3:(decide ((↑q.n:Int)<2))=false)
include q b1 b2 ihA1 ihA2 ihB1 ihB2 q0 q1 q2 q3
theorem AC7 (q4:(decide ((↑q.n:Int)>24))=true):sP 6 (Au q) (iv 280):=
 kP _ (.mk (dS 0x10000001111222333444444) [] [] [] []) (kO (kz q0 (kz q1 (kz q2 (kz q3 (kz q4 AN)))))) .nil
theorem AC8 (q4:Gx q)(q5:((↑q.m':Int) != (↑q.n:Int))=true):sP 6 (Au q) (iv 280):=
 kP _ (.mk (dS 0x1000000111122233344444455555) [] [] [] []) (kO (kz q0 (kz q1 (kz q2 (kz q3 (kz q4 (kz q5 AN))))))) .nil
theorem AC9 (q4:Gx q)(q5:((↑q.m':Int) != (↑q.n:Int))=false)(q6:(Gw q)=true):sP 6 (Au q) (iv 280):=
 kP _ (.mk (dS 0x10000001111222333444444555556) [] [] [] []) (kO (kz q0 (kz q1 (kz q2 (kz q3 (kz q4 (kz q5 (kz q6 AN)))))))) .nil
theorem ADA (q4:Gx q)(q5:((↑q.m':Int) != (↑q.n:Int))=false)(q6:(Gw q)=false)(q7:(b1)=true)(q8:(b2)=true)(q9:(decide (q.uO<0))=true):sP 6 (Au q) (iv 280):=
 kP _ (.mk (dS 0x1000000111122233344444455555699999) [(13,.is 26 1 (AEU q)),(4,.is 42 1 (AEX q))] [] [] []) (kO (kz q0 (kz q1 (kz q2 (kz q3 (kz q4 (kz q5 (kz q6 (kz q7 (kz q8 (kz q9 AN))))))))))) (.cons (ihB1 iP iP iP iP (by assumption)) (.cons (ihA1 iP iP iP iP (by assumption)) .nil))
theorem ADB (q4:Gx q)(q5:((↑q.m':Int) != (↑q.n:Int))=false)(q6:(Gw q)=false)(q7:(b1)=true)(q8:(b2)=true)(q9:(decide (q.uO<0))=false)(q10:(decide (q.uO>=(↑q.n:Int)))=true):sP 6 (Au q) (iv 280):=
 kP _ (.mk (dS 0x10000001111222333444444555556999990d0d0d0d) [(13,.is 26 1 (AEU q)),(4,.is 42 1 (AEX q))] [] [] []) (kO (kz q0 (kz q1 (kz q2 (kz q3 (kz q4 (kz q5 (kz q6 (kz q7 (kz q8 (kz q9 (kz q10 AN)))))))))))) (.cons (ihB1 iP iP iP iP (by assumption)) (.cons (ihA1 iP iP iP iP (by assumption)) .nil))
end
section
variable (q:uL)(b1:Bool)(b2:Bool)(ihA1:2<=q.n->q.n<=24->q.m'=q.n->q.m<=552->b1=true->sL HT (frame 158 [(1,pt 0 0),(3,iv q.n),(4,iv 0)]) [oV q.cells] ((xL 0,frame 158 [(1,pt 0 0),(3,iv q.n)],[oV q.cells]):RC))(ihA2:2<=q.n->q.n<=24->q.m'=q.n->q.m<=552->b1=false->sL HT (frame 158 [(1,pt 0 0),(3,iv q.n),(4,iv 0)]) [oV q.cells] ((EX.ret,frame 158 [(1,pt 0 0),(2,iv 280),(3,iv q.n)],[oV q.cells]):RC))(ihB1:2<=q.n->q.n<=24->q.m'=q.n->q.m<=552->b2=true->sL HU (frame 158 [(1,pt 0 0),(3,iv q.n),(5,iv 0)]) [oV q.cells] ((xL 2,frame 158 [(1,pt 0 0),(3,iv q.n)],[oV q.cells]):RC))(ihB2:2<=q.n->q.n<=24->q.m'=q.n->q.m<=552->b2=false->sL HU (frame 158 [(1,pt 0 0),(3,iv q.n),(5,iv 0)]) [oV q.cells] ((EX.ret,frame 158 [(1,pt 0 0),(2,iv 280),(3,iv q.n)],[oV q.cells]):RC))(q0:Gv q)(q1:IG q)(q2:(ER q)=false)(q3:(decide ((↑q.n:Int)<2))=false)(q4:Gx q)(q5:((↑q.m':Int) != (↑q.n:Int))=false)(q6:(Gw q)=false)(q7:(b1)=true)(q8:(b2)=true)(q9:(decide (q.uO<0))=false)(q10:(decide (q.uO>=(↑q.n:Int)))=false)
include q b1 b2 ihA1 ihA2 ihB1 ihB2 q0 q1 q2 q3 q4 q5 q6 q7 q8 q9 q10
theorem ADC (q11:(decide (q.place<1))=true):sP 6 (Au q) (iv 280):=
 kP _ (.mk (dS 0x10000001111222333444444555556999990d0d0d0d1d1d1d1d1d) [(13,.is 26 1 (AEU q)),(4,.is 42 1 (AEX q))] [] [] []) (kO (kz q0 (kz q1 (kz q2 (kz q3 (kz q4 (kz q5 (kz q6 (kz q7 (kz q8 (kz q9 (kz q10 (kz q11 AN))))))))))))) (.cons (ihB1 iP iP iP iP (by assumption)) (.cons (ihA1 iP iP iP iP (by assumption)) .nil))
theorem vL (q11:(decide (q.place<1))=false)(q12:(decide (q.place>(↑q.n:Int)))=true):sP 6 (Au q) (iv 280):=
 kP _ (.mk (dS 0x10000001111222333444444555556999990d0d0d0d1d1d1d1d1d2d) [(13,.is 26 1 (AEU q)),(4,.is 42 1 (AEX q))] [] [] []) (kO (kz q0 (kz q1 (kz q2 (kz q3 (kz q4 (kz q5 (kz q6 (kz q7 (kz q8 (kz q9 (kz q10 (kz q11 (kz q12 AN)))))))))))))) (.cons (ihB1 iP iP iP iP (by assumption)) (.cons (ihA1 iP iP iP iP (by assumption)) .nil))
theorem vM (q11:(decide (q.place<1))=false)(q12:(decide (q.place>(↑q.n:Int)))=false):sP 6 (Au q) (iv 0):=
 kP _ (.mk (dS 0x10000001111222333444444555556999990d0d0d0d1d1d1d1d1d2d) [(13,.is 26 1 (AEU q)),(4,.is 42 1 (AEX q))] [] [] []) (kO (kz q0 (kz q1 (kz q2 (kz q3 (kz q4 (kz q5 (kz q6 (kz q7 (kz q8 (kz q9 (kz q10 (kz q11 (kz q12 AN)))))))))))))) (.cons (ihB1 iP iP iP iP (by assumption)) (.cons (ihA1 iP iP iP iP (by assumption)) .nil))
end
section
variable (q:uL)(b1:Bool)(b2:Bool)(ihA1:2<=q.n->q.n<=24->q.m'=q.n->q.m<=552->b1=true->sL HT (frame 158 [(1,pt 0 0),(3,iv q.n),(4,iv 0)]) [oV q.cells] ((xL 0,frame 158 [(1,pt 0 0),(3,iv q.n)],[oV q.cells]):RC))(ihA2:2<=q.n->q.n<=24->q.m'=q.n->q.m<=552->b1=false->sL HT (frame 158 [(1,pt 0 0),(3,iv q.n),(4,iv 0)]) [oV q.cells] ((EX.ret,frame 158 [(1,pt 0 0),(2,iv 280),(3,iv q.n)],[oV q.cells]):RC))(ihB1:2<=q.n->q.n<=24->q.m'=q.n->q.m<=552->b2=true->sL HU (frame 158 [(1,pt 0 0),(3,iv q.n),(5,iv 0)]) [oV q.cells] ((xL 2,frame 158 [(1,pt 0 0),(3,iv q.n)],[oV q.cells]):RC))(ihB2:2<=q.n->q.n<=24->q.m'=q.n->q.m<=552->b2=false->sL HU (frame 158 [(1,pt 0 0),(3,iv q.n),(5,iv 0)]) [oV q.cells] ((EX.ret,frame 158 [(1,pt 0 0),(2,iv 280),(3,iv q.n)],[oV q.cells]):RC))(q0:Gv q)(q1:IG q)(q2:(ER q)=false)(q3:(decide ((↑q.n:Int)<2))=false)(q4:Gx q)(q5:((↑q.m':Int) != (↑q.n:Int))=false)(q6:(Gw q)=false)
include q b1 b2 ihA1 ihA2 ihB1 ihB2 q0 q1 q2 q3 q4 q5 q6
theorem vN (q7:(b1)=true)(q8:(b2)=false):sP 6 (Au q) (iv 280):=
 kP _ (.mk (dS 0x10000001111222333444444555556) [(13,.is 26 1 (AEU q)),(4,.is 42 1 (AEQ q))] [] [] []) (kO (kz q0 (kz q1 (kz q2 (kz q3 (kz q4 (kz q5 (kz q6 (kz q7 (kz q8 AN)))))))))) (.cons (ihB2 iP iP iP iP (by assumption)) (.cons (ihA1 iP iP iP iP (by assumption)) .nil))
theorem vO (q7:(b1)=false):sP 6 (Au q) (iv 280):=
 kP _ (.mk (dS 0x10000001111222333444444555556) [(13,.is 26 1 (AEQ q))] [] [] []) (kO (kz q0 (kz q1 (kz q2 (kz q3 (kz q4 (kz q5 (kz q6 (kz q7 AN))))))))) (.cons (ihA2 iP iP iP iP (by assumption)) .nil)
end
theorem rck (q:uL)(b1:Bool)(b2:Bool)(ihA1:2<=q.n->q.n<=24->q.m'=q.n->q.m<=552->b1=true->sL HT (frame 158 [(1,pt 0 0),(3,iv q.n),(4,iv 0)]) [oV q.cells] ((xL 0,frame 158 [(1,pt 0 0),(3,iv q.n)],[oV q.cells]):RC))(ihA2:2<=q.n->q.n<=24->q.m'=q.n->q.m<=552->b1=false->sL HT (frame 158 [(1,pt 0 0),(3,iv q.n),(4,iv 0)]) [oV q.cells] ((EX.ret,frame 158 [(1,pt 0 0),(2,iv 280),(3,iv q.n)],[oV q.cells]):RC))(ihB1:2<=q.n->q.n<=24->q.m'=q.n->q.m<=552->b2=true->sL HU (frame 158 [(1,pt 0 0),(3,iv q.n),(5,iv 0)]) [oV q.cells] ((xL 2,frame 158 [(1,pt 0 0),(3,iv q.n)],[oV q.cells]):RC))(ihB2:2<=q.n->q.n<=24->q.m'=q.n->q.m<=552->b2=false->sL HU (frame 158 [(1,pt 0 0),(3,iv q.n),(5,iv 0)]) [oV q.cells] ((EX.ret,frame 158 [(1,pt 0 0),(2,iv 280),(3,iv q.n)],[oV q.cells]):RC)):∃ e:Int,sP 6 [ag q.cells] (iv e)/\(e=0->b1=true/\b2=true/\0<=q.draw/\q.draw<=q.aI/\q.aI<=999/\2<=q.n/\q.n<=24/\q.m'=q.n/\q.m<=552/\0<=q.uO/\q.uO<q.n/\1<=q.place/\q.place<=q.n):=by
 rcases bT (decide (q.draw<0)) with q0 | q0
 ·exact e12 (AC3 q b1 b2 ihA1 ihA2 ihB1 ihB2 q0)
 ·rcases bT (decide (q.aI<q.draw)) with q1 | q1
  ·exact e12 (AC4 q b1 b2 ihA1 ihA2 ihB1 ihB2 q0 q1)
  ·rcases bT (decide (q.aI>999)) with q2 | q2
   ·exact e12 (AC5 q b1 b2 ihA1 ihA2 ihB1 ihB2 q0 q1 q2)
   ·rcases bT (decide ((↑q.n:Int)<2)) with q3 | q3
    ·exact e12 (AC6 q b1 b2 ihA1 ihA2 ihB1 ihB2 q0 q1 q2 q3)
    ·rcases bT (decide ((↑q.n:Int)>24)) with q4 | q4
     ·exact e12 (AC7 q b1 b2 ihA1 ihA2 ihB1 ihB2 q0 q1 q2 q3 q4)
     ·rcases bT ((↑q.m':Int) != (↑q.n:Int)) with q5 | q5
      ·exact e12 (AC8 q b1 b2 ihA1 ihA2 ihB1 ihB2 q0 q1 q2 q3 q4 q5)
      ·rcases bT (decide ((↑q.m:Int)>552)) with q6 | q6
       ·exact e12 (AC9 q b1 b2 ihA1 ihA2 ihB1 ihB2 q0 q1 q2 q3 q4 q5 q6)
       ·rcases bT (b1) with q7 | q7
        ·rcases bT (b2) with q8 | q8
         ·rcases bT (decide (q.uO<0)) with q9 | q9
          ·exact e12 (ADA q b1 b2 ihA1 ihA2 ihB1 ihB2 q0 q1 q2 q3 q4 q5 q6 q7 q8 q9)
          ·rcases bT (decide (q.uO>=(↑q.n:Int))) with q10 | q10
           ·exact e12 (ADB q b1 b2 ihA1 ihA2 ihB1 ihB2 q0 q1 q2 q3 q4 q5 q6 q7 q8 q9 q10)
           ·rcases bT (decide (q.place<1)) with q11 | q11
            ·exact e12 (ADC q b1 b2 ihA1 ihA2 ihB1 ihB2 q0 q1 q2 q3 q4 q5 q6 q7 q8 q9 q10 q11)
            ·rcases bT (decide (q.place>(↑q.n:Int))) with q12 | q12
             ·exact e12 (vL q b1 b2 ihA1 ihA2 ihB1 ihB2 q0 q1 q2 q3 q4 q5 q6 q7 q8 q9 q10 q11 q12)
             ·exact e12 (vM q b1 b2 ihA1 ihA2 ihB1 ihB2 q0 q1 q2 q3 q4 q5 q6 q7 q8 q9 q10 q11 q12)
         ·exact e12 (vN q b1 b2 ihA1 ihA2 ihB1 ihB2 q0 q1 q2 q3 q4 q5 q6 q7 q8)
        ·exact e12 (vO q b1 b2 ihA1 ihA2 ihB1 ihB2 q0 q1 q2 q3 q4 q5 q6 q7)
abbrev Gy (a0:uL):=!decide (a0.uO<=(↑a0.n:Int) - 1)
abbrev Gz (a0:uL):=!decide ((↑a0.n:Int)<=24)
abbrev KE (a0:uL):=!decide (a0.draw<=a0.aI)
abbrev KF (a0:uL):=decide ((↑a0.n:Int)>=2)
abbrev KG (a0:uL):=decide (a0.draw>=0)
section
variable (q:uL)(h1:0<=q.draw)(h2:q.draw<=q.aI)(h3:q.aI<=999)(h4:2<=q.n)(h5:q.n<=24)(h6:q.m'=q.n)(h7:q.m<=552)(h8:0<=q.uO)(h9:q.uO<q.n)(h10:1<=q.place)(h11:q.place<=q.n)(ihA:sL ACi (frame 117 [(1,pt 0 0),(3,iv q.n),(41,AW q.nc q.n q.uZ),(42,iv q.n),(43,iv 0)]) [oV q.cells] ((xL 0,frame 117 [(1,pt 0 0),(3,iv q.n)],[oV q.cells]):RC))(ihB:sL ACu (frame 117 [(1,pt 0 0),(3,iv q.n),(76,sl q.no 2 q.m fun i=>(q.op i).cells),(77,iv q.m),(78,iv 0)]) [oV q.cells] ((xL 2,frame 117 [(1,pt 0 0),(3,iv q.n)],[oV q.cells]):RC))
include q h1 h2 h3 h4 h5 h6 h7 h8 h9 h10 h11 ihA ihB
theorem ADD (q0:((↑q.m':Int) != (↑q.n:Int))=false):sP 13 (Au q) (iv 0):=
 kP _ (.mk (dS 0x1aaaabbbbbbaaaabbbbbbbb00000baaaaabbbbaaaabbb) [(23,.is 15393162788874 1 (xL 0,(KD q),[oV q.cells])),(4,.is 528905046081400263933962 1 (xL 2,(KD q),[oV q.cells]))] [] [] []) (kO (kz q0 AN)) (oI ((!decide (q.place<=(↑q.n:Int)))=false) (oI (Gy q=false) (oI (Gy q=false) (oI (decide (q.place>=1)) (oI (decide (q.place>=1)) (oI (decide (q.place>=1)) (oI (decide (q.place>=1)) (oI (Gy q=false) (oI (Gy q=false) (oI (Gy q=false) (oI (Gy q=false) (oI (decide (q.uO>=0)) (oI (decide (q.uO>=0)) (oI (decide (q.uO>=0)) (oI (decide (q.uO>=0)) (rI ((↑q.n:Int) - 1) (.cons ihB (.cons ihA (oI (Gw q=false) (oI (Gz q=false) (oI (Gz q=false) (oI (Gz q=false) (oI (Gz q=false) (oI (Gz q=false) (oI (Gz q=false) (oI (ER q=false) (oI (ER q=false) (oI (KF q) (oI (KF q) (oI (KF q) (oI (KF q) (oI (ER q=false) (oI (ER q=false) (oI (KE q=false) (oI (KE q=false) (oI (KE q=false) (oI (KE q=false) (oI (KG q) (oI (KG q) (oI (KG q) (oI (KG q) .nil)))))))))))))))))))))))))))))))))))))))))
end
abbrev Mq (q:uL)(i:Nat):Prop:=(0<=q.uZ ((i:Nat):Int).toNat/\q.uZ ((i:Nat):Int).toNat<192/\(0<((i:Nat):Int)->q.uZ (((i:Nat):Int) - 1).toNat<q.uZ ((i:Nat):Int).toNat)/\-99999<=q.uV ((i:Nat):Int).toNat/\q.uV ((i:Nat):Int).toNat<=99999)
abbrev Mr (q:uL)(i:Nat):Prop:=(0<=(q.op ((i:Nat):Int).toNat).left/\(q.op ((i:Nat):Int).toNat).left<q.n/\0<=(q.op ((i:Nat):Int).toNat).right/\(q.op ((i:Nat):Int).toNat).right<q.n/\(q.op ((i:Nat):Int).toNat).left≠(q.op ((i:Nat):Int).toNat).right)
structure uL.Valid (q:uL):Prop where
 w1:0<=q.draw
 w2:q.draw<=q.aI
 w3:q.aI<=999
 n1:2<=q.n
 n2:q.n<=24
 m':q.m'=q.n
 m:q.m<=552
 cl:∀ i,i<q.n->Mq q i
 op:∀ i,i<q.m->Mr q i
 c1:0<=q.uO
 c2:q.uO<q.n
 p1:1<=q.place
 p2:q.place<=q.n
theorem uL.Valid.ok {q:uL}(h:q.Valid)(hn:q.n<=8)(hp:q.np=true):q.Ok:=
 ⟨⟨h.w1,h.w2,h.w3⟩,⟨h.n1,hn⟩,⟨hp,h.m'⟩,h.m,fun i hi=>(h.cl i hi).2.2.2,fun g hg=>h.op g hg,⟨h.c1,h.c2⟩,⟨h.p1,h.p2⟩⟩
section
variable {q:uL}
theorem Yp (hm:q.m'=q.n)(hn:q.n<=24)(h0:0<q.n):((∀ i,i<q.n->Mq q i)/\uT prog uK false HT (frame 158 [(1,.ptr 0 0),(3,.int .i64 q.n),(4,.int .i64 0)]) [uJ.var false true q.cells] (EX.leave 0,frame 158 [(1,.ptr 0 0),(3,.int .i64 q.n)],[uJ.var false true q.cells]))∨
  ((¬ ∀ i,i<q.n->Mq q i)/\uT prog uK false HT (frame 158 [(1,.ptr 0 0),(3,.int .i64 q.n),(4,.int .i64 0)]) [uJ.var false true q.cells] (EX.ret,frame 158 [(1,.ptr 0 0),(2,.int .i64 280),(3,.int .i64 q.n)],[uJ.var false true q.cells])):=by
 rcases uM.all (P:=prog) (G:=uK) (rnd:=false) (c:=ACP) 1 (fun i=>frame 158 [(1,.ptr 0 0),(3,.int .i64 q.n),(4,.int .i64 (i:Nat))]) (fun _=>[uJ.var false true q.cells]) q.n (Mq q) (fun i=>¬ Mq q i) (fun _=>(EX.ret,frame 158 [(1,.ptr 0 0),(2,.int .i64 280),(3,.int .i64 q.n)],[uJ.var false true q.cells])) (EX.leave 0,frame 158 [(1,.ptr 0 0),(3,.int .i64 q.n)],[uJ.var false true q.cells]) (fun _=>by simp) (by simp) (fun i=>by
  obtain ⟨r,h1,h2⟩:=rcA q i (by omega) hm hn;refine ⟨r,h1,?_⟩;rcases h2 with ⟨a,b,c⟩ | ⟨a,b,c⟩ | ⟨a,b⟩
  ·exact .inl ⟨a,by omega,c⟩
  ·exact .inr (.inl ⟨a,by omega,c⟩)
  ·exact .inr (.inr ⟨a,by omega⟩)) with ⟨h1,h2⟩ | ⟨i,h1,h2,h3,h4⟩
 ·exact .inl ⟨h2,h1.cl (by kernel_rfl) (by kernel_rfl)⟩
 ·exact .inr ⟨fun h=>h2 (h i h1),h4.cl (by kernel_rfl) (by kernel_rfl)⟩
theorem Yq (hn:q.n<=24)(hn0:2<=q.n)(hM:q.m<=552):((∀ i,i<q.m->Mr q i)/\uT prog uK false HU (frame 158 [(1,.ptr 0 0),(3,.int .i64 q.n),(5,.int .i64 0)]) [uJ.var false true q.cells] (EX.leave 2,frame 158 [(1,.ptr 0 0),(3,.int .i64 q.n)],[uJ.var false true q.cells]))∨
  ((¬ ∀ i,i<q.m->Mr q i)/\uT prog uK false HU (frame 158 [(1,.ptr 0 0),(3,.int .i64 q.n),(5,.int .i64 0)]) [uJ.var false true q.cells] (EX.ret,frame 158 [(1,.ptr 0 0),(2,.int .i64 280),(3,.int .i64 q.n)],[uJ.var false true q.cells])):=by
 rcases uM.all (P:=prog) (G:=uK) (rnd:=false) (c:=ACa) 1 (fun i=>frame 158 [(1,.ptr 0 0),(3,.int .i64 q.n),(5,.int .i64 (i:Nat))]) (fun _=>[uJ.var false true q.cells]) q.m (Mr q) (fun i=>¬ Mr q i) (fun _=>(EX.ret,frame 158 [(1,.ptr 0 0),(2,.int .i64 280),(3,.int .i64 q.n)],[uJ.var false true q.cells])) (EX.leave 2,frame 158 [(1,.ptr 0 0),(3,.int .i64 q.n)],[uJ.var false true q.cells]) (fun _=>by simp) (by simp) (fun i=>by
  obtain ⟨r,h1,h2⟩:=rcB q i (by omega) hn hn0 hM;refine ⟨r,h1,?_⟩;rcases h2 with ⟨a,b,c⟩ | ⟨a,b,c⟩ | ⟨a,b⟩
  ·exact .inl ⟨a,by omega,c⟩
  ·exact .inr (.inl ⟨a,by omega,c⟩)
  ·exact .inr (.inr ⟨a,by omega⟩)) with ⟨h1,h2⟩ | ⟨i,h1,h2,h3,h4⟩
 ·exact .inl ⟨h2,h1.cl (by kernel_rfl) (by kernel_rfl)⟩
 ·exact .inr ⟨fun h=>h2 (h i h1),h4.cl (by kernel_rfl) (by kernel_rfl)⟩
theorem Sv (q:uL):∃ e:Int,uY prog uK 6 [EV.agg q.cells] (.int .i64 e)/\(e=0->q.Valid):=by
 by_cases hg:2<=q.n/\q.n<=24/\q.m'=q.n/\q.m<=552
 ·obtain ⟨g1,g2,g3,g4⟩:=hg;have hA:=Yp g3 g2 (by omega);have hB:=Yq g2 g1 g4;obtain ⟨b1,hb1,A1,A2⟩:∃ b1:Bool,(b1=true->∀ i,i<q.n->Mq q i)/\(b1=true->uT prog uK false HT (frame 158 [(1,.ptr 0 0),(3,.int .i64 q.n),(4,.int .i64 0)]) [uJ.var false true q.cells] (EX.leave 0,frame 158 [(1,.ptr 0 0),(3,.int .i64 q.n)],[uJ.var false true q.cells]))/\(b1=false->uT prog uK false HT (frame 158 [(1,.ptr 0 0),(3,.int .i64 q.n),(4,.int .i64 0)]) [uJ.var false true q.cells] (EX.ret,frame 158 [(1,.ptr 0 0),(2,.int .i64 280),(3,.int .i64 q.n)],[uJ.var false true q.cells])):=by
   rcases hA with ⟨a,b⟩ | ⟨a,b⟩
   ·exact ⟨true,fun _=>a,fun _=>b,(fun h=>by cases h)⟩
   ·exact ⟨false,(fun h=>by cases h),(fun h=>by cases h),fun _=>b⟩
  obtain ⟨b2,hb2,B1,B2⟩:∃ b2:Bool,(b2=true->∀ i,i<q.m->Mr q i)/\(b2=true->uT prog uK false HU (frame 158 [(1,.ptr 0 0),(3,.int .i64 q.n),(5,.int .i64 0)]) [uJ.var false true q.cells] (EX.leave 2,frame 158 [(1,.ptr 0 0),(3,.int .i64 q.n)],[uJ.var false true q.cells]))/\(b2=false->uT prog uK false HU (frame 158 [(1,.ptr 0 0),(3,.int .i64 q.n),(5,.int .i64 0)]) [uJ.var false true q.cells] (EX.ret,frame 158 [(1,.ptr 0 0),(2,.int .i64 280),(3,.int .i64 q.n)],[uJ.var false true q.cells])):=by
   rcases hB with ⟨a,b⟩ | ⟨a,b⟩
   ·exact ⟨true,fun _=>a,fun _=>b,(fun h=>by cases h)⟩
   ·exact ⟨false,(fun h=>by cases h),(fun h=>by cases h),fun _=>b⟩
  obtain ⟨e,h1,h2⟩:=rck q b1 b2 (fun _ _ _ _=>A1) (fun _ _ _ _=>A2) (fun _ _ _ _=>B1) (fun _ _ _ _=>B2);refine ⟨e,h1,fun he=>?_⟩;obtain ⟨x1,x2,w1,w2,w3,_,_,_,_,c1,c2,p1,p2⟩:=h2 he;exact ⟨w1,w2,w3,g1,g2,g3,g4,hb1 x1,hb2 x2,c1,c2,p1,p2⟩
 ·obtain ⟨e,h1,h2⟩:=rck q true true (fun a b c d=>absurd ⟨a,b,c,d⟩ hg) (fun a b c d=>absurd ⟨a,b,c,d⟩ hg) (fun a b c d=>absurd ⟨a,b,c,d⟩ hg) (fun a b c d=>absurd ⟨a,b,c,d⟩ hg);refine ⟨e,h1,fun he=>?_⟩;obtain ⟨_,_,_,_,_,y1,y2,y3,y4,_⟩:=h2 he;exact absurd ⟨y1,y2,y3,y4⟩ hg
theorem Vk {q:uL}(h:q.Valid):uY prog uK 13 [EV.agg q.cells] (.int .i64 0):=by
 refine ADD q h.w1 h.w2 h.w3 h.n1 h.n2 h.m' h.m h.c1 h.c2 h.p1 h.p2 ?_ ?_ (by rw [bne_eq_false_iff_eq,h.m'])
 ·rcases uM.all (P:=prog) (G:=uK) (rnd:=false) (c:=ACj) 1 (fun i=>frame 117 [(1,.ptr 0 0),(3,.int .i64 q.n),(41,AW q.nc q.n q.uZ),(42,.int .i64 q.n),(43,.int .i64 (i:Nat))]) (fun _=>[uJ.var false true q.cells]) q.n (Mq q) (fun i=>¬ Mq q i) (fun _=>(EX.ret,frame 117 [(1,.ptr 0 0),(2,.int .i64 280),(3,.int .i64 q.n)],[uJ.var false true q.cells])) (EX.leave 0,frame 117 [(1,.ptr 0 0),(3,.int .i64 q.n)],[uJ.var false true q.cells]) (fun _=>by simp) (by simp) (fun i=>by
   obtain ⟨r,h1,h2⟩:=ckA q i (by omega) h.m' h.n2;refine ⟨r,h1,?_⟩;rcases h2 with ⟨a,b,c⟩ | ⟨a,b,c⟩ | ⟨a,b⟩
   ·exact .inl ⟨a,by omega,c⟩
   ·exact .inr (.inl ⟨a,by omega,c⟩)
   ·exact .inr (.inr ⟨a,by omega⟩)) with ⟨h1,h2⟩ | ⟨i,h1,h2,h3,h4⟩
  ·exact h1.cl (by kernel_rfl) (by kernel_rfl)
  ·exact absurd (h.cl i h1) h2
 ·rcases uM.all (P:=prog) (G:=uK) (rnd:=false) (c:=ACv) 1 (fun i=>frame 117 [(1,.ptr 0 0),(3,.int .i64 q.n),(76,EV.uS q.no 2 q.m fun i=>(q.op i).cells),(77,.int .i64 q.m),(78,.int .i64 (i:Nat))]) (fun _=>[uJ.var false true q.cells]) q.m (Mr q) (fun i=>¬ Mr q i) (fun _=>(EX.ret,frame 117 [(1,.ptr 0 0),(2,.int .i64 280),(3,.int .i64 q.n)],[uJ.var false true q.cells])) (EX.leave 2,frame 117 [(1,.ptr 0 0),(3,.int .i64 q.n)],[uJ.var false true q.cells]) (fun _=>by simp) (by simp) (fun i=>by
   obtain ⟨r,h1,h2⟩:=ckB q i (by omega) h.n2 h.n1 h.m;refine ⟨r,h1,?_⟩;rcases h2 with ⟨a,b,c⟩ | ⟨a,b,c⟩ | ⟨a,b⟩
   ·exact .inl ⟨a,by omega,c⟩
   ·exact .inr (.inl ⟨a,by omega,c⟩)
   ·exact .inr (.inr ⟨a,by omega⟩)) with ⟨h1,h2⟩ | ⟨i,h1,h2,h3,h4⟩
  ·exact h1.cl (by kernel_rfl) (by kernel_rfl)
  ·exact absurd (h.op i h1) h2
end
end Go.Ev
namespace Go.Ev
open Go.Proofs.Tryz (prog)
set_option maxRecDepth 100000
set_option linter.unusedVariables false
set_option linter.unusedSectionVars false
def KindG (q:uL)(kd:Int):Prop:=((kd=1/\∀ c,Bw q c->¬ D1 q c)∨(kd=2/\(∃ c,Bw q c/\D1 q c)/\∀ c,Bw q c->¬ ET q c)∨(kd=3/\(∃ c,Bw q c/\ET q c)/\∃ c,Bw q c/\D1 q c)∨(kd=4/\q.flow=false/\8<q.m))/\(q.flow=true∨q.m<=8∨kd=4)
theorem AFv {q:uL}(h:q.Valid)(hn:q.n<=8)(hp:q.np=true):∃ kd,uY prog uK 7 [.agg q.cells] (.int .i64 kd)/\KindG q kd:=by
 obtain ⟨kd,v,_,h6,hd,hk⟩:=Yo (h.ok hn hp) (Vk h);refine ⟨kd,h6,?_,hk⟩;cases hd with
 | sure cb cn cr g=>exact .inl ⟨rfl,g⟩
 | out cb cn cr g1 g2=>exact .inr (.inl ⟨rfl,g1,g2⟩)
 | open' rb rv mb mv g1 g2 g3 g4=>exact .inr (.inr (.inl ⟨rfl,⟨rv,g1,g2⟩,⟨mv,g3,g4⟩⟩))
 | unk g1 g2=>exact .inr (.inr (.inr ⟨rfl,g1,g2⟩))
theorem KindG.same {q x:uL}{a b:Int}(ha:KindG q a)(hb:KindG x b)(hm:q.m=x.m)(hf:q.flow=x.flow)
  (h1:∀ c,Bw q c->∃ d,Bw x d/\(D1 q c↔D1 x d)/\(ET q c↔ET x d))
  (h2:∀ d,Bw x d->∃ c,Bw q c/\(D1 q c↔D1 x d)/\(ET q c↔ET x d)):a=b:=by
 obtain ⟨ha,ka⟩:=ha;obtain ⟨hb,kb⟩:=hb;rw [<-hm,<-hf] at kb;by_cases h8:q.flow=true∨q.m<=8
 ·have na:a≠4:=by
   intro e;rcases ha with ⟨x,_⟩ | ⟨x,_⟩ | ⟨x,_⟩ | ⟨_,x,y⟩
   ·omega
   ·omega
   ·omega
   ·rcases h8 with h | h
    ·rw [x] at h; cases h
    ·omega
  have nb:b≠4:=by
   intro e;rcases hb with ⟨x,_⟩ | ⟨x,_⟩ | ⟨x,_⟩ | ⟨_,x,y⟩
   ·omega
   ·omega
   ·omega
   ·rw [<-hf] at x;rw [<-hm] at y;rcases h8 with h | h
    ·rw [x] at h; cases h
    ·omega
  rcases ha with ⟨x,xa⟩ | ⟨x,⟨c,c1,c2⟩,xa⟩ | ⟨x,⟨c,c1,c2⟩,⟨d,d1,d2⟩⟩ | ⟨x,_⟩
  ·rcases hb with ⟨y,_⟩ | ⟨y,⟨e,e1,e2⟩,_⟩ | ⟨y,_,⟨e,e1,e2⟩⟩ | ⟨y,_⟩
   ·omega
   ·obtain ⟨c,k1,k2,_⟩:=h2 e e1; exact absurd (k2.2 e2) (xa c k1)
   ·obtain ⟨c,k1,k2,_⟩:=h2 e e1; exact absurd (k2.2 e2) (xa c k1)
   ·omega
  ·obtain ⟨e,k1,k2,_⟩:=h1 c c1;rcases hb with ⟨y,ya⟩ | ⟨y,_⟩ | ⟨y,⟨f,f1,f2⟩,_⟩ | ⟨y,_⟩
   ·exact absurd (k2.1 c2) (ya e k1)
   ·omega
   ·obtain ⟨c,l1,_,l2⟩:=h2 f f1; exact absurd (l2.2 f2) (xa c l1)
   ·omega
  ·obtain ⟨e,k1,_,k2⟩:=h1 c c1;obtain ⟨f,l1,l2,_⟩:=h1 d d1;rcases hb with ⟨y,ya⟩ | ⟨y,_,ya⟩ | ⟨y,_⟩ | ⟨y,_⟩
   ·exact absurd (l2.1 d2) (ya f l1)
   ·exact absurd (k2.1 c2) (ya e k1)
   ·omega
   ·omega
  ·omega
 ·have x:a=4:=by
   rcases ka with k | k | k
   ·exact absurd (.inl k) h8
   ·exact absurd (.inr k) h8
   ·exact k
  have y:b=4:=by
   rcases kb with k | k | k
   ·exact absurd (.inl k) h8
   ·exact absurd (.inr k) h8
   ·exact k
  omega
def uL.rest (q:uL)(x:Int):uL:={ q with uV:=I3 q q.uV 0 x,np:=true,m:=q.m - 1,op:=fun i=>q.op (1+i) }
end Go.Ev
namespace Go.Ev
open Go.Proofs.Tryz (prog)
set_option maxRecDepth 100000
set_option linter.unusedVariables false
set_option linter.unusedSectionVars false
def AGg (q:uL)(e:aF)(x:Int)(i:Nat):Int:=(if e.left=i then Mi q x else 0)+if e.right=i then Mj q x else 0
theorem AGw (q:uL)(c:Nat->Int)(i:Nat):∀ k,CS q c k i=q.uV i+Bd (fun g=>AGg q (q.op g) (c g) i) k
 | 0=>by simp [CS,Bd]
 | k+1=>by
  have ih:=AGw q c i k;rw [CS,I3,ih,Bd,AGg];omega
theorem AHG (q:uL)(e:aF){x:Int}(h:1<=x/\x<=3)(i:Nat):AGg q ⟨e.right,e.left⟩ (4 - x) i=AGg q e x i:=by
 have hL:Mi q (4 - x)=Mj q x:=by
  rcases (by omega:x=1∨x=2∨x=3) with rfl | rfl | rfl<;>rfl
 have hR:Mj q (4 - x)=Mi q x:=by
  rcases (by omega:x=1∨x=2∨x=3) with rfl | rfl | rfl<;>rfl
 unfold AGg;rw [hL,hR];exact Int.add_comm _ _
theorem AGn (F:Nat->Int)(a:Nat):∀ b,Bd F (a+b)=Bd F a+Bd (fun i=>F (a+i)) b
 | 0=>by simp [Bd]
 | b+1=>by
  have ih:=AGn F a b;rw [<-Nat.add_assoc,Bd,ih,Bd];omega
theorem AHN (F:Nat->Int)(m t:Nat):Bd (fun j=>F ((j+t) % m)) m=Bd F m:=by
 rcases Nat.eq_zero_or_pos m with rfl | hm
 ·rfl
 ·have hs:=Nat.mod_lt t hm;have e:∀ j,(j+t) % m=(j+t % m) % m:=fun j=>by simp
  have e1:Bd (fun j=>F ((j+t) % m)) m=Bd (fun j=>F ((j+t) % m)) (m - t % m+t % m):=by rw [show m - t % m+t % m=m by omega]
  have e2:Bd F m=Bd F (t % m+(m - t % m)):=by rw [show t % m+(m - t % m)=m by omega]
  rw [e1,e2,AGn,AGn];have a1:Bd (fun j=>F ((j+t) % m)) (m - t % m)=Bd (fun i=>F (t % m+i)) (m - t % m):=D8 fun j hj=>by
   show F ((j+t) % m)=F (t % m+j);rw [e,Nat.mod_eq_of_lt (by omega),Nat.add_comm]
  have a2:Bd (fun i=>F ((m - t % m+i+t) % m)) (t % m)=Bd F (t % m):=D8 fun j hj=>by
   show F ((m - t % m+j+t) % m)=F j;rw [e,show m - t % m+j+t % m=j+m by omega,Nat.add_mod_right,Nat.mod_eq_of_lt (by omega)]
  rw [a1,a2];omega
structure eK (q x:uL) (t:Nat) (b:Nat->Bool):Prop where
 eq:x.aI=q.aI/\x.draw=q.draw/\x.n=q.n/\x.uV=q.uV/\x.m=q.m/\x.uO=q.uO/\x.place=q.place
 op:∀ i,i<q.m->x.op i=if b i then ⟨(q.op ((i+t) % q.m)).right,(q.op ((i+t) % q.m)).left⟩ else q.op ((i+t) % q.m)
theorem eK.fin {q x:uL}{t:Nat}{b:Nat->Bool}(h:eK q x t b){c d:Nat->Int}(hc:Bw q c)(hd:∀ j,j<q.m->d j=if b j then 4 - c ((j+t) % q.m) else c ((j+t) % q.m)):CS x d x.m=CS q c q.m:=by
 obtain ⟨e1,e2,e3,e4,e5,e6,e7⟩:=h.eq;have hg:∀ e y i,AGg x e y i=AGg q e y i:=fun e y i=>by unfold AGg Mi Mj; rw [e1,e2]
 funext i;rw [AGw,AGw,e4,e5,<-AHN (fun g=>AGg q (q.op g) (c g) i) q.m t];refine congrArg (q.uV i+·) (D8 fun j hj=>?_);show AGg x (x.op j) (d j) i=AGg q (q.op ((j+t) % q.m)) (c ((j+t) % q.m)) i;have hm:=Nat.mod_lt (j+t) (show 0<q.m by omega);rw [hg,h.op j hj,hd j hj];cases b j
 ·rfl
 ·exact AHG q _ (hc _ hm) i
theorem eK.aN {q x:uL}{t:Nat}{b:Nat->Bool}(h:eK q x t b){c d:Nat->Int}(hc:Bw q c)(hd:∀ j,j<q.m->d j=if b j then 4 - c ((j+t) % q.m) else c ((j+t) % q.m)):(D1 q c↔D1 x d)/\(ET q c↔ET x d):=by
 have e:=h.fin hc hd;obtain ⟨e1,e2,e3,e4,e5,e6,e7⟩:=h.eq;unfold D1 ET uL.own;rw [e,e3,e6,e7];exact ⟨Iff.rfl,Iff.rfl⟩
theorem eK.kind {q x:uL}{t:Nat}{b:Nat->Bool}(h:eK q x t b){k l:Int}(hk:KindG q k)(hl:KindG x l):k=l:=by
 obtain ⟨e1,e2,e3,e4,e5,e6,e7⟩:=h.eq;refine hk.same hl e5.symm (by unfold uL.flow; rw [e1,e2]) (fun c hc=>?_) fun d hd=>?_
 ·have hd:∀ j,j<q.m->(fun j=>if b j then 4 - c ((j+t) % q.m) else c ((j+t) % q.m)) j=if b j then 4 - c ((j+t) % q.m) else c ((j+t) % q.m):=fun _ _=>rfl
  refine ⟨_,fun g hg=>?_,h.aN hc hd⟩;rw [e5] at hg;have:=hc _ (Nat.mod_lt (g+t) (show 0<q.m by omega));show 1<=(if b g then 4 - c ((g+t) % q.m) else c ((g+t) % q.m))/\(if b g then 4 - c ((g+t) % q.m) else c ((g+t) % q.m))<=3;cases b g
  ·exact this
  ·exact ⟨by rw [if_pos rfl]; omega,by rw [if_pos rfl]; omega⟩
 ·let inv:Nat->Nat:=fun g=>(g+(q.m - t % q.m)) % q.m
  let c:Nat->Int:=fun g=>if b (inv g) then 4 - d (inv g) else d (inv g)
  have hinv:∀ j,j<q.m->inv ((j+t) % q.m)=j:=fun j hj=>by
   have hs:=Nat.mod_lt t (show 0<q.m by omega);show ((j+t) % q.m+(q.m - t % q.m)) % q.m=j;rw [Nat.mod_add_mod,show (j+t+(q.m - t % q.m)) % q.m=(j+t % q.m+(q.m - t % q.m)) % q.m by rw [Nat.add_mod (j+t),Nat.add_mod (j+t % q.m),Nat.add_mod j t,Nat.add_mod j (t % q.m),Nat.mod_mod],
    show j+t % q.m+(q.m - t % q.m)=j+q.m by omega,Nat.add_mod_right,Nat.mod_eq_of_lt hj]
  have hc:Bw q c:=fun g hg=>by
   have:=hd (inv g) (by rw [e5]; exact Nat.mod_lt _ (by omega));show 1<=(if b (inv g) then 4 - d (inv g) else d (inv g))/\(if b (inv g) then 4 - d (inv g) else d (inv g))<=3;cases b (inv g)
   ·exact this
   ·exact ⟨by rw [if_pos rfl]; omega,by rw [if_pos rfl]; omega⟩
  refine ⟨c,hc,h.aN hc fun j hj=>?_⟩;show d j=if b j then 4 - (if b (inv ((j+t) % q.m)) then 4 - d (inv ((j+t) % q.m)) else d (inv ((j+t) % q.m))) else if b (inv ((j+t) % q.m)) then 4 - d (inv ((j+t) % q.m)) else d (inv ((j+t) % q.m))
  rw [hinv j hj];cases b j
  ·rfl
  ·show d j=4 - (4 - d j);omega
structure dW (q y:uL) (k:Int):Prop where
 eq:y.aI=k*q.aI/\y.draw=k*q.draw/\y.n=q.n/\y.m=q.m/\y.op=q.op/\y.uO=q.uO/\y.place=q.place
 uV:∀ i,i<q.n->y.uV i=k*q.uV i
theorem dW.fin {q y:uL}{k:Int}(h:dW q y k)(c:Nat->Int){i:Nat}(hi:i<q.n):∀ j,CS y c j i=k*CS q c j i
 | 0=>h.uV i hi
 | j+1=>by
  obtain ⟨e1,e2,e3,e4,e5,e6,e7⟩:=h.eq;have ih:=dW.fin h c hi j;have hL:Mi y (c j)=k*Mi q (c j):=by
   unfold Mi; rw [e1,e2]; split
   ·rfl
   ·split
    ·exact (Int.mul_zero k).symm
    ·rfl
  have hR:Mj y (c j)=k*Mj q (c j):=by
   unfold Mj; rw [e1,e2]; split
   ·rfl
   ·split
    ·exact (Int.mul_zero k).symm
    ·rfl
  rw [CS,CS,I3,I3,ih,hL,hR,e5,Int.mul_add,Int.mul_add]
  congr 1
  ·congr 1
   split
   ·rfl
   ·exact (Int.mul_zero k).symm
  ·split
   ·rfl
   ·exact (Int.mul_zero k).symm
theorem dW.aN {q y:uL}{k:Int}(h:dW q y k)(hk:0<k)(ho:q.own<q.n)(c:Nat->Int):(D1 q c↔D1 y c)/\(ET q c↔ET y c):=by
 obtain ⟨e1,e2,e3,e4,e5,e6,e7⟩:=h.eq;have hl:DR y.n y.own (CS y c y.m)=DR q.n q.own (CS q c q.m):=by
  unfold DR uL.own;rw [e3,e4,e6];refine congrArg List.length (List.filter_congr fun i hi=>?_);rw [h.fin c (Cy.1 hi).1 q.m,h.fin c ho q.m];exact decide_eq_decide.2 (Int.mul_le_mul_left hk)
 have hm:HD y.n y.own (CS y c y.m)=HD q.n q.own (CS q c q.m):=by
  unfold HD uL.own;rw [e3,e4,e6];refine congrArg List.length (List.filter_congr fun i hi=>?_);rw [h.fin c (Cy.1 hi).1 q.m,h.fin c ho q.m];exact decide_eq_decide.2 (Int.mul_lt_mul_left hk)
 unfold D1 ET;rw [hl,hm,e7];exact ⟨Iff.rfl,Iff.rfl⟩
theorem dW.kind {q y:uL}{k:Int}(h:dW q y k)(hk:0<k)(ho:q.own<q.n){a b:Int}(ha:KindG q a)(hb:KindG y b):a=b:=by
 obtain ⟨e1,e2,e3,e4,e5,e6,e7⟩:=h.eq;refine ha.same hb e4.symm ?_ (fun c hc=>⟨c,fun g hg=>hc g (by rw [e4] at hg; exact hg),h.aN hk ho c⟩) fun d hd=>⟨d,fun g hg=>hd g (by rw [e4]; exact hg),h.aN hk ho d⟩
 unfold uL.flow;rw [e1,e2];have f1:(k*q.draw>0)=(q.draw>0):=propext ⟨fun g=>by
  rcases (by omega:0<q.draw∨q.draw<=0) with h | h
  ·exact h
  ·have:=Int.mul_le_mul_of_nonneg_left h (Int.le_of_lt hk); rw [Int.mul_zero] at this; omega,fun g=>Int.mul_pos hk g⟩
 have f2:(k*q.aI==2*(k*q.draw))=(q.aI==2*q.draw):=by
  rw [show 2*(k*q.draw)=k*(2*q.draw) by rw [<-Int.mul_assoc,Int.mul_comm 2 k,Int.mul_assoc]];rcases hh:(q.aI==2*q.draw) with _ | _
  ·rw [beq_eq_false_iff_ne] at hh ⊢;exact fun e=>hh (Int.eq_of_mul_eq_mul_left (by omega) e)
  ·rw [beq_iff_eq] at hh ⊢;rw [hh]
 rw [f2];simp only [f1]
end Go.Ev
namespace Go.Ev
open Go.Proofs.Tryz (prog)
set_option maxRecDepth 100000
set_option maxHeartbeats 0
def T0:Ia:=(51,[.ip [iv 2,iv 1,.uS true 1 2 (fun i=>[[iv 3],[iv 5]].getD i []),.uS true 1 2 (fun i=>[[iv 0],[iv 0]].getD i []),.uS true 2 1 (fun i=>[[iv 0,iv 1]].getD i []),iv 0,iv 1,.uS true 1 1 (fun i=>[[iv 1]].getD i []),.uS true 2 1 (fun i=>[[iv 0,iv 1]].getD i []),.im [(.agg [iv 0,iv 1],.uS true 1 1 (fun i=>[[iv 0]].getD i []))],iv 2] 0,.uS true 1 1 (fun i=>[[iv 1]].getD i [])],.tuple [.uS true 1 1 (fun i=>[[iv 3]].getD i []),.agg [s0,s0,s0],.bool true]) :: []
theorem hT0:Om prog uK T0:=⟨Eg (T:=[]) trivial (pures:=pures) (news:=news) (n:=40) (fuel:=100000) C1 (by kernel_rfl) (by kernel_rfl),trivial⟩
def T1:Ia:=(30,[.ip [iv 2,iv 1,.uS true 1 2 (fun i=>[[iv 3],[iv 5]].getD i []),.uS true 1 2 (fun i=>[[iv 0],[iv 0]].getD i []),.uS true 2 1 (fun i=>[[iv 0,iv 1]].getD i []),iv 0,iv 1,.uS true 1 1 (fun i=>[[iv 1]].getD i []),.uS true 2 1 (fun i=>[[iv 0,iv 1]].getD i []),.im [(.agg [iv 0,iv 1],.uS true 1 1 (fun i=>[[iv 0]].getD i []))],iv 2] 0],.agg [iv 3,.uS true 1 1 (fun i=>[[iv 1]].getD i []),.uS true 1 1 (fun i=>[[iv 3]].getD i []),s0]) :: T0
theorem hT1:Om prog uK T1:=⟨Eg (T:=T0) hT0 (pures:=pures) (news:=news) (n:=40) (fuel:=100000) C1 (by kernel_rfl) (by kernel_rfl),hT0⟩
def T2:Ia:=(81,[.agg [iv 5,.uS true 3 3 (fun i=>[[iv 0,iv 1,iv 2],[iv 1,iv 3,iv 2],[iv 3,iv 4,iv 5]].getD i [])]],.tuple [.uS true 1 3 (fun i=>[[iv 2],[iv 2],[iv 2]].getD i []),iv 2,.uS true 1 1 (fun i=>[[iv 0]].getD i []),iv 0]) :: T1
theorem hT2:Om prog uK T2:=⟨Eg (T:=T1) hT1 (pures:=pures) (news:=news) (n:=40) (fuel:=100000) C1 (by kernel_rfl) (by kernel_rfl),hT1⟩
def T3:Ia:=(14,[.agg [iv 2,iv 1,.uS true 1 2 (fun i=>[[iv 3],[iv 5]].getD i []),.uS true 1 2 (fun i=>[[iv 5],[iv 0]].getD i []),.uS true 2 1 (fun i=>[[iv 0,iv 1]].getD i []),iv 0,iv 1]],.tuple [.agg [iv 1,s0,s0,.uS true 3 1 (fun i=>[[.uS true 1 1 (fun i=>[[iv 1]].getD i []),.uS true 1 1 (fun i=>[[iv 1]].getD i []),.uS true 1 1 (fun i=>[[iv 0]].getD i [])]].getD i [])],iv 0]) :: T2
theorem hT3:Om prog uK T3:=⟨Eg (T:=T2) hT2 (pures:=pures) (news:=news) (n:=40) (fuel:=100000) C1 (by kernel_rfl) (by kernel_rfl),hT2⟩
def T4:Ia:=(51,[.ip [iv 2,iv 1,.uS true 1 2 (fun i=>[[iv 3],[iv 5]].getD i []),.uS true 1 2 (fun i=>[[iv 5],[iv 0]].getD i []),.uS true 2 1 (fun i=>[[iv 0,iv 1]].getD i []),iv 1,iv 1,.uS true 1 1 (fun i=>[[iv 0]].getD i []),.uS true 2 1 (fun i=>[[iv 0,iv 1]].getD i []),.im [(.agg [iv 0,iv 1],.uS true 1 1 (fun i=>[[iv 0]].getD i []))],iv 2] 0,.uS true 1 1 (fun i=>[[iv 0]].getD i [])],.tuple [.uS true 1 1 (fun i=>[[iv 1]].getD i []),.agg [s0,s0,s0],.bool true]) :: T3
theorem hT4:Om prog uK T4:=⟨Eg (T:=T3) hT3 (pures:=pures) (news:=news) (n:=40) (fuel:=100000) C1 (by kernel_rfl) (by kernel_rfl),hT3⟩
def T5:Ia:=(5,[],.bool true) :: T4
theorem hT5:Om prog uK T5:=⟨Eg (T:=T4) hT4 (pures:=pures) (news:=news) (n:=40) (fuel:=100000) C1 (by kernel_rfl) (by kernel_rfl),hT4⟩
end Go.Ev
namespace Go.Ev
open Go.Proofs.Tryz (prog)
set_option maxRecDepth 100000
set_option linter.unusedVariables false
set_option linter.unusedSectionVars false
theorem AG8 (x:Int)(n:Nat)(hn:n<18446744073709551616):(BitVec.ofInt 64 x &&& BitVec.ofInt 64 (n:Int)).toNat<=n:=by
 rw [BitVec.toNat_and];refine Nat.le_trans Nat.and_le_right ?_;rw [BitVec.toNat_ofInt];omega
theorem AHE {n:Nat}(h:n<=9223372036854775807):IntKind.i64.wrap (n:Int)=n:=M6 (by rw [C0]; simp; omega)
theorem AHQ (tu:Int):∃ t:Nat,tWr tu=t/\t<=1023:=by
 have hk:=AG8 tu 1023 (by decide);rw [show ((1023:Nat):Int)=1023 from rfl] at hk;exact ⟨_,AHE (by omega),hk⟩
theorem AHZ (ti:Int):1<=tK ti/\tK ti<=8:=by
 have hk:=AG8 ti 7 (by decide);rw [show ((7:Nat):Int)=7 from rfl] at hk;unfold tK;rw [AHE (by omega)];omega
def AGZ (q:uL)(tu:Int)(t:Nat)(i:Nat):aF:=if AHP tu i then ⟨(q.op ((i+t) % q.m)).right,(q.op ((i+t) % q.m)).left⟩ else q.op ((i+t) % q.m)
abbrev tuT (q:uL)(tu ti:Int)(i:Nat):List EV:=frame 117 [(1,.int .i64 tu),(2,.int .i64 ti),(3,.ptr 0 0),(7,.ptr 1 0),(35,.int .i64 q.m),(36,.int .i64 (i:Nat))]
abbrev AHR:EV:=EV.uS false 0 0 fun _=>[]
abbrev tuN (q:uL):AL:=[uJ.var false true q.cells,uJ.var false true (cG q.aI q.draw q (AW q.np q.m' q.uV) AHR)]
abbrev tuA (q:uL)(c:Nat)(w:Nat->aF):AL:=[uJ.var false true q.cells,uJ.var false false (cG q.aI q.draw q (AW q.np q.m' q.uV) (.ms 2 2 0 c none)),uJ.arr false true 2 false c fun j=>(w j).cells]
abbrev tuD (q:uL)(nn:Bool)(es L:Nat)(rx:Nat->List EV):AL:=[uJ.var false true q.cells,uJ.var false false (cG q.aI q.draw q (AW q.np q.m' q.uV) (.uS nn es L rx)),uJ.dead]
abbrev tuX (ti:Int):List EV:=frame 117 [(2,.int .i64 ti),(3,.ptr 0 0),(7,.ptr 1 0)]
section
variable {q:uL}{tu ti:Int}{t:Nat}(ht:tWr tu=t)(hb:t<=1023)(hm:q.m<=14)
include ht hb
theorem idx_eq (i:Nat):((i:Int)+tWr tu).tmod (q.m:Int)=(((i+t) % q.m:Nat):Int):=by
 rw [ht,<-Int.natCast_add];exact (Int.ofNat_tmod _ _).symm
theorem AHA {i:Nat}(hi:i<q.m):dG (((i:Int)+tWr tu).tmod (q.m:Int)) q.m=true:=by
 rw [idx_eq ht hb];have:=Nat.mod_lt (i+t) (show 0<q.m by omega);unfold dG;rw [uF,decide_eq_true_eq,decide_eq_true_eq];omega
theorem AHB {i:Nat}(hi:i<=14):eM IntKind.i64 ((i:Int)+tWr tu)=true:=by
 rw [ht,C0,uF,decide_eq_true_eq,decide_eq_true_eq];omega
theorem AHv (i:Nat):[EV.int .i64 (bif AHP tu i then (q.op (((i:Int)+tWr tu).tmod (q.m:Int)).toNat).right else (q.op (((i:Int)+tWr tu).tmod (q.m:Int)).toNat).left),EV.int .i64 (bif AHP tu i then (q.op (((i:Int)+tWr tu).tmod (q.m:Int)).toNat).left else (q.op (((i:Int)+tWr tu).tmod (q.m:Int)).toNat).right)]=(AGZ q tu t i).cells:=by
 rw [idx_eq ht hb,uG];unfold AGZ;cases AHP tu i<;>rfl
include hm
theorem AG9:∀ (k i:Nat),0<i->i+k=q.m->uM prog uK false 2 AHT (tuT q tu ti i) (tuA q i (AGZ q tu t)) (EX.leave 0,tuX ti,tuA q q.m (AGZ q tu t))
 | 0,i,h0,hi=>by
  obtain rfl:i=q.m:=by omega
  exact uM.aC (AHf q tu ti _ _ (AGZ q tu t) rfl) (by simp)
 | k+1,i,h0,hi=>by
  have ih:=AG9 k (i+1) (by omega) (by omega);refine uM.uQ (uR.weaken (AHc q tu ti i i (AGZ q tu t) (by omega) (by omega) hm (AHB ht hb (by omega)) (AHA ht hb (by omega)) (by omega)) (uI _) (.cons (uH _) (.cons (uH _) (.cons (uU.arr (row':=fun j=>(AGZ q tu t j).cells) fun j hj=>?_) .nil)))) ih;simp only [Ar,Nat.zero_add];rcases (by omega:j<i∨j=i) with h | rfl
  ·rw [if_pos h]
  ·rw [if_neg (Nat.lt_irrefl _),Nat.sub_self];exact AHv ht hb j
theorem AHO (h0:0<q.m):uT prog uK false AHS (tuT q tu ti 0) (tuN q) (EX.leave 0,tuX ti,tuD q true 2 q.m fun j=>(AGZ q tu t j).cells):=by
 have ih:=AG9 (ti:=ti) ht hb hm (q.m - 1) 1 (by omega) (by omega);have hl:uT prog uK false AHS (tuT q tu ti 0) (tuN q) (EX.leave 0,tuX ti,tuA q q.m (AGZ q tu t)):=by
  refine uM.cl (c:=AHT) (m:=2) ?_ (by kernel_rfl) (by kernel_rfl);refine uM.uQ (uR.weaken (AHa q tu ti ((0:Nat):Int) (by omega) (by omega) hm (AHB ht hb (by omega)) (AHA ht hb (by omega))) (uI _) (.cons (uH _) (.cons (uH _) (.cons (uU.arr (row':=fun j=>(AGZ q tu t j).cells) fun j hj=>?_) .nil)))) ih;obtain rfl:j=0:=by omega
  exact AHv ht hb 0
 exact hl.post (NF (s1:=tuA q q.m (AGZ q tu t)) (cells:=cG q.aI q.draw q (AW q.np q.m' q.uV) (.ms 2 2 0 q.m none)) (row:=fun j=>(AGZ q tu t j).cells) (j:=4) (q:=1) (r:=2) rfl rfl (by omega) rfl)
end
theorem AHL {q:uL}(tu ti:Int)(h0:q.m=0):uT prog uK false AHS (tuT q tu ti 0) (tuN q) (EX.leave 0,tuX ti,tuD q false 0 0 fun _=>[]):=by
 have hl:uT prog uK false AHS (tuT q tu ti 0) (tuN q) (EX.leave 0,tuX ti,tuN q):=uM.cl (m:=2) (uM.aC (AHe q tu ti _ (by omega)) (by simp)) (by kernel_rfl) (by kernel_rfl);have h2:=uT.weaken (uI _) (aP.refl _) hl (uI _) (.cons (uH _) (.cons uU.varf .nil));exact uT.weaken (uI _) (aP.refl _) (h2.post fun K w mt hR hv=>⟨K,(hR.pad 1).1,(hR.pad 1).2,hv⟩) (uI _) (.cons (uH _) (.cons (uH _) (.cons uU.dead .nil)))
section
variable {q:uL}{k w1 w2:Int}(hM:q.m'<=24)(hP:∀ i,i<q.m'->-1000000<=k*q.uV i/\k*q.uV i<=1000000)
abbrev tzT (q:uL)(k:Int)(i:Nat):List EV:=frame 117 [(3,.ptr 0 0),(7,.ptr 1 0),(10,.ptr 3 0),(11,.int .i64 k),(86,AW q.np q.m' q.uV),(87,.int .i64 q.m'),(88,.int .i64 (i:Nat))]
abbrev opQ (q:uL):EV:=.uS q.no 2 q.m fun j=>(q.op j).cells
abbrev tzN (q:uL)(w1 w2:Int):AL:=[uJ.var false true (cG w1 w2 q AHR (opQ q))]
abbrev tzA (q:uL)(w1 w2 k:Int)(c:Nat):AL:=[uJ.var false false (cG w1 w2 q (.ms 4 1 0 c none) (opQ q)),uJ.arr false true 1 false c fun j=>[.int .i64 (k*q.uV j)]]
abbrev tzX:List EV:=frame 117 [(3,.ptr 0 0),(7,.ptr 1 0),(10,.ptr 3 0)]
include hM hP
theorem AGx (nn:Bool)(es L:Nat)(rx:Nat->List EV):∀ (n i:Nat),0<i->i+n=q.m'->uM prog uK false 4 AHV (tzT q k i) (tuD q nn es L rx++tzA q w1 w2 k i) (EX.leave 2,tzX,tuD q nn es L rx++tzA q w1 w2 k q.m')
 | 0,i,h0,hi=>by
  obtain rfl:i=q.m':=by omega
  exact uM.aC (AHi q nn es L rx k w1 w2 _ _ (fun j=>k*q.uV j) rfl) (by simp)
 | n+1,i,h0,hi=>by
  have ih:=AGx nn es L rx n (i+1) (by omega) (by omega);have hp:=hP i (by omega);refine uM.uQ (uR.weaken (AHh q nn es L rx k w1 w2 i i (fun j=>k*q.uV j) (by omega) (by omega) hM hp.1 hp.2 (by omega)) (uI _) (.cons (uH _) (.cons (uH _) (.cons (uH _) (.cons (uH _) (.cons (uU.arr (row':=fun j=>[.int .i64 (k*q.uV j)]) fun j hj=>?_) .nil)))))) ih;simp only [Ar,Nat.zero_add];rcases (by omega:j<i∨j=i) with h | rfl
  ·rw [if_pos h]
  ·rw [if_neg (Nat.lt_irrefl _),Nat.sub_self];rfl
theorem AHM (nn:Bool)(es L:Nat)(rx:Nat->List EV)(h0:0<q.m'):uT prog uK false AHU (tzT q k 0) (tuD q nn es L rx++tzN q w1 w2) (EX.leave 2,tzX,tuD q nn es L rx++tzA q w1 w2 k q.m'):=by
 have ih:=AGx (w1:=w1) (w2:=w2) hM hP nn es L rx (q.m' - 1) 1 (by omega) (by omega);have hp:=hP 0 (by omega);refine uM.cl (m:=4) (uM.uQ (uR.weaken (AHg q nn es L rx k w1 w2 ((0:Nat):Int) (by omega) (by omega) hM hp.1 hp.2) (uI _) (.cons (uH _) (.cons (uH _) (.cons (uH _) (.cons (uH _) (.cons (uU.arr (row':=fun j=>[.int .i64 (k*q.uV j)]) fun j hj=>?_) .nil)))))) ih) (by kernel_rfl) (by kernel_rfl);obtain rfl:j=0:=by omega
 rfl
end
abbrev AHI (q:uL)(tu:Int)(t:Nat)(no:Bool):uL:={ q with no:=no,op:=AGZ q tu t }
theorem AHC (q:uL)(tu:Int)(t:Nat)(no:Bool):eK q (AHI q tu t no) t (fun i=>AHP tu (i:Nat)):=⟨⟨rfl,rfl,rfl,rfl,rfl,rfl,rfl⟩,fun i hi=>rfl⟩
theorem AHF {q:uL}(h:q.Valid)(tu:Int)(t:Nat)(no:Bool):(AHI q tu t no).Valid:=by
 refine ⟨h.w1,h.w2,h.w3,h.n1,h.n2,h.m',h.m,h.cl,fun i hi=>?_,h.c1,h.c2,h.p1,h.p2⟩;have hi:i<q.m:=hi;have ho:=h.op _ (Nat.mod_lt (i+t) (show 0<q.m by omega));simp only [Mr,uG] at ho ⊢;obtain ⟨o1,o2,o3,o4,o5⟩:=ho;show 0<=(AGZ q tu t i).left/\(AGZ q tu t i).left<q.n/\0<=(AGZ q tu t i).right/\(AGZ q tu t i).right<q.n/\(AGZ q tu t i).left≠(AGZ q tu t i).right;unfold AGZ;split
 ·exact ⟨o3,o4,o1,o2,o5.symm⟩
 ·exact ⟨o1,o2,o3,o4,o5⟩
abbrev AHD (q:uL)(k:Int):uL:={ q with aI:=k*q.aI,draw:=k*q.draw,np:=true,uV:=fun i=>k*q.uV i }
theorem turned_sem (q:uL)(tu ti:Int)(hnp:q.m'≠0->q.np=true)(hno:q.m≠0->q.no=true):uY prog uK 3 [EV.agg q.cells,.int .i64 tu,.int .i64 ti] (.bool true):=by
 obtain ⟨e,h6,hV⟩:=Sv q;by_cases hO:8<q.n∨14<q.m∨e≠0
 ·exact trO q tu ti e hO hT5.1 h6
 ·obtain rfl:e=0:=by omega
  have h:=hV rfl;have n1:=h.n1;have w1:=h.w1;have w2:=h.w2;have w3:=h.w3;have hm':=h.m';have hn:q.n<=8:=by omega
  have hm:q.m<=14:=by omega
  have hp:q.np=true:=hnp (by omega);obtain ⟨t,ht,hb⟩:=AHQ tu;obtain ⟨k1,k2⟩:=AHZ ti;have hkw:0<=tK ti*q.aI/\tK ti*q.aI<=8*999:=⟨Int.mul_nonneg (by omega) (by omega),Int.mul_le_mul k2 w3 (by omega) (by omega)⟩
  have hkd:0<=tK ti*q.draw/\tK ti*q.draw<=8*999:=⟨Int.mul_nonneg (by omega) (by omega),Int.mul_le_mul k2 (by omega) (by omega) (by omega)⟩
  have hP:∀ i,i<q.m'->-1000000<=tK ti*q.uV i/\tK ti*q.uV i<=1000000:=fun i hi=>by
   have hc:=(h.cl i (by omega)).2.2.2;simp only [uG] at hc;have a1:=Int.mul_le_mul_of_nonneg_left hc.2 (show 0<=tK ti by omega);have a2:=Int.mul_le_mul_of_nonneg_left hc.1 (show 0<=tK ti by omega);omega
  obtain ⟨a,ha,hK⟩:=AFv h hn hp;have hX:∀ no,uY prog uK 7 [.agg (AHI q tu t no).cells] (.int .i64 a):=fun no=>by
   obtain ⟨b,hb',hKb⟩:=AFv (AHF h tu t no) hn hp;rw [(AHC q tu t no).kind hK hKb];exact hb'
  obtain ⟨e2,hy6,hYV⟩:=Sv (AHD q (tK ti));have hY:e2=0->uY prog uK 7 [.agg (AHD q (tK ti)).cells] (.int .i64 a):=fun h2=>by
   obtain ⟨b,hb',hKb⟩:=AFv (hYV h2) hn rfl;have hs:dW q (AHD q (tK ti)) (tK ti):=⟨⟨rfl,rfl,rfl,rfl,rfl,rfl,rfl⟩,fun _ _=>rfl⟩
   rw [hs.kind (by omega) (by have:=h.c1; have:=h.c2; unfold uL.own; omega) hK hKb];exact hb'
  have eY:cG (tK ti*q.aI) (tK ti*q.draw) q (AW true q.m' fun j=>tK ti*q.uV (0+j)) (opQ q)=(AHD q (tK ti)).cells:=by
   unfold cG uL.cells;simp only [Nat.zero_add]
  have rng:∀ x:Int,0<=x/\x<=8*999->eM IntKind.i64 x=true:=fun x hx=>by
   rw [C0,uF,decide_eq_true_eq,decide_eq_true_eq];omega
  rw [<-eY] at hy6 hY;by_cases h0:q.m=0
  ·have hX0:uY prog uK 7 [EV.agg (cG q.aI q.draw q (AW q.np q.m' q.uV) AHR)] (.int .i64 a):=by
    refine uY.weaken (.cons (aG.eU ?_) .nil) (hX false) (aG.refl _);refine .cons (aG.refl _) (.cons (aG.refl _) (.cons (aG.refl _) (.cons (aG.refl _) (.cons ?_ (.cons (aG.refl _) (.cons (aG.refl _) .nil))))));show aG AHR (.uS false 2 q.m _);rw [h0];exact aG.bB
   exact trA q tu ti false 0 0 (fun _=>[]) (fun j=>tK ti*q.uV j) e2 a hn hm (rng (tK ti) (by omega)) (rng _ hkw) (rng _ hkd) hT5.1 h6 hy6 ha hX0 hY (AHL tu ti h0) (AHM (by omega) hP false 0 0 (fun _=>[]) (by omega))
  ·exact trA q tu ti true 2 q.m (fun j=>(AGZ q tu t j).cells) (fun j=>tK ti*q.uV j) e2 a hn hm (rng (tK ti) (by omega)) (rng _ hkw) (rng _ hkd) hT5.1 h6 hy6 ha (hX true) hY (AHO ht hb hm (by omega)) (AHM (by omega) hP true 2 q.m _ (by omega))
end Go.Ev
namespace Go.Ev
def LZ (T:Go.TypeId->List EV->Prop):List Field->List EV->Prop
 | [],vs=>vs=[]
 | f :: fs,vs=>∃ a b,vs=a++b/\T f.type a/\LZ T fs b
def Typed (P:Program):Nat->Go.TypeId->List EV->Prop
 | 0,_,_=>False
 | n+1,t,vs=>match P.underlying t with
  | some .bool=>∃ b,vs=[.bool b]
  | some (.int k)=>∃ i,vs=[.int k i]/\k.min<=i/\i<=k.max
  | some .string=>∃ s:ByteArray,vs=[.str s]/\s.size<=maxLen
  | some (.slice e)=>vs=[.uS false (P.cellsOf e) 0 fun _=>[]]∨∃ len row,vs=[.uS true (P.cellsOf e) len row]/\len<=maxLen/\∀ i,i<len->Typed P n e (row i)
  | some (.struct fs)=>LZ (Typed P n) fs.toList vs
  | _=>False
def Kh (P:Program)(ok:Go.TypeId->Bool):List Field->Nat->Nat->Bool
 | [],o,tot=>Nat.beq o tot
 | f :: fs,o,tot=>Nat.beq f.offset o && ok f.type && Kh P ok fs (o+P.cellsOf f.type) tot
def okT (P:Program):Nat->Go.TypeId->Bool
 | 0,_=>false
 | n+1,t=>match P.underlying t with
  | some .bool=>true
  | some (.int _)=>true
  | some .string=>true
  | some (.slice e)=>!Nat.beq (P.cellsOf e) 0 && okT P n e
  | some (.struct fs)=>Kh P (okT P n) fs.toList 0 (P.cellsOf t)
  | _=>false
def bR (F:Nat->Prop)(w:World)(vs:List EV)(cs:List Value):Prop:=
 vs.length=cs.length/\∀ i (h1:i<vs.length) (h2:i<cs.length),(cs[i]).oneCell'=true/\PR F w vs[i] cs[i]
theorem bR.one {F:Nat->Prop}{w:World}{v:EV}{m:Value}(h1:m.oneCell'=true)(h:PR F w v m):bR F w [v] [m]:=by
 refine ⟨rfl,fun i a b=>?_⟩;have:i=0:=by simpa using a
 subst this;exact ⟨h1,h⟩
theorem bR.app {F:Nat->Prop}{w:World}{a b:List EV}{c d:List Value}(h:bR F w a c)(g:bR F w b d):bR F w (a++b) (c++d):=by
 obtain ⟨h1,h2⟩:=h;obtain ⟨g1,g2⟩:=g;refine ⟨by simp [h1,g1],fun i x y=>?_⟩;by_cases hi:i<a.length
 ·have hi':i<c.length:=by omega
  rw [List.getElem_append_left hi,List.getElem_append_left hi'];exact h2 i hi hi'
 ·have hi':¬ i<c.length:=by omega
  rw [List.getElem_append_right (by omega),List.getElem_append_right (by omega)];simp only [List.length_append] at x y;have:=g2 (i - a.length) (by omega) (by omega);simpa [h1] using this
section
variable {H:Type}{enc:TypeId×Value->H}{P:Program}{w:World}{spare:Nat->Bool}{held:Bool}{F:Nat->Prop}
theorem Rs {T:Go.TypeId->List EV->Prop}{ok:Go.TypeId->Bool}{n:Nat}{cs:List Value}{tot:Nat}(hl:cs.length=tot)
  (ih:∀ t cs' x,ok t=true->DataW.trod enc P w 0 spare held n t cs'=some x->∃ vs,bR F w vs cs'/\T t vs):
  ∀ (fs:List Field) (o:Nat) (xs:List (DataW H×List MemPlace)),Kh P ok fs o tot=true->xs.length=fs.length->
   (∀ (i:Nat) (f:Field),fs[i]? =some f->DataW.trod enc P w 0 spare held n f.type ((cs.drop f.offset).take (P.cellsOf f.type))=xs[i]?)->
   ∃ vs,bR F w vs (cs.drop o)/\LZ T fs vs
 | [],o,xs,hc,_,_=>by
  have:o=tot:=Nat.eq_of_beq_eq_true hc;refine ⟨[],⟨by simp; omega,fun i h=>by simp at h⟩,rfl⟩
 | f :: fs,o,xs,hc,hx,h=>by
  simp only [Kh,uF] at hc;obtain ⟨⟨ho,hk⟩,hr⟩:=hc;have ho:f.offset=o:=Nat.eq_of_beq_eq_true ho
  match xs,hx with
  | x :: xs,hx=>
   have h0:=h 0 f rfl;obtain ⟨a,ha,hta⟩:=ih _ _ x hk h0;obtain ⟨b,hb,htb⟩:=Rs hl ih fs (o+P.cellsOf f.type) xs hr (by simpa using hx) (fun i g hg=>by simpa using h (i+1) g (by simpa using hg));refine ⟨a++b,?_,a,b,rfl,hta,htb⟩;have:=ha.app hb;rw [ho,<-List.drop_drop,List.take_append_drop] at this;exact this
theorem Ha (hF:∀ b,b<w.heap.size->F b):∀ (n fuel:Nat) (t:Go.TypeId) (cs:List Value) (x:DataW H×List MemPlace),okT P n t=true->
  DataW.trod enc P w 0 spare held fuel t cs=some x->∃ vs,bR F w vs cs/\Typed P n t vs
 | 0,_,_,_,_,hk,_=>by cases hk
 | n+1,fuel,t,cs,x,hk,h=>by
  unfold okT at hk;unfold Typed;split at hk
  ·rename_i hu;obtain ⟨b,rfl,_⟩:=DataW.trod_bool hu h;exact ⟨[.bool b],.one rfl (.bool b),b,rfl⟩
  ·rename_i k hu;obtain ⟨i,rfl,_,hw⟩:=DataW.trod_int hu h;simp only [Lit.wf,uF,decide_eq_true_eq] at hw;exact ⟨[.int k i],.one rfl (.int k i),i,rfl,hw⟩
  ·rename_i hu;obtain ⟨s,rfl,_,hs⟩:=DataW.trod_string hu h;exact ⟨[.str s],.one rfl (.str s),s,rfl,hs⟩
  ·rename_i e hu;simp only [uF,Bool.not_eq_true'] at hk;obtain ⟨hz,hk⟩:=hk;have hz:0<P.cellsOf e:=Nat.pos_of_ne_zero fun hz'=>by rw [hz'] at hz; cases hz
   rcases DataW.trod_slice hu h with ⟨rfl,_⟩ | ⟨a,len,cap,elems,rest,m,_,rfl,_,_,hlc,hcm,hlen,hel,_,_⟩
   ·exact ⟨[.uS false (P.cellsOf e) 0 fun _=>[]],.one rfl (.bB _ _),.inl rfl⟩
   ·have hi:∀ i,∃ p:List EV×List Value,i<len->w.cells? 0 (a.add (i*P.cellsOf e)) (P.cellsOf e)=some p.2/\bR F w p.1 p.2/\Typed P n e p.1:=by
     intro i;by_cases hi:i<len
     ·have h1:=hel i hi;rw [uD (by omega),Option.bind_eq_some_iff] at h1;obtain ⟨ci,h1,h2⟩:=h1;obtain ⟨vs,h3,h4⟩:=Ha hF n m e ci _ hk h2;exact ⟨(vs,ci),fun _=>⟨h1,h3,h4⟩⟩
     ·exact ⟨([],[]),fun h=>absurd h hi⟩
    obtain ⟨f,hf⟩:=Classical.axiomOfChoice hi;obtain ⟨b,o,sp⟩:=a;have hsp:0<len->sp=none:=by
     intro h0;obtain ⟨_,h2,h3⟩:=World.cells?_some (hf 0 h0).1;have h3:=h3 0 hz;rw [uD (by omega),Nat.zero_mul] at h3;simp only [Addr.add,if_true] at h3;unfold World.cell? at h3;split at h3
     ·cases sp with
      | none=>rfl
      | some _=>simp at h3
     ·cases h3
    have hc:∀ i,i<len->∀ j,j<P.cellsOf e->cellAt w b (o+i*P.cellsOf e+j)=(f i).2[j]? :=by
     intro i hi j hj;obtain ⟨_,h2,h3⟩:=World.cells?_some (hf i hi).1;have:=h3 j hj;rw [hsp (by omega),D4,D4,cell?_eq] at this;exact this
    refine ⟨[.uS true (P.cellsOf e) len fun i=>(f i).1],.one rfl (.uS _ _ _ b o cap (fun i j=>(f i).2.getD j default) ?_ hlc sp hsp ?_ ?_ ?_),.inr ⟨len,_,rfl,by omega,fun i hi=>(hf i hi).2.2⟩⟩
    ·intro h0;refine hF b ?_;have:=hc 0 h0 0 hz;obtain ⟨_,h2,_⟩:=World.cells?_some (hf 0 h0).1;rw [uD (by omega)] at this;unfold cellAt at this;split at this
     ·rename_i hb; exact (Array.getElem?_eq_some_iff.1 hb).1
     ·cases this
    ·intro i hi;obtain ⟨_,h2,_⟩:=World.cells?_some (hf i hi).1;have:=(hf i hi).2.1.1;omega
    ·intro i hi j hj;obtain ⟨_,h2,_⟩:=World.cells?_some (hf i hi).1;have h1:=(hf i hi).2.1.1;have hj':j<(f i).2.length:=by omega
     have h3:=(hf i hi).2.1.2 j (by omega) hj';rw [hc i hi j hj,uD hj'];simp only [uA,uD hj',Option.getD_some];exact ⟨trivial,h3.1⟩
    ·intro i hi j hj;have h1:=(hf i hi).2.1.1;have hj':j<(f i).2.length:=by omega
     have h3:=(hf i hi).2.1.2 j hj hj';simp only [uA,uD hj',Option.getD_some];exact h3.2
  ·rename_i fs hu;obtain ⟨xs,m,rfl,_,hl,hx,hf⟩:=DataW.trod_struct hu h;obtain ⟨vs,h1,h2⟩:=Rs (T:=Typed P n) (ok:=okT P n) hl (fun t' cs' x' a b=>Ha hF n m t' cs' x' a b) fs.toList 0 xs hk (by simpa using hx) (fun i f hf'=>hf i f (by simpa using hf'));exact ⟨vs,by simpa using h1,h2⟩
  ·cases hk
theorem arg_pure {r:Reach}{b0 n:Nat}{t:Go.TypeId}{fs:Array Field}{v:Value}{d:DataW H}{ps:List MemPlace}(hF:∀ b,b<w.heap.size->F b)(hu:P.underlying t=some (.struct fs))
  (hval:Value.okWide P w r b0 t v) (hk:okT P n t=true) (hd:DataW.Trod enc P w 0 spare held t v d ps):∃ vs,PR F w (.agg vs) v/\Typed P n t vs:=by
 obtain ⟨cs,rfl,_⟩:=Go.WideShapes.okWide_struct hu hval;obtain ⟨fuel,hf⟩:=hd;obtain ⟨vs,⟨h1,h2⟩,h3⟩:=Ha hF n fuel t _ _ hk hf;refine ⟨vs,.agg vs cs (by simpa [Value.cells] using h1) (fun i h=>?_) (fun i a b=>?_),h3⟩
 ·have:=(h2 i (by rw [h1]; simpa [Value.cells] using h) (by simpa [Value.cells] using h)).1;simpa [Value.cells] using this
 ·have:=(h2 i a (by simpa [Value.cells] using b)).2;simpa [Value.cells] using this
end
end Go.Ev
namespace Go.Ev
inductive BLs:List EV->List EV->Prop where
 | nil:BLs [] []
 | cons {x y:EV} {xs ys:List EV} (h:dR x y) (t:BLs xs ys):BLs (x :: xs) (y :: ys)
theorem BLs.refl:∀ xs,BLs xs xs
 | []=>.nil
 | x :: xs=>.cons (dR.refl x) (BLs.refl xs)
theorem BLs.len {xs ys:List EV}(h:BLs xs ys):ys.length=xs.length:=by
 induction h with
 | nil=>rfl
 | cons _ _ ih=>simp [ih]
theorem BLs.get {xs ys:List EV}(h:BLs xs ys):∀ i (h1:i<xs.length) (h2:i<ys.length),dR xs[i] ys[i]:=by
 induction h with
 | nil=>intro i h; simp at h
 | cons h _ ih=>
  intro i h1 h2;cases i with
  | zero=>exact h
  | succ i=>exact ih i (by simpa using h1) (by simpa using h2)
theorem BLs.agg {xs ys:List EV}(h:BLs xs ys):dR (.agg xs) (.agg ys):=dR.agg h.len h.get
theorem dR.uS {nn:Bool}{esz len:Nat}{row row':Nat->List EV}(h:∀ i,i<len->row i=row' i):dR (.uS nn esz len row) (.uS nn esz len row'):=⟨aG.uS h,bL.uS h⟩
end Go.Ev
namespace Go.Ev
open Go.Proofs.Tryz (prog)
set_option maxRecDepth 100000
theorem Fx {P:Program}{n:Nat}{t:Go.TypeId}{k:IntKind}{vs:List EV}(hu:P.underlying t=some (.int k))(h:Typed P n t vs):∃ i,vs=[.int k i]/\k.min<=i/\i<=k.max:=by
 cases n with
 | zero=>exact h.elim
 | succ n=>unfold Typed at h; rw [hu] at h; exact h
theorem Mt {P:Program}{n:Nat}{t e:Go.TypeId}{vs:List EV}(hu:P.underlying t=some (.slice e))(h:Typed P (n+1) t vs):
  vs=[.uS false (P.cellsOf e) 0 fun _=>[]]∨∃ len row,vs=[.uS true (P.cellsOf e) len row]/\len<=maxLen/\∀ i,i<len->Typed P n e (row i):=by
 unfold Typed at h; rw [hu] at h; exact h
theorem Q0 {P:Program}{n:Nat}{t:Go.TypeId}{fs:Array Field}{vs:List EV}(hu:P.underlying t=some (.struct fs))(h:Typed P (n+1) t vs):LZ (Typed P n) fs.toList vs:=by
 unfold Typed at h; rw [hu] at h; exact h
def Tj (P:Program)(t:Go.TypeId):Option (List Go.TypeId):=match P.underlying t with | some (.struct fs)=>some (fs.toList.map (·.type)) | _=>none
def Q1 (T:Go.TypeId->List EV->Prop):List Go.TypeId->List EV->Prop
 | [],vs=>vs=[]
 | t :: ts,vs=>∃ a b,vs=a++b/\T t a/\Q1 T ts b
theorem OY {T:Go.TypeId->List EV->Prop}:∀ (fs:List Field) (vs:List EV),LZ T fs vs->Q1 T (fs.map (·.type)) vs
 | [],_,h=>h
 | f :: fs,vs,h=>by
  obtain ⟨a,b,h1,h2,h3⟩:=h;exact ⟨a,b,h1,h2,OY fs b h3⟩
theorem La {P:Program}{n:Nat}{t:Go.TypeId}{ts:List Go.TypeId}{vs:List EV}(hu:Tj P t=some ts)(h:Typed P (n+1) t vs):Q1 (Typed P n) ts vs:=by
 unfold Tj at hu;split at hu
 ·rename_i fs hfs;obtain rfl:=uC hu;exact OY _ _ (Q0 hfs h)
 ·cases hu
theorem OZ:prog.underlying 3=some (.int .i64):=by kernel_rfl
theorem Oa {n:Nat}{vs:List EV}(h:Typed prog (n+2) 22 vs):∃ (nn:Bool) (len:Nat) (w:Nat->Int) (x:EV),vs=[x]/\dR x (AW nn len w)/\(len≠0->nn=true):=by
 have hc:prog.cellsOf 3=1:=by kernel_rfl
 rcases Mt (e:=3) (by kernel_rfl) h with rfl | ⟨len,row,rfl,_,hr⟩
 ·rw [hc];exact ⟨false,0,fun _=>0,_,rfl,dR.uS fun i hi=>by omega,fun h=>absurd rfl h⟩
 ·rw [hc];have hp:∀ i,∃ x:Int,i<len->row i=[.int .i64 x]:=by
   intro i;by_cases hi:i<len
   ·obtain ⟨x,hx,_⟩:=Fx OZ (hr i hi);exact ⟨x,fun _=>hx⟩
   ·exact ⟨0,fun h=>absurd h hi⟩
  obtain ⟨w,hw⟩:=Classical.axiomOfChoice hp;exact ⟨true,len,w,_,rfl,dR.uS fun i hi=>hw i hi,fun _=>rfl⟩
theorem Rt {n:Nat}{vs:List EV}(h:Typed prog (n+3) 23 vs):∃ (nn:Bool) (len:Nat) (w:Nat->aF) (x:EV),vs=[x]/\dR x (.uS nn 2 len fun i=>(w i).cells)/\(len≠0->nn=true):=by
 have hc:prog.cellsOf 30=2:=by kernel_rfl
 rcases Mt (e:=30) (by kernel_rfl) h with rfl | ⟨len,row,rfl,_,hr⟩
 ·rw [hc];exact ⟨false,0,fun _=>default,_,rfl,dR.uS fun i hi=>by omega,fun h=>absurd rfl h⟩
 ·rw [hc];have hp:∀ i,∃ x:aF,i<len->row i=x.cells:=by
   intro i;by_cases hi:i<len
   ·have h:=La (ts:=[3,3]) (by kernel_rfl) (hr i hi);obtain ⟨a1,b1,h0,h1,a2,b2,rfl,h2,rfl⟩:=h;obtain ⟨i1,rfl,_⟩:=Fx OZ h1;obtain ⟨i2,rfl,_⟩:=Fx OZ h2;exact ⟨⟨i1,i2⟩,fun _=>h0⟩
   ·exact ⟨default,fun h=>absurd h hi⟩
  obtain ⟨w,hw⟩:=Classical.axiomOfChoice hp;exact ⟨true,len,w,_,rfl,dR.uS fun i hi=>hw i hi,fun _=>rfl⟩
theorem typed_race {vs:List EV}(h:Typed prog 6 25 vs):∃ q:uL,aG (.agg vs) (.agg q.cells)/\(q.m'≠0->q.np=true)/\(q.m≠0->q.no=true):=by
 have h:=La (ts:=[3,3,22,22,23,3,3]) (by kernel_rfl) h;obtain ⟨a1,b1,rfl,h1,a2,b2,rfl,h2,a3,b3,rfl,h3,a4,b4,rfl,h4,a5,b5,rfl,h5,a6,b6,rfl,h6,a7,b7,rfl,h7,rfl⟩:=h;obtain ⟨i1,rfl,_⟩:=Fx OZ h1;obtain ⟨i2,rfl,_⟩:=Fx OZ h2;obtain ⟨nc,n,cl,x3,rfl,e3,_⟩:=Oa h3;obtain ⟨np,m',pt,x4,rfl,e4,f4⟩:=Oa h4;obtain ⟨no,m,op,x5,rfl,e5,f5⟩:=Rt h5;obtain ⟨i6,rfl,_⟩:=Fx OZ h6;obtain ⟨i7,rfl,_⟩:=Fx OZ h7;exact ⟨⟨i1,i2,nc,n,cl,np,m',pt,no,m,op,i6,i7⟩,(BLs.agg (.cons (dR.refl _) (.cons (dR.refl _) (.cons e3 (.cons e4 (.cons e5 (.cons (dR.refl _) (.cons (dR.refl _) .nil)))))))).p,f4,f5⟩
end Go.Ev
namespace Go.Ev
def Ru:List (Option (List EV))->Option (List EV)
 | []=>some []
 | x :: xs=>match x,Ru xs with | some a,some b=>some (a++b) | _,_=>none
def dE {H:Type}:Nat->DataW H->Option (List EV)
 | 0,_=>none
 | n+1,d=>match d with
  | .lit (.int k i)=>some [.int k i]
  | .lit (.string b)=>some [.str ⟨b.toArray⟩]
  | .lit (.bool b)=>some [.bool b]
  | .agg ds=>Ru (ds.map (dE n))
  | _=>none
def okD (P:Program):Nat->Go.TypeId->Bool
 | 0,_=>false
 | n+1,t=>match P.underlying t with
  | some .bool=>true
  | some (.int _)=>true
  | some .string=>true
  | some (.array m e)=>Nat.beq (P.cellsOf t) (m*P.cellsOf e) && okD P n e
  | some (.struct fs)=>Kh P (okD P n) fs.toList 0 (P.cellsOf t)
  | _=>false
section
variable {H:Type}{enc:TypeId×Value->H}{P:Program}{w:World}{base:Nat}{spare:Nat->Bool}{held:Bool}{F:Nat->Prop}
theorem Rv {f m k:Nat}{e:Go.TypeId}(ih:∀ cs' x l,DataW.trod enc P w base spare held f e cs'=some x->dE m x.1=some l->bR F w l cs'):
  ∀ (xs:List (DataW H×List MemPlace)) (cs:List Value) (l:List EV),cs.length=xs.length*k->
   (∀ i x,xs[i]? =some x->DataW.trod enc P w base spare held f e ((cs.drop (i*k)).take k)=some x)->Ru ((xs.map (·.1)).map (dE m))=some l->bR F w l cs
 | [],cs,l,hl,_,hd=>by
  obtain rfl:cs=[]:=List.eq_nil_of_length_eq_zero (by simpa using hl);simp only [List.map_nil,Ru,uB] at hd;subst hd;exact ⟨rfl,fun i h=>by simp at h⟩
 | x :: xs,cs,l,hl,h,hd=>by
  simp only [List.map_cons,Ru] at hd;split at hd
  ·rename_i a b ha hb;simp only [uB] at hd;subst hd;have h0:=h 0 x rfl;rw [Nat.zero_mul,List.drop_zero] at h0;have h1:=ih _ x a h0 ha;have h2:=Rv (k:=k) ih xs (cs.drop k) b (by rw [List.length_drop,hl,List.length_cons,Nat.add_mul]; omega) (fun i y hy=>by
    rw [List.drop_drop,show k+i*k=(i+1)*k from by rw [Nat.add_mul]; omega];exact h (i+1) y (by simpa using hy)) hb
   have:=h1.app h2
   rwa [List.take_append_drop] at this
  ·cases hd
theorem Tk {f m tot:Nat}{ok:Go.TypeId->Bool}{cs:List Value}(hl:cs.length=tot)
  (ih:∀ t cs' x l,ok t=true->DataW.trod enc P w base spare held f t cs'=some x->dE m x.1=some l->bR F w l cs'):
  ∀ (fs:List Field) (o:Nat) (xs:List (DataW H×List MemPlace)) (l:List EV),Kh P ok fs o tot=true->xs.length=fs.length->
   (∀ (i:Nat) (g:Field),fs[i]? =some g->DataW.trod enc P w base spare held f g.type ((cs.drop g.offset).take (P.cellsOf g.type))=xs[i]?)->
   Ru ((xs.map (·.1)).map (dE m))=some l->bR F w l (cs.drop o)
 | [],o,xs,l,hc,hx,_,hd=>by
  have:o=tot:=Nat.eq_of_beq_eq_true hc;obtain rfl:xs=[]:=List.eq_nil_of_length_eq_zero (by simpa using hx);simp only [List.map_nil,Ru,uB] at hd;subst hd;exact ⟨by simp; omega,fun i h=>by simp at h⟩
 | g :: fs,o,xs,l,hc,hx,h,hd=>by
  simp only [Kh,uF] at hc;obtain ⟨⟨ho,hk⟩,hr⟩:=hc;have ho:g.offset=o:=Nat.eq_of_beq_eq_true ho
  match xs,hx with
  | x :: xs,hx=>
   simp only [List.map_cons,Ru] at hd;split at hd
   ·rename_i a b ha hb;simp only [uB] at hd;subst hd;have h0:=h 0 g rfl;have h1:=ih _ _ x a hk h0 ha;have h2:=Tk hl ih fs (o+P.cellsOf g.type) xs b hr (by simpa using hx) (fun i y hy=>by simpa using h (i+1) y (by simpa using hy)) hb;have:=h1.app h2
    rwa [ho,<-List.drop_drop,List.take_append_drop] at this
   ·cases hd
theorem Ki:∀ (n m fuel:Nat) (t:Go.TypeId) (cs:List Value) (x:DataW H×List MemPlace) (l:List EV),okD P n t=true->
  DataW.trod enc P w base spare held fuel t cs=some x->dE m x.1=some l->bR F w l cs
 | 0,_,_,_,_,_,_,hk,_,_=>by cases hk
 | _,0,_,_,_,_,_,_,_,hd=>by cases hd
 | n+1,m+1,fuel,t,cs,x,l,hk,h,hd=>by
  unfold okD at hk;split at hk
  ·rename_i hu;obtain ⟨b,rfl,rfl⟩:=DataW.trod_bool hu h;simp only [dE,uB] at hd;subst hd;exact .one rfl (.bool b)
  ·rename_i k hu;obtain ⟨i,rfl,rfl,_⟩:=DataW.trod_int hu h;simp only [dE,uB] at hd;subst hd;exact .one rfl (.int k i)
  ·rename_i hu;obtain ⟨s,rfl,rfl,_⟩:=DataW.trod_string hu h;simp only [dE,uB] at hd;subst hd;exact .one rfl (.str s)
  ·rename_i z e hu;simp only [uF] at hk;obtain ⟨xs,f,rfl,rfl,hl,hx,hf⟩:=DataW.trod_array hu h;have hz:=Nat.eq_of_beq_eq_true hk.1;exact Rv (k:=P.cellsOf e) (fun cs' x' l' a b=>Ki n m f e cs' x' l' hk.2 a b) xs cs l (by rw [hl,hz,hx]) (fun i y hy=>by
    have hi:i<xs.length:=(List.getElem?_eq_some_iff.1 hy).1;rw [hf i (by omega),hy]) hd
  ·rename_i fs hu;obtain ⟨xs,f,rfl,rfl,hl,hx,hf⟩:=DataW.trod_struct hu h;have:=Tk (ok:=okD P n) hl (fun t' cs' x' l' a b c=>Ki n m f t' cs' x' l' a b c) fs.toList 0 xs l hk (by simpa using hx) (fun i g hg=>hf i g (by simpa using hg)) hd;simpa using this
  ·cases hk
end
theorem Rw {P:Program}{w:World}:∀ {laid:List (String×DataW Unit)} {ps:List MemPlace},DataW.LaidVars P w laid ps->∀ x∈laid,
  ∃ g t cs fuel p,P.globalNamed x.1=some g/\(P.globals[g]?).map (·.type)=some t/\w.var? P x.1=some cs/\DataW.trod (fun _=>()) P w 0 (fun _=>true) false fuel t cs.toList=some (x.2,p)
 | [],_,_=>fun x hx=>by cases hx
 | (n,d) :: r,ps,h=>by
  obtain ⟨g,t,cs,fuel,p,q,h1,h2,h3,h4,h5,_⟩:=h;intro x hx;rcases List.mem_cons.1 hx with rfl | hx
  ·exact ⟨g,t,cs,fuel,p,h1,h2,h3,h4⟩
  ·exact Rw h5 x hx
theorem eQ {P:Program}{w:World}{laid:List (String×DataW Unit)}{F:Nat->Prop}(hF:∀ b,b<w.heap.size->F b)(h:laidMet P laid w){n:String}{d:DataW Unit}(hx:(n,d)∈laid){g:Nat}{t:Go.TypeId}{l:List EV}{k:Nat}
  (hg:P.globalNamed n=some g) (ht:(P.globals[g]?).map (·.type)=some t) (hk:okD P k t=true) (hd:dE k d=some l) (hne:l≠[]):
  F g/\l≠[]/\∃ mv:Nat->Value,∀ j (h:j<l.length),cellAt w g j=some (mv j)/\(mv j).oneCell'=true/\PR F w l[j] (mv j):=by
 obtain ⟨ps,hv,_⟩:=h;obtain ⟨g',t',cs,fuel,p,h1,h2,h3,h4⟩:=Rw hv _ hx;obtain rfl:g=g':=uC (hg.symm.trans h1);obtain rfl:t=t':=uC (ht.symm.trans h2);obtain ⟨c1,c2⟩:=Ki (F:=F) k k fuel t _ _ l hk h4 hd;have hc:∀ j,cellAt w g j=cs[j]? :=fun j=>by rw [<-cell?_eq]; exact World.var?_cell h1 h3 j
 have hl:0<l.length:=Nat.pos_of_ne_zero fun e=>hne (List.eq_nil_of_length_eq_zero e);refine ⟨hF g ?_,hne,fun j=>cs.toList.getD j default,fun j hj=>?_⟩
 ·have:=hc 0;have h0:0<cs.size:=by rw [<-Array.length_toList,<-c1]; exact hl
  rw [Array.getElem?_eq_getElem h0] at this;unfold cellAt at this;split at this
  ·rename_i hb; exact (Array.getElem?_eq_some_iff.1 hb).1
  ·cases this
 ·have hj':j<cs.toList.length:=by omega
  have hj2:j<cs.size:=by simpa using hj'
  have:=c2 j hj hj';have e:cs.toList.getD j default=cs.toList[j]:=by rw [uA,uD hj',Option.getD_some]
  show cellAt w g j=some (cs.toList.getD j default)/\_;rw [e,hc j,Array.getElem?_eq_getElem hj2];refine ⟨by simp,?_⟩;show (cs.toList.getD j default).oneCell'=true/\PR F w l[j] (cs.toList.getD j default);rw [e];exact this
end Go.Ev
