/- A part of the proof. -/
import Derived.Test.YthlnefddiceoiaaGreatDoorVD
import Derived.Test.YthlnefddiceoiaaGreatDoorVG
import Derived.Test.YthlnefddiceoiaaGreatDoorVB
import Derived.ChangeArms
import Derived.ChangeShapes
import Derived.OpenShut
import Derived.FnData
import GoSem.ClaimJoined
set_option linter.unusedSimpArgs false
set_option linter.unusedVariables false
set_option linter.unusedSectionVars false
namespace Go.Ev
open Go.Proofs.Tryz (prog)
set_option maxRecDepth 100000
set_option maxHeartbeats 0
noncomputable abbrev HT:Code:=(cB (cR (cL (cR (cR (cR (AY prog 6)))))))
noncomputable abbrev ACP:Code:=(cB (cB (cR (cL (cR (cR (cR (AY prog 6))))))))
abbrev J8 (a0:RaceD)(a1:Int):=decide (a0.club' (a1 - 1).toNat>=a0.club' a1.toNat)
abbrev J9 (a0:RaceD)(a1:Int):=(decide (a0.club' a1.toNat<0))=false
noncomputable abbrev AEQ (a0:RaceD):RC:=(EX.ret,(frame 158 [(1,pt 0 0),(2,iv 280),(3,iv ↑a0.n)]),[oV a0.cells])
noncomputable abbrev Dw (a0:RaceD)(a1:Int):=frame 158 [(1,pt 0 0),(3,iv a0.n),(4,iv a1)]
noncomputable abbrev AE2:=cB (cB (cR (cL (cR (cR (cR (AY prog 6)))))))
section
variable (q:RaceD)(i:Int)(h0:0<=i)(hm:q.m'=q.n)(hn:q.n<=24)(q0:DK i q)
include q i h0 hm hn q0
theorem ACQ (q1:(decide (q.club' i.toNat<0))=true):sR 1 (AE2) (Dw q i) ([oV q.cells]) (AEQ q):=
 kR _ (.mk (dS 71421726993) [] [] [] []) (kO (kz q0 (kz q1 AN))) (rB i q.n .nil) 14 1 [0] 1
theorem ACR (q1:J9 q i)(q2:(decide (q.club' i.toNat>=192))=true):sR 1 (AE2) (Dw q i) ([oV q.cells]) (AEQ q):=
 kR _ (.mk (dS 0x10a1111a11122222) [] [] [] []) (kO (kz q0 (kz q1 (kz q2 AN)))) (rB i q.n (rB i q.n .nil)) 14 1 [0] 1
theorem ACS (q1:J9 q i)(q2:(decide (q.club' i.toNat>=192))=false)(q3:CH i)(q4:(J8 q i)=true):sR 1 (AE2) (Dw q i) ([oV q.cells]) (AEQ q):=
 kR _ (.mk (dS 0x10a1111a1112223333a3a33333a332324444444) [] [] [] []) (kO (kz q0 (kz q1 (kz q2 (kz q3 (kz q4 AN)))))) (rB i q.n (rB (i - 1) q.n (rI (i - 1) (rB i q.n (rB i q.n .nil))))) 14 1 [0] 1
end
abbrev Gt (a0:RaceD)(a1:Int):=decide (a0.pts a1.toNat< -99999)
section
variable (q:RaceD)(i:Int)(h0:0<=i)(hm:q.m'=q.n)(hn:q.n<=24)(q0:DK i q)(q1:J9 q i)(q2:(decide (q.club' i.toNat>=192))=false)(q3:CH i)(q4:(J8 q i)=false)
include q i h0 hm hn q0 q1 q2 q3 q4
theorem ACT (q5:(Gt q i)=true):sR 1 (AE2) (Dw q i) ([oV q.cells]) (AEQ q):=
 kR _ (.mk (dS 0x10a1111a1112223333a3a33333a332324444a4445555555) [] [] [] []) (kO (kz q0 (kz q1 (kz q2 (kz q3 (kz q4 (kz q5 AN))))))) (rB i q.m' (rB i q.n (rB (i - 1) q.n (rI (i - 1) (rB i q.n (rB i q.n .nil)))))) 14 1 [0] 1
theorem ACU (q5:(Gt q i)=false)(q6:(decide (q.pts i.toNat>99999))=true):sR 1 (AE2) (Dw q i) ([oV q.cells]) (AEQ q):=
 kR _ (.mk (dS 0x10a1111a1112223333a3a33333a332324444a4445555a5556) [] [] [] []) (kO (kz q0 (kz q1 (kz q2 (kz q3 (kz q4 (kz q5 (kz q6 AN)))))))) (rB i q.m' (rB i q.m' (rB i q.n (rB (i - 1) q.n (rI (i - 1) (rB i q.n (rB i q.n .nil))))))) 14 1 [0] 1
theorem ACV (q5:(Gt q i)=false)(q6:(decide (q.pts i.toNat>99999))=false):sR 1 (AE2) (Dw q i) ([oV q.cells]) (xN,(frame 158 [(1,pt 0 0),(3,iv ↑q.n),(4,iv (i+1))]),[oV q.cells]):=
 kR _ (.mk (dS 0x10a1111a1112223333a3a33333a332324444a4445555a5556a) [] [] [] []) (kO (kz q0 (kz q1 (kz q2 (kz q3 (kz q4 (kz q5 (kz q6 AN)))))))) (rI (i+1) (rB i q.m' (rB i q.m' (rB i q.n (rB (i - 1) q.n (rI (i - 1) (rB i q.n (rB i q.n .nil)))))))) 26 1 [0] 1
end
section
variable (q:RaceD)(i:Int)(h0:0<=i)(hm:q.m'=q.n)(hn:q.n<=24)(q0:DK i q)(q1:J9 q i)(q2:(decide (q.club' i.toNat>=192))=false)(q3:FV i)
include q i h0 hm hn q0 q1 q2 q3
theorem ACW (q4:(Gt q i)=true):sR 1 (AE2) (Dw q i) ([oV q.cells]) (AEQ q):=
 kR _ (.mk (dS 0x10a1111a11122233333333333323204ae034e444444) [] [] [] []) (kO (kz q0 (kz q1 (kz q2 (kz q3 (kz q4 AN)))))) (rB i q.m' (rB i q.n (rB i q.n .nil))) 14 1 [0] 1
theorem ACX (q4:(Gt q i)=false)(q5:(decide (q.pts i.toNat>99999))=true):sR 1 (AE2) (Dw q i) ([oV q.cells]) (AEQ q):=
 kR _ (.mk (dS 0x10a1111a11122233333333333323204ae034e444a4445) [] [] [] []) (kO (kz q0 (kz q1 (kz q2 (kz q3 (kz q4 (kz q5 AN))))))) (rB i q.m' (rB i q.m' (rB i q.n (rB i q.n .nil)))) 14 1 [0] 1
theorem ACY (q4:(Gt q i)=false)(q5:(decide (q.pts i.toNat>99999))=false):sR 1 (AE2) (Dw q i) ([oV q.cells]) (xN,(frame 158 [(1,pt 0 0),(3,iv ↑q.n),(4,iv (i+1))]),[oV q.cells]):=
 kR _ (.mk (dS 0x10a1111a11122233333333333323204ae034e444a4445a) [] [] [] []) (kO (kz q0 (kz q1 (kz q2 (kz q3 (kz q4 (kz q5 AN))))))) (rI (i+1) (rB i q.m' (rB i q.m' (rB i q.n (rB i q.n .nil))))) 26 1 [0] 1
end
noncomputable abbrev Cv (a0:RaceD):=frame 158 [(1,pt 0 0),(3,iv ↑a0.n)]
noncomputable abbrev AEU (a0:RaceD):RC:=(xL 0,(Cv a0),[oV a0.cells])
theorem ACZ (q:RaceD)(i:Int)(h0:0<=i)(hm:q.m'=q.n)(hn:q.n<=24)(q0:(decide (i<↑q.n))=false):sR 1 (AE2) (Dw q i) ([oV q.cells]) (AEU q):=
 kR _ (.mk (dS 16) [] [] [] []) (kO (kz q0 AN)) .nil 10 1 [0] 1
theorem rcA (q:RaceD)(i:Int)(h0:0<=i)(hm:q.m'=q.n)(hn:q.n<=24):∃ r_:RC,sR 1 (cB (cB (cR (cL (cR (cR (cR (AY prog 6)))))))) (frame 158 [(1,pt 0 0),(3,iv q.n),(4,iv i)]) ([oV q.cells]) r_/\((r_=(xN,frame 158 [(1,pt 0 0),(3,iv q.n),(4,iv (i+1))],[oV q.cells])/\i<q.n/\(0<=q.club' i.toNat/\q.club' i.toNat<192/\(0<i->q.club' (i - 1).toNat<q.club' i.toNat)/\-99999<=q.pts i.toNat/\q.pts i.toNat<=99999))∨(r_=(EX.ret,frame 158 [(1,pt 0 0),(2,iv 280),(3,iv q.n)],[oV q.cells])/\i<q.n/\¬ (0<=q.club' i.toNat/\q.club' i.toNat<192/\(0<i->q.club' (i - 1).toNat<q.club' i.toNat)/\-99999<=q.pts i.toNat/\q.pts i.toNat<=99999))∨(r_=(xL 0,frame 158 [(1,pt 0 0),(3,iv q.n)],[oV q.cells])/\q.n<=i)):=by
 rcases bT (decide (i<↑q.n)) with q0 | q0
 ·rcases bT (decide (q.club' i.toNat<0)) with q1 | q1
  ·exact e1 (ACQ q i h0 hm hn q0 q1)
  ·rcases bT (decide (q.club' i.toNat>=192)) with q2 | q2
   ·exact e1 (ACR q i h0 hm hn q0 q1 q2)
   ·rcases bT (decide (i>0)) with q3 | q3
    ·rcases bT (decide (q.club' (i - 1).toNat>=q.club' i.toNat)) with q4 | q4
     ·exact e1 (ACS q i h0 hm hn q0 q1 q2 q3 q4)
     ·rcases bT (decide (q.pts i.toNat< -99999)) with q5 | q5
      ·exact e1 (ACT q i h0 hm hn q0 q1 q2 q3 q4 q5)
      ·rcases bT (decide (q.pts i.toNat>99999)) with q6 | q6
       ·exact e1 (ACU q i h0 hm hn q0 q1 q2 q3 q4 q5 q6)
       ·exact e1 (ACV q i h0 hm hn q0 q1 q2 q3 q4 q5 q6)
    ·rcases bT (decide (q.pts i.toNat< -99999)) with q4 | q4
     ·exact e1 (ACW q i h0 hm hn q0 q1 q2 q3 q4)
     ·rcases bT (decide (q.pts i.toNat>99999)) with q5 | q5
      ·exact e1 (ACX q i h0 hm hn q0 q1 q2 q3 q4 q5)
      ·exact e1 (ACY q i h0 hm hn q0 q1 q2 q3 q4 q5)
 ·exact e1 (ACZ q i h0 hm hn q0)
noncomputable abbrev HU:Code:=(cB (cR (cL (cR (cR (cR (cR (AY prog 6))))))))
noncomputable abbrev ACa:Code:=(cB (cB (cR (cL (cR (cR (cR (cR (AY prog 6)))))))))
abbrev KA (a0:RaceD)(a1:Int):=decide ((a0.op a1.toNat).left>=(↑a0.n:Int))
abbrev KB (a0:RaceD)(a1:Int):=(decide ((a0.op a1.toNat).left<0))=false
noncomputable abbrev AGB:=cR (cR (cR (AY prog 6)))
noncomputable abbrev Fu (a0:RaceD)(a1:Int):=frame 158 [(1,pt 0 0),(3,iv a0.n),(5,iv a1)]
noncomputable abbrev AFJ:=cB (cB (cR (cL (cR (AGB)))))
abbrev FG (a0:Int)(a1:RaceD):=(BN a0 a1)=true
section
variable (q:RaceD)(i:Int)(h0:0<=i)(hn:q.n<=24)(hn0:2<=q.n)(hM:q.m<=552)(q0:FG i q)
include q i h0 hn hn0 hM q0
theorem ACb (q1:(decide ((q.op i.toNat).left<0))=true):sR 1 (AFJ) (Fu q i) ([oV q.cells]) (AEQ q):=
 kR _ (.mk (dS 278991121) [] [] [] []) (kO (kz q0 (kz q1 AN))) (rB i q.m .nil) 14 1 [0] 1
theorem ACc (q1:KB q i)(q2:(KA q i)=true):sR 1 (AFJ) (Fu q i) ([oV q.cells]) (AEQ q):=
 kR _ (.mk (dS 18283962114594) [] [] [] []) (kO (kz q0 (kz q1 (kz q2 AN)))) (rB i q.m .nil) 14 1 [0] 1
theorem ACd (q1:KB q i)(q2:(KA q i)=false)(q3:(decide ((q.op i.toNat).right<0))=true):sR 1 (AFJ) (Fu q i) ([oV q.cells]) (AEQ q):=
 kR _ (.mk (dS 0x10a11111222233333) [] [] [] []) (kO (kz q0 (kz q1 (kz q2 (kz q3 AN))))) (rB i q.m .nil) 14 1 [0] 1
theorem ACe (q1:KB q i)(q2:(KA q i)=false)(q3:(decide ((q.op i.toNat).right<0))=false)(q4:(decide ((q.op i.toNat).right>=(↑q.n:Int)))=true):sR 1 (AFJ) (Fu q i) ([oV q.cells]) (AEQ q):=
 kR _ (.mk (dS 0x10a11111222233333444444) [] [] [] []) (kO (kz q0 (kz q1 (kz q2 (kz q3 (kz q4 AN)))))) (rB i q.m .nil) 14 1 [0] 1
end
abbrev KC (a0:RaceD)(a1:Int):=(a0.op a1.toNat).left==(a0.op a1.toNat).right
section
variable (q:RaceD)(i:Int)(h0:0<=i)(hn:q.n<=24)(hn0:2<=q.n)(hM:q.m<=552)(q0:FG i q)(q1:KB q i)(q2:(KA q i)=false)(q3:(decide ((q.op i.toNat).right<0))=false)(q4:(decide ((q.op i.toNat).right>=(↑q.n:Int)))=false)
include q i h0 hn hn0 hM q0 q1 q2 q3 q4
theorem ACf (q5:(KC q i)=true):sR 1 (AFJ) (Fu q i) ([oV q.cells]) (AEQ q):=
 kR _ (.mk (dS 0x10a111112222333334444445) [] [] [] []) (kO (kz q0 (kz q1 (kz q2 (kz q3 (kz q4 (kz q5 AN))))))) (rB i q.m .nil) 14 1 [0] 1
theorem ACg (q5:(KC q i)=false):sR 1 (AFJ) (Fu q i) ([oV q.cells]) (xN,(frame 158 [(1,pt 0 0),(3,iv ↑q.n),(5,iv (i+1))]),[oV q.cells]):=
 kR _ (.mk (dS 0x10a111112222333334444445a) [] [] [] []) (kO (kz q0 (kz q1 (kz q2 (kz q3 (kz q4 (kz q5 AN))))))) (rI (i+1) (rB i q.m .nil)) 42 1 [0] 1
end
noncomputable abbrev AEX (a0:RaceD):RC:=(xL 2,(Cv a0),[oV a0.cells])
section
variable (q:RaceD)(i:Int)(h0:0<=i)(hn:q.n<=24)(hn0:2<=q.n)(hM:q.m<=552)
include q i h0 hn hn0 hM
theorem ACh (q0:(BN i q)=false):sR 1 (AFJ) (Fu q i) ([oV q.cells]) (AEX q):=
 kR _ (.mk (dS 16) [] [] [] []) (kO (kz q0 AN)) .nil 10 1 [0] 1
theorem rcB:∃ r_:RC,sR 1 (cB (cB (cR (cL (cR (cR (cR (cR (AY prog 6))))))))) (frame 158 [(1,pt 0 0),(3,iv q.n),(5,iv i)]) ([oV q.cells]) r_/\((r_=(xN,frame 158 [(1,pt 0 0),(3,iv q.n),(5,iv (i+1))],[oV q.cells])/\i<q.m/\(0<=(q.op i.toNat).left/\(q.op i.toNat).left<q.n/\0<=(q.op i.toNat).right/\(q.op i.toNat).right<q.n/\(q.op i.toNat).left≠(q.op i.toNat).right))∨(r_=(EX.ret,frame 158 [(1,pt 0 0),(2,iv 280),(3,iv q.n)],[oV q.cells])/\i<q.m/\¬ (0<=(q.op i.toNat).left/\(q.op i.toNat).left<q.n/\0<=(q.op i.toNat).right/\(q.op i.toNat).right<q.n/\(q.op i.toNat).left≠(q.op i.toNat).right))∨(r_=(xL 2,frame 158 [(1,pt 0 0),(3,iv q.n)],[oV q.cells])/\q.m<=i)):=by
 rcases bT (decide (i<↑q.m)) with q0 | q0
 ·rcases bT (decide ((q.op i.toNat).left<0)) with q1 | q1
  ·exact e1 (ACb q i h0 hn hn0 hM q0 q1)
  ·rcases bT (decide ((q.op i.toNat).left>=(↑q.n:Int))) with q2 | q2
   ·exact e1 (ACc q i h0 hn hn0 hM q0 q1 q2)
   ·rcases bT (decide ((q.op i.toNat).right<0)) with q3 | q3
    ·exact e1 (ACd q i h0 hn hn0 hM q0 q1 q2 q3)
    ·rcases bT (decide ((q.op i.toNat).right>=(↑q.n:Int))) with q4 | q4
     ·exact e1 (ACe q i h0 hn hn0 hM q0 q1 q2 q3 q4)
     ·rcases bT ((q.op i.toNat).left==(q.op i.toNat).right) with q5 | q5
      ·exact e1 (ACf q i h0 hn hn0 hM q0 q1 q2 q3 q4 q5)
      ·exact e1 (ACg q i h0 hn hn0 hM q0 q1 q2 q3 q4 q5)
 ·exact e1 (ACh q i h0 hn hn0 hM q0)
end
noncomputable abbrev ACi:Code:=(cB (cR (cL (cR (cR (cR (AY prog 13)))))))
noncomputable abbrev ACj:Code:=(cB (cB (cR (cL (cR (cR (cR (AY prog 13))))))))
noncomputable abbrev Dy (a0:RaceD)(a1:Int):=frame 117 [(1,pt 0 0),(3,iv a0.n),(41,AW a0.nc a0.n a0.club'),(42,iv a0.n),(43,iv a1)]
noncomputable abbrev AES (a0:RaceD):RC:=(EX.ret,(frame 117 [(1,pt 0 0),(2,iv 280),(3,iv ↑a0.n)]),[oV a0.cells])
noncomputable abbrev AE3:=cB (cB (cR (cL (cR (cR (cR (AY prog 13)))))))
section
variable (q:RaceD)(i:Int)(h0:0<=i)(hm:q.m'=q.n)(hn:q.n<=24)(q0:DK i q)(q1:(decide (q.club' i.toNat>=0))=true)
include q i h0 hm hn q0 q1
theorem ACk (q2:(!decide (q.club' i.toNat<=191))=true):sR 1 (AE3) (Dy q i) ([oV q.cells]) (AES q):=
 kR _ (.mk (dS 18283962180130) [] [] [] []) (kO (kz q0 (kz q1 (kz q2 AN)))) (rB i q.n .nil) 14 1 [0] 1
theorem ACl (q2:(!decide (q.club' i.toNat<=191))=false)(q3:CH i)(q4:(J8 q i)=true):sR 1 (AE3) (Dy q i) ([oV q.cells]) (AES q):=
 kR _ (.mk (dS 0x10a11112223333a3a33323244444444) [] [] [] []) (kO (kz q0 (kz q1 (kz q2 (kz q3 (kz q4 AN)))))) (rB (i - 1) q.n (rI (i - 1) (rB i q.n .nil))) 14 1 [0] 1
end
abbrev Gu (a0:RaceD)(a1:Int):=decide (a0.pts a1.toNat>=-99999)
section
variable (q:RaceD)(i:Int)(h0:0<=i)(hm:q.m'=q.n)(hn:q.n<=24)(q0:DK i q)(q1:(decide (q.club' i.toNat>=0))=true)(q2:(!decide (q.club' i.toNat<=191))=false)(q3:CH i)(q4:(J8 q i)=false)
include q i h0 hm hn q0 q1 q2 q3 q4
theorem ACm (q5:(Gu q i)=true)(q6:(!decide (q.pts i.toNat<=99999))=true):sR 1 (AE3) (Dy q i) ([oV q.cells]) (AES q):=
 kR _ (.mk (dS 0x10a11112223333a3a3332324444a445555446) [] [] [] []) (kO (kz q0 (kz q1 (kz q2 (kz q3 (kz q4 (kz q5 (kz q6 AN)))))))) (rB i q.m' (rB (i - 1) q.n (rI (i - 1) (rB i q.n .nil)))) 14 1 [0] 1
theorem ACn (q5:(Gu q i)=true)(q6:(!decide (q.pts i.toNat<=99999))=false):sR 1 (AE3) (Dy q i) ([oV q.cells]) (xN,(frame 117 [(1,pt 0 0),(3,iv ↑q.n),(41,sl q.nc 1 q.n fun i=>[iv (q.club' i)]),(42,iv ↑q.n),(43,iv (i+1))]),[oV q.cells]):=
 kR _ (.mk (dS 0x10a11112223333a3a3332324444a445555446a) [] [] [] []) (kO (kz q0 (kz q1 (kz q2 (kz q3 (kz q4 (kz q5 (kz q6 AN)))))))) (rI (i+1) (rB i q.m' (rB (i - 1) q.n (rI (i - 1) (rB i q.n .nil))))) 15393162788874 1 [0] 1
theorem ACo (q5:(Gu q i)=false):sR 1 (AE3) (Dy q i) ([oV q.cells]) (AES q):=
 kR _ (.mk (dS 0x10a11112223333a3a3332324444a44555544) [] [] [] []) (kO (kz q0 (kz q1 (kz q2 (kz q3 (kz q4 (kz q5 AN))))))) (rB i q.m' (rB (i - 1) q.n (rI (i - 1) (rB i q.n .nil)))) 14 1 [0] 1
end
section
variable (q:RaceD)(i:Int)(h0:0<=i)(hm:q.m'=q.n)(hn:q.n<=24)(q0:DK i q)(q1:(decide (q.club' i.toNat>=0))=true)(q2:(!decide (q.club' i.toNat<=191))=false)(q3:FV i)
include q i h0 hm hn q0 q1 q2 q3
theorem ACp (q4:(Gu q i)=true)(q5:(!decide (q.pts i.toNat<=99999))=true):sR 1 (AE3) (Dy q i) ([oV q.cells]) (AES q):=
 kR _ (.mk (dS 0x10a11112223333333323204ae024e444025e) [] [] [] []) (kO (kz q0 (kz q1 (kz q2 (kz q3 (kz q4 (kz q5 AN))))))) (rB i q.m' (rB i q.n .nil)) 14 1 [0] 1
theorem ACq (q4:(Gu q i)=true)(q5:(!decide (q.pts i.toNat<=99999))=false):sR 1 (AE3) (Dy q i) ([oV q.cells]) (xN,(frame 117 [(1,pt 0 0),(3,iv ↑q.n),(41,sl q.nc 1 q.n fun i=>[iv (q.club' i)]),(42,iv ↑q.n),(43,iv (i+1))]),[oV q.cells]):=
 kR _ (.mk (dS 0x10a11112223333333323204ae024e444025ea) [] [] [] []) (kO (kz q0 (kz q1 (kz q2 (kz q3 (kz q4 (kz q5 AN))))))) (rI (i+1) (rB i q.m' (rB i q.n .nil))) 15393162788874 1 [0] 1
theorem ACr (q4:(Gu q i)=false):sR 1 (AE3) (Dy q i) ([oV q.cells]) (AES q):=
 kR _ (.mk (dS 0x10a11112223333333323204ae024e444) [] [] [] []) (kO (kz q0 (kz q1 (kz q2 (kz q3 (kz q4 AN)))))) (rB i q.m' (rB i q.n .nil)) 14 1 [0] 1
end
theorem ACs (q:RaceD)(i:Int)(h0:0<=i)(hm:q.m'=q.n)(hn:q.n<=24)(q0:DK i q)(q1:(decide (q.club' i.toNat>=0))=false):sR 1 (AE3) (Dy q i) ([oV q.cells]) (AES q):=
 kR _ (.mk (dS 17436945) [] [] [] []) (kO (kz q0 (kz q1 AN))) (rB i q.n .nil) 14 1 [0] 1
noncomputable abbrev KD (a0:RaceD):=frame 117 [(1,pt 0 0),(3,iv ↑a0.n)]
theorem ACt (q:RaceD)(i:Int)(h0:0<=i)(hm:q.m'=q.n)(hn:q.n<=24)(q0:(decide (i<↑q.n))=false):sR 1 (AE3) (Dy q i) ([oV q.cells]) (xL 0,(KD q),[oV q.cells]):=
 kR _ (.mk (dS 16) [] [] [] []) (kO (kz q0 AN)) .nil 10 1 [0] 1
theorem ckA (q:RaceD)(i:Int)(h0:0<=i)(hm:q.m'=q.n)(hn:q.n<=24):∃ r_:RC,sR 1 (cB (cB (cR (cL (cR (cR (cR (AY prog 13)))))))) (frame 117 [(1,pt 0 0),(3,iv q.n),(41,AW q.nc q.n q.club'),(42,iv q.n),(43,iv i)]) ([oV q.cells]) r_/\((r_=(xN,frame 117 [(1,pt 0 0),(3,iv q.n),(41,AW q.nc q.n q.club'),(42,iv q.n),(43,iv (i+1))],[oV q.cells])/\i<q.n/\(0<=q.club' i.toNat/\q.club' i.toNat<192/\(0<i->q.club' (i - 1).toNat<q.club' i.toNat)/\-99999<=q.pts i.toNat/\q.pts i.toNat<=99999))∨(r_=(EX.ret,frame 117 [(1,pt 0 0),(2,iv 280),(3,iv q.n)],[oV q.cells])/\i<q.n/\¬ (0<=q.club' i.toNat/\q.club' i.toNat<192/\(0<i->q.club' (i - 1).toNat<q.club' i.toNat)/\-99999<=q.pts i.toNat/\q.pts i.toNat<=99999))∨(r_=(xL 0,frame 117 [(1,pt 0 0),(3,iv q.n)],[oV q.cells])/\q.n<=i)):=by
 rcases bT (decide (i<↑q.n)) with q0 | q0
 ·rcases bT (decide (q.club' i.toNat>=0)) with q1 | q1
  ·rcases bT (!decide (q.club' i.toNat<=191)) with q2 | q2
   ·exact e1 (ACk q i h0 hm hn q0 q1 q2)
   ·rcases bT (decide (i>0)) with q3 | q3
    ·rcases bT (decide (q.club' (i - 1).toNat>=q.club' i.toNat)) with q4 | q4
     ·exact e1 (ACl q i h0 hm hn q0 q1 q2 q3 q4)
     ·rcases bT (decide (q.pts i.toNat>=-99999)) with q5 | q5
      ·rcases bT (!decide (q.pts i.toNat<=99999)) with q6 | q6
       ·exact e1 (ACm q i h0 hm hn q0 q1 q2 q3 q4 q5 q6)
       ·exact e1 (ACn q i h0 hm hn q0 q1 q2 q3 q4 q5 q6)
      ·exact e1 (ACo q i h0 hm hn q0 q1 q2 q3 q4 q5)
    ·rcases bT (decide (q.pts i.toNat>=-99999)) with q4 | q4
     ·rcases bT (!decide (q.pts i.toNat<=99999)) with q5 | q5
      ·exact e1 (ACp q i h0 hm hn q0 q1 q2 q3 q4 q5)
      ·exact e1 (ACq q i h0 hm hn q0 q1 q2 q3 q4 q5)
     ·exact e1 (ACr q i h0 hm hn q0 q1 q2 q3 q4)
  ·exact e1 (ACs q i h0 hm hn q0 q1)
 ·exact e1 (ACt q i h0 hm hn q0)
noncomputable abbrev ACu:Code:=(cB (cR (cL (cR (cR (cR (cR (AY prog 13))))))))
noncomputable abbrev ACv:Code:=(cB (cB (cR (cL (cR (cR (cR (cR (AY prog 13)))))))))
abbrev MT (a0:RaceD)(a1:Int):=!decide ((a0.op a1.toNat).right<=(↑a0.n:Int) - 1)
noncomputable abbrev AGC:=cR (cR (cR (AY prog 13)))
abbrev IE (a0:RaceD)(a1:Int):=!decide ((a0.op a1.toNat).left<=(↑a0.n:Int) - 1)
abbrev IF (a0:RaceD)(a1:Int):=(decide ((a0.op a1.toNat).left>=0))=true
noncomputable abbrev AFK:=cB (cB (cR (cL (cR (AGC)))))
section
variable (q:RaceD)(i:Int)(h0:0<=i)(hn:q.n<=24)(hn0:2<=q.n)(hM:q.m<=552)
include q i h0 hn hn0 hM
theorem ACw (q0:FG i q)(q1:IF q i)(q2:(IE q i)=true):sR 1 (AFK) (frame 117 [(1,pt 0 0),(3,iv q.n),(76,sl q.no 2 q.m fun i=>(q.op i).cells),(77,iv q.m),(78,iv i)]) ([oV q.cells]) (AES q):=
 kR _ (.mk (dS 75049438495777314) [] [] [] []) (kO (kz q0 (kz q1 (kz q2 AN)))) (rI ((↑q.n:Int) - 1) (rB i q.m .nil)) 14 1 [0] 1
theorem ACx (q0:FG i q)(q1:IF q i)(q2:(IE q i)=false)(q3:(decide ((q.op i.toNat).right>=0))=true)(q4:(MT q i)=true):sR 1 (AFK) (frame 117 [(1,pt 0 0),(3,iv q.n),(76,sl q.no 2 q.m fun i=>(q.op i).cells),(77,iv q.m),(78,iv i)]) ([oV q.cells]) (AES q):=
 kR _ (.mk (dS 0x10aa11112222a2333322444444) [] [] [] []) (kO (kz q0 (kz q1 (kz q2 (kz q3 (kz q4 AN)))))) (rI ((↑q.n:Int) - 1) (rI ((↑q.n:Int) - 1) (rB i q.m .nil))) 14 1 [0] 1
theorem ACy (q0:FG i q)(q1:IF q i)(q2:(IE q i)=false)(q3:(decide ((q.op i.toNat).right>=0))=true)(q4:(MT q i)=false)(q5:(KC q i)=true):sR 1 (AFK) (frame 117 [(1,pt 0 0),(3,iv q.n),(76,sl q.no 2 q.m fun i=>(q.op i).cells),(77,iv q.m),(78,iv i)]) ([oV q.cells]) (AES q):=
 kR _ (.mk (dS 0x10aa11112222a23333224444445) [] [] [] []) (kO (kz q0 (kz q1 (kz q2 (kz q3 (kz q4 (kz q5 AN))))))) (rI ((↑q.n:Int) - 1) (rI ((↑q.n:Int) - 1) (rB i q.m .nil))) 14 1 [0] 1
theorem ACz (q0:FG i q)(q1:IF q i)(q2:(IE q i)=false)(q3:(decide ((q.op i.toNat).right>=0))=true)(q4:(MT q i)=false)(q5:(KC q i)=false):sR 1 (AFK) (frame 117 [(1,pt 0 0),(3,iv q.n),(76,sl q.no 2 q.m fun i=>(q.op i).cells),(77,iv q.m),(78,iv i)]) ([oV q.cells]) (xN,(frame 117 [(1,pt 0 0),(3,iv ↑q.n),(76,sl q.no 2 q.m fun i=>(q.op i).cells),(77,iv ↑q.m),(78,iv (i+1))]),[oV q.cells]):=
 kR _ (.mk (dS 0x10aa11112222a23333224444445a) [] [] [] []) (kO (kz q0 (kz q1 (kz q2 (kz q3 (kz q4 (kz q5 AN))))))) (rI (i+1) (rI ((↑q.n:Int) - 1) (rI ((↑q.n:Int) - 1) (rB i q.m .nil)))) 528905046081400263933962 1 [0] 1
theorem AC0 (q0:FG i q)(q1:IF q i)(q2:(IE q i)=false)(q3:(decide ((q.op i.toNat).right>=0))=false):sR 1 (AFK) (frame 117 [(1,pt 0 0),(3,iv q.n),(76,sl q.no 2 q.m fun i=>(q.op i).cells),(77,iv q.m),(78,iv i)]) ([oV q.cells]) (AES q):=
 kR _ (.mk (dS 0x10aa11112222a2333322) [] [] [] []) (kO (kz q0 (kz q1 (kz q2 (kz q3 AN))))) (rI ((↑q.n:Int) - 1) (rI ((↑q.n:Int) - 1) (rB i q.m .nil))) 14 1 [0] 1
theorem AC1 (q0:FG i q)(q1:(decide ((q.op i.toNat).left>=0))=false):sR 1 (AFK) (frame 117 [(1,pt 0 0),(3,iv q.n),(76,sl q.no 2 q.m fun i=>(q.op i).cells),(77,iv q.m),(78,iv i)]) ([oV q.cells]) (AES q):=
 kR _ (.mk (dS 279580945) [] [] [] []) (kO (kz q0 (kz q1 AN))) (rI ((↑q.n:Int) - 1) (rB i q.m .nil)) 14 1 [0] 1
theorem AC2 (q0:(BN i q)=false):sR 1 (AFK) (frame 117 [(1,pt 0 0),(3,iv q.n),(76,sl q.no 2 q.m fun i=>(q.op i).cells),(77,iv q.m),(78,iv i)]) ([oV q.cells]) (xL 2,(KD q),[oV q.cells]):=
 kR _ (.mk (dS 16) [] [] [] []) (kO (kz q0 AN)) .nil 10 1 [0] 1
theorem ckB:∃ r_:RC,sR 1 (cB (cB (cR (cL (cR (cR (cR (cR (AY prog 13))))))))) (frame 117 [(1,pt 0 0),(3,iv q.n),(76,sl q.no 2 q.m fun i=>(q.op i).cells),(77,iv q.m),(78,iv i)]) ([oV q.cells]) r_/\((r_=(xN,frame 117 [(1,pt 0 0),(3,iv q.n),(76,sl q.no 2 q.m fun i=>(q.op i).cells),(77,iv q.m),(78,iv (i+1))],[oV q.cells])/\i<q.m/\(0<=(q.op i.toNat).left/\(q.op i.toNat).left<q.n/\0<=(q.op i.toNat).right/\(q.op i.toNat).right<q.n/\(q.op i.toNat).left≠(q.op i.toNat).right))∨(r_=(EX.ret,frame 117 [(1,pt 0 0),(2,iv 280),(3,iv q.n)],[oV q.cells])/\i<q.m/\¬ (0<=(q.op i.toNat).left/\(q.op i.toNat).left<q.n/\0<=(q.op i.toNat).right/\(q.op i.toNat).right<q.n/\(q.op i.toNat).left≠(q.op i.toNat).right))∨(r_=(xL 2,frame 117 [(1,pt 0 0),(3,iv q.n)],[oV q.cells])/\q.m<=i)):=by
 rcases bT (decide (i<↑q.m)) with q0 | q0
 ·rcases bT (decide ((q.op i.toNat).left>=0)) with q1 | q1
  ·rcases bT (!decide ((q.op i.toNat).left<=(↑q.n:Int) - 1)) with q2 | q2
   ·exact e1 (ACw q i h0 hn hn0 hM q0 q1 q2)
   ·rcases bT (decide ((q.op i.toNat).right>=0)) with q3 | q3
    ·rcases bT (!decide ((q.op i.toNat).right<=(↑q.n:Int) - 1)) with q4 | q4
     ·exact e1 (ACx q i h0 hn hn0 hM q0 q1 q2 q3 q4)
     ·rcases bT ((q.op i.toNat).left==(q.op i.toNat).right) with q5 | q5
      ·exact e1 (ACy q i h0 hn hn0 hM q0 q1 q2 q3 q4 q5)
      ·exact e1 (ACz q i h0 hn hn0 hM q0 q1 q2 q3 q4 q5)
    ·exact e1 (AC0 q i h0 hn hn0 hM q0 q1 q2 q3)
  ·exact e1 (AC1 q i h0 hn hn0 hM q0 q1)
 ·exact e1 (AC2 q i h0 hn hn0 hM q0)
end
abbrev ER (a0:RaceD):=decide (a0.win>999)
abbrev IG (a0:RaceD):=(decide (a0.win<a0.draw))=false
abbrev Gv (a0:RaceD):=(decide (a0.draw<0))=false
section
variable (q:RaceD)(b1:Bool)(b2:Bool)(ihA1:2<=q.n->q.n<=24->q.m'=q.n->q.m<=552->b1=true->sL HT (frame 158 [(1,pt 0 0),(3,iv q.n),(4,iv 0)]) [oV q.cells] ((xL 0,frame 158 [(1,pt 0 0),(3,iv q.n)],[oV q.cells]):RC))(ihA2:2<=q.n->q.n<=24->q.m'=q.n->q.m<=552->b1=false->sL HT (frame 158 [(1,pt 0 0),(3,iv q.n),(4,iv 0)]) [oV q.cells] ((EX.ret,frame 158 [(1,pt 0 0),(2,iv 280),(3,iv q.n)],[oV q.cells]):RC))(ihB1:2<=q.n->q.n<=24->q.m'=q.n->q.m<=552->b2=true->sL HU (frame 158 [(1,pt 0 0),(3,iv q.n),(5,iv 0)]) [oV q.cells] ((xL 2,frame 158 [(1,pt 0 0),(3,iv q.n)],[oV q.cells]):RC))(ihB2:2<=q.n->q.n<=24->q.m'=q.n->q.m<=552->b2=false->sL HU (frame 158 [(1,pt 0 0),(3,iv q.n),(5,iv 0)]) [oV q.cells] ((EX.ret,frame 158 [(1,pt 0 0),(2,iv 280),(3,iv q.n)],[oV q.cells]):RC))
include q b1 b2 ihA1 ihA2 ihB1 ihB2
theorem AC3 (q0:(decide (q.draw<0))=true):sP 6 (Au q) (iv 280):=
 kP _ (.mk (dS 16777216) [] [] [] []) (kO (kz q0 AN)) .nil
theorem AC4 (q0:Gv q)(q1:(decide (q.win<q.draw))=true):sP 6 (Au q) (iv 280):=
 kP _ (.mk (dS 1099511632145) [] [] [] []) (kO (kz q0 (kz q1 AN))) .nil
theorem AC5 (q0:Gv q)(q1:IG q)(q2:(ER q)=true):sP 6 (Au q) (iv 280):=
 kP _ (.mk (dS 4503599645266466) [] [] [] []) (kO (kz q0 (kz q1 (kz q2 AN)))) .nil
theorem AC6 (q0:Gv q)(q1:IG q)(q2:(ER q)=false)(q3:(decide ((↑q.n:Int)<2))=true):sP 6 (Au q) (iv 280):=
 kP _ (.mk (dS 0x10000001111222333) [] [] [] []) (kO (kz q0 (kz q1 (kz q2 (kz q3 AN))))) .nil
end
abbrev Gw (a0:RaceD):=decide ((↑a0.m:Int)>552)
abbrev Gx (a0:RaceD):=(decide ((↑a0.n:Int)>24))=false
section
variable (q:RaceD)(b1:Bool)(b2:Bool)(ihA1:2<=q.n->q.n<=24->q.m'=q.n->q.m<=552->b1=true->sL HT (frame 158 [(1,pt 0 0),(3,iv q.n),(4,iv 0)]) [oV q.cells] ((xL 0,frame 158 [(1,pt 0 0),(3,iv q.n)],[oV q.cells]):RC))(ihA2:2<=q.n->q.n<=24->q.m'=q.n->q.m<=552->b1=false->sL HT (frame 158 [(1,pt 0 0),(3,iv q.n),(4,iv 0)]) [oV q.cells] ((EX.ret,frame 158 [(1,pt 0 0),(2,iv 280),(3,iv q.n)],[oV q.cells]):RC))(ihB1:2<=q.n->q.n<=24->q.m'=q.n->q.m<=552->b2=true->sL HU (frame 158 [(1,pt 0 0),(3,iv q.n),(5,iv 0)]) [oV q.cells] ((xL 2,frame 158 [(1,pt 0 0),(3,iv q.n)],[oV q.cells]):RC))(ihB2:2<=q.n->q.n<=24->q.m'=q.n->q.m<=552->b2=false->sL HU (frame 158 [(1,pt 0 0),(3,iv q.n),(5,iv 0)]) [oV q.cells] ((EX.ret,frame 158 [(1,pt 0 0),(2,iv 280),(3,iv q.n)],[oV q.cells]):RC))(q0:Gv q)(q1:IG q)(q2:(ER q)=false)(q3:(decide ((↑q.n:Int)<2))=false)
include q b1 b2 ihA1 ihA2 ihB1 ihB2 q0 q1 q2 q3
theorem AC7 (q4:(decide ((↑q.n:Int)>24))=true):sP 6 (Au q) (iv 280):=
 kP _ (.mk (dS 0x10000001111222333444444) [] [] [] []) (kO (kz q0 (kz q1 (kz q2 (kz q3 (kz q4 AN)))))) .nil
theorem AC8 (q4:Gx q)(q5:((↑q.m':Int) != (↑q.n:Int))=true):sP 6 (Au q) (iv 280):=
 kP _ (.mk (dS 0x1000000111122233344444455555) [] [] [] []) (kO (kz q0 (kz q1 (kz q2 (kz q3 (kz q4 (kz q5 AN))))))) .nil
theorem AC9 (q4:Gx q)(q5:((↑q.m':Int) != (↑q.n:Int))=false)(q6:(Gw q)=true):sP 6 (Au q) (iv 280):=
 kP _ (.mk (dS 0x10000001111222333444444555556) [] [] [] []) (kO (kz q0 (kz q1 (kz q2 (kz q3 (kz q4 (kz q5 (kz q6 AN)))))))) .nil
theorem ADA (q4:Gx q)(q5:((↑q.m':Int) != (↑q.n:Int))=false)(q6:(Gw q)=false)(q7:(b1)=true)(q8:(b2)=true)(q9:(decide (q.club<0))=true):sP 6 (Au q) (iv 280):=
 kP _ (.mk (dS 0x1000000111122233344444455555699999) [(13,.is 26 1 (AEU q)),(4,.is 42 1 (AEX q))] [] [] []) (kO (kz q0 (kz q1 (kz q2 (kz q3 (kz q4 (kz q5 (kz q6 (kz q7 (kz q8 (kz q9 AN))))))))))) (.cons (ihB1 iP iP iP iP (by assumption)) (.cons (ihA1 iP iP iP iP (by assumption)) .nil))
theorem ADB (q4:Gx q)(q5:((↑q.m':Int) != (↑q.n:Int))=false)(q6:(Gw q)=false)(q7:(b1)=true)(q8:(b2)=true)(q9:(decide (q.club<0))=false)(q10:(decide (q.club>=(↑q.n:Int)))=true):sP 6 (Au q) (iv 280):=
 kP _ (.mk (dS 0x10000001111222333444444555556999990d0d0d0d) [(13,.is 26 1 (AEU q)),(4,.is 42 1 (AEX q))] [] [] []) (kO (kz q0 (kz q1 (kz q2 (kz q3 (kz q4 (kz q5 (kz q6 (kz q7 (kz q8 (kz q9 (kz q10 AN)))))))))))) (.cons (ihB1 iP iP iP iP (by assumption)) (.cons (ihA1 iP iP iP iP (by assumption)) .nil))
end
section
variable (q:RaceD)(b1:Bool)(b2:Bool)(ihA1:2<=q.n->q.n<=24->q.m'=q.n->q.m<=552->b1=true->sL HT (frame 158 [(1,pt 0 0),(3,iv q.n),(4,iv 0)]) [oV q.cells] ((xL 0,frame 158 [(1,pt 0 0),(3,iv q.n)],[oV q.cells]):RC))(ihA2:2<=q.n->q.n<=24->q.m'=q.n->q.m<=552->b1=false->sL HT (frame 158 [(1,pt 0 0),(3,iv q.n),(4,iv 0)]) [oV q.cells] ((EX.ret,frame 158 [(1,pt 0 0),(2,iv 280),(3,iv q.n)],[oV q.cells]):RC))(ihB1:2<=q.n->q.n<=24->q.m'=q.n->q.m<=552->b2=true->sL HU (frame 158 [(1,pt 0 0),(3,iv q.n),(5,iv 0)]) [oV q.cells] ((xL 2,frame 158 [(1,pt 0 0),(3,iv q.n)],[oV q.cells]):RC))(ihB2:2<=q.n->q.n<=24->q.m'=q.n->q.m<=552->b2=false->sL HU (frame 158 [(1,pt 0 0),(3,iv q.n),(5,iv 0)]) [oV q.cells] ((EX.ret,frame 158 [(1,pt 0 0),(2,iv 280),(3,iv q.n)],[oV q.cells]):RC))(q0:Gv q)(q1:IG q)(q2:(ER q)=false)(q3:(decide ((↑q.n:Int)<2))=false)(q4:Gx q)(q5:((↑q.m':Int) != (↑q.n:Int))=false)(q6:(Gw q)=false)(q7:(b1)=true)(q8:(b2)=true)(q9:(decide (q.club<0))=false)(q10:(decide (q.club>=(↑q.n:Int)))=false)
include q b1 b2 ihA1 ihA2 ihB1 ihB2 q0 q1 q2 q3 q4 q5 q6 q7 q8 q9 q10
theorem ADC (q11:(decide (q.place<1))=true):sP 6 (Au q) (iv 280):=
 kP _ (.mk (dS 0x10000001111222333444444555556999990d0d0d0d1d1d1d1d1d) [(13,.is 26 1 (AEU q)),(4,.is 42 1 (AEX q))] [] [] []) (kO (kz q0 (kz q1 (kz q2 (kz q3 (kz q4 (kz q5 (kz q6 (kz q7 (kz q8 (kz q9 (kz q10 (kz q11 AN))))))))))))) (.cons (ihB1 iP iP iP iP (by assumption)) (.cons (ihA1 iP iP iP iP (by assumption)) .nil))
theorem vL (q11:(decide (q.place<1))=false)(q12:(decide (q.place>(↑q.n:Int)))=true):sP 6 (Au q) (iv 280):=
 kP _ (.mk (dS 0x10000001111222333444444555556999990d0d0d0d1d1d1d1d1d2d) [(13,.is 26 1 (AEU q)),(4,.is 42 1 (AEX q))] [] [] []) (kO (kz q0 (kz q1 (kz q2 (kz q3 (kz q4 (kz q5 (kz q6 (kz q7 (kz q8 (kz q9 (kz q10 (kz q11 (kz q12 AN)))))))))))))) (.cons (ihB1 iP iP iP iP (by assumption)) (.cons (ihA1 iP iP iP iP (by assumption)) .nil))
theorem vM (q11:(decide (q.place<1))=false)(q12:(decide (q.place>(↑q.n:Int)))=false):sP 6 (Au q) (iv 0):=
 kP _ (.mk (dS 0x10000001111222333444444555556999990d0d0d0d1d1d1d1d1d2d) [(13,.is 26 1 (AEU q)),(4,.is 42 1 (AEX q))] [] [] []) (kO (kz q0 (kz q1 (kz q2 (kz q3 (kz q4 (kz q5 (kz q6 (kz q7 (kz q8 (kz q9 (kz q10 (kz q11 (kz q12 AN)))))))))))))) (.cons (ihB1 iP iP iP iP (by assumption)) (.cons (ihA1 iP iP iP iP (by assumption)) .nil))
end
section
variable (q:RaceD)(b1:Bool)(b2:Bool)(ihA1:2<=q.n->q.n<=24->q.m'=q.n->q.m<=552->b1=true->sL HT (frame 158 [(1,pt 0 0),(3,iv q.n),(4,iv 0)]) [oV q.cells] ((xL 0,frame 158 [(1,pt 0 0),(3,iv q.n)],[oV q.cells]):RC))(ihA2:2<=q.n->q.n<=24->q.m'=q.n->q.m<=552->b1=false->sL HT (frame 158 [(1,pt 0 0),(3,iv q.n),(4,iv 0)]) [oV q.cells] ((EX.ret,frame 158 [(1,pt 0 0),(2,iv 280),(3,iv q.n)],[oV q.cells]):RC))(ihB1:2<=q.n->q.n<=24->q.m'=q.n->q.m<=552->b2=true->sL HU (frame 158 [(1,pt 0 0),(3,iv q.n),(5,iv 0)]) [oV q.cells] ((xL 2,frame 158 [(1,pt 0 0),(3,iv q.n)],[oV q.cells]):RC))(ihB2:2<=q.n->q.n<=24->q.m'=q.n->q.m<=552->b2=false->sL HU (frame 158 [(1,pt 0 0),(3,iv q.n),(5,iv 0)]) [oV q.cells] ((EX.ret,frame 158 [(1,pt 0 0),(2,iv 280),(3,iv q.n)],[oV q.cells]):RC))(q0:Gv q)(q1:IG q)(q2:(ER q)=false)(q3:(decide ((↑q.n:Int)<2))=false)(q4:Gx q)(q5:((↑q.m':Int) != (↑q.n:Int))=false)(q6:(Gw q)=false)
include q b1 b2 ihA1 ihA2 ihB1 ihB2 q0 q1 q2 q3 q4 q5 q6
theorem vN (q7:(b1)=true)(q8:(b2)=false):sP 6 (Au q) (iv 280):=
 kP _ (.mk (dS 0x10000001111222333444444555556) [(13,.is 26 1 (AEU q)),(4,.is 42 1 (AEQ q))] [] [] []) (kO (kz q0 (kz q1 (kz q2 (kz q3 (kz q4 (kz q5 (kz q6 (kz q7 (kz q8 AN)))))))))) (.cons (ihB2 iP iP iP iP (by assumption)) (.cons (ihA1 iP iP iP iP (by assumption)) .nil))
theorem vO (q7:(b1)=false):sP 6 (Au q) (iv 280):=
 kP _ (.mk (dS 0x10000001111222333444444555556) [(13,.is 26 1 (AEQ q))] [] [] []) (kO (kz q0 (kz q1 (kz q2 (kz q3 (kz q4 (kz q5 (kz q6 (kz q7 AN))))))))) (.cons (ihA2 iP iP iP iP (by assumption)) .nil)
end
theorem rck (q:RaceD)(b1:Bool)(b2:Bool)(ihA1:2<=q.n->q.n<=24->q.m'=q.n->q.m<=552->b1=true->sL HT (frame 158 [(1,pt 0 0),(3,iv q.n),(4,iv 0)]) [oV q.cells] ((xL 0,frame 158 [(1,pt 0 0),(3,iv q.n)],[oV q.cells]):RC))(ihA2:2<=q.n->q.n<=24->q.m'=q.n->q.m<=552->b1=false->sL HT (frame 158 [(1,pt 0 0),(3,iv q.n),(4,iv 0)]) [oV q.cells] ((EX.ret,frame 158 [(1,pt 0 0),(2,iv 280),(3,iv q.n)],[oV q.cells]):RC))(ihB1:2<=q.n->q.n<=24->q.m'=q.n->q.m<=552->b2=true->sL HU (frame 158 [(1,pt 0 0),(3,iv q.n),(5,iv 0)]) [oV q.cells] ((xL 2,frame 158 [(1,pt 0 0),(3,iv q.n)],[oV q.cells]):RC))(ihB2:2<=q.n->q.n<=24->q.m'=q.n->q.m<=552->b2=false->sL HU (frame 158 [(1,pt 0 0),(3,iv q.n),(5,iv 0)]) [oV q.cells] ((EX.ret,frame 158 [(1,pt 0 0),(2,iv 280),(3,iv q.n)],[oV q.cells]):RC)):∃ e:Int,sP 6 [ag q.cells] (iv e)/\(e=0->b1=true/\b2=true/\0<=q.draw/\q.draw<=q.win/\q.win<=999/\2<=q.n/\q.n<=24/\q.m'=q.n/\q.m<=552/\0<=q.club/\q.club<q.n/\1<=q.place/\q.place<=q.n):=by
 rcases bT (decide (q.draw<0)) with q0 | q0
 ·exact e12 (AC3 q b1 b2 ihA1 ihA2 ihB1 ihB2 q0)
 ·rcases bT (decide (q.win<q.draw)) with q1 | q1
  ·exact e12 (AC4 q b1 b2 ihA1 ihA2 ihB1 ihB2 q0 q1)
  ·rcases bT (decide (q.win>999)) with q2 | q2
   ·exact e12 (AC5 q b1 b2 ihA1 ihA2 ihB1 ihB2 q0 q1 q2)
   ·rcases bT (decide ((↑q.n:Int)<2)) with q3 | q3
    ·exact e12 (AC6 q b1 b2 ihA1 ihA2 ihB1 ihB2 q0 q1 q2 q3)
    ·rcases bT (decide ((↑q.n:Int)>24)) with q4 | q4
     ·exact e12 (AC7 q b1 b2 ihA1 ihA2 ihB1 ihB2 q0 q1 q2 q3 q4)
     ·rcases bT ((↑q.m':Int) != (↑q.n:Int)) with q5 | q5
      ·exact e12 (AC8 q b1 b2 ihA1 ihA2 ihB1 ihB2 q0 q1 q2 q3 q4 q5)
      ·rcases bT (decide ((↑q.m:Int)>552)) with q6 | q6
       ·exact e12 (AC9 q b1 b2 ihA1 ihA2 ihB1 ihB2 q0 q1 q2 q3 q4 q5 q6)
       ·rcases bT (b1) with q7 | q7
        ·rcases bT (b2) with q8 | q8
         ·rcases bT (decide (q.club<0)) with q9 | q9
          ·exact e12 (ADA q b1 b2 ihA1 ihA2 ihB1 ihB2 q0 q1 q2 q3 q4 q5 q6 q7 q8 q9)
          ·rcases bT (decide (q.club>=(↑q.n:Int))) with q10 | q10
           ·exact e12 (ADB q b1 b2 ihA1 ihA2 ihB1 ihB2 q0 q1 q2 q3 q4 q5 q6 q7 q8 q9 q10)
           ·rcases bT (decide (q.place<1)) with q11 | q11
            ·exact e12 (ADC q b1 b2 ihA1 ihA2 ihB1 ihB2 q0 q1 q2 q3 q4 q5 q6 q7 q8 q9 q10 q11)
            ·rcases bT (decide (q.place>(↑q.n:Int))) with q12 | q12
             ·exact e12 (vL q b1 b2 ihA1 ihA2 ihB1 ihB2 q0 q1 q2 q3 q4 q5 q6 q7 q8 q9 q10 q11 q12)
             ·exact e12 (vM q b1 b2 ihA1 ihA2 ihB1 ihB2 q0 q1 q2 q3 q4 q5 q6 q7 q8 q9 q10 q11 q12)
         ·exact e12 (vN q b1 b2 ihA1 ihA2 ihB1 ihB2 q0 q1 q2 q3 q4 q5 q6 q7 q8)
        ·exact e12 (vO q b1 b2 ihA1 ihA2 ihB1 ihB2 q0 q1 q2 q3 q4 q5 q6 q7)
abbrev Gy (a0:RaceD):=!decide (a0.club<=(↑a0.n:Int) - 1)
abbrev Gz (a0:RaceD):=!decide ((↑a0.n:Int)<=24)
abbrev KE (a0:RaceD):=!decide (a0.draw<=a0.win)
abbrev KF (a0:RaceD):=decide ((↑a0.n:Int)>=2)
abbrev KG (a0:RaceD):=decide (a0.draw>=0)
section
variable (q:RaceD)(h1:0<=q.draw)(h2:q.draw<=q.win)(h3:q.win<=999)(h4:2<=q.n)(h5:q.n<=24)(h6:q.m'=q.n)(h7:q.m<=552)(h8:0<=q.club)(h9:q.club<q.n)(h10:1<=q.place)(h11:q.place<=q.n)(ihA:sL ACi (frame 117 [(1,pt 0 0),(3,iv q.n),(41,AW q.nc q.n q.club'),(42,iv q.n),(43,iv 0)]) [oV q.cells] ((xL 0,frame 117 [(1,pt 0 0),(3,iv q.n)],[oV q.cells]):RC))(ihB:sL ACu (frame 117 [(1,pt 0 0),(3,iv q.n),(76,sl q.no 2 q.m fun i=>(q.op i).cells),(77,iv q.m),(78,iv 0)]) [oV q.cells] ((xL 2,frame 117 [(1,pt 0 0),(3,iv q.n)],[oV q.cells]):RC))
include q h1 h2 h3 h4 h5 h6 h7 h8 h9 h10 h11 ihA ihB
theorem ADD (q0:((↑q.m':Int) != (↑q.n:Int))=false):sP 13 (Au q) (iv 0):=
 kP _ (.mk (dS 0x1aaaabbbbbbaaaabbbbbbbb00000baaaaabbbbaaaabbb) [(23,.is 15393162788874 1 (xL 0,(KD q),[oV q.cells])),(4,.is 528905046081400263933962 1 (xL 2,(KD q),[oV q.cells]))] [] [] []) (kO (kz q0 AN)) (oI ((!decide (q.place<=(↑q.n:Int)))=false) (oI (Gy q=false) (oI (Gy q=false) (oI (decide (q.place>=1)) (oI (decide (q.place>=1)) (oI (decide (q.place>=1)) (oI (decide (q.place>=1)) (oI (Gy q=false) (oI (Gy q=false) (oI (Gy q=false) (oI (Gy q=false) (oI (decide (q.club>=0)) (oI (decide (q.club>=0)) (oI (decide (q.club>=0)) (oI (decide (q.club>=0)) (rI ((↑q.n:Int) - 1) (.cons ihB (.cons ihA (oI (Gw q=false) (oI (Gz q=false) (oI (Gz q=false) (oI (Gz q=false) (oI (Gz q=false) (oI (Gz q=false) (oI (Gz q=false) (oI (ER q=false) (oI (ER q=false) (oI (KF q) (oI (KF q) (oI (KF q) (oI (KF q) (oI (ER q=false) (oI (ER q=false) (oI (KE q=false) (oI (KE q=false) (oI (KE q=false) (oI (KE q=false) (oI (KG q) (oI (KG q) (oI (KG q) (oI (KG q) .nil)))))))))))))))))))))))))))))))))))))))))
end
abbrev Mq (q:RaceD)(i:Nat):Prop:=(0<=q.club' ((i:Nat):Int).toNat/\q.club' ((i:Nat):Int).toNat<192/\(0<((i:Nat):Int)->q.club' (((i:Nat):Int) - 1).toNat<q.club' ((i:Nat):Int).toNat)/\-99999<=q.pts ((i:Nat):Int).toNat/\q.pts ((i:Nat):Int).toNat<=99999)
abbrev Mr (q:RaceD)(i:Nat):Prop:=(0<=(q.op ((i:Nat):Int).toNat).left/\(q.op ((i:Nat):Int).toNat).left<q.n/\0<=(q.op ((i:Nat):Int).toNat).right/\(q.op ((i:Nat):Int).toNat).right<q.n/\(q.op ((i:Nat):Int).toNat).left≠(q.op ((i:Nat):Int).toNat).right)
structure RaceD.Valid (q:RaceD):Prop where
 w1:0<=q.draw
 w2:q.draw<=q.win
 w3:q.win<=999
 n1:2<=q.n
 n2:q.n<=24
 m':q.m'=q.n
 m:q.m<=552
 cl:∀ i,i<q.n->Mq q i
 op:∀ i,i<q.m->Mr q i
 c1:0<=q.club
 c2:q.club<q.n
 p1:1<=q.place
 p2:q.place<=q.n
theorem RaceD.Valid.ok {q:RaceD}(h:q.Valid)(hn:q.n<=8)(hp:q.np=true):q.Ok:=
 ⟨⟨h.w1,h.w2,h.w3⟩,⟨h.n1,hn⟩,⟨hp,h.m'⟩,h.m,fun i hi=>(h.cl i hi).2.2.2,fun g hg=>h.op g hg,⟨h.c1,h.c2⟩,⟨h.p1,h.p2⟩⟩
section
variable {q:RaceD}
theorem Yp (hm:q.m'=q.n)(hn:q.n<=24)(h0:0<q.n):((∀ i,i<q.n->Mq q i)/\SemCL prog globs' false HT (frame 158 [(1,.ptr 0 0),(3,.int .i64 q.n),(4,.int .i64 0)]) [EObj.var false true q.cells] (EX.leave 0,frame 158 [(1,.ptr 0 0),(3,.int .i64 q.n)],[EObj.var false true q.cells]))∨
  ((¬ ∀ i,i<q.n->Mq q i)/\SemCL prog globs' false HT (frame 158 [(1,.ptr 0 0),(3,.int .i64 q.n),(4,.int .i64 0)]) [EObj.var false true q.cells] (EX.ret,frame 158 [(1,.ptr 0 0),(2,.int .i64 280),(3,.int .i64 q.n)],[EObj.var false true q.cells])):=by
 rcases SemLR.all (P:=prog) (G:=globs') (rnd:=false) (c:=ACP) 1 (fun i=>frame 158 [(1,.ptr 0 0),(3,.int .i64 q.n),(4,.int .i64 (i:Nat))]) (fun _=>[EObj.var false true q.cells]) q.n (Mq q) (fun i=>¬ Mq q i) (fun _=>(EX.ret,frame 158 [(1,.ptr 0 0),(2,.int .i64 280),(3,.int .i64 q.n)],[EObj.var false true q.cells])) (EX.leave 0,frame 158 [(1,.ptr 0 0),(3,.int .i64 q.n)],[EObj.var false true q.cells]) (fun _=>by simp) (by simp) (fun i=>by
  obtain ⟨r,h1,h2⟩:=rcA q i (by omega) hm hn;refine ⟨r,h1,?_⟩;rcases h2 with ⟨a,b,c⟩ | ⟨a,b,c⟩ | ⟨a,b⟩
  ·exact .inl ⟨a,by omega,c⟩
  ·exact .inr (.inl ⟨a,by omega,c⟩)
  ·exact .inr (.inr ⟨a,by omega⟩)) with ⟨h1,h2⟩ | ⟨i,h1,h2,h3,h4⟩
 ·exact .inl ⟨h2,h1.cl (by kernel_rfl) (by kernel_rfl)⟩
 ·exact .inr ⟨fun h=>h2 (h i h1),h4.cl (by kernel_rfl) (by kernel_rfl)⟩
theorem Yq (hn:q.n<=24)(hn0:2<=q.n)(hM:q.m<=552):((∀ i,i<q.m->Mr q i)/\SemCL prog globs' false HU (frame 158 [(1,.ptr 0 0),(3,.int .i64 q.n),(5,.int .i64 0)]) [EObj.var false true q.cells] (EX.leave 2,frame 158 [(1,.ptr 0 0),(3,.int .i64 q.n)],[EObj.var false true q.cells]))∨
  ((¬ ∀ i,i<q.m->Mr q i)/\SemCL prog globs' false HU (frame 158 [(1,.ptr 0 0),(3,.int .i64 q.n),(5,.int .i64 0)]) [EObj.var false true q.cells] (EX.ret,frame 158 [(1,.ptr 0 0),(2,.int .i64 280),(3,.int .i64 q.n)],[EObj.var false true q.cells])):=by
 rcases SemLR.all (P:=prog) (G:=globs') (rnd:=false) (c:=ACa) 1 (fun i=>frame 158 [(1,.ptr 0 0),(3,.int .i64 q.n),(5,.int .i64 (i:Nat))]) (fun _=>[EObj.var false true q.cells]) q.m (Mr q) (fun i=>¬ Mr q i) (fun _=>(EX.ret,frame 158 [(1,.ptr 0 0),(2,.int .i64 280),(3,.int .i64 q.n)],[EObj.var false true q.cells])) (EX.leave 2,frame 158 [(1,.ptr 0 0),(3,.int .i64 q.n)],[EObj.var false true q.cells]) (fun _=>by simp) (by simp) (fun i=>by
  obtain ⟨r,h1,h2⟩:=rcB q i (by omega) hn hn0 hM;refine ⟨r,h1,?_⟩;rcases h2 with ⟨a,b,c⟩ | ⟨a,b,c⟩ | ⟨a,b⟩
  ·exact .inl ⟨a,by omega,c⟩
  ·exact .inr (.inl ⟨a,by omega,c⟩)
  ·exact .inr (.inr ⟨a,by omega⟩)) with ⟨h1,h2⟩ | ⟨i,h1,h2,h3,h4⟩
 ·exact .inl ⟨h2,h1.cl (by kernel_rfl) (by kernel_rfl)⟩
 ·exact .inr ⟨fun h=>h2 (h i h1),h4.cl (by kernel_rfl) (by kernel_rfl)⟩
theorem Sv (q:RaceD):∃ e:Int,SemP prog globs' 6 [EV.agg q.cells] (.int .i64 e)/\(e=0->q.Valid):=by
 by_cases hg:2<=q.n/\q.n<=24/\q.m'=q.n/\q.m<=552
 ·obtain ⟨g1,g2,g3,g4⟩:=hg;have hA:=Yp g3 g2 (by omega);have hB:=Yq g2 g1 g4;obtain ⟨b1,hb1,A1,A2⟩:∃ b1:Bool,(b1=true->∀ i,i<q.n->Mq q i)/\(b1=true->SemCL prog globs' false HT (frame 158 [(1,.ptr 0 0),(3,.int .i64 q.n),(4,.int .i64 0)]) [EObj.var false true q.cells] (EX.leave 0,frame 158 [(1,.ptr 0 0),(3,.int .i64 q.n)],[EObj.var false true q.cells]))/\(b1=false->SemCL prog globs' false HT (frame 158 [(1,.ptr 0 0),(3,.int .i64 q.n),(4,.int .i64 0)]) [EObj.var false true q.cells] (EX.ret,frame 158 [(1,.ptr 0 0),(2,.int .i64 280),(3,.int .i64 q.n)],[EObj.var false true q.cells])):=by
   rcases hA with ⟨a,b⟩ | ⟨a,b⟩
   ·exact ⟨true,fun _=>a,fun _=>b,(fun h=>by cases h)⟩
   ·exact ⟨false,(fun h=>by cases h),(fun h=>by cases h),fun _=>b⟩
  obtain ⟨b2,hb2,B1,B2⟩:∃ b2:Bool,(b2=true->∀ i,i<q.m->Mr q i)/\(b2=true->SemCL prog globs' false HU (frame 158 [(1,.ptr 0 0),(3,.int .i64 q.n),(5,.int .i64 0)]) [EObj.var false true q.cells] (EX.leave 2,frame 158 [(1,.ptr 0 0),(3,.int .i64 q.n)],[EObj.var false true q.cells]))/\(b2=false->SemCL prog globs' false HU (frame 158 [(1,.ptr 0 0),(3,.int .i64 q.n),(5,.int .i64 0)]) [EObj.var false true q.cells] (EX.ret,frame 158 [(1,.ptr 0 0),(2,.int .i64 280),(3,.int .i64 q.n)],[EObj.var false true q.cells])):=by
   rcases hB with ⟨a,b⟩ | ⟨a,b⟩
   ·exact ⟨true,fun _=>a,fun _=>b,(fun h=>by cases h)⟩
   ·exact ⟨false,(fun h=>by cases h),(fun h=>by cases h),fun _=>b⟩
  obtain ⟨e,h1,h2⟩:=rck q b1 b2 (fun _ _ _ _=>A1) (fun _ _ _ _=>A2) (fun _ _ _ _=>B1) (fun _ _ _ _=>B2);refine ⟨e,h1,fun he=>?_⟩;obtain ⟨x1,x2,w1,w2,w3,_,_,_,_,c1,c2,p1,p2⟩:=h2 he;exact ⟨w1,w2,w3,g1,g2,g3,g4,hb1 x1,hb2 x2,c1,c2,p1,p2⟩
 ·obtain ⟨e,h1,h2⟩:=rck q true true (fun a b c d=>absurd ⟨a,b,c,d⟩ hg) (fun a b c d=>absurd ⟨a,b,c,d⟩ hg) (fun a b c d=>absurd ⟨a,b,c,d⟩ hg) (fun a b c d=>absurd ⟨a,b,c,d⟩ hg);refine ⟨e,h1,fun he=>?_⟩;obtain ⟨_,_,_,_,_,y1,y2,y3,y4,_⟩:=h2 he;exact absurd ⟨y1,y2,y3,y4⟩ hg
theorem Vk {q:RaceD}(h:q.Valid):SemP prog globs' 13 [EV.agg q.cells] (.int .i64 0):=by
 refine ADD q h.w1 h.w2 h.w3 h.n1 h.n2 h.m' h.m h.c1 h.c2 h.p1 h.p2 ?_ ?_ (by rw [bne_eq_false_iff_eq,h.m'])
 ·rcases SemLR.all (P:=prog) (G:=globs') (rnd:=false) (c:=ACj) 1 (fun i=>frame 117 [(1,.ptr 0 0),(3,.int .i64 q.n),(41,AW q.nc q.n q.club'),(42,.int .i64 q.n),(43,.int .i64 (i:Nat))]) (fun _=>[EObj.var false true q.cells]) q.n (Mq q) (fun i=>¬ Mq q i) (fun _=>(EX.ret,frame 117 [(1,.ptr 0 0),(2,.int .i64 280),(3,.int .i64 q.n)],[EObj.var false true q.cells])) (EX.leave 0,frame 117 [(1,.ptr 0 0),(3,.int .i64 q.n)],[EObj.var false true q.cells]) (fun _=>by simp) (by simp) (fun i=>by
   obtain ⟨r,h1,h2⟩:=ckA q i (by omega) h.m' h.n2;refine ⟨r,h1,?_⟩;rcases h2 with ⟨a,b,c⟩ | ⟨a,b,c⟩ | ⟨a,b⟩
   ·exact .inl ⟨a,by omega,c⟩
   ·exact .inr (.inl ⟨a,by omega,c⟩)
   ·exact .inr (.inr ⟨a,by omega⟩)) with ⟨h1,h2⟩ | ⟨i,h1,h2,h3,h4⟩
  ·exact h1.cl (by kernel_rfl) (by kernel_rfl)
  ·exact absurd (h.cl i h1) h2
 ·rcases SemLR.all (P:=prog) (G:=globs') (rnd:=false) (c:=ACv) 1 (fun i=>frame 117 [(1,.ptr 0 0),(3,.int .i64 q.n),(76,EV.isl q.no 2 q.m fun i=>(q.op i).cells),(77,.int .i64 q.m),(78,.int .i64 (i:Nat))]) (fun _=>[EObj.var false true q.cells]) q.m (Mr q) (fun i=>¬ Mr q i) (fun _=>(EX.ret,frame 117 [(1,.ptr 0 0),(2,.int .i64 280),(3,.int .i64 q.n)],[EObj.var false true q.cells])) (EX.leave 2,frame 117 [(1,.ptr 0 0),(3,.int .i64 q.n)],[EObj.var false true q.cells]) (fun _=>by simp) (by simp) (fun i=>by
   obtain ⟨r,h1,h2⟩:=ckB q i (by omega) h.n2 h.n1 h.m;refine ⟨r,h1,?_⟩;rcases h2 with ⟨a,b,c⟩ | ⟨a,b,c⟩ | ⟨a,b⟩
   ·exact .inl ⟨a,by omega,c⟩
   ·exact .inr (.inl ⟨a,by omega,c⟩)
   ·exact .inr (.inr ⟨a,by omega⟩)) with ⟨h1,h2⟩ | ⟨i,h1,h2,h3,h4⟩
  ·exact h1.cl (by kernel_rfl) (by kernel_rfl)
  ·exact absurd (h.op i h1) h2
end
end Go.Ev
namespace Go.Ev
open Go.Proofs.Tryz (prog)
set_option maxRecDepth 100000
set_option linter.unusedVariables false
set_option linter.unusedSectionVars false
def KindG (q:RaceD)(kd:Int):Prop:=((kd=1/\∀ c,Bw q c->¬ D1 q c)∨(kd=2/\(∃ c,Bw q c/\D1 q c)/\∀ c,Bw q c->¬ ET q c)∨(kd=3/\(∃ c,Bw q c/\ET q c)/\∃ c,Bw q c/\D1 q c)∨(kd=4/\q.flow=false/\8<q.m))/\(q.flow=true∨q.m<=8∨kd=4)
theorem AFv {q:RaceD}(h:q.Valid)(hn:q.n<=8)(hp:q.np=true):∃ kd,SemP prog globs' 7 [.agg q.cells] (.int .i64 kd)/\KindG q kd:=by
 obtain ⟨kd,v,_,h6,hd,hk⟩:=Yo (h.ok hn hp) (Vk h);refine ⟨kd,h6,?_,hk⟩;cases hd with
 | sure cb cn cr g=>exact .inl ⟨rfl,g⟩
 | out cb cn cr g1 g2=>exact .inr (.inl ⟨rfl,g1,g2⟩)
 | open' rb rv mb mv g1 g2 g3 g4=>exact .inr (.inr (.inl ⟨rfl,⟨rv,g1,g2⟩,⟨mv,g3,g4⟩⟩))
 | unk g1 g2=>exact .inr (.inr (.inr ⟨rfl,g1,g2⟩))
theorem AFz {q:RaceD}{c:Nat->Int}(h:¬ D1 q c):ET q c:=by
 have:=TP q.n q.own (CS q c q.m);unfold D1 at h;unfold ET;omega
theorem KindG.same {q x:RaceD}{a b:Int}(ha:KindG q a)(hb:KindG x b)(hm:q.m=x.m)(hf:q.flow=x.flow)
  (h1:∀ c,Bw q c->∃ d,Bw x d/\(D1 q c↔D1 x d)/\(ET q c↔ET x d))
  (h2:∀ d,Bw x d->∃ c,Bw q c/\(D1 q c↔D1 x d)/\(ET q c↔ET x d)):a=b:=by
 obtain ⟨ha,ka⟩:=ha;obtain ⟨hb,kb⟩:=hb;rw [<-hm,<-hf] at kb;by_cases h8:q.flow=true∨q.m<=8
 ·have na:a≠4:=by
   intro e;rcases ha with ⟨x,_⟩ | ⟨x,_⟩ | ⟨x,_⟩ | ⟨_,x,y⟩
   ·omega
   ·omega
   ·omega
   ·rcases h8 with h | h
    ·rw [x] at h; cases h
    ·omega
  have nb:b≠4:=by
   intro e;rcases hb with ⟨x,_⟩ | ⟨x,_⟩ | ⟨x,_⟩ | ⟨_,x,y⟩
   ·omega
   ·omega
   ·omega
   ·rw [<-hf] at x;rw [<-hm] at y;rcases h8 with h | h
    ·rw [x] at h; cases h
    ·omega
  rcases ha with ⟨x,xa⟩ | ⟨x,⟨c,c1,c2⟩,xa⟩ | ⟨x,⟨c,c1,c2⟩,⟨d,d1,d2⟩⟩ | ⟨x,_⟩
  ·rcases hb with ⟨y,_⟩ | ⟨y,⟨e,e1,e2⟩,_⟩ | ⟨y,_,⟨e,e1,e2⟩⟩ | ⟨y,_⟩
   ·omega
   ·obtain ⟨c,k1,k2,_⟩:=h2 e e1; exact absurd (k2.2 e2) (xa c k1)
   ·obtain ⟨c,k1,k2,_⟩:=h2 e e1; exact absurd (k2.2 e2) (xa c k1)
   ·omega
  ·obtain ⟨e,k1,k2,_⟩:=h1 c c1;rcases hb with ⟨y,ya⟩ | ⟨y,_⟩ | ⟨y,⟨f,f1,f2⟩,_⟩ | ⟨y,_⟩
   ·exact absurd (k2.1 c2) (ya e k1)
   ·omega
   ·obtain ⟨c,l1,_,l2⟩:=h2 f f1; exact absurd (l2.2 f2) (xa c l1)
   ·omega
  ·obtain ⟨e,k1,_,k2⟩:=h1 c c1;obtain ⟨f,l1,l2,_⟩:=h1 d d1;rcases hb with ⟨y,ya⟩ | ⟨y,_,ya⟩ | ⟨y,_⟩ | ⟨y,_⟩
   ·exact absurd (l2.1 d2) (ya f l1)
   ·exact absurd (k2.1 c2) (ya e k1)
   ·omega
   ·omega
  ·omega
 ·have x:a=4:=by
   rcases ka with k | k | k
   ·exact absurd (.inl k) h8
   ·exact absurd (.inr k) h8
   ·exact k
  have y:b=4:=by
   rcases kb with k | k | k
   ·exact absurd (.inl k) h8
   ·exact absurd (.inr k) h8
   ·exact k
  omega
def RaceD.rest (q:RaceD)(x:Int):RaceD:={ q with pts:=I3 q q.pts 0 x,np:=true,m:=q.m - 1,op:=fun i=>q.op (1+i) }
def AF1 (x:Int)(c:Nat->Int):Nat->Int
 | 0=>x
 | k+1=>c k
theorem AFw (q:RaceD)(x:Int)(c:Nat->Int):∀ k,CS q (AF1 x c) (k+1)=CS (q.rest x) c k
 | 0=>rfl
 | k+1=>by
  have ih:=AFw q x c k;have e:(q.rest x).op k=q.op (k+1):=by
   show q.op (1+k)=_;rw [Nat.add_comm]
  rw [CS,ih,CS];unfold I3;rw [e];rfl
theorem AFx {q:RaceD}(hm:0<q.m)(x:Int)(c:Nat->Int):(D1 (q.rest x) c↔D1 q (AF1 x c))/\(ET (q.rest x) c↔ET q (AF1 x c)):=by
 have e:=AFw q x c (q.m - 1);rw [show q.m - 1+1=q.m by omega] at e;unfold D1 ET;rw [e];exact ⟨Iff.rfl,Iff.rfl⟩
theorem AFq {q:RaceD}{x:Int}{c:Nat->Int}(hx:1<=x/\x<=3)(h:Bw (q.rest x) c):Bw q (AF1 x c):=by
 intro g hg;cases g with
 | zero=>exact hx
 | succ g=>exact h g (show g<q.m - 1 by omega)
theorem AGF {q:RaceD}{x a b:Int}(hm:0<q.m)(hx:1<=x/\x<=3)(ha:KindG q a)(hb:KindG (q.rest x) b):a=3∨a=4∨b=4∨a=b:=by
 obtain ⟨ha,_⟩:=ha;obtain ⟨hb,_⟩:=hb;rcases ha with ⟨y,ya⟩ | ⟨y,_,ya⟩ | ⟨y,_⟩ | ⟨y,_⟩
 ·have key:∀ c,Bw (q.rest x) c->¬ D1 (q.rest x) c:=fun c hc hg=>ya _ (AFq hx hc) ((AFx hm x c).1.1 hg);rcases hb with ⟨z,_⟩ | ⟨z,⟨c,c1,c2⟩,_⟩ | ⟨z,_,⟨c,c1,c2⟩⟩ | ⟨z,_⟩
  ·omega
  ·exact absurd c2 (key c c1)
  ·exact absurd c2 (key c c1)
  ·omega
 ·have key:∀ c,Bw (q.rest x) c->¬ ET (q.rest x) c:=fun c hc hg=>ya _ (AFq hx hc) ((AFx hm x c).2.1 hg);rcases hb with ⟨z,zb⟩ | ⟨z,_⟩ | ⟨z,⟨c,c1,c2⟩,_⟩ | ⟨z,_⟩
  ·have h1:Bw (q.rest x) fun _=>1:=fun _ _=>⟨by show (1:Int)<=1; omega,by show (1:Int)<=3; omega⟩
   exact absurd (AFz (zb _ h1)) (key _ h1)
  ·omega
  ·exact absurd c2 (key c c1)
  ·omega
 ·omega
 ·omega
end Go.Ev
namespace Go.Ev
open Go.Proofs.Tryz (prog)
set_option maxRecDepth 100000
set_option maxHeartbeats 0
def T0:Ia:=(51,[.ip [iv 2,iv 1,.isl true 1 2 (fun i=>[[iv 3],[iv 5]].getD i []),.isl true 1 2 (fun i=>[[iv 0],[iv 0]].getD i []),.isl true 2 1 (fun i=>[[iv 0,iv 1]].getD i []),iv 0,iv 1,.isl true 1 1 (fun i=>[[iv 1]].getD i []),.isl true 2 1 (fun i=>[[iv 0,iv 1]].getD i []),.im [(.agg [iv 0,iv 1],.isl true 1 1 (fun i=>[[iv 0]].getD i []))],iv 2] 0,.isl true 1 1 (fun i=>[[iv 1]].getD i [])],.tuple [.isl true 1 1 (fun i=>[[iv 3]].getD i []),.agg [s0,s0,s0],.bool true]) :: []
theorem hT0:Om prog globs' T0:=⟨Eg (T:=[]) trivial (pures:=pures) (news:=news) (n:=40) (fuel:=100000) C1 (by kernel_rfl) (by kernel_rfl),trivial⟩
def T1:Ia:=(30,[.ip [iv 2,iv 1,.isl true 1 2 (fun i=>[[iv 3],[iv 5]].getD i []),.isl true 1 2 (fun i=>[[iv 0],[iv 0]].getD i []),.isl true 2 1 (fun i=>[[iv 0,iv 1]].getD i []),iv 0,iv 1,.isl true 1 1 (fun i=>[[iv 1]].getD i []),.isl true 2 1 (fun i=>[[iv 0,iv 1]].getD i []),.im [(.agg [iv 0,iv 1],.isl true 1 1 (fun i=>[[iv 0]].getD i []))],iv 2] 0],.agg [iv 3,.isl true 1 1 (fun i=>[[iv 1]].getD i []),.isl true 1 1 (fun i=>[[iv 3]].getD i []),s0]) :: T0
theorem hT1:Om prog globs' T1:=⟨Eg (T:=T0) hT0 (pures:=pures) (news:=news) (n:=40) (fuel:=100000) C1 (by kernel_rfl) (by kernel_rfl),hT0⟩
def T2:Ia:=(81,[.agg [iv 5,.isl true 3 3 (fun i=>[[iv 0,iv 1,iv 2],[iv 1,iv 3,iv 2],[iv 3,iv 4,iv 5]].getD i [])]],.tuple [.isl true 1 3 (fun i=>[[iv 2],[iv 2],[iv 2]].getD i []),iv 2,.isl true 1 1 (fun i=>[[iv 0]].getD i []),iv 0]) :: T1
theorem hT2:Om prog globs' T2:=⟨Eg (T:=T1) hT1 (pures:=pures) (news:=news) (n:=40) (fuel:=100000) C1 (by kernel_rfl) (by kernel_rfl),hT1⟩
def T3:Ia:=(14,[.agg [iv 2,iv 1,.isl true 1 2 (fun i=>[[iv 3],[iv 5]].getD i []),.isl true 1 2 (fun i=>[[iv 5],[iv 0]].getD i []),.isl true 2 1 (fun i=>[[iv 0,iv 1]].getD i []),iv 0,iv 1]],.tuple [.agg [iv 1,s0,s0,.isl true 3 1 (fun i=>[[.isl true 1 1 (fun i=>[[iv 1]].getD i []),.isl true 1 1 (fun i=>[[iv 1]].getD i []),.isl true 1 1 (fun i=>[[iv 0]].getD i [])]].getD i [])],iv 0]) :: T2
theorem hT3:Om prog globs' T3:=⟨Eg (T:=T2) hT2 (pures:=pures) (news:=news) (n:=40) (fuel:=100000) C1 (by kernel_rfl) (by kernel_rfl),hT2⟩
def T4:Ia:=(51,[.ip [iv 2,iv 1,.isl true 1 2 (fun i=>[[iv 3],[iv 5]].getD i []),.isl true 1 2 (fun i=>[[iv 5],[iv 0]].getD i []),.isl true 2 1 (fun i=>[[iv 0,iv 1]].getD i []),iv 1,iv 1,.isl true 1 1 (fun i=>[[iv 0]].getD i []),.isl true 2 1 (fun i=>[[iv 0,iv 1]].getD i []),.im [(.agg [iv 0,iv 1],.isl true 1 1 (fun i=>[[iv 0]].getD i []))],iv 2] 0,.isl true 1 1 (fun i=>[[iv 0]].getD i [])],.tuple [.isl true 1 1 (fun i=>[[iv 1]].getD i []),.agg [s0,s0,s0],.bool true]) :: T3
theorem hT4:Om prog globs' T4:=⟨Eg (T:=T3) hT3 (pures:=pures) (news:=news) (n:=40) (fuel:=100000) C1 (by kernel_rfl) (by kernel_rfl),hT3⟩
def T5:Ia:=(5,[],.bool true) :: T4
theorem hT5:Om prog globs' T5:=⟨Eg (T:=T4) hT4 (pures:=pures) (news:=news) (n:=40) (fuel:=100000) C1 (by kernel_rfl) (by kernel_rfl),hT4⟩
end Go.Ev
namespace Go.Ev
open Go.Proofs.Tryz (prog)
set_option maxRecDepth 100000
set_option linter.unusedVariables false
set_option linter.unusedSectionVars false
theorem AGN {q:RaceD}(hn:q.no=true)(x:Int):cG q.win q.draw q (AW true q.m' fun i=>I3 q q.pts 0 x (0+i)) (.isl true 2 (q.m - 1) fun i=>(q.op (1+i)).cells)=(q.rest x).cells:=by
 unfold cG RaceD.cells RaceD.rest;simp only [Nat.zero_add,hn]
def AF0 (w:Int):Int:=if w=0 then 1 else if w=1 then 3 else 2
theorem AFy {q:RaceD}(h:q.Valid)(hn:q.n<=8)(hm:0<q.m)(w:Int):
  SemCL prog globs' false (cR (cL (cR (cR (cR (cR (cR (cR (cR (AY prog 4)))))))))) (frame 114 [(2,.ptr 0 0),(5,.ptr 1 0),(6,.ptr 2 0),(47,.int .i64 w)]) [EObj.var false true (AE4 q),EObj.var false false (cG q.win q.draw q (.ms 3 1 0 q.m' none) (.isl true 2 (q.m - 1) fun i=>(q.op (1+i)).cells)),EObj.var false true (q.op 0).cells,EObj.arr false true 1 false q.m' fun i=>[.int .i64 (q.pts i)]]
   (EX.normal,frame 114 [(2,.ptr 0 0),(5,.ptr 1 0),(6,.ptr 2 0)],[EObj.var false true (AE4 q),EObj.var false false (cG q.win q.draw q (.ms 3 1 0 q.m' none) (.isl true 2 (q.m - 1) fun i=>(q.op (1+i)).cells)),EObj.var false true (q.op 0).cells,EObj.arr false true 1 false q.m' fun i=>[.int .i64 (I3 q q.pts 0 (AF0 w) i)]]):=by
 obtain ⟨o1,o2,o3,o4,o5⟩:=h.op 0 hm;have w1:=h.w1;have w2:=h.w2;have w3:=h.w3;have hm':=h.m';simp only [show ((0:Nat):Int).toNat=0 from rfl] at o1 o2 o3 o4 o5;obtain ⟨l,hl⟩:∃ l:Nat,(q.op 0).left=l:=⟨(q.op 0).left.toNat,by omega⟩
 obtain ⟨r,hr⟩:∃ r:Nat,(q.op 0).right=r:=⟨(q.op 0).right.toNat,by omega⟩
 have bl: -99999<=q.pts l/\q.pts l<=99999:=(h.cl l (by omega)).2.2.2;have br: -99999<=q.pts r/\q.pts r<=99999:=(h.cl r (by omega)).2.2.2;have el:0+(q.op 0).left.toNat=l:=by omega
 have er:0+(q.op 0).right.toNat=r:=by omega
 by_cases h0:w=0
 ·refine SemCL.weaken (uI _) (HLe.refl _) (rb0 q q.pts w hm' hn w1 w2 w3 o1 o2 o3 o4 (by rw [el]; omega) (by rw [el]; omega) h0) (uI _) (.cons (uH _) (.cons (uH _) (.cons (uH _) (.cons (OLe.arr fun i hi=>?_) .nil))));simp only [BC,I3,Mi,Mj,AF0,Nat.zero_add,hl,hr,uG,if_pos h0];by_cases hi':i=l
  ·subst hi'; simp
  ·rw [if_neg hi'];simp;omega
 ·by_cases h1:w=1
  ·refine SemCL.weaken (uI _) (HLe.refl _) (rb1 q q.pts w hm' hn w1 w2 w3 o1 o2 o3 o4 (by rw [er]; omega) (by rw [er]; omega) h1) (uI _) (.cons (uH _) (.cons (uH _) (.cons (uH _) (.cons (OLe.arr fun i hi=>?_) .nil))));simp only [BC,I3,Mi,Mj,AF0,Nat.zero_add,hl,hr,uG,if_neg h0,if_pos h1];by_cases hi':i=r
   ·subst hi'; simp
   ·rw [if_neg hi'];simp;omega
  ·obtain ⟨p1,hp1,hpl,hpn⟩:∃ p1:Nat->Int,p1 r=q.pts r/\p1 l=q.pts l+q.draw/\∀ i,i≠l->p1 i=q.pts i:=
    ⟨BK q.pts l (q.pts l+q.draw),Ap (by omega),Ao,fun i hi=>Ap hi⟩
   have i3:=SemCL.weaken (uI _) (HLe.refl _) (AGO q q.pts hm' hn w1 w2 w3 o1 o2 o3 o4 (by rw [el]; omega) (by rw [el]; omega)) (uI _)
    (.cons (uH _) (.cons (uH _) (.cons (uH _) (.cons (OLe.arr (row':=fun i=>[.int .i64 (p1 i)]) fun i hi=>by
     simp only [BC,el];by_cases hi':i=l
     ·rw [if_pos hi',hi',hpl]
     ·rw [if_neg hi',hpn i hi']) .nil))))
   refine SemCL.weaken (uI _) (HLe.refl _) (rb2 q q.pts w p1 hm' hn w1 w2 w3 o1 o2 o3 o4 (by rw [er,hp1]; omega) (by rw [er,hp1]; omega) h0 h1 i3) (uI _) (.cons (uH _) (.cons (uH _) (.cons (uH _) (.cons (OLe.arr fun i hi=>?_) .nil))));simp only [BC,I3,Mi,Mj,AF0,Nat.zero_add,hl,hr,uG,if_neg h0,if_neg h1,hp1];by_cases hir:i=r
   ·subst hir;rw [if_pos rfl,if_neg (show ¬ (l:Int)=i by omega)];simp
   ·rw [if_neg hir];by_cases hil:i=l
    ·subst hil;refine congrArg (fun x:Int=>[EV.int IntKind.i64 x]) (?_:p1 i=_);rw [hpl,if_neg (show ¬ (r:Int)=i by omega)];simp
    ·refine congrArg (fun x:Int=>[EV.int IntKind.i64 x]) (?_:p1 i=_);rw [hpn i hil,if_neg (show ¬ (l:Int)=i by omega),if_neg (show ¬ (r:Int)=i by omega)];simp
theorem played_sem (q:RaceD)(o:Int)(hnp:q.m'≠0->q.np=true)(hno:q.m≠0->q.no=true):SemP prog globs' 4 [EV.agg q.cells,.int .i64 o] (.bool true):=by
 obtain ⟨e,h6,hV⟩:=Sv q;by_cases hO:8<q.n∨14<q.m∨q.m=0∨e≠0
 ·exact rpO q o e hO hT5.1 h6
 ·obtain rfl:e=0:=by omega
  have h:=hV rfl;have n1:=h.n1;have hn:q.n<=8:=by omega
  have hp:q.np=true:=hnp (by rw [h.m']; omega);have ho:q.no=true:=hno (by omega);have ec:=AF2 hp ho
  let x:Int:=AF0 (IntKind.i64.wrap ((BitVec.ofInt 64 o &&& BitVec.ofInt 64 3).toNat:Int))
  have hx:1<=x/\x<=3:=by
   show 1<=AF0 _/\AF0 _<=3;unfold AF0;split
   ·omega
   ·split<;>omega
  obtain ⟨a,ha,hK⟩:=AFv h hn hp;obtain ⟨e2,hx6,hXV⟩:=Sv (q.rest x);obtain ⟨b,hb,hKb⟩:∃ b:Int,(e2=0->SemP prog globs' 7 [.agg (q.rest x).cells] (.int .i64 b))/\(e2=0->KindG (q.rest x) b):=by
   by_cases h2:e2=0
   ·obtain ⟨b,hb,hKb⟩:=AFv (hXV h2) hn rfl;exact ⟨b,fun _=>hb,fun _=>hKb⟩
   ·exact ⟨0,fun h=>absurd h h2,fun h=>absurd h h2⟩
  have i8:=rp8 q o h.m' hn n1;rw [Nat.zero_add] at i8;have i8':=SemCL.weaken (uI _) (HLe.refl _) i8 (uI _) (.cons (uH _) (.cons (uH _) (.cons (uH _) (.cons (OLe.arr (row':=fun i=>[.int .i64 (q.pts i)]) fun i hi=>by
   simp only [Ar];rw [if_neg (by omega),Nat.sub_zero]) .nil))))
  rw [ec] at h6 ha;rw [ec];have key:∀ bx:Bool,(e2=0->bx=true)->bx=(bif a==3 then true else bif a==4 then true else bif b==4 then true else a==b)->SemP prog globs' 4 [EV.agg (AE4 q),.int .i64 o] (.bool true):=by
   intro bx h1 h2;rw [<-AGN ho x] at hx6 hb;rcases he:(e2 != 0) with _ | _
   ·have:=AGI q o (I3 q q.pts 0 x) e2 a b bx hn (by omega) (by omega) hT5.1 h6 hx6 ha hb i8' (AFy h hn (by omega) _) (by rw [h2]; exact AGG a b) he;rw [h1 (by rw [bne_eq_false_iff_eq] at he; exact he)] at this;exact this
   ·exact AGH q o (I3 q q.pts 0 x) e2 a b bx hn (by omega) (by omega) hT5.1 h6 hx6 ha hb i8' (AFy h hn (by omega) _) (by rw [h2]; exact AGG a b) he
  refine key _ (fun h2=>?_) rfl;rcases AGF (by omega) hx hK (hKb h2) with h | h | h | h
  ·rw [h]; rfl
  ·rw [h]; rfl
  ·rw [h]; cases a==3<;>cases a==4<;>rfl
  ·rw [h]; cases b==3<;>cases b==4<;>simp
end Go.Ev
namespace Go.Ev
def LZ (T:Go.TypeId->List EV->Prop):List Field->List EV->Prop
 | [],vs=>vs=[]
 | f :: fs,vs=>∃ a b,vs=a++b/\T f.type a/\LZ T fs b
def Typed (P:Program):Nat->Go.TypeId->List EV->Prop
 | 0,_,_=>False
 | n+1,t,vs=>match P.underlying t with
  | some .bool=>∃ b,vs=[.bool b]
  | some (.int k)=>∃ i,vs=[.int k i]/\k.min<=i/\i<=k.max
  | some .string=>∃ s:ByteArray,vs=[.str s]/\s.size<=maxLen
  | some (.slice e)=>vs=[.isl false (P.cellsOf e) 0 fun _=>[]]∨∃ len row,vs=[.isl true (P.cellsOf e) len row]/\len<=maxLen/\∀ i,i<len->Typed P n e (row i)
  | some (.struct fs)=>LZ (Typed P n) fs.toList vs
  | _=>False
def Kh (P:Program)(ok:Go.TypeId->Bool):List Field->Nat->Nat->Bool
 | [],o,tot=>Nat.beq o tot
 | f :: fs,o,tot=>Nat.beq f.offset o && ok f.type && Kh P ok fs (o+P.cellsOf f.type) tot
def okT (P:Program):Nat->Go.TypeId->Bool
 | 0,_=>false
 | n+1,t=>match P.underlying t with
  | some .bool=>true
  | some (.int _)=>true
  | some .string=>true
  | some (.slice e)=>!Nat.beq (P.cellsOf e) 0 && okT P n e
  | some (.struct fs)=>Kh P (okT P n) fs.toList 0 (P.cellsOf t)
  | _=>false
def CellsP (F:Nat->Prop)(w:World)(vs:List EV)(cs:List Value):Prop:=
 vs.length=cs.length/\∀ i (h1:i<vs.length) (h2:i<cs.length),(cs[i]).oneCell'=true/\PR F w vs[i] cs[i]
theorem CellsP.one {F:Nat->Prop}{w:World}{v:EV}{m:Value}(h1:m.oneCell'=true)(h:PR F w v m):CellsP F w [v] [m]:=by
 refine ⟨rfl,fun i a b=>?_⟩;have:i=0:=by simpa using a
 subst this;exact ⟨h1,h⟩
theorem CellsP.app {F:Nat->Prop}{w:World}{a b:List EV}{c d:List Value}(h:CellsP F w a c)(g:CellsP F w b d):CellsP F w (a++b) (c++d):=by
 obtain ⟨h1,h2⟩:=h;obtain ⟨g1,g2⟩:=g;refine ⟨by simp [h1,g1],fun i x y=>?_⟩;by_cases hi:i<a.length
 ·have hi':i<c.length:=by omega
  rw [List.getElem_append_left hi,List.getElem_append_left hi'];exact h2 i hi hi'
 ·have hi':¬ i<c.length:=by omega
  rw [List.getElem_append_right (by omega),List.getElem_append_right (by omega)];simp only [List.length_append] at x y;have:=g2 (i - a.length) (by omega) (by omega);simpa [h1] using this
section
variable {H:Type}{enc:TypeId×Value->H}{P:Program}{w:World}{spare:Nat->Bool}{held:Bool}{F:Nat->Prop}
theorem Rs {T:Go.TypeId->List EV->Prop}{ok:Go.TypeId->Bool}{n:Nat}{cs:List Value}{tot:Nat}(hl:cs.length=tot)
  (ih:∀ t cs' x,ok t=true->DataW.trod enc P w 0 spare held n t cs'=some x->∃ vs,CellsP F w vs cs'/\T t vs):
  ∀ (fs:List Field) (o:Nat) (xs:List (DataW H×List MemPlace)),Kh P ok fs o tot=true->xs.length=fs.length->
   (∀ (i:Nat) (f:Field),fs[i]? =some f->DataW.trod enc P w 0 spare held n f.type ((cs.drop f.offset).take (P.cellsOf f.type))=xs[i]?)->
   ∃ vs,CellsP F w vs (cs.drop o)/\LZ T fs vs
 | [],o,xs,hc,_,_=>by
  have:o=tot:=Nat.eq_of_beq_eq_true hc;refine ⟨[],⟨by simp; omega,fun i h=>by simp at h⟩,rfl⟩
 | f :: fs,o,xs,hc,hx,h=>by
  simp only [Kh,uF] at hc;obtain ⟨⟨ho,hk⟩,hr⟩:=hc;have ho:f.offset=o:=Nat.eq_of_beq_eq_true ho
  match xs,hx with
  | x :: xs,hx=>
   have h0:=h 0 f rfl;obtain ⟨a,ha,hta⟩:=ih _ _ x hk h0;obtain ⟨b,hb,htb⟩:=Rs hl ih fs (o+P.cellsOf f.type) xs hr (by simpa using hx) (fun i g hg=>by simpa using h (i+1) g (by simpa using hg));refine ⟨a++b,?_,a,b,rfl,hta,htb⟩;have:=ha.app hb;rw [ho,<-List.drop_drop,List.take_append_drop] at this;exact this
theorem Ha (hF:∀ b,b<w.heap.size->F b):∀ (n fuel:Nat) (t:Go.TypeId) (cs:List Value) (x:DataW H×List MemPlace),okT P n t=true->
  DataW.trod enc P w 0 spare held fuel t cs=some x->∃ vs,CellsP F w vs cs/\Typed P n t vs
 | 0,_,_,_,_,hk,_=>by cases hk
 | n+1,fuel,t,cs,x,hk,h=>by
  unfold okT at hk;unfold Typed;split at hk
  ·rename_i hu;obtain ⟨b,rfl,_⟩:=DataW.trod_bool hu h;exact ⟨[.bool b],.one rfl (.bool b),b,rfl⟩
  ·rename_i k hu;obtain ⟨i,rfl,_,hw⟩:=DataW.trod_int hu h;simp only [Lit.wf,uF,decide_eq_true_eq] at hw;exact ⟨[.int k i],.one rfl (.int k i),i,rfl,hw⟩
  ·rename_i hu;obtain ⟨s,rfl,_,hs⟩:=DataW.trod_string hu h;exact ⟨[.str s],.one rfl (.str s),s,rfl,hs⟩
  ·rename_i e hu;simp only [uF,Bool.not_eq_true'] at hk;obtain ⟨hz,hk⟩:=hk;have hz:0<P.cellsOf e:=Nat.pos_of_ne_zero fun hz'=>by rw [hz'] at hz; cases hz
   rcases DataW.trod_slice hu h with ⟨rfl,_⟩ | ⟨a,len,cap,elems,rest,m,_,rfl,_,_,hlc,hcm,hlen,hel,_,_⟩
   ·exact ⟨[.isl false (P.cellsOf e) 0 fun _=>[]],.one rfl (.isln _ _),.inl rfl⟩
   ·have hi:∀ i,∃ p:List EV×List Value,i<len->w.cells? 0 (a.add (i*P.cellsOf e)) (P.cellsOf e)=some p.2/\CellsP F w p.1 p.2/\Typed P n e p.1:=by
     intro i;by_cases hi:i<len
     ·have h1:=hel i hi;rw [uD (by omega),Option.bind_eq_some_iff] at h1;obtain ⟨ci,h1,h2⟩:=h1;obtain ⟨vs,h3,h4⟩:=Ha hF n m e ci _ hk h2;exact ⟨(vs,ci),fun _=>⟨h1,h3,h4⟩⟩
     ·exact ⟨([],[]),fun h=>absurd h hi⟩
    obtain ⟨f,hf⟩:=Classical.axiomOfChoice hi;obtain ⟨b,o,sp⟩:=a;have hsp:0<len->sp=none:=by
     intro h0;obtain ⟨_,h2,h3⟩:=World.cells?_some (hf 0 h0).1;have h3:=h3 0 hz;rw [uD (by omega),Nat.zero_mul] at h3;simp only [Addr.add,if_true] at h3;unfold World.cell? at h3;split at h3
     ·cases sp with
      | none=>rfl
      | some _=>simp at h3
     ·cases h3
    have hc:∀ i,i<len->∀ j,j<P.cellsOf e->cellAt w b (o+i*P.cellsOf e+j)=(f i).2[j]? :=by
     intro i hi j hj;obtain ⟨_,h2,h3⟩:=World.cells?_some (hf i hi).1;have:=h3 j hj;rw [hsp (by omega),D4,D4,cell?_eq] at this;exact this
    refine ⟨[.isl true (P.cellsOf e) len fun i=>(f i).1],.one rfl (.isl _ _ _ b o cap (fun i j=>(f i).2.getD j default) ?_ hlc sp hsp ?_ ?_ ?_),.inr ⟨len,_,rfl,by omega,fun i hi=>(hf i hi).2.2⟩⟩
    ·intro h0;refine hF b ?_;have:=hc 0 h0 0 hz;obtain ⟨_,h2,_⟩:=World.cells?_some (hf 0 h0).1;rw [uD (by omega)] at this;unfold cellAt at this;split at this
     ·rename_i hb; exact (Array.getElem?_eq_some_iff.1 hb).1
     ·cases this
    ·intro i hi;obtain ⟨_,h2,_⟩:=World.cells?_some (hf i hi).1;have:=(hf i hi).2.1.1;omega
    ·intro i hi j hj;obtain ⟨_,h2,_⟩:=World.cells?_some (hf i hi).1;have h1:=(hf i hi).2.1.1;have hj':j<(f i).2.length:=by omega
     have h3:=(hf i hi).2.1.2 j (by omega) hj';rw [hc i hi j hj,uD hj'];simp only [uA,uD hj',Option.getD_some];exact ⟨trivial,h3.1⟩
    ·intro i hi j hj;have h1:=(hf i hi).2.1.1;have hj':j<(f i).2.length:=by omega
     have h3:=(hf i hi).2.1.2 j hj hj';simp only [uA,uD hj',Option.getD_some];exact h3.2
  ·rename_i fs hu;obtain ⟨xs,m,rfl,_,hl,hx,hf⟩:=DataW.trod_struct hu h;obtain ⟨vs,h1,h2⟩:=Rs (T:=Typed P n) (ok:=okT P n) hl (fun t' cs' x' a b=>Ha hF n m t' cs' x' a b) fs.toList 0 xs hk (by simpa using hx) (fun i f hf'=>hf i f (by simpa using hf'));exact ⟨vs,by simpa using h1,h2⟩
  ·cases hk
theorem arg_pure {r:Reach}{b0 n:Nat}{t:Go.TypeId}{fs:Array Field}{v:Value}{d:DataW H}{ps:List MemPlace}(hF:∀ b,b<w.heap.size->F b)(hu:P.underlying t=some (.struct fs))
  (hval:Value.okWide P w r b0 t v) (hk:okT P n t=true) (hd:DataW.Trod enc P w 0 spare held t v d ps):∃ vs,PR F w (.agg vs) v/\Typed P n t vs:=by
 obtain ⟨cs,rfl,_⟩:=Go.WideShapes.okWide_struct hu hval;obtain ⟨fuel,hf⟩:=hd;obtain ⟨vs,⟨h1,h2⟩,h3⟩:=Ha hF n fuel t _ _ hk hf;refine ⟨vs,.agg vs cs (by simpa [Value.cells] using h1) (fun i h=>?_) (fun i a b=>?_),h3⟩
 ·have:=(h2 i (by rw [h1]; simpa [Value.cells] using h) (by simpa [Value.cells] using h)).1;simpa [Value.cells] using this
 ·have:=(h2 i a (by simpa [Value.cells] using b)).2;simpa [Value.cells] using this
end
end Go.Ev
namespace Go.Ev
inductive BLs:List EV->List EV->Prop where
 | nil:BLs [] []
 | cons {x y:EV} {xs ys:List EV} (h:BLe x y) (t:BLs xs ys):BLs (x :: xs) (y :: ys)
theorem BLs.refl:∀ xs,BLs xs xs
 | []=>.nil
 | x :: xs=>.cons (BLe.refl x) (BLs.refl xs)
theorem BLs.len {xs ys:List EV}(h:BLs xs ys):ys.length=xs.length:=by
 induction h with
 | nil=>rfl
 | cons _ _ ih=>simp [ih]
theorem BLs.get {xs ys:List EV}(h:BLs xs ys):∀ i (h1:i<xs.length) (h2:i<ys.length),BLe xs[i] ys[i]:=by
 induction h with
 | nil=>intro i h; simp at h
 | cons h _ ih=>
  intro i h1 h2;cases i with
  | zero=>exact h
  | succ i=>exact ih i (by simpa using h1) (by simpa using h2)
theorem BLs.agg {xs ys:List EV}(h:BLs xs ys):BLe (.agg xs) (.agg ys):=BLe.agg h.len h.get
theorem BLe.isl {nn:Bool}{esz len:Nat}{row row':Nat->List EV}(h:∀ i,i<len->row i=row' i):BLe (.isl nn esz len row) (.isl nn esz len row'):=⟨PLe.isl h,VLe.isl h⟩
end Go.Ev
namespace Go.Ev
open Go.Proofs.Tryz (prog)
set_option maxRecDepth 100000
theorem Fx {P:Program}{n:Nat}{t:Go.TypeId}{k:IntKind}{vs:List EV}(hu:P.underlying t=some (.int k))(h:Typed P n t vs):∃ i,vs=[.int k i]/\k.min<=i/\i<=k.max:=by
 cases n with
 | zero=>exact h.elim
 | succ n=>unfold Typed at h; rw [hu] at h; exact h
theorem Mt {P:Program}{n:Nat}{t e:Go.TypeId}{vs:List EV}(hu:P.underlying t=some (.slice e))(h:Typed P (n+1) t vs):
  vs=[.isl false (P.cellsOf e) 0 fun _=>[]]∨∃ len row,vs=[.isl true (P.cellsOf e) len row]/\len<=maxLen/\∀ i,i<len->Typed P n e (row i):=by
 unfold Typed at h; rw [hu] at h; exact h
theorem Q0 {P:Program}{n:Nat}{t:Go.TypeId}{fs:Array Field}{vs:List EV}(hu:P.underlying t=some (.struct fs))(h:Typed P (n+1) t vs):LZ (Typed P n) fs.toList vs:=by
 unfold Typed at h; rw [hu] at h; exact h
def Tj (P:Program)(t:Go.TypeId):Option (List Go.TypeId):=match P.underlying t with | some (.struct fs)=>some (fs.toList.map (·.type)) | _=>none
def Q1 (T:Go.TypeId->List EV->Prop):List Go.TypeId->List EV->Prop
 | [],vs=>vs=[]
 | t :: ts,vs=>∃ a b,vs=a++b/\T t a/\Q1 T ts b
theorem OY {T:Go.TypeId->List EV->Prop}:∀ (fs:List Field) (vs:List EV),LZ T fs vs->Q1 T (fs.map (·.type)) vs
 | [],_,h=>h
 | f :: fs,vs,h=>by
  obtain ⟨a,b,h1,h2,h3⟩:=h;exact ⟨a,b,h1,h2,OY fs b h3⟩
theorem La {P:Program}{n:Nat}{t:Go.TypeId}{ts:List Go.TypeId}{vs:List EV}(hu:Tj P t=some ts)(h:Typed P (n+1) t vs):Q1 (Typed P n) ts vs:=by
 unfold Tj at hu;split at hu
 ·rename_i fs hfs;obtain rfl:=uC hu;exact OY _ _ (Q0 hfs h)
 ·cases hu
theorem OZ:prog.underlying 3=some (.int .i64):=by kernel_rfl
theorem Oa {n:Nat}{vs:List EV}(h:Typed prog (n+2) 22 vs):∃ (nn:Bool) (len:Nat) (w:Nat->Int) (x:EV),vs=[x]/\BLe x (AW nn len w)/\(len≠0->nn=true):=by
 have hc:prog.cellsOf 3=1:=by kernel_rfl
 rcases Mt (e:=3) (by kernel_rfl) h with rfl | ⟨len,row,rfl,_,hr⟩
 ·rw [hc];exact ⟨false,0,fun _=>0,_,rfl,BLe.isl fun i hi=>by omega,fun h=>absurd rfl h⟩
 ·rw [hc];have hp:∀ i,∃ x:Int,i<len->row i=[.int .i64 x]:=by
   intro i;by_cases hi:i<len
   ·obtain ⟨x,hx,_⟩:=Fx OZ (hr i hi);exact ⟨x,fun _=>hx⟩
   ·exact ⟨0,fun h=>absurd h hi⟩
  obtain ⟨w,hw⟩:=Classical.axiomOfChoice hp;exact ⟨true,len,w,_,rfl,BLe.isl fun i hi=>hw i hi,fun _=>rfl⟩
theorem Rt {n:Nat}{vs:List EV}(h:Typed prog (n+3) 23 vs):∃ (nn:Bool) (len:Nat) (w:Nat->EdgeD) (x:EV),vs=[x]/\BLe x (.isl nn 2 len fun i=>(w i).cells)/\(len≠0->nn=true):=by
 have hc:prog.cellsOf 30=2:=by kernel_rfl
 rcases Mt (e:=30) (by kernel_rfl) h with rfl | ⟨len,row,rfl,_,hr⟩
 ·rw [hc];exact ⟨false,0,fun _=>default,_,rfl,BLe.isl fun i hi=>by omega,fun h=>absurd rfl h⟩
 ·rw [hc];have hp:∀ i,∃ x:EdgeD,i<len->row i=x.cells:=by
   intro i;by_cases hi:i<len
   ·have h:=La (ts:=[3,3]) (by kernel_rfl) (hr i hi);obtain ⟨a1,b1,h0,h1,a2,b2,rfl,h2,rfl⟩:=h;obtain ⟨i1,rfl,_⟩:=Fx OZ h1;obtain ⟨i2,rfl,_⟩:=Fx OZ h2;exact ⟨⟨i1,i2⟩,fun _=>h0⟩
   ·exact ⟨default,fun h=>absurd h hi⟩
  obtain ⟨w,hw⟩:=Classical.axiomOfChoice hp;exact ⟨true,len,w,_,rfl,BLe.isl fun i hi=>hw i hi,fun _=>rfl⟩
theorem typed_race {vs:List EV}(h:Typed prog 6 25 vs):∃ q:RaceD,PLe (.agg vs) (.agg q.cells)/\(q.m'≠0->q.np=true)/\(q.m≠0->q.no=true):=by
 have h:=La (ts:=[3,3,22,22,23,3,3]) (by kernel_rfl) h;obtain ⟨a1,b1,rfl,h1,a2,b2,rfl,h2,a3,b3,rfl,h3,a4,b4,rfl,h4,a5,b5,rfl,h5,a6,b6,rfl,h6,a7,b7,rfl,h7,rfl⟩:=h;obtain ⟨i1,rfl,_⟩:=Fx OZ h1;obtain ⟨i2,rfl,_⟩:=Fx OZ h2;obtain ⟨nc,n,cl,x3,rfl,e3,_⟩:=Oa h3;obtain ⟨np,m',pt,x4,rfl,e4,f4⟩:=Oa h4;obtain ⟨no,m,op,x5,rfl,e5,f5⟩:=Rt h5;obtain ⟨i6,rfl,_⟩:=Fx OZ h6;obtain ⟨i7,rfl,_⟩:=Fx OZ h7;exact ⟨⟨i1,i2,nc,n,cl,np,m',pt,no,m,op,i6,i7⟩,(BLs.agg (.cons (BLe.refl _) (.cons (BLe.refl _) (.cons e3 (.cons e4 (.cons e5 (.cons (BLe.refl _) (.cons (BLe.refl _) .nil)))))))).p,f4,f5⟩
end Go.Ev
namespace Go.Ev
def Ru:List (Option (List EV))->Option (List EV)
 | []=>some []
 | x :: xs=>match x,Ru xs with | some a,some b=>some (a++b) | _,_=>none
def dE {H:Type}:Nat->DataW H->Option (List EV)
 | 0,_=>none
 | n+1,d=>match d with
  | .lit (.int k i)=>some [.int k i]
  | .lit (.string b)=>some [.str ⟨b.toArray⟩]
  | .lit (.bool b)=>some [.bool b]
  | .agg ds=>Ru (ds.map (dE n))
  | _=>none
def okD (P:Program):Nat->Go.TypeId->Bool
 | 0,_=>false
 | n+1,t=>match P.underlying t with
  | some .bool=>true
  | some (.int _)=>true
  | some .string=>true
  | some (.array m e)=>Nat.beq (P.cellsOf t) (m*P.cellsOf e) && okD P n e
  | some (.struct fs)=>Kh P (okD P n) fs.toList 0 (P.cellsOf t)
  | _=>false
section
variable {H:Type}{enc:TypeId×Value->H}{P:Program}{w:World}{base:Nat}{spare:Nat->Bool}{held:Bool}{F:Nat->Prop}
theorem Rv {f m k:Nat}{e:Go.TypeId}(ih:∀ cs' x l,DataW.trod enc P w base spare held f e cs'=some x->dE m x.1=some l->CellsP F w l cs'):
  ∀ (xs:List (DataW H×List MemPlace)) (cs:List Value) (l:List EV),cs.length=xs.length*k->
   (∀ i x,xs[i]? =some x->DataW.trod enc P w base spare held f e ((cs.drop (i*k)).take k)=some x)->Ru ((xs.map (·.1)).map (dE m))=some l->CellsP F w l cs
 | [],cs,l,hl,_,hd=>by
  obtain rfl:cs=[]:=List.eq_nil_of_length_eq_zero (by simpa using hl);simp only [List.map_nil,Ru,uB] at hd;subst hd;exact ⟨rfl,fun i h=>by simp at h⟩
 | x :: xs,cs,l,hl,h,hd=>by
  simp only [List.map_cons,Ru] at hd;split at hd
  ·rename_i a b ha hb;simp only [uB] at hd;subst hd;have h0:=h 0 x rfl;rw [Nat.zero_mul,List.drop_zero] at h0;have h1:=ih _ x a h0 ha;have h2:=Rv (k:=k) ih xs (cs.drop k) b (by rw [List.length_drop,hl,List.length_cons,Nat.add_mul]; omega) (fun i y hy=>by
    rw [List.drop_drop,show k+i*k=(i+1)*k from by rw [Nat.add_mul]; omega];exact h (i+1) y (by simpa using hy)) hb
   have:=h1.app h2
   rwa [List.take_append_drop] at this
  ·cases hd
theorem Tk {f m tot:Nat}{ok:Go.TypeId->Bool}{cs:List Value}(hl:cs.length=tot)
  (ih:∀ t cs' x l,ok t=true->DataW.trod enc P w base spare held f t cs'=some x->dE m x.1=some l->CellsP F w l cs'):
  ∀ (fs:List Field) (o:Nat) (xs:List (DataW H×List MemPlace)) (l:List EV),Kh P ok fs o tot=true->xs.length=fs.length->
   (∀ (i:Nat) (g:Field),fs[i]? =some g->DataW.trod enc P w base spare held f g.type ((cs.drop g.offset).take (P.cellsOf g.type))=xs[i]?)->
   Ru ((xs.map (·.1)).map (dE m))=some l->CellsP F w l (cs.drop o)
 | [],o,xs,l,hc,hx,_,hd=>by
  have:o=tot:=Nat.eq_of_beq_eq_true hc;obtain rfl:xs=[]:=List.eq_nil_of_length_eq_zero (by simpa using hx);simp only [List.map_nil,Ru,uB] at hd;subst hd;exact ⟨by simp; omega,fun i h=>by simp at h⟩
 | g :: fs,o,xs,l,hc,hx,h,hd=>by
  simp only [Kh,uF] at hc;obtain ⟨⟨ho,hk⟩,hr⟩:=hc;have ho:g.offset=o:=Nat.eq_of_beq_eq_true ho
  match xs,hx with
  | x :: xs,hx=>
   simp only [List.map_cons,Ru] at hd;split at hd
   ·rename_i a b ha hb;simp only [uB] at hd;subst hd;have h0:=h 0 g rfl;have h1:=ih _ _ x a hk h0 ha;have h2:=Tk hl ih fs (o+P.cellsOf g.type) xs b hr (by simpa using hx) (fun i y hy=>by simpa using h (i+1) y (by simpa using hy)) hb;have:=h1.app h2
    rwa [ho,<-List.drop_drop,List.take_append_drop] at this
   ·cases hd
theorem Ki:∀ (n m fuel:Nat) (t:Go.TypeId) (cs:List Value) (x:DataW H×List MemPlace) (l:List EV),okD P n t=true->
  DataW.trod enc P w base spare held fuel t cs=some x->dE m x.1=some l->CellsP F w l cs
 | 0,_,_,_,_,_,_,hk,_,_=>by cases hk
 | _,0,_,_,_,_,_,_,_,hd=>by cases hd
 | n+1,m+1,fuel,t,cs,x,l,hk,h,hd=>by
  unfold okD at hk;split at hk
  ·rename_i hu;obtain ⟨b,rfl,rfl⟩:=DataW.trod_bool hu h;simp only [dE,uB] at hd;subst hd;exact .one rfl (.bool b)
  ·rename_i k hu;obtain ⟨i,rfl,rfl,_⟩:=DataW.trod_int hu h;simp only [dE,uB] at hd;subst hd;exact .one rfl (.int k i)
  ·rename_i hu;obtain ⟨s,rfl,rfl,_⟩:=DataW.trod_string hu h;simp only [dE,uB] at hd;subst hd;exact .one rfl (.str s)
  ·rename_i z e hu;simp only [uF] at hk;obtain ⟨xs,f,rfl,rfl,hl,hx,hf⟩:=DataW.trod_array hu h;have hz:=Nat.eq_of_beq_eq_true hk.1;exact Rv (k:=P.cellsOf e) (fun cs' x' l' a b=>Ki n m f e cs' x' l' hk.2 a b) xs cs l (by rw [hl,hz,hx]) (fun i y hy=>by
    have hi:i<xs.length:=(List.getElem?_eq_some_iff.1 hy).1;rw [hf i (by omega),hy]) hd
  ·rename_i fs hu;obtain ⟨xs,f,rfl,rfl,hl,hx,hf⟩:=DataW.trod_struct hu h;have:=Tk (ok:=okD P n) hl (fun t' cs' x' l' a b c=>Ki n m f t' cs' x' l' a b c) fs.toList 0 xs l hk (by simpa using hx) (fun i g hg=>hf i g (by simpa using hg)) hd;simpa using this
  ·cases hk
end
theorem Rw {P:Program}{w:World}:∀ {laid:List (String×DataW Unit)} {ps:List MemPlace},DataW.LaidVars P w laid ps->∀ x∈laid,
  ∃ g t cs fuel p,P.globalNamed x.1=some g/\(P.globals[g]?).map (·.type)=some t/\w.var? P x.1=some cs/\DataW.trod (fun _=>()) P w 0 (fun _=>true) false fuel t cs.toList=some (x.2,p)
 | [],_,_=>fun x hx=>by cases hx
 | (n,d) :: r,ps,h=>by
  obtain ⟨g,t,cs,fuel,p,q,h1,h2,h3,h4,h5,_⟩:=h;intro x hx;rcases List.mem_cons.1 hx with rfl | hx
  ·exact ⟨g,t,cs,fuel,p,h1,h2,h3,h4⟩
  ·exact Rw h5 x hx
theorem laid_gok {P:Program}{w:World}{laid:List (String×DataW Unit)}{F:Nat->Prop}(hF:∀ b,b<w.heap.size->F b)(h:laidMet P laid w){n:String}{d:DataW Unit}(hx:(n,d)∈laid){g:Nat}{t:Go.TypeId}{l:List EV}{k:Nat}
  (hg:P.globalNamed n=some g) (ht:(P.globals[g]?).map (·.type)=some t) (hk:okD P k t=true) (hd:dE k d=some l) (hne:l≠[]):
  F g/\l≠[]/\∃ mv:Nat->Value,∀ j (h:j<l.length),cellAt w g j=some (mv j)/\(mv j).oneCell'=true/\PR F w l[j] (mv j):=by
 obtain ⟨ps,hv,_⟩:=h;obtain ⟨g',t',cs,fuel,p,h1,h2,h3,h4⟩:=Rw hv _ hx;obtain rfl:g=g':=uC (hg.symm.trans h1);obtain rfl:t=t':=uC (ht.symm.trans h2);obtain ⟨c1,c2⟩:=Ki (F:=F) k k fuel t _ _ l hk h4 hd;have hc:∀ j,cellAt w g j=cs[j]? :=fun j=>by rw [<-cell?_eq]; exact World.var?_cell h1 h3 j
 have hl:0<l.length:=Nat.pos_of_ne_zero fun e=>hne (List.eq_nil_of_length_eq_zero e);refine ⟨hF g ?_,hne,fun j=>cs.toList.getD j default,fun j hj=>?_⟩
 ·have:=hc 0;have h0:0<cs.size:=by rw [<-Array.length_toList,<-c1]; exact hl
  rw [Array.getElem?_eq_getElem h0] at this;unfold cellAt at this;split at this
  ·rename_i hb; exact (Array.getElem?_eq_some_iff.1 hb).1
  ·cases this
 ·have hj':j<cs.toList.length:=by omega
  have hj2:j<cs.size:=by simpa using hj'
  have:=c2 j hj hj';have e:cs.toList.getD j default=cs.toList[j]:=by rw [uA,uD hj',Option.getD_some]
  show cellAt w g j=some (cs.toList.getD j default)/\_;rw [e,hc j,Array.getElem?_eq_getElem hj2];refine ⟨by simp,?_⟩;show (cs.toList.getD j default).oneCell'=true/\PR F w l[j] (cs.toList.getD j default);rw [e];exact this
end Go.Ev
