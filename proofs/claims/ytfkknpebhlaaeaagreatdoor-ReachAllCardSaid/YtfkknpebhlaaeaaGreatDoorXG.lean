/- A part of the proof. -/
import Derived.Test.YtfkknpebhlaaeaaGreatDoorXF
import Derived.Test.YtfkknpebhlaaeaaGreatDoorXD
set_option linter.unusedSimpArgs false
set_option linter.unusedVariables false
set_option linter.unusedSectionVars false
namespace Go.Ev
open Go.Proofs.Tryz (prog)
set_option maxRecDepth 100000
set_option maxHeartbeats 0
theorem aG.bB {r r':Nat->List EV}{a b:Nat}:aG (.uS false a 0 r) (.uS false b 0 r'):=fun F w mv h=>by
 cases h;exact .bB _ _
section
variable {q:fG}{nf:Nat}{fr:Nat->Int}{bc:Bool}{nc:Nat}{cl:Nat->Int}{ct:Int->Bool}(hm:q.m<=900)(ihc:∀ x:Int,uY prog fF 45 [AW bc nc cl,.int .i64 x] (.bool (ct x)))
abbrev M0 (q:fG)(bc:Bool)(nc:Nat)(cl:Nat->Int)(i:Int):List EV:=frame 58 [(2,AW bc nc cl),(3,.bool false),(8,EV.ptr 0 0),(9,EV.ptr 1 0),(21,EV.uS q.no 2 q.m fun i=>(q.op i).cells),(22,.int .i64 q.m),(23,.int .i64 i)]
abbrev I6 (nf:Nat)(fr:Nat->Int)(bc:Bool)(nc:Nat)(cl:Nat->Int):AL:=[fE.var false true [Av,Av,Av],fE.var false false [AW true nf fr,AW bc nc cl,Av]]
abbrev Rg (nf:Nat)(fr:Nat->Int)(bc:Bool)(nc:Nat)(cl:Nat->Int)(G:Nat)(gm:Nat->Int):AL:=[fE.var false true [Av,Av,Av],fE.var false false [AW true nf fr,AW bc nc cl,EV.ms 2 1 0 G none],fE.arr false true 1 false G fun i=>[.int .i64 (gm i)]]
include hm ihc
theorem W8:∀ (k i G:Nat) (gm:Nat->Int),i+k=q.m->G<=i->∃ G' gm',uM prog fF false 2 IX (M0 q bc nc cl i) (Rg nf fr bc nc cl G gm) (EX.leave 0,frame 58 [(8,EV.ptr 0 0),(9,EV.ptr 1 0)],Rg nf fr bc nc cl G' gm')
 | 0,i,G,gm,h,hG=>by
  obtain rfl:i=q.m:=by omega
  exact ⟨G,gm,uM.aC (wF q nf fr bc nc cl ct G gm q.m (by omega) (by omega) (by omega) ihc (uL (by omega))) (by simp)⟩
 | k+1,i,G,gm,h,hG=>by
  have q0:(Decidable.decide ((i:Int)<(q.m:Int)))=true:=uK (by omega);obtain ⟨G1,gm1,h1⟩:=W8 k (i+1) (G+1) (fun p=>if p<G then gm p else (i:Int)) (by omega) (by omega);obtain ⟨G2,gm2,h2⟩:=W8 k (i+1) G gm (by omega) (by omega);have hrow:∀ p,p<G+1->Ar G (fun i=>[EV.int .i64 (gm (0+i))]) (fun p=>[[EV.int .i64 (i:Int)]].getD (0+p) []) p=[EV.int .i64 (if p<G then gm p else (i:Int))]:=fun p hp=>by
   simp only [Ar,uJ];split
   ·rfl
   ·obtain rfl:p=G:=by omega
    simp
  rcases hA:ct (q.op i).left with _ | _<;>rcases hB:ct (q.op i).right with _ | _
  ·exact ⟨G2,gm2,uM.uQ (wE q nf fr bc nc cl ct G gm i (by omega) (by omega) (by omega) ihc q0 hA hB) h2⟩
  ·exact ⟨G1,gm1,uM.uQ (uR.weaken (wD q nf fr bc nc cl ct G gm i (by omega) (by omega) (by omega) ihc q0 hA hB) (uI _) (.cons (uH _) (.cons (uH _) (.cons (uU.arr hrow) .nil)))) h1⟩
  ·exact ⟨G1,gm1,uM.uQ (uR.weaken (wC q nf fr bc nc cl ct G gm i (by omega) (by omega) (by omega) ihc q0 hA hB) (uI _) (.cons (uH _) (.cons (uH _) (.cons (uU.arr hrow) .nil)))) h1⟩
  ·exact ⟨G1,gm1,uM.uQ (uR.weaken (wB q nf fr bc nc cl ct G gm i (by omega) (by omega) (by omega) ihc q0 hA hB) (uI _) (.cons (uH _) (.cons (uH _) (.cons (uU.arr hrow) .nil)))) h1⟩
theorem ZG:∀ (k i:Nat),i+k=q.m->uM prog fF false 2 IX (M0 q bc nc cl i) (I6 nf fr bc nc cl) (EX.leave 0,frame 58 [(8,EV.ptr 0 0),(9,EV.ptr 1 0)],I6 nf fr bc nc cl)∨
  ∃ G' gm',uM prog fF false 2 IX (M0 q bc nc cl i) (I6 nf fr bc nc cl) (EX.leave 0,frame 58 [(8,EV.ptr 0 0),(9,EV.ptr 1 0)],Rg nf fr bc nc cl G' gm')
 | 0,i,h=>by
  obtain rfl:i=q.m:=by omega
  exact .inl (uM.aC (x9 q nf fr bc nc cl ct 0 (fun _=>0) q.m (by omega) (by omega) (by omega) ihc (uL (by omega))) (by simp))
 | k+1,i,h=>by
  have q0:(Decidable.decide ((i:Int)<(q.m:Int)))=true:=uK (by omega);have yes:uR prog fF false 2 IX (M0 q bc nc cl i) (I6 nf fr bc nc cl) (EX.normal,M0 q bc nc cl ((i:Int)+1),[fE.var false true [Av,Av,Av],fE.var false false [AW true nf fr,AW bc nc cl,EV.ms 2 1 0 1 none],fE.arr false true 1 false 1 fun p=>[[EV.int .i64 (i:Int)]].getD (0+p) []])->∃ G' gm',uM prog fF false 2 IX (M0 q bc nc cl i) (I6 nf fr bc nc cl) (EX.leave 0,frame 58 [(8,EV.ptr 0 0),(9,EV.ptr 1 0)],Rg nf fr bc nc cl G' gm'):=fun st=>by
   obtain ⟨G1,gm1,h1⟩:=W8 hm ihc (nf:=nf) (fr:=fr) k (i+1) 1 (fun _=>(i:Int)) (by omega) (by omega);exact ⟨G1,gm1,uM.uQ (uR.weaken st (uI _) (.cons (uH _) (.cons (uH _) (.cons (uU.arr fun p hp=>by
    obtain rfl:p=0:=by omega
    rfl) .nil)))) h1⟩
  have no:uR prog fF false 2 IX (M0 q bc nc cl i) (I6 nf fr bc nc cl) (EX.normal,M0 q bc nc cl ((i:Int)+1),I6 nf fr bc nc cl)->(uM prog fF false 2 IX (M0 q bc nc cl i) (I6 nf fr bc nc cl) (EX.leave 0,frame 58 [(8,EV.ptr 0 0),(9,EV.ptr 1 0)],I6 nf fr bc nc cl)∨
  ∃ G' gm',uM prog fF false 2 IX (M0 q bc nc cl i) (I6 nf fr bc nc cl) (EX.leave 0,frame 58 [(8,EV.ptr 0 0),(9,EV.ptr 1 0)],Rg nf fr bc nc cl G' gm')):=fun st=>by
   rcases ZG k (i+1) (by omega) with h1 | ⟨G',gm',h1⟩
   ·exact Or.inl (uM.uQ st h1)
   ·exact Or.inr ⟨G',gm',uM.uQ st h1⟩
  rcases hA:ct (q.op i).left with _ | _<;>rcases hB:ct (q.op i).right with _ | _
  ·exact no (x8 q nf fr bc nc cl ct 0 (fun _=>0) i (by omega) (by omega) (by omega) ihc q0 hA hB)
  ·exact Or.inr (yes (x7 q nf fr bc nc cl ct 0 (fun _=>0) i (by omega) (by omega) (by omega) ihc q0 hA hB))
  ·exact Or.inr (yes (x6 q nf fr bc nc cl ct 0 (fun _=>0) i (by omega) (by omega) (by omega) ihc q0 hA hB))
  ·exact Or.inr (yes (x0 q nf fr bc nc cl ct 0 (fun _=>0) i (by omega) (by omega) (by omega) ihc q0 hA hB))
theorem Rh:∃ b G gm,uY prog fF 63 [EV.ip (AD q) 0,AW true nf fr,AW bc nc cl,EV.bool false] (.agg [AW true nf fr,AW bc nc cl,AW b G gm]):=by
 have go:∀ {r:RC},uM prog fF false 2 IX (M0 q bc nc cl (0:Nat)) (I6 nf fr bc nc cl) r->uT prog fF false wA (M0 q bc nc cl 0) [fE.var false true [Av,Av,Av],fE.var false true [AW true nf fr,AW bc nc cl,Av]] r:=fun h=>
  (uM.le (uI _) (.cons (uH _) (.cons uU.varf .nil)) h).cl (by kernel_rfl) (by kernel_rfl)
 rcases ZG hm ihc (nf:=nf) (fr:=fr) q.m 0 (by omega) with h1 | ⟨G',gm',h1⟩
 ·exact ⟨false,0,fun _=>0,(wN q nf fr bc nc cl ct 0 (fun _=>0) (go h1)).res (aG.aggs (.cons (aG.refl _) (.cons (aG.refl _) (.cons aG.bB .nil))))⟩
 ·have h:=wP q nf fr bc nc cl ct G' gm' (go h1);simp only [uJ] at h;exact ⟨true,G',gm',h⟩
end
section
variable {q:fG}{nf:Nat}{fr:Nat->Int}{bc:Bool}{nc:Nat}{cl:Nat->Int}{ct:Int->Bool}(hm:q.m<=900)(ihc:∀ x:Int,uY prog fF 45 [AW bc nc cl,.int .i64 x] (.bool (ct x)))
abbrev M1 (q:fG)(bc:Bool)(nc:Nat)(cl:Nat->Int)(i:Int):List EV:=frame 58 [(2,AW bc nc cl),(3,.bool true),(8,EV.ptr 0 0),(9,EV.ptr 1 0),(21,EV.uS q.no 2 q.m fun i=>(q.op i).cells),(22,.int .i64 q.m),(23,.int .i64 i)]
abbrev I7 (nf:Nat)(fr:Nat->Int)(bc:Bool)(nc:Nat)(cl:Nat->Int):AL:=[fE.var false true [Av,Av,Av],fE.var false false [AW true nf fr,AW bc nc cl,Av]]
abbrev Ri (nf:Nat)(fr:Nat->Int)(bc:Bool)(nc:Nat)(cl:Nat->Int)(G:Nat)(gm:Nat->Int):AL:=[fE.var false true [Av,Av,Av],fE.var false false [AW true nf fr,AW bc nc cl,EV.ms 2 1 0 G none],fE.arr false true 1 false G fun i=>[.int .i64 (gm i)]]
include hm ihc
theorem W9:∀ (k i G:Nat) (gm:Nat->Int),i+k=q.m->G<=i->∃ G' gm',uM prog fF false 2 IY (M1 q bc nc cl i) (Ri nf fr bc nc cl G gm) (EX.leave 0,frame 58 [(8,EV.ptr 0 0),(9,EV.ptr 1 0)],Ri nf fr bc nc cl G' gm')
 | 0,i,G,gm,h,hG=>by
  obtain rfl:i=q.m:=by omega
  exact ⟨G,gm,uM.aC (wM q nf fr bc nc cl ct G gm q.m (by omega) (by omega) (by omega) ihc (uL (by omega))) (by simp)⟩
 | k+1,i,G,gm,h,hG=>by
  have q0:(Decidable.decide ((i:Int)<(q.m:Int)))=true:=uK (by omega);obtain ⟨G1,gm1,h1⟩:=W9 k (i+1) (G+1) (fun p=>if p<G then gm p else (i:Int)) (by omega) (by omega);obtain ⟨G2,gm2,h2⟩:=W9 k (i+1) G gm (by omega) (by omega);have hrow:∀ p,p<G+1->Ar G (fun i=>[EV.int .i64 (gm (0+i))]) (fun p=>[[EV.int .i64 (i:Int)]].getD (0+p) []) p=[EV.int .i64 (if p<G then gm p else (i:Int))]:=fun p hp=>by
   simp only [Ar,uJ];split
   ·rfl
   ·obtain rfl:p=G:=by omega
    simp
  rcases hA:ct (q.op i).left with _ | _<;>rcases hB:ct (q.op i).right with _ | _
  ·exact ⟨G2,gm2,uM.uQ (W7 q nf fr bc nc cl ct G gm i (by omega) (by omega) (by omega) ihc q0 hA) h2⟩
  ·exact ⟨G2,gm2,uM.uQ (W7 q nf fr bc nc cl ct G gm i (by omega) (by omega) (by omega) ihc q0 hA) h2⟩
  ·exact ⟨G2,gm2,uM.uQ (wL q nf fr bc nc cl ct G gm i (by omega) (by omega) (by omega) ihc q0 hA hB) h2⟩
  ·exact ⟨G1,gm1,uM.uQ (uR.weaken (wK q nf fr bc nc cl ct G gm i (by omega) (by omega) (by omega) ihc q0 hA hB) (uI _) (.cons (uH _) (.cons (uH _) (.cons (uU.arr hrow) .nil)))) h1⟩
theorem ZH:∀ (k i:Nat),i+k=q.m->uM prog fF false 2 IY (M1 q bc nc cl i) (I7 nf fr bc nc cl) (EX.leave 0,frame 58 [(8,EV.ptr 0 0),(9,EV.ptr 1 0)],I7 nf fr bc nc cl)∨
  ∃ G' gm',uM prog fF false 2 IY (M1 q bc nc cl i) (I7 nf fr bc nc cl) (EX.leave 0,frame 58 [(8,EV.ptr 0 0),(9,EV.ptr 1 0)],Ri nf fr bc nc cl G' gm')
 | 0,i,h=>by
  obtain rfl:i=q.m:=by omega
  exact .inl (uM.aC (wI q nf fr bc nc cl ct 0 (fun _=>0) q.m (by omega) (by omega) (by omega) ihc (uL (by omega))) (by simp))
 | k+1,i,h=>by
  have q0:(Decidable.decide ((i:Int)<(q.m:Int)))=true:=uK (by omega);have yes:uR prog fF false 2 IY (M1 q bc nc cl i) (I7 nf fr bc nc cl) (EX.normal,M1 q bc nc cl ((i:Int)+1),[fE.var false true [Av,Av,Av],fE.var false false [AW true nf fr,AW bc nc cl,EV.ms 2 1 0 1 none],fE.arr false true 1 false 1 fun p=>[[EV.int .i64 (i:Int)]].getD (0+p) []])->∃ G' gm',uM prog fF false 2 IY (M1 q bc nc cl i) (I7 nf fr bc nc cl) (EX.leave 0,frame 58 [(8,EV.ptr 0 0),(9,EV.ptr 1 0)],Ri nf fr bc nc cl G' gm'):=fun st=>by
   obtain ⟨G1,gm1,h1⟩:=W9 hm ihc (nf:=nf) (fr:=fr) k (i+1) 1 (fun _=>(i:Int)) (by omega) (by omega);exact ⟨G1,gm1,uM.uQ (uR.weaken st (uI _) (.cons (uH _) (.cons (uH _) (.cons (uU.arr fun p hp=>by
    obtain rfl:p=0:=by omega
    rfl) .nil)))) h1⟩
  have no:uR prog fF false 2 IY (M1 q bc nc cl i) (I7 nf fr bc nc cl) (EX.normal,M1 q bc nc cl ((i:Int)+1),I7 nf fr bc nc cl)->(uM prog fF false 2 IY (M1 q bc nc cl i) (I7 nf fr bc nc cl) (EX.leave 0,frame 58 [(8,EV.ptr 0 0),(9,EV.ptr 1 0)],I7 nf fr bc nc cl)∨
  ∃ G' gm',uM prog fF false 2 IY (M1 q bc nc cl i) (I7 nf fr bc nc cl) (EX.leave 0,frame 58 [(8,EV.ptr 0 0),(9,EV.ptr 1 0)],Ri nf fr bc nc cl G' gm')):=fun st=>by
   rcases ZH k (i+1) (by omega) with h1 | ⟨G',gm',h1⟩
   ·exact Or.inl (uM.uQ st h1)
   ·exact Or.inr ⟨G',gm',uM.uQ st h1⟩
  rcases hA:ct (q.op i).left with _ | _<;>rcases hB:ct (q.op i).right with _ | _
  ·exact no (W6 q nf fr bc nc cl ct 0 (fun _=>0) i (by omega) (by omega) (by omega) ihc q0 hA)
  ·exact no (W6 q nf fr bc nc cl ct 0 (fun _=>0) i (by omega) (by omega) (by omega) ihc q0 hA)
  ·exact no (wH q nf fr bc nc cl ct 0 (fun _=>0) i (by omega) (by omega) (by omega) ihc q0 hA hB)
  ·exact Or.inr (yes (wG q nf fr bc nc cl ct 0 (fun _=>0) i (by omega) (by omega) (by omega) ihc q0 hA hB))
theorem OU:∃ b G gm,uY prog fF 63 [EV.ip (AD q) 0,AW true nf fr,AW bc nc cl,EV.bool true] (.agg [AW true nf fr,AW bc nc cl,AW b G gm]):=by
 have go:∀ {r:RC},uM prog fF false 2 IY (M1 q bc nc cl (0:Nat)) (I7 nf fr bc nc cl) r->uT prog fF false wJ (M1 q bc nc cl 0) [fE.var false true [Av,Av,Av],fE.var false true [AW true nf fr,AW bc nc cl,Av]] r:=fun h=>
  (uM.le (uI _) (.cons (uH _) (.cons uU.varf .nil)) h).cl (by kernel_rfl) (by kernel_rfl)
 rcases ZH hm ihc (nf:=nf) (fr:=fr) q.m 0 (by omega) with h1 | ⟨G',gm',h1⟩
 ·exact ⟨false,0,fun _=>0,(wQ q nf fr bc nc cl ct 0 (fun _=>0) (go h1)).res (aG.aggs (.cons (aG.refl _) (.cons (aG.refl _) (.cons aG.bB .nil))))⟩
 ·have h:=wR q nf fr bc nc cl ct G' gm' (go h1);simp only [uJ] at h;exact ⟨true,G',gm',h⟩
end
def CY (f:FuncId):Bool:=f==64 || Bv f
def Bl (f:FuncId):Bool:=f==64 || BL f
noncomputable abbrev ABV:Code:=(cB (cR (cL (cR (cT1 (cR (cL (cR (cR (cR (cR (AY prog 37))))))))))))
noncomputable abbrev Pz (a0:fG):=frame 148 [(0,pv (AD a0) 0),(3,pt 0 0),(4,sl false 0 0 fun i=>[]),(5,pt 1 0),(6,bv false),(13,sl false 0 0 fun i=>[])]
abbrev VT (a0:Nat)(a1:Nat->Int):=fE.var true true [AW true a0 a1]
noncomputable abbrev AIL:=cB (cR (cL (cR (cT1 (cR (cL (cR (cR (cR (cR (AY prog 37)))))))))))
abbrev P0 (a0:Nat)(a1:Nat->Int):=VT a0 a1
abbrev AEW (a0:Nat)(a1:Nat->Int):=[P0 a0 a1,oV J7,oD,oD,oD,oD,oD,oD]
section
variable (q:fG)(ns:Nat)(sv:Nat->Int)(Vn:Int)(NB:Nat)(B:Nat->uN)(es:List (EV×EV))(tot:Int)(fi:Int)(f:Nat->Int)(v:Int)(k:Nat)(s:Nat->Int)(bN:Bool)(ct:Int->Bool)(G:Nat)(gm:Nat->Int)(ix:Int)(h0:0<=ix)(hns:ns<=1000)(hG:G<=1000)(hfi:0<=fi)(hfi2:fi<=1000)(hsv:ix<ns->0<=sv ix.toNat/\sv ix.toNat<=1000)(ihc:∀ x:Int,sP 45 [BI k s,iv x] (bv (ct x)))
include q ns sv Vn NB B es tot fi f v k s bN ct G gm ix h0 hns hG hfi hfi2 hsv ihc
theorem ABW (q0:Ah ix ns)(q1:(!ct (fi+sv ix.toNat))=true):sR 8 (cB (AIL)) (frame 148 [(0,pv (AD q) 0),(3,pt 0 0),(4,sl false 0 0 fun _=>[]),(5,pt 1 0),(6,bv false),(8,pv [iv Vn,AF bN NB B,.im es,iv tot,iv fi] 0),(11,AW true k s),(13,sl false 0 0 fun _=>[]),(44,AW true ns sv),(45,iv ns),(46,iv ix)]) ((AEW ns sv)) (xN,(frame 148 [(0,pv (AD q) 0),(3,pt 0 0),(4,sl false 0 0 fun i=>[]),(5,pt 1 0),(6,bv false),(8,pv [iv Vn,AF bN NB B,EV.im es,iv tot,iv fi] 0),(11,sl true 1 k fun i=>[iv (s i)]),(13,EV.ms 8 1 0 1 none),(44,sl true 1 ns fun i=>(AA sv i)),(45,iv ↑ns),(46,iv (ix+1))]),[fE.var true true [AE ns sv],oV Gr,oD,oD,oD,oD,oD,oD,oA 1 false 1 fun i=>[[iv (sv ix.toNat)]].getD (0+i) []]):=
 aM Bl CY _ (.mk (dS 4473291438) [] [some (bv (ct (fi+sv ix.toNat)))] [] []) (kO (kz q0 (kz q1 AN))) (rI (ix+1) (.cons (ihc (fi+sv ix.toNat)) (rI (fi+sv ix.toNat) (rB ix ns .nil)))) 123145302321529 259 [0,1,2,3,4,5,6,7,12] 8
theorem ABX (q0:Ah ix ns)(q1:(!ct (fi+sv ix.toNat))=false):sR 8 (cB (AIL)) (frame 148 [(0,pv (AD q) 0),(3,pt 0 0),(4,sl false 0 0 fun _=>[]),(5,pt 1 0),(6,bv false),(8,pv [iv Vn,AF bN NB B,.im es,iv tot,iv fi] 0),(11,AW true k s),(13,sl false 0 0 fun _=>[]),(44,AW true ns sv),(45,iv ns),(46,iv ix)]) ((AEW ns sv)) (xN,(frame 148 [(0,pv (AD q) 0),(3,pt 0 0),(4,sl false 0 0 fun i=>[]),(5,pt 1 0),(6,bv false),(8,pv [iv Vn,AF bN NB B,EV.im es,iv tot,iv fi] 0),(11,sl true 1 k fun i=>[iv (s i)]),(13,sl false 0 0 fun i=>[]),(44,sl true 1 ns fun i=>(AA sv i)),(45,iv ↑ns),(46,iv (ix+1))]),[fE.var true true [AE ns sv],oV Gr,oD,oD,oD,oD,oD,oD]):=
 aM Bl CY _ (.mk (dS 1092122) [] [some (bv (ct (fi+sv ix.toNat)))] [] []) (kO (kz q0 (kz q1 AN))) (rI (ix+1) (.cons (ihc (fi+sv ix.toNat)) (rI (fi+sv ix.toNat) (rB ix ns .nil)))) 123145302321529 3 [0,1,2,3,4,5,6,7] 8
theorem ABY (q0:Cf ix ns):sR 8 (cB (AIL)) (frame 148 [(0,pv (AD q) 0),(3,pt 0 0),(4,sl false 0 0 fun _=>[]),(5,pt 1 0),(6,bv false),(8,pv [iv Vn,AF bN NB B,.im es,iv tot,iv fi] 0),(11,AW true k s),(13,sl false 0 0 fun _=>[]),(44,AW true ns sv),(45,iv ns),(46,iv ix)]) ((AEW ns sv)) (xL 0,(Pz q),[fE.var true true [AE ns sv],oV Gr,oD,oD,oD,oD,oD,oD]):=
 aM Bl CY _ (.mk (dS 16) [] [] [] []) (kO (kz q0 AN)) .nil 8313 3 [0,1,2,3,4,5,6,7] 8
end
noncomputable abbrev ABZ:Code:=(cB (cR (cL (cR (cT1 (cR (cL (cR (cR (cR (cR (AY prog 37))))))))))))
noncomputable abbrev XA:Code:=(cB (cB (cR (cL (cR (cT1 (cR (cL (cR (cR (cR (cR (AY prog 37)))))))))))))
noncomputable abbrev P1 (a0:fG)(a1:Nat):=frame 148 [(0,pv (AD a0) 0),(3,pt 0 0),(4,sl false 0 0 fun i=>[]),(5,pt 1 0),(6,bv false),(13,EV.ms 8 1 0 a1 none)]
abbrev Ax (a0:Nat)(a1:Nat->Int):=P0 a0 a1
section
variable (q:fG)(ns:Nat)(sv:Nat->Int)(Vn:Int)(NB:Nat)(B:Nat->uN)(es:List (EV×EV))(tot:Int)(fi:Int)(f:Nat->Int)(v:Int)(k:Nat)(s:Nat->Int)(bN:Bool)(ct:Int->Bool)(G:Nat)(gm:Nat->Int)(ix:Int)(h0:0<=ix)(hns:ns<=1000)(hG:G<=1000)(hfi:0<=fi)(hfi2:fi<=1000)(hsv:ix<ns->0<=sv ix.toNat/\sv ix.toNat<=1000)(ihc:∀ x:Int,sP 45 [BI k s,iv x] (bv (ct x)))
include q ns sv Vn NB B es tot fi f v k s bN ct G gm ix h0 hns hG hfi hfi2 hsv ihc
theorem ABa (q0:Ah ix ns)(q1:(!ct (fi+sv ix.toNat))=true):sR 8 (cB (AIL)) (frame 148 [(0,pv (AD q) 0),(3,pt 0 0),(4,sl false 0 0 fun _=>[]),(5,pt 1 0),(6,bv false),(8,pv [iv Vn,AF bN NB B,.im es,iv tot,iv fi] 0),(11,AW true k s),(13,EV.ms 8 1 0 G none),(44,AW true ns sv),(45,iv ns),(46,iv ix)]) ([Ax ns sv,oV J7,oD,oD,oD,oD,oD,oD,oA 1 false G fun i=>(AA gm i)]) (xN,(frame 148 [(0,pv (AD q) 0),(3,pt 0 0),(4,sl false 0 0 fun i=>[]),(5,pt 1 0),(6,bv false),(8,pv [iv Vn,AF bN NB B,EV.im es,iv tot,iv fi] 0),(11,sl true 1 k fun i=>[iv (s i)]),(13,EV.ms 8 1 0 (G+1) none),(44,sl true 1 ns fun i=>(AA sv i)),(45,iv ↑ns),(46,iv (ix+1))]),[fE.var true true [AE ns sv],oV Gr,oD,oD,oD,oD,oD,oD,oA 1 false (G+1) (Ar G (fun i=>[iv (gm (0+i))]) fun i=>[[iv (sv ix.toNat)]].getD (0+i) [])]):=
 aM Bl CY _ (.mk (dS 17473962) [] [some (bv (ct (fi+sv ix.toNat)))] [] []) (kO (kz q0 (kz q1 AN))) (rI (ix+1) (oL (A5 G) (.cons (ihc (fi+sv ix.toNat)) (rI (fi+sv ix.toNat) (rB ix ns .nil))))) 123145302321529 259 [0,1,2,3,4,5,6,7,13] 8
theorem ABb (q0:Ah ix ns)(q1:(!ct (fi+sv ix.toNat))=false):sR 8 (cB (AIL)) (frame 148 [(0,pv (AD q) 0),(3,pt 0 0),(4,sl false 0 0 fun _=>[]),(5,pt 1 0),(6,bv false),(8,pv [iv Vn,AF bN NB B,.im es,iv tot,iv fi] 0),(11,AW true k s),(13,EV.ms 8 1 0 G none),(44,AW true ns sv),(45,iv ns),(46,iv ix)]) ([Ax ns sv,oV J7,oD,oD,oD,oD,oD,oD,oA 1 false G fun i=>(AA gm i)]) (xN,(frame 148 [(0,pv (AD q) 0),(3,pt 0 0),(4,sl false 0 0 fun i=>[]),(5,pt 1 0),(6,bv false),(8,pv [iv Vn,AF bN NB B,EV.im es,iv tot,iv fi] 0),(11,sl true 1 k fun i=>[iv (s i)]),(13,EV.ms 8 1 0 G none),(44,sl true 1 ns fun i=>(AA sv i)),(45,iv ↑ns),(46,iv (ix+1))]),[fE.var true true [AE ns sv],oV Gr,oD,oD,oD,oD,oD,oD,oA 1 false G fun i=>(AA gm i)]):=
 aM Bl CY _ (.mk (dS 1092122) [] [some (bv (ct (fi+sv ix.toNat)))] [] []) (kO (kz q0 (kz q1 AN))) (rI (ix+1) (.cons (ihc (fi+sv ix.toNat)) (rI (fi+sv ix.toNat) (rB ix ns .nil)))) 123145302321529 259 [0,1,2,3,4,5,6,7,8] 8
theorem ABc (q0:Cf ix ns):sR 8 (cB (AIL)) (frame 148 [(0,pv (AD q) 0),(3,pt 0 0),(4,sl false 0 0 fun _=>[]),(5,pt 1 0),(6,bv false),(8,pv [iv Vn,AF bN NB B,.im es,iv tot,iv fi] 0),(11,AW true k s),(13,EV.ms 8 1 0 G none),(44,AW true ns sv),(45,iv ns),(46,iv ix)]) ([Ax ns sv,oV J7,oD,oD,oD,oD,oD,oD,oA 1 false G fun i=>(AA gm i)]) (xL 0,(P1 q G),[fE.var true true [AE ns sv],oV Gr,oD,oD,oD,oD,oD,oD,oA 1 false G fun i=>(AA gm i)]):=
 aM Bl CY _ (.mk (dS 16) [] [] [] []) (kO (kz q0 AN)) .nil 8313 259 [0,1,2,3,4,5,6,7,8] 8
end
noncomputable abbrev ABd:Code:=(cB (cR (cL (cR (cR (cR (cR (cR (cR (AY prog 37))))))))))
noncomputable abbrev XB:Code:=(cB (cB (cR (cL (cR (cR (cR (cR (cR (cR (AY prog 37)))))))))))
noncomputable abbrev P2 (a0:fG):=frame 148 [(0,pv (AD a0) 0),(4,EV.ms 8 1 0 a0.m (some a0.m)),(5,pt 1 0),(6,bv false)]
abbrev J2 (a0:fG)(a1:Int->Nat->Int)(a2:Nat):=(tu [],[oA 1 true a0.m fun i=>[iv (a1 (2*(↑a2:Int)) i)]])
abbrev J3 (a0:fG)(a1:Int->Nat->Int):=(tu [],[oA 1 true a0.m fun i=>[iv (a1 0 i)]])
noncomputable abbrev AJh:=cR (cR (cR (cR (AY prog 37))))
noncomputable abbrev AIR:=cB (cR (cL (cR (cR (AJh)))))
section
variable (q:fG)(ns:Nat)(sv:Nat->Int)(Vn:Int)(NB:Nat)(B:Nat->uN)(es:List (EV×EV))(tot:Int)(fi:Int)(f:Nat->Int)(v:Int)(k:Nat)(s:Nat->Int)(bN:Bool)(K:Nat)(P:Nat->aF)(bp:Bool)(row:Nat->Int)(row':Int->Nat->Int)(j:Nat)(L:Nat)(l:Nat->Int)(bb:Bool)(mt:Bool)(jg:Nat)(ga:Int)(gb:Int)(ix:Int)(h0:0<=ix)(hK:K<=1000)(hL:L<=1000)(hb:bb=true)(hgb:gb<NB)(hgf:gb<0∨(0<=f gb.toNat/\f gb.toNat<=2*(L:Int)))(fy:ix<K->BM prog 94 (ag (P ix.toNat).cells) (D0 q) 0 (some (j,sl true 1 L fun p=>[iv (l p)])))(fgY:ix<K->mt=true->BM prog 94 (ag (P ix.toNat).cells) es 0 (some (jg,ag [iv ga,iv gb])))(fgN:ix<K->mt=false->BM prog 94 (ag (P ix.toNat).cells) es 0 none)(ihf:ix<K->∀ h:Int,0<=h->h<=1000000->sF 64 [Ak q,EV.ms 0 1 0 q.m (some q.m),(ag (P ix.toNat).cells),iv h] [oA 1 true q.m fun i=>(AA row i)] (tu []) [oA 1 true q.m fun i=>[iv (row' h i)]])
include q ns sv Vn NB B es tot fi f v k s bN K P bp row row' j L l bb mt jg ga gb ix h0 hK hL hb hgb hgf fy fgY fgN ihf
theorem ABe (q0:Ah ix K)(q1:(mt)=true)(q2:(decide (gb>=0))=true)(q3:(decide (ga<0))=true):sR 9 (cB (AIR)) (frame 148 [(0,pv (AD q) 0),(4,.ms 8 1 0 q.m (some q.m)),(5,pt 1 0),(6,bv false),(8,pv [iv Vn,AF bN NB B,.im es,iv tot,iv fi] 0),(9,sl bN 1 NB fun i=>[iv (f i)]),(78,sl bp 2 K fun i=>(P i).cells),(79,iv K),(80,iv ix)]) ([Ax ns sv,oV J7,oD,oD,oD,oD,oD,oD,oA 1 true q.m fun i=>(AA row i)]) (xN,(frame 148 [(0,pv (AD q) 0),(4,EV.ms 8 1 0 q.m (some q.m)),(5,pt 1 0),(6,bv false),(8,pv [iv Vn,AF bN NB B,EV.im es,iv tot,iv fi] 0),(9,sl bN 1 NB fun i=>[iv (f i)]),(78,sl bp 2 K fun i=>(P i).cells),(79,iv ↑K),(80,iv (ix+1))]),[fE.var true true [AE ns sv],oV Gr,oD,oD,oD,oD,oD,oD,oA 1 true q.m fun i=>[iv (row' 0 i)]]):=
 aM Bl CY _ (.mk (dS 0x10aa062e032e2233a) [] [] [some ((J3 q row'))] [some (some (BO j L l)),some (some (jg,ag (AIV ga gb)))]) (kO (kz q0 (kz q1 (kz q2 (kz q3 AN))))) (rI (ix+1) (.cons (ihf (by simp_all) (0) (by first | omega | simp_all<;>omega) (by first | omega | simp_all<;>omega)) (.cons (fgY (by simp_all) (by assumption)) (rI (2*(↑L:Int)) (.cons (fy (by simp_all)) (rB ix K .nil)))))) 2115620184325601055736689 259 [0,1,2,3,4,5,6,7,8] 9
theorem ABf (q0:Ah ix K)(q1:(mt)=true)(q2:(decide (gb>=0))=true)(q3:(decide (ga<0))=false):sR 9 (cB (AIR)) (frame 148 [(0,pv (AD q) 0),(4,.ms 8 1 0 q.m (some q.m)),(5,pt 1 0),(6,bv false),(8,pv [iv Vn,AF bN NB B,.im es,iv tot,iv fi] 0),(9,sl bN 1 NB fun i=>[iv (f i)]),(78,sl bp 2 K fun i=>(P i).cells),(79,iv K),(80,iv ix)]) ([Ax ns sv,oV J7,oD,oD,oD,oD,oD,oD,oA 1 true q.m fun i=>(AA row i)]) (xN,(frame 148 [(0,pv (AD q) 0),(4,EV.ms 8 1 0 q.m (some q.m)),(5,pt 1 0),(6,bv false),(8,pv [iv Vn,AF bN NB B,EV.im es,iv tot,iv fi] 0),(9,sl bN 1 NB fun i=>[iv (f i)]),(78,sl bp 2 K fun i=>(P i).cells),(79,iv ↑K),(80,iv (ix+1))]),[fE.var true true [AE ns sv],oV Gr,oD,oD,oD,oD,oD,oD,oA 1 true q.m fun i=>[iv (row' (2*(↑L:Int) - f gb.toNat) i)]]):=
 aM Bl CY _ (.mk (dS 0x10aa062e032e223102e02aeaa) [] [] [some ((tu [],[oA 1 true q.m fun i=>[iv (row' (2*(↑L:Int) - f gb.toNat) i)]]))] [some (some (BO j L l)),some (some (jg,ag (AIV ga gb)))]) (kO (kz q0 (kz q1 (kz q2 (kz q3 AN))))) (rI (ix+1) (.cons (ihf (by simp_all) (2*(↑L:Int) - f gb.toNat) (by first | omega | simp_all<;>omega) (by first | omega | simp_all<;>omega)) (rI (2*(↑L:Int) - f gb.toNat) (rB gb NB (.cons (fgY (by simp_all) (by assumption)) (rI (2*(↑L:Int)) (.cons (fy (by simp_all)) (rB ix K .nil)))))))) 2115620184325601055736689 259 [0,1,2,3,4,5,6,7,8] 9
theorem ABg (q0:Ah ix K)(q1:(mt)=true)(q2:(decide (gb>=0))=false):sR 9 (cB (AIR)) (frame 148 [(0,pv (AD q) 0),(4,.ms 8 1 0 q.m (some q.m)),(5,pt 1 0),(6,bv false),(8,pv [iv Vn,AF bN NB B,.im es,iv tot,iv fi] 0),(9,sl bN 1 NB fun i=>[iv (f i)]),(78,sl bp 2 K fun i=>(P i).cells),(79,iv K),(80,iv ix)]) ([Ax ns sv,oV J7,oD,oD,oD,oD,oD,oD,oA 1 true q.m fun i=>(AA row i)]) (xN,(frame 148 [(0,pv (AD q) 0),(4,EV.ms 8 1 0 q.m (some q.m)),(5,pt 1 0),(6,bv false),(8,pv [iv Vn,AF bN NB B,EV.im es,iv tot,iv fi] 0),(9,sl bN 1 NB fun i=>[iv (f i)]),(78,sl bp 2 K fun i=>(P i).cells),(79,iv ↑K),(80,iv (ix+1))]),[fE.var true true [AE ns sv],oV Gr,oD,oD,oD,oD,oD,oD,oA 1 true q.m fun i=>[iv (row' (2*(↑L:Int)) i)]]):=
 aM Bl CY _ (.mk (dS 0x10aa062e222112ea) [] [] [some ((J2 q row' L))] [some (some (BO j L l)),some (some (jg,ag (AIV ga gb)))]) (kO (kz q0 (kz q1 (kz q2 AN)))) (rI (ix+1) (.cons (ihf (by simp_all) (2*(↑L:Int)) (by first | omega | simp_all<;>omega) (by first | omega | simp_all<;>omega)) (.cons (fgY (by simp_all) (by assumption)) (rI (2*(↑L:Int)) (.cons (fy (by simp_all)) (rB ix K .nil)))))) 2115620184325601055736689 259 [0,1,2,3,4,5,6,7,8] 9
theorem ABh (q0:Ah ix K)(q1:(mt)=false)(q2:((P ix.toNat).left==q.uO)=true):sR 9 (cB (AIR)) (frame 148 [(0,pv (AD q) 0),(4,.ms 8 1 0 q.m (some q.m)),(5,pt 1 0),(6,bv false),(8,pv [iv Vn,AF bN NB B,.im es,iv tot,iv fi] 0),(9,sl bN 1 NB fun i=>[iv (f i)]),(78,sl bp 2 K fun i=>(P i).cells),(79,iv K),(80,iv ix)]) ([Ax ns sv,oV J7,oD,oD,oD,oD,oD,oD,oA 1 true q.m fun i=>(AA row i)]) (xN,(frame 148 [(0,pv (AD q) 0),(4,EV.ms 8 1 0 q.m (some q.m)),(5,pt 1 0),(6,bv false),(8,pv [iv Vn,AF bN NB B,EV.im es,iv tot,iv fi] 0),(9,sl bN 1 NB fun i=>[iv (f i)]),(78,sl bp 2 K fun i=>(P i).cells),(79,iv ↑K),(80,iv (ix+1))]),[fE.var true true [AE ns sv],oV Gr,oD,oD,oD,oD,oD,oD,oA 1 true q.m fun i=>[iv (row' 0 i)]]):=
 aM Bl CY _ (.mk (dS 4473299690) [] [] [some ((J3 q row'))] [some (some (BO j L l)),some (none)]) (kO (kz q0 (kz q1 (kz q2 AN)))) (rI (ix+1) (.cons (ihf (by simp_all) (0) (by first | omega | simp_all<;>omega) (by first | omega | simp_all<;>omega)) (.cons (fgN (by simp_all) (by assumption)) (rI (2*(↑L:Int)) (.cons (fy (by simp_all)) (rB ix K .nil)))))) 2115620184325601055736689 259 [0,1,2,3,4,5,6,7,8] 9
theorem ABi (q0:Ah ix K)(q1:(mt)=false)(q2:((P ix.toNat).left==q.uO)=false):sR 9 (cB (AIR)) (frame 148 [(0,pv (AD q) 0),(4,.ms 8 1 0 q.m (some q.m)),(5,pt 1 0),(6,bv false),(8,pv [iv Vn,AF bN NB B,.im es,iv tot,iv fi] 0),(9,sl bN 1 NB fun i=>[iv (f i)]),(78,sl bp 2 K fun i=>(P i).cells),(79,iv K),(80,iv ix)]) ([Ax ns sv,oV J7,oD,oD,oD,oD,oD,oD,oA 1 true q.m fun i=>(AA row i)]) (xN,(frame 148 [(0,pv (AD q) 0),(4,EV.ms 8 1 0 q.m (some q.m)),(5,pt 1 0),(6,bv false),(8,pv [iv Vn,AF bN NB B,EV.im es,iv tot,iv fi] 0),(9,sl bN 1 NB fun i=>[iv (f i)]),(78,sl bp 2 K fun i=>(P i).cells),(79,iv ↑K),(80,iv (ix+1))]),[fE.var true true [AE ns sv],oV Gr,oD,oD,oD,oD,oD,oD,oA 1 true q.m fun i=>[iv (row' (2*(↑L:Int)) i)]]):=
 aM Bl CY _ (.mk (dS 18322635490734) [] [] [some ((J2 q row' L))] [some (some (BO j L l)),some (none)]) (kO (kz q0 (kz q1 (kz q2 AN)))) (rI (ix+1) (.cons (ihf (by simp_all) (2*(↑L:Int)) (by first | omega | simp_all<;>omega) (by first | omega | simp_all<;>omega)) (.cons (fgN (by simp_all) (by assumption)) (rI (2*(↑L:Int)) (.cons (fy (by simp_all)) (rB ix K .nil)))))) 2115620184325601055736689 259 [0,1,2,3,4,5,6,7,8] 9
theorem ABj (q0:Cf ix K):sR 9 (cB (AIR)) (frame 148 [(0,pv (AD q) 0),(4,.ms 8 1 0 q.m (some q.m)),(5,pt 1 0),(6,bv false),(8,pv [iv Vn,AF bN NB B,.im es,iv tot,iv fi] 0),(9,sl bN 1 NB fun i=>[iv (f i)]),(78,sl bp 2 K fun i=>(P i).cells),(79,iv K),(80,iv ix)]) ([Ax ns sv,oV J7,oD,oD,oD,oD,oD,oD,oA 1 true q.m fun i=>(AA row i)]) (xL 2,(P2 q),[fE.var true true [AE ns sv],oV Gr,oD,oD,oD,oD,oD,oD,oA 1 true q.m fun i=>(AA row i)]):=
 aM Bl CY _ (.mk (dS 16) [] [] [] []) (kO (kz q0 AN)) .nil 113 259 [0,1,2,3,4,5,6,7,8] 9
end
section
variable (q:fG)(ns:Nat)(sv:Nat->Int)(Vn:Int)(NB:Nat)(B:Nat->uN)(es:List (EV×EV))(tot:Int)(fi:Int)(f:Nat->Int)(v:Int)(k:Nat)(s:Nat->Int)(bN:Bool)(G:Nat)(gm:Nat->Int)(bg:Bool)(NG:Nat)(gg:Nat->Int)(hv:v<tot)(ihb:sP 60 [Ak q,fc (59) [] [Ad ns sv],bv false,fc (61) (AB q) []] (pv [iv Vn,AF bN NB B,.im es,iv tot,iv fi] 0))(ihm:sP 62 [ag [iv Vn,AF bN NB B]] (tu [AK bN NB f,iv v,AE k s,iv 0]))
include q ns sv Vn NB B es tot fi f v k s bN G gm bg NG gg hv ihb ihm
theorem ABk (ihx:sP 63 [Ak q,BI ns sv,Aq,bv false] (ag [BI ns sv,Aq,AW bg NG gg]))(ih7:sL (AIL) (frame 148 [(0,pv (AD q) 0),(3,pt 0 0),(4,sl false 0 0 fun _=>[]),(5,pt 1 0),(6,bv false),(8,pv [iv Vn,AF bN NB B,.im es,iv tot,iv fi] 0),(11,AW true k s),(13,sl false 0 0 fun _=>[]),(44,AW true ns sv),(45,iv ns),(46,iv 0)]) (AEW ns sv) ((xL 0,frame 148 [(0,pv (AD q) 0),(3,pt 0 0),(4,sl false 0 0 fun _=>[]),(5,pt 1 0),(6,bv false),(13,sl false 0 0 fun _=>[])],(AEW ns sv)):RC)):sP 37 [Ak q,AE ns sv] (tu [AT,ag [AE ns sv,AT,AK bg NG gg],bv false]):=
 kPm Bl CY [[]] (.mk (dS 26) [(18,.is 123145302321529 3 (xL 0,(Pz q),[fE.var true true [AE ns sv],oV Gr,oD,oD,oD,oD,oD,oD]))] [some (pv [iv Vn,AF bN NB B,EV.im es,iv tot,iv fi] 0),some (tu [AK bN NB f,iv v,AE k s,iv 0]),some (ag [AE ns sv,AT,AK bg NG gg])] [] []) (kO AN) (.cons ihx (.cons ih7 (oI (decide (v<tot)) (.cons ihm (.cons ihb .nil)))))
theorem ABl (ihx:sP 63 [Ak q,BI ns sv,sl true 1 G fun i=>[iv (gm (0+i))],bv false] (ag [BI ns sv,BI G gm,AW bg NG gg]))(ih7:sL (AIL) (frame 148 [(0,pv (AD q) 0),(3,pt 0 0),(4,sl false 0 0 fun _=>[]),(5,pt 1 0),(6,bv false),(8,pv [iv Vn,AF bN NB B,.im es,iv tot,iv fi] 0),(11,AW true k s),(13,sl false 0 0 fun _=>[]),(44,AW true ns sv),(45,iv ns),(46,iv 0)]) (AEW ns sv) ((xL 0,frame 148 [(0,pv (AD q) 0),(3,pt 0 0),(4,sl false 0 0 fun _=>[]),(5,pt 1 0),(6,bv false),(13,EV.ms 8 1 0 G none)],[Ax ns sv,oV J7,oD,oD,oD,oD,oD,oD,oA 1 false G fun i=>(AA gm i)]):RC)):sP 37 [Ak q,AE ns sv] (tu [AT,ag [AE ns sv,AE G gm,AK bg NG gg],bv false]):=
 kPm Bl CY [[]] (.mk (dS 26) [(18,.is 123145302321529 3 (xL 0,(P1 q G),[fE.var true true [AE ns sv],oV Gr,oD,oD,oD,oD,oD,oD,oA 1 false G fun i=>(AA gm i)]))] [some (pv [iv Vn,AF bN NB B,EV.im es,iv tot,iv fi] 0),some (tu [AK bN NB f,iv v,AE k s,iv 0]),some (ag [AE ns sv,AE G gm,AK bg NG gg])] [] []) (kO AN) (.cons ihx (.cons ih7 (oI (decide (v<tot)) (.cons ihm (.cons ihb .nil)))))
end
theorem ABm (q:fG)(ns:Nat)(sv:Nat->Int)(Vn:Int)(NB:Nat)(B:Nat->uN)(es:List (EV×EV))(tot:Int)(fi:Int)(f:Nat->Int)(v:Int)(k:Nat)(s:Nat->Int)(bN:Bool)(row:Nat->Int)(hv:tot<=v)(hm:q.m<=1000)(ihb:sP 60 [Ak q,fc (59) [] [Ad ns sv],bv false,fc (61) (AB q) []] (pv [iv Vn,AF bN NB B,.im es,iv tot,iv fi] 0))(ihm:sP 62 [ag [iv Vn,AF bN NB B]] (tu [AK bN NB f,iv v,AE k s,iv 0]))(ih15:sL (AIR) (frame 148 [(0,pv (AD q) 0),(4,.ms 8 1 0 (q.m:Int).toNat (some (q.m:Int).toNat)),(5,pt 1 0),(6,bv false),(8,pv [iv Vn,AF bN NB B,.im es,iv tot,iv fi] 0),(9,sl bN 1 NB fun i=>[iv (f i)]),(78,sl (!(BB q).isEmpty) 2 (BB q).length fun i=>(aK (BB q) i).cells),(79,iv (BB q).length),(80,iv 0)]) [Ax ns sv,oV J7,oD,oD,oD,oD,oD,oD,oA 1 true (q.m:Int).toNat fun i=>[iv 0]] ((xL 2,frame 148 [(0,pv (AD q) 0),(4,.ms 8 1 0 q.m (some q.m)),(5,pt 1 0),(6,bv false)],[Ax ns sv,oV J7,oD,oD,oD,oD,oD,oD,oA 1 true q.m fun i=>(AA row i)]):RC)):sP 37 [Ak q,AE ns sv] (tu [sl true 1 q.m fun i=>[iv (row (0+i))],ag Gr,bv true]):=
 kPm Bl CY [[]] (.mk (dS 442) [(19,.is 2115620184325601055736689 259 (xL 2,(P2 q),[fE.var true true [AE ns sv],oV Gr,oD,oD,oD,oD,oD,oD,oA 1 true q.m fun i=>(AA row i)]))] [some (pv [iv Vn,AF bN NB B,EV.im es,iv tot,iv fi] 0),some (tu [AK bN NB f,iv v,AE k s,iv 0])] [] []) (kO AN) (.cons ih15 (oS (Eu q) (oI (decide (v<tot)=false) (.cons ihm (.cons ihb .nil)))))
noncomputable abbrev ABn:Code:=(cB (cR (cL (cR (cR (AY prog 38))))))
noncomputable abbrev XC:Code:=(cB (cB (cR (cL (cR (cR (AY prog 38)))))))
abbrev BA:=[pt 0 0,pt 1 0]
noncomputable abbrev AIk:=frame 173 [(2,pt 0 0),(3,pt 1 0),(4,sl false 0 0 fun i=>[]),(5,pt 2 0),(6,bv false),(7,fc (65) [] [pt 0 0,pt 1 0])]
noncomputable abbrev AIu (a0:Nat)(a1:Nat->Int)(a2:Int):=frame 173 [(2,pt 0 0),(3,pt 1 0),(4,sl false 0 0 fun _=>[]),(5,pt 2 0),(6,bv false),(7,fc (65) [] [pt 0 0,pt 1 0]),(28,AW true a0 a1),(29,iv a0),(30,iv a2)]
noncomputable abbrev AJi:=cR (cR (AY prog 38))
noncomputable abbrev AIM:=cB (cR (cL (AJi)))
section
variable (q:fG)(ns:Nat)(sv:Nat->Int)(ct:Int->Bool)(tk:Int->Int)(R:Nat)(rv:Nat->Int)(bg:Bool)(NG:Nat)(gg:Nat->Int)(ix:Int)(h0:0<=ix)(hR:R<=1000)(hrv:ix<R->0<=rv ix.toNat)(hrv2:ix<R->rv ix.toNat<q.m')(ihc:∀ x:Int,sP 65 [iv x,AX q,Ad ns sv] (bv (ct x)))(iht:∀ x:Int,0<=x->x<q.m'->sP 66 [Ak q,iv x] (iv (tk x)))(ihx:sP 63 [Ak q,BI ns sv,sl true 1 1 fun i=>[[iv (rv ix.toNat)]].getD (0+i) [],bv true] (ag [BI ns sv,sl true 1 1 fun _=>[iv (rv ix.toNat)],AW bg NG gg]))
include q ns sv ct tk R rv bg NG gg ix h0 hR hrv hrv2 ihc iht ihx
theorem ADW (q0:Ah ix R)(q1:(ct (rv ix.toNat))=true)(q2:(decide (tk (rv ix.toNat)<0))=true):sR 3 (cB (AIM)) (AIu R rv ix) ([fE.var true true (AB q),Ax ns sv,oV J7]) (EX.ret,(AIk),[fE.var true true (AB q),fE.var true true [AE ns sv],oV [AE ns sv,sl true 1 1 fun i=>[iv (rv ix.toNat)],AK bg NG gg]]):=
 aM Bl CY _ (.mk (dS 4463857938) [] [some (bv (ct (rv ix.toNat))),some (iv (tk (rv ix.toNat))),some (ag [AE ns sv,sl true 1 1 fun i=>[iv (rv ix.toNat)],AK bg NG gg])] [] []) (kO (kz q0 (kz q1 (kz q2 AN)))) (.cons ihx (.cons (iht (rv ix.toNat) (by simp_all) (by simp_all)) (.cons (ihc (rv ix.toNat)) (rB ix R .nil)))) 252 7 [0,1,2] 3
theorem ADX (q0:Ah ix R)(q1:(ct (rv ix.toNat))=true)(q2:(decide (tk (rv ix.toNat)<0))=false):sR 3 (cB (AIM)) (AIu R rv ix) ([fE.var true true (AB q),Ax ns sv,oV J7]) (xN,(frame 173 [(2,pt 0 0),(3,pt 1 0),(4,sl false 0 0 fun i=>[]),(5,pt 2 0),(6,bv false),(7,fc (65) [] BA),(28,sl true 1 R fun i=>(AA rv i)),(29,iv ↑R),(30,iv (ix+1))]),[fE.var true true (AB q),fE.var true true [AE ns sv],oV Gr]):=
 aM Bl CY _ (.mk (dS 71421727018) [] [some (bv (ct (rv ix.toNat))),some (iv (tk (rv ix.toNat)))] [] []) (kO (kz q0 (kz q1 (kz q2 AN)))) (rI (ix+1) (.cons (iht (rv ix.toNat) (by simp_all) (by simp_all)) (.cons (ihc (rv ix.toNat)) (rB ix R .nil)))) 1879048444 7 [0,1,2] 3
theorem ADY (q0:Ah ix R)(q1:(ct (rv ix.toNat))=false):sR 3 (cB (AIM)) (AIu R rv ix) ([fE.var true true (AB q),Ax ns sv,oV J7]) (xN,(frame 173 [(2,pt 0 0),(3,pt 1 0),(4,sl false 0 0 fun i=>[]),(5,pt 2 0),(6,bv false),(7,fc (65) [] BA),(28,sl true 1 R fun i=>(AA rv i)),(29,iv ↑R),(30,iv (ix+1))]),[fE.var true true (AB q),fE.var true true [AE ns sv],oV Gr]):=
 aM Bl CY _ (.mk (dS 18283962106286) [] [some (bv (ct (rv ix.toNat)))] [] []) (kO (kz q0 (kz q1 AN))) (rI (ix+1) (.cons (ihc (rv ix.toNat)) (rB ix R .nil))) 1879048444 7 [0,1,2] 3
theorem ADZ (q0:Cf ix R):sR 3 (cB (AIM)) (AIu R rv ix) ([fE.var true true (AB q),Ax ns sv,oV J7]) (xL 0,(AIk),[fE.var true true (AB q),fE.var true true [AE ns sv],oV Gr]):=
 aM Bl CY _ (.mk (dS 16) [] [] [] []) (kO (kz q0 AN)) .nil 252 7 [0,1,2] 3
end
noncomputable abbrev wS:Code:=(cB (cR (cL (cR (cT1 (cR (cL (cR (cR (cR (cR (cR (AY prog 38)))))))))))))
noncomputable abbrev P3:=frame 173 [(2,pt 0 0),(3,pt 1 0),(4,sl false 0 0 fun i=>[]),(5,pt 2 0),(6,bv false),(15,sl false 0 0 fun i=>[])]
noncomputable abbrev AIF:=cB (cR (cL (cR (cT1 (cR (cL (cR (cR (cR (cR (cR (AY prog 38))))))))))))
section
variable (q:fG)(ns:Nat)(sv:Nat->Int)(Vn:Int)(NB:Nat)(B:Nat->uN)(es:List (EV×EV))(tot:Int)(fi:Int)(f:Nat->Int)(v:Int)(k:Nat)(s:Nat->Int)(bN:Bool)(ct:Int->Bool)(cs:Int->Bool)(R:Nat)(rv:Nat->Int)(G:Nat)(gm:Nat->Int)(ix:Int)(h0:0<=ix)(hR:R<=1000)(hG:G<=1000)(hfi:0<=fi)(hfi2:fi<=1000)(hsv:ix<R->0<=rv ix.toNat/\rv ix.toNat<=1000)(ihc:∀ x:Int,sP 65 [iv x,AX q,Ad ns sv] (bv (ct x)))(ihs:∀ x:Int,sP 45 [BI k s,iv x] (bv (cs x)))
include q ns sv Vn NB B es tot fi f v k s bN ct cs R rv G gm ix h0 hR hG hfi hfi2 hsv ihc ihs
theorem wT (q0:Ah ix R)(q1:(ct (rv ix.toNat))=true)(q2:(cs (fi+rv ix.toNat))=true):sR 9 (cB (AIF)) (frame 173 [(2,pt 0 0),(3,pt 1 0),(4,sl false 0 0 fun _=>[]),(5,pt 2 0),(6,bv false),(7,fc (65) [] BA),(10,pv [iv Vn,AF bN NB B,.im es,iv tot,iv fi] 0),(13,AW true k s),(15,sl false 0 0 fun _=>[]),(73,AW true R rv),(74,iv R),(75,iv ix)]) ([fE.var true true (AB q),Ax ns sv,oV J7,oD,oD,oD,oD,oD,oD]) (xN,(frame 173 [(2,pt 0 0),(3,pt 1 0),(4,sl false 0 0 fun i=>[]),(5,pt 2 0),(6,bv false),(7,fc (65) [] BA),(10,pv [iv Vn,AF bN NB B,EV.im es,iv tot,iv fi] 0),(13,sl true 1 k fun i=>[iv (s i)]),(15,EV.ms 9 1 0 1 none),(73,sl true 1 R fun i=>(AA rv i)),(74,iv ↑R),(75,iv (ix+1))]),[fE.var true true (AB q),fE.var true true [AE ns sv],oV Gr,oD,oD,oD,oD,oD,oD,oA 1 false 1 fun i=>[[iv (rv ix.toNat)]].getD (0+i) []]):=
 aM Bl CY _ (.mk (dS 0x10a1111111a11202ae) [] [some (bv (ct (rv ix.toNat))),some (bv (cs (fi+rv ix.toNat)))] [] []) (kO (kz q0 (kz q1 (kz q2 AN)))) (rI (ix+1) (.cons (ihs (fi+rv ix.toNat)) (rI (fi+rv ix.toNat) (.cons (ihc (rv ix.toNat)) (rB ix R .nil))))) 66113130760175033033980 519 [0,1,2,3,4,5,6,7,8,16] 9
theorem wU (q0:Ah ix R)(q1:(ct (rv ix.toNat))=true)(q2:(cs (fi+rv ix.toNat))=false):sR 9 (cB (AIF)) (frame 173 [(2,pt 0 0),(3,pt 1 0),(4,sl false 0 0 fun _=>[]),(5,pt 2 0),(6,bv false),(7,fc (65) [] BA),(10,pv [iv Vn,AF bN NB B,.im es,iv tot,iv fi] 0),(13,AW true k s),(15,sl false 0 0 fun _=>[]),(73,AW true R rv),(74,iv R),(75,iv ix)]) ([fE.var true true (AB q),Ax ns sv,oV J7,oD,oD,oD,oD,oD,oD]) (xN,(frame 173 [(2,pt 0 0),(3,pt 1 0),(4,sl false 0 0 fun i=>[]),(5,pt 2 0),(6,bv false),(7,fc (65) [] BA),(10,pv [iv Vn,AF bN NB B,EV.im es,iv tot,iv fi] 0),(13,sl true 1 k fun i=>[iv (s i)]),(15,sl false 0 0 fun i=>[]),(73,sl true 1 R fun i=>(AA rv i)),(74,iv ↑R),(75,iv (ix+1))]),[fE.var true true (AB q),fE.var true true [AE ns sv],oV Gr,oD,oD,oD,oD,oD,oD]):=
 aM Bl CY _ (.mk (dS 74891108804071722) [] [some (bv (ct (rv ix.toNat))),some (bv (cs (fi+rv ix.toNat)))] [] []) (kO (kz q0 (kz q1 (kz q2 AN)))) (rI (ix+1) (.cons (ihs (fi+rv ix.toNat)) (rI (fi+rv ix.toNat) (.cons (ihc (rv ix.toNat)) (rB ix R .nil))))) 66113130760175033033980 7 [0,1,2,3,4,5,6,7,8] 9
theorem wV (q0:Ah ix R)(q1:(ct (rv ix.toNat))=false):sR 9 (cB (AIF)) (frame 173 [(2,pt 0 0),(3,pt 1 0),(4,sl false 0 0 fun _=>[]),(5,pt 2 0),(6,bv false),(7,fc (65) [] BA),(10,pv [iv Vn,AF bN NB B,.im es,iv tot,iv fi] 0),(13,AW true k s),(15,sl false 0 0 fun _=>[]),(73,AW true R rv),(74,iv R),(75,iv ix)]) ([fE.var true true (AB q),Ax ns sv,oV J7,oD,oD,oD,oD,oD,oD]) (xN,(frame 173 [(2,pt 0 0),(3,pt 1 0),(4,sl false 0 0 fun i=>[]),(5,pt 2 0),(6,bv false),(7,fc (65) [] BA),(10,pv [iv Vn,AF bN NB B,EV.im es,iv tot,iv fi] 0),(13,sl true 1 k fun i=>[iv (s i)]),(15,sl false 0 0 fun i=>[]),(73,sl true 1 R fun i=>(AA rv i)),(74,iv ↑R),(75,iv (ix+1))]),[fE.var true true (AB q),fE.var true true [AE ns sv],oV Gr,oD,oD,oD,oD,oD,oD]):=
 aM Bl CY _ (.mk (dS 0x10a11111111101ae) [] [some (bv (ct (rv ix.toNat)))] [] []) (kO (kz q0 (kz q1 AN))) (rI (ix+1) (.cons (ihc (rv ix.toNat)) (rB ix R .nil))) 66113130760175033033980 7 [0,1,2,3,4,5,6,7,8] 9
theorem wW (q0:Cf ix R):sR 9 (cB (AIF)) (frame 173 [(2,pt 0 0),(3,pt 1 0),(4,sl false 0 0 fun _=>[]),(5,pt 2 0),(6,bv false),(7,fc (65) [] BA),(10,pv [iv Vn,AF bN NB B,.im es,iv tot,iv fi] 0),(13,AW true k s),(15,sl false 0 0 fun _=>[]),(73,AW true R rv),(74,iv R),(75,iv ix)]) ([fE.var true true (AB q),Ax ns sv,oV J7,oD,oD,oD,oD,oD,oD]) (xL 2,(P3),[fE.var true true (AB q),fE.var true true [AE ns sv],oV Gr,oD,oD,oD,oD,oD,oD]):=
 aM Bl CY _ (.mk (dS 16) [] [] [] []) (kO (kz q0 AN)) .nil 32892 7 [0,1,2,3,4,5,6,7,8] 9
end
noncomputable abbrev wX:Code:=(cB (cR (cL (cR (cT1 (cR (cL (cR (cR (cR (cR (cR (AY prog 38)))))))))))))
noncomputable abbrev MO:Code:=(cB (cB (cR (cL (cR (cT1 (cR (cL (cR (cR (cR (cR (cR (AY prog 38))))))))))))))
noncomputable abbrev P4 (a0:Nat):=frame 173 [(2,pt 0 0),(3,pt 1 0),(4,sl false 0 0 fun i=>[]),(5,pt 2 0),(6,bv false),(15,EV.ms 9 1 0 a0 none)]
section
variable (q:fG)(ns:Nat)(sv:Nat->Int)(Vn:Int)(NB:Nat)(B:Nat->uN)(es:List (EV×EV))(tot:Int)(fi:Int)(f:Nat->Int)(v:Int)(k:Nat)(s:Nat->Int)(bN:Bool)(ct:Int->Bool)(cs:Int->Bool)(R:Nat)(rv:Nat->Int)(G:Nat)(gm:Nat->Int)(ix:Int)(h0:0<=ix)(hR:R<=1000)(hG:G<=1000)(hfi:0<=fi)(hfi2:fi<=1000)(hsv:ix<R->0<=rv ix.toNat/\rv ix.toNat<=1000)(ihc:∀ x:Int,sP 65 [iv x,AX q,Ad ns sv] (bv (ct x)))(ihs:∀ x:Int,sP 45 [BI k s,iv x] (bv (cs x)))
include q ns sv Vn NB B es tot fi f v k s bN ct cs R rv G gm ix h0 hR hG hfi hfi2 hsv ihc ihs
theorem wY (q0:Ah ix R)(q1:(ct (rv ix.toNat))=true)(q2:(cs (fi+rv ix.toNat))=true):sR 9 (cB (AIF)) (frame 173 [(2,pt 0 0),(3,pt 1 0),(4,sl false 0 0 fun _=>[]),(5,pt 2 0),(6,bv false),(7,fc (65) [] BA),(10,pv [iv Vn,AF bN NB B,.im es,iv tot,iv fi] 0),(13,AW true k s),(15,EV.ms 9 1 0 G none),(73,AW true R rv),(74,iv R),(75,iv ix)]) ([fE.var true true (AB q),Ax ns sv,oV J7,oD,oD,oD,oD,oD,oD,oA 1 false G fun i=>(AA gm i)]) (xN,(frame 173 [(2,pt 0 0),(3,pt 1 0),(4,sl false 0 0 fun i=>[]),(5,pt 2 0),(6,bv false),(7,fc (65) [] BA),(10,pv [iv Vn,AF bN NB B,EV.im es,iv tot,iv fi] 0),(13,sl true 1 k fun i=>[iv (s i)]),(15,EV.ms 9 1 0 (G+1) none),(73,sl true 1 R fun i=>(AA rv i)),(74,iv ↑R),(75,iv (ix+1))]),[fE.var true true (AB q),fE.var true true [AE ns sv],oV Gr,oD,oD,oD,oD,oD,oD,oA 1 false (G+1) (Ar G (fun i=>[iv (gm (0+i))]) fun i=>[[iv (rv ix.toNat)]].getD (0+i) [])]):=
 aM Bl CY _ (.mk (dS 0x10a1111111a112aa) [] [some (bv (ct (rv ix.toNat))),some (bv (cs (fi+rv ix.toNat)))] [] []) (kO (kz q0 (kz q1 (kz q2 AN)))) (rI (ix+1) (oL (A5 G) (.cons (ihs (fi+rv ix.toNat)) (rI (fi+rv ix.toNat) (.cons (ihc (rv ix.toNat)) (rB ix R .nil)))))) 66113130760175033033980 519 [0,1,2,3,4,5,6,7,8,17] 9
theorem wZ (q0:Ah ix R)(q1:(ct (rv ix.toNat))=true)(q2:(cs (fi+rv ix.toNat))=false):sR 9 (cB (AIF)) (frame 173 [(2,pt 0 0),(3,pt 1 0),(4,sl false 0 0 fun _=>[]),(5,pt 2 0),(6,bv false),(7,fc (65) [] BA),(10,pv [iv Vn,AF bN NB B,.im es,iv tot,iv fi] 0),(13,AW true k s),(15,EV.ms 9 1 0 G none),(73,AW true R rv),(74,iv R),(75,iv ix)]) ([fE.var true true (AB q),Ax ns sv,oV J7,oD,oD,oD,oD,oD,oD,oA 1 false G fun i=>(AA gm i)]) (xN,(frame 173 [(2,pt 0 0),(3,pt 1 0),(4,sl false 0 0 fun i=>[]),(5,pt 2 0),(6,bv false),(7,fc (65) [] BA),(10,pv [iv Vn,AF bN NB B,EV.im es,iv tot,iv fi] 0),(13,sl true 1 k fun i=>[iv (s i)]),(15,EV.ms 9 1 0 G none),(73,sl true 1 R fun i=>(AA rv i)),(74,iv ↑R),(75,iv (ix+1))]),[fE.var true true (AB q),fE.var true true [AE ns sv],oV Gr,oD,oD,oD,oD,oD,oD,oA 1 false G fun i=>(AA gm i)]):=
 aM Bl CY _ (.mk (dS 74891108804071722) [] [some (bv (ct (rv ix.toNat))),some (bv (cs (fi+rv ix.toNat)))] [] []) (kO (kz q0 (kz q1 (kz q2 AN)))) (rI (ix+1) (.cons (ihs (fi+rv ix.toNat)) (rI (fi+rv ix.toNat) (.cons (ihc (rv ix.toNat)) (rB ix R .nil))))) 66113130760175033033980 519 [0,1,2,3,4,5,6,7,8,9] 9
theorem w4 (q0:Ah ix R)(q1:(ct (rv ix.toNat))=false):sR 9 (cB (AIF)) (frame 173 [(2,pt 0 0),(3,pt 1 0),(4,sl false 0 0 fun _=>[]),(5,pt 2 0),(6,bv false),(7,fc (65) [] BA),(10,pv [iv Vn,AF bN NB B,.im es,iv tot,iv fi] 0),(13,AW true k s),(15,EV.ms 9 1 0 G none),(73,AW true R rv),(74,iv R),(75,iv ix)]) ([fE.var true true (AB q),Ax ns sv,oV J7,oD,oD,oD,oD,oD,oD,oA 1 false G fun i=>(AA gm i)]) (xN,(frame 173 [(2,pt 0 0),(3,pt 1 0),(4,sl false 0 0 fun i=>[]),(5,pt 2 0),(6,bv false),(7,fc (65) [] BA),(10,pv [iv Vn,AF bN NB B,EV.im es,iv tot,iv fi] 0),(13,sl true 1 k fun i=>[iv (s i)]),(15,EV.ms 9 1 0 G none),(73,sl true 1 R fun i=>(AA rv i)),(74,iv ↑R),(75,iv (ix+1))]),[fE.var true true (AB q),fE.var true true [AE ns sv],oV Gr,oD,oD,oD,oD,oD,oD,oA 1 false G fun i=>(AA gm i)]):=
 aM Bl CY _ (.mk (dS 0x10a11111111101ae) [] [some (bv (ct (rv ix.toNat)))] [] []) (kO (kz q0 (kz q1 AN))) (rI (ix+1) (.cons (ihc (rv ix.toNat)) (rB ix R .nil))) 66113130760175033033980 519 [0,1,2,3,4,5,6,7,8,9] 9
theorem w5 (q0:Cf ix R):sR 9 (cB (AIF)) (frame 173 [(2,pt 0 0),(3,pt 1 0),(4,sl false 0 0 fun _=>[]),(5,pt 2 0),(6,bv false),(7,fc (65) [] BA),(10,pv [iv Vn,AF bN NB B,.im es,iv tot,iv fi] 0),(13,AW true k s),(15,EV.ms 9 1 0 G none),(73,AW true R rv),(74,iv R),(75,iv ix)]) ([fE.var true true (AB q),Ax ns sv,oV J7,oD,oD,oD,oD,oD,oD,oA 1 false G fun i=>(AA gm i)]) (xL 2,(P4 G),[fE.var true true (AB q),fE.var true true [AE ns sv],oV Gr,oD,oD,oD,oD,oD,oD,oA 1 false G fun i=>(AA gm i)]):=
 aM Bl CY _ (.mk (dS 16) [] [] [] []) (kO (kz q0 AN)) .nil 32892 519 [0,1,2,3,4,5,6,7,8,9] 9
end
noncomputable abbrev ABo:Code:=(cB (cR (cL (cR (cR (cR (cR (cR (cR (cR (AY prog 38)))))))))))
noncomputable abbrev XD:Code:=(cB (cB (cR (cL (cR (cR (cR (cR (cR (cR (cR (AY prog 38))))))))))))
noncomputable abbrev P5 (a0:fG):=frame 173 [(2,pt 0 0),(4,EV.ms 9 1 0 a0.m (some a0.m)),(5,pt 2 0),(6,bv false)]
noncomputable abbrev AJj:=cR (cR (cR (cR (cR (AY prog 38)))))
noncomputable abbrev AIS:=cB (cR (cL (cR (cR (AJj)))))
section
variable (q:fG)(ns:Nat)(sv:Nat->Int)(Vn:Int)(NB:Nat)(B:Nat->uN)(es:List (EV×EV))(tot:Int)(fi:Int)(f:Nat->Int)(v:Int)(k:Nat)(s:Nat->Int)(bN:Bool)(ct:Int->Bool)(K:Nat)(P:Nat->aF)(bp:Bool)(row:Nat->Int)(row':Int->Nat->Int)(j:Nat)(L:Nat)(l:Nat->Int)(bb:Bool)(mt:Bool)(jg:Nat)(ga:Int)(gb:Int)(ix:Int)(h0:0<=ix)(hK:K<=1000)(hL:L<=1000)(hb:bb=true)(hga:mt=true->0<=ga/\ga<NB)(hgf:mt=true->0<=f ga.toNat/\f ga.toNat<=2*(L:Int))(ihc:∀ x:Int,sP 65 [iv x,AX q,Ad ns sv] (bv (ct x)))(fy:ix<K->BM prog 94 (ag (P ix.toNat).cells) (D0 q) 0 (some (j,sl true 1 L fun p=>[iv (l p)])))(fgY:ix<K->mt=true->BM prog 94 (ag (P ix.toNat).cells) es 0 (some (jg,ag [iv ga,iv gb])))(fgN:ix<K->mt=false->BM prog 94 (ag (P ix.toNat).cells) es 0 none)(ihf:ix<K->∀ h:Int,0<=h->h<=1000000->sF 64 [Ak q,EV.ms 0 1 0 q.m (some q.m),(ag (P ix.toNat).cells),iv h] [oA 1 true q.m fun i=>(AA row i)] (tu []) [oA 1 true q.m fun i=>[iv (row' h i)]])
include q ns sv Vn NB B es tot fi f v k s bN ct K P bp row row' j L l bb mt jg ga gb ix h0 hK hL hb hga hgf ihc fy fgY fgN ihf
theorem ABp (q0:Ah ix K)(q1:(mt)=true):sR 10 (cB (AIS)) (frame 173 [(2,pt 0 0),(4,.ms 9 1 0 q.m (some q.m)),(5,pt 2 0),(6,bv false),(7,fc (65) [] BA),(10,pv [iv Vn,AF bN NB B,.im es,iv tot,iv fi] 0),(11,sl bN 1 NB fun i=>[iv (f i)]),(111,sl bp 2 K fun i=>(P i).cells),(112,iv K),(113,iv ix)]) ([fE.var true true (AB q),Ax ns sv,oV J7,oD,oD,oD,oD,oD,oD,oA 1 true q.m fun i=>(AA row i)]) (xN,(frame 173 [(2,pt 0 0),(4,EV.ms 9 1 0 q.m (some q.m)),(5,pt 2 0),(6,bv false),(7,fc (65) [] BA),(10,pv [iv Vn,AF bN NB B,EV.im es,iv tot,iv fi] 0),(11,sl bN 1 NB fun i=>[iv (f i)]),(111,sl bp 2 K fun i=>(P i).cells),(112,iv ↑K),(113,iv (ix+1))]),[fE.var true true (AB q),fE.var true true [AE ns sv],oV Gr,oD,oD,oD,oD,oD,oD,oA 1 true q.m fun i=>[iv (row' (f ga.toNat) i)]]):=
 aM Bl CY _ (.mk (dS 4473244394) [] [] [some ((tu [],[oA 1 true q.m fun i=>[iv (row' (f ga.toNat) i)]]))] [some (some (BO j L l)),some (some (jg,ag (AIV ga gb)))]) (kO (kz q0 (kz q1 AN))) (rI (ix+1) (.cons (ihf (by simp_all) (f ga.toNat) (by first | omega | simp_all<;>omega) (by first | omega | simp_all<;>omega)) (rB ga NB (.cons (fgY (by simp_all) (by assumption)) (rI (2*(↑L:Int)) (.cons (fy (by simp_all)) (rB ix K .nil))))))) 18173039004871896699856737152273652 519 [0,1,2,3,4,5,6,7,8,9] 10
theorem ABq (q0:Ah ix K)(q1:(mt)=false)(q2:((P ix.toNat).right==q.uO)=true):sR 10 (cB (AIS)) (frame 173 [(2,pt 0 0),(4,.ms 9 1 0 q.m (some q.m)),(5,pt 2 0),(6,bv false),(7,fc (65) [] BA),(10,pv [iv Vn,AF bN NB B,.im es,iv tot,iv fi] 0),(11,sl bN 1 NB fun i=>[iv (f i)]),(111,sl bp 2 K fun i=>(P i).cells),(112,iv K),(113,iv ix)]) ([fE.var true true (AB q),Ax ns sv,oV J7,oD,oD,oD,oD,oD,oD,oA 1 true q.m fun i=>(AA row i)]) (xN,(frame 173 [(2,pt 0 0),(4,EV.ms 9 1 0 q.m (some q.m)),(5,pt 2 0),(6,bv false),(7,fc (65) [] BA),(10,pv [iv Vn,AF bN NB B,EV.im es,iv tot,iv fi] 0),(11,sl bN 1 NB fun i=>[iv (f i)]),(111,sl bp 2 K fun i=>(P i).cells),(112,iv ↑K),(113,iv (ix+1))]),[fE.var true true (AB q),fE.var true true [AE ns sv],oV Gr,oD,oD,oD,oD,oD,oD,oA 1 true q.m fun i=>[iv (row' 0 i)]]):=
 aM Bl CY _ (.mk (dS 71571680810) [] [] [some ((J3 q row'))] [some (some (BO j L l)),some (none)]) (kO (kz q0 (kz q1 (kz q2 AN)))) (rI (ix+1) (.cons (ihf (by simp_all) (0) (by first | omega | simp_all<;>omega) (by first | omega | simp_all<;>omega)) (.cons (fgN (by simp_all) (by assumption)) (rI (2*(↑L:Int)) (.cons (fy (by simp_all)) (rB ix K .nil)))))) 18173039004871896699856737152273652 519 [0,1,2,3,4,5,6,7,8,9] 10
theorem ABr (q0:Ah ix K)(q1:(mt)=false)(q2:((P ix.toNat).right==q.uO)=false)(q3:((P ix.toNat).left != q.uO)=true)(q4:EM ct P ix):sR 10 (cB (AIS)) (frame 173 [(2,pt 0 0),(4,.ms 9 1 0 q.m (some q.m)),(5,pt 2 0),(6,bv false),(7,fc (65) [] BA),(10,pv [iv Vn,AF bN NB B,.im es,iv tot,iv fi] 0),(11,sl bN 1 NB fun i=>[iv (f i)]),(111,sl bp 2 K fun i=>(P i).cells),(112,iv K),(113,iv ix)]) ([fE.var true true (AB q),Ax ns sv,oV J7,oD,oD,oD,oD,oD,oD,oA 1 true q.m fun i=>(AA row i)]) (xN,(frame 173 [(2,pt 0 0),(4,EV.ms 9 1 0 q.m (some q.m)),(5,pt 2 0),(6,bv false),(7,fc (65) [] BA),(10,pv [iv Vn,AF bN NB B,EV.im es,iv tot,iv fi] 0),(11,sl bN 1 NB fun i=>[iv (f i)]),(111,sl bp 2 K fun i=>(P i).cells),(112,iv ↑K),(113,iv (ix+1))]),[fE.var true true (AB q),fE.var true true [AE ns sv],oV Gr,oD,oD,oD,oD,oD,oD,oA 1 true q.m fun i=>[iv (row' 0 i)]]):=
 aM Bl CY _ (.mk (dS 75048346786673482) [] [some (Ba ct P ix)] [some ((J3 q row'))] [some (some (BO j L l)),some (none)]) (kO (kz q0 (kz q1 (kz q2 (kz q3 (kz q4 AN)))))) (rI (ix+1) (.cons (ihf (by simp_all) (0) (by first | omega | simp_all<;>omega) (by first | omega | simp_all<;>omega)) (.cons (ihc (P ix.toNat).left) (.cons (fgN (by simp_all) (by assumption)) (rI (2*(↑L:Int)) (.cons (fy (by simp_all)) (rB ix K .nil))))))) 18173039004871896699856737152273652 519 [0,1,2,3,4,5,6,7,8,9] 10
theorem ABs (q0:Ah ix K)(q1:(mt)=false)(q2:((P ix.toNat).right==q.uO)=false)(q3:((P ix.toNat).left != q.uO)=true)(q4:Fg ct P ix):sR 10 (cB (AIS)) (frame 173 [(2,pt 0 0),(4,.ms 9 1 0 q.m (some q.m)),(5,pt 2 0),(6,bv false),(7,fc (65) [] BA),(10,pv [iv Vn,AF bN NB B,.im es,iv tot,iv fi] 0),(11,sl bN 1 NB fun i=>[iv (f i)]),(111,sl bp 2 K fun i=>(P i).cells),(112,iv K),(113,iv ix)]) ([fE.var true true (AB q),Ax ns sv,oV J7,oD,oD,oD,oD,oD,oD,oA 1 true q.m fun i=>(AA row i)]) (xN,(frame 173 [(2,pt 0 0),(4,EV.ms 9 1 0 q.m (some q.m)),(5,pt 2 0),(6,bv false),(7,fc (65) [] BA),(10,pv [iv Vn,AF bN NB B,EV.im es,iv tot,iv fi] 0),(11,sl bN 1 NB fun i=>[iv (f i)]),(111,sl bp 2 K fun i=>(P i).cells),(112,iv ↑K),(113,iv (ix+1))]),[fE.var true true (AB q),fE.var true true [AE ns sv],oV Gr,oD,oD,oD,oD,oD,oD,oA 1 true q.m fun i=>[iv (row' (2*(↑L:Int)) i)]]):=
 aM Bl CY _ (.mk (dS 75048346786673482) [] [some (Ba ct P ix)] [some ((J2 q row' L))] [some (some (BO j L l)),some (none)]) (kO (kz q0 (kz q1 (kz q2 (kz q3 (kz q4 AN)))))) (rI (ix+1) (.cons (ihf (by simp_all) (2*(↑L:Int)) (by first | omega | simp_all<;>omega) (by first | omega | simp_all<;>omega)) (.cons (ihc (P ix.toNat).left) (.cons (fgN (by simp_all) (by assumption)) (rI (2*(↑L:Int)) (.cons (fy (by simp_all)) (rB ix K .nil))))))) 18173039004871896699856737152273652 519 [0,1,2,3,4,5,6,7,8,9] 10
theorem ABt (q0:Ah ix K)(q1:(mt)=false)(q2:((P ix.toNat).right==q.uO)=false)(q3:((P ix.toNat).left != q.uO)=false):sR 10 (cB (AIS)) (frame 173 [(2,pt 0 0),(4,.ms 9 1 0 q.m (some q.m)),(5,pt 2 0),(6,bv false),(7,fc (65) [] BA),(10,pv [iv Vn,AF bN NB B,.im es,iv tot,iv fi] 0),(11,sl bN 1 NB fun i=>[iv (f i)]),(111,sl bp 2 K fun i=>(P i).cells),(112,iv K),(113,iv ix)]) ([fE.var true true (AB q),Ax ns sv,oV J7,oD,oD,oD,oD,oD,oD,oA 1 true q.m fun i=>(AA row i)]) (xN,(frame 173 [(2,pt 0 0),(4,EV.ms 9 1 0 q.m (some q.m)),(5,pt 2 0),(6,bv false),(7,fc (65) [] BA),(10,pv [iv Vn,AF bN NB B,EV.im es,iv tot,iv fi] 0),(11,sl bN 1 NB fun i=>[iv (f i)]),(111,sl bp 2 K fun i=>(P i).cells),(112,iv ↑K),(113,iv (ix+1))]),[fE.var true true (AB q),fE.var true true [AE ns sv],oV Gr,oD,oD,oD,oD,oD,oD,oA 1 true q.m fun i=>[iv (row' (2*(↑L:Int)) i)]]):=
 aM Bl CY _ (.mk (dS 0x10aa012e3333301ae) [] [] [some ((J2 q row' L))] [some (some (BO j L l)),some (none)]) (kO (kz q0 (kz q1 (kz q2 (kz q3 AN))))) (rI (ix+1) (.cons (ihf (by simp_all) (2*(↑L:Int)) (by first | omega | simp_all<;>omega) (by first | omega | simp_all<;>omega)) (.cons (fgN (by simp_all) (by assumption)) (rI (2*(↑L:Int)) (.cons (fy (by simp_all)) (rB ix K .nil)))))) 18173039004871896699856737152273652 519 [0,1,2,3,4,5,6,7,8,9] 10
theorem ABu (q0:Cf ix K):sR 10 (cB (AIS)) (frame 173 [(2,pt 0 0),(4,.ms 9 1 0 q.m (some q.m)),(5,pt 2 0),(6,bv false),(7,fc (65) [] BA),(10,pv [iv Vn,AF bN NB B,.im es,iv tot,iv fi] 0),(11,sl bN 1 NB fun i=>[iv (f i)]),(111,sl bp 2 K fun i=>(P i).cells),(112,iv K),(113,iv ix)]) ([fE.var true true (AB q),Ax ns sv,oV J7,oD,oD,oD,oD,oD,oD,oA 1 true q.m fun i=>(AA row i)]) (xL 4,(P5 q),[fE.var true true (AB q),fE.var true true [AE ns sv],oV Gr,oD,oD,oD,oD,oD,oD,oA 1 true q.m fun i=>(AA row i)]):=
 aM Bl CY _ (.mk (dS 16) [] [] [] []) (kO (kz q0 AN)) .nil 116 519 [0,1,2,3,4,5,6,7,8,9] 10
end
abbrev CQ (a0:fG):=AH a0.n a0.own
noncomputable abbrev AIv (a0:fG):=frame 173 [(2,pt 0 0),(3,pt 1 0),(4,sl false 0 0 fun _=>[]),(5,pt 2 0),(6,bv false),(7,fc (65) [] [pt 0 0,pt 1 0]),(28,AW true (AH a0.n a0.own).length (Co a0)),(29,iv (AH a0.n a0.own).length),(30,iv 0)]
section
variable (q:fG)(ns:Nat)(sv:Nat->Int)(Vn:Int)(NB:Nat)(B:Nat->uN)(es:List (EV×EV))(tot:Int)(fi:Int)(f:Nat->Int)(v:Int)(k:Nat)(s:Nat->Int)(bN:Bool)(G:Nat)(gm:Nat->Int)(bg:Bool)(NG:Nat)(gg:Nat->Int)(r:Int)(row:Nat->Int)
include q ns sv Vn NB B es tot fi f v k s bN G gm bg NG gg r row
theorem ABv (ih3:sL (AIM) (AIv q) [oV (AB q),oV [BI ns sv],oV J7] ((EX.ret,frame 173 [(4,sl false 0 0 fun _=>[]),(5,pt 2 0),(6,bv false)],[fE.var true true (AB q),Ax ns sv,oV [BI ns sv,sl true 1 1 fun _=>[iv r],AW bg NG gg]]):RC)):sP 38 [Ak q,AE ns sv] (tu [AT,ag [AE ns sv,sl true 1 1 fun i=>[iv r],AK bg NG gg],bv false]):=
 kPm Bl CY [[]] (.mk [] [(8,.is 1879048444 7 (EX.ret,(frame 173 [(4,sl false 0 0 fun i=>[]),(5,pt 2 0),(6,bv false)]),[fE.var true true (AB q),fE.var true true [AE ns sv],oV [AE ns sv,sl true 1 1 fun i=>[iv r],AK bg NG gg]]))] [] [] []) (kO AN) (.cons ih3 .nil)
theorem ABw (hv:v<tot)(ihb:sP 60 [Ak q,fc (65) [] (Az q ns sv),bv true,fc (66) (AB q) []] (pv [iv Vn,AF bN NB B,.im es,iv tot,iv fi] 0))(ihm:sP 62 [ag [iv Vn,AF bN NB B]] (tu [AK bN NB f,iv v,AE k s,iv 0]))(ihx:sP 63 [Ak q,BI ns sv,Aq,bv true] (ag [BI ns sv,Aq,AW bg NG gg]))(ih3:sL (AIM) (AIv q) [oV (AB q),oV [BI ns sv],oV J7] ((xL 0,frame 173 [(2,pt 0 0),(3,pt 1 0),(4,sl false 0 0 fun _=>[]),(5,pt 2 0),(6,bv false),(7,fc (65) [] BA)],[fE.var true true (AB q),Ax ns sv,oV J7]):RC))(ih13:sL (AIF) (frame 173 [(2,pt 0 0),(3,pt 1 0),(4,sl false 0 0 fun _=>[]),(5,pt 2 0),(6,bv false),(7,fc (65) [] BA),(10,pv [iv Vn,AF bN NB B,.im es,iv tot,iv fi] 0),(13,AW true k s),(15,sl false 0 0 fun _=>[]),(73,AW true (CQ q).length (Co q)),(74,iv (CQ q).length),(75,iv 0)]) [fE.var true true (AB q),Ax ns sv,oV J7,oD,oD,oD,oD,oD,oD] ((xL 2,frame 173 [(2,pt 0 0),(3,pt 1 0),(4,sl false 0 0 fun _=>[]),(5,pt 2 0),(6,bv false),(15,sl false 0 0 fun _=>[])],[fE.var true true (AB q),Ax ns sv,oV J7,oD,oD,oD,oD,oD,oD]):RC)):sP 38 [Ak q,AE ns sv] (tu [AT,ag [AE ns sv,AT,AK bg NG gg],bv false]):=
 kPm Bl CY [[]] (.mk (dS 26) [(8,.is 1879048444 7 (xL 0,(AIk),[fE.var true true (AB q),fE.var true true [AE ns sv],oV Gr])),(14,.is 66113130760175033033980 7 (xL 2,(P3),[fE.var true true (AB q),fE.var true true [AE ns sv],oV Gr,oD,oD,oD,oD,oD,oD]))] [some (pv [iv Vn,AF bN NB B,EV.im es,iv tot,iv fi] 0),some (tu [AK bN NB f,iv v,AE k s,iv 0]),some (ag [AE ns sv,AT,AK bg NG gg])] [] []) (kO AN) (.cons ihx (.cons ih13 (oI (decide (v<tot)) (.cons ihm (.cons ihb (.cons ih3 .nil))))))
theorem ABx (hv:v<tot)(ihb:sP 60 [Ak q,fc (65) [] (Az q ns sv),bv true,fc (66) (AB q) []] (pv [iv Vn,AF bN NB B,.im es,iv tot,iv fi] 0))(ihm:sP 62 [ag [iv Vn,AF bN NB B]] (tu [AK bN NB f,iv v,AE k s,iv 0]))(ihx:sP 63 [Ak q,BI ns sv,sl true 1 G fun i=>[iv (gm (0+i))],bv true] (ag [BI ns sv,BI G gm,AW bg NG gg]))(ih3:sL (AIM) (AIv q) [oV (AB q),oV [BI ns sv],oV J7] ((xL 0,frame 173 [(2,pt 0 0),(3,pt 1 0),(4,sl false 0 0 fun _=>[]),(5,pt 2 0),(6,bv false),(7,fc (65) [] BA)],[fE.var true true (AB q),Ax ns sv,oV J7]):RC))(ih13:sL (AIF) (frame 173 [(2,pt 0 0),(3,pt 1 0),(4,sl false 0 0 fun _=>[]),(5,pt 2 0),(6,bv false),(7,fc (65) [] BA),(10,pv [iv Vn,AF bN NB B,.im es,iv tot,iv fi] 0),(13,AW true k s),(15,sl false 0 0 fun _=>[]),(73,AW true (CQ q).length (Co q)),(74,iv (CQ q).length),(75,iv 0)]) [fE.var true true (AB q),Ax ns sv,oV J7,oD,oD,oD,oD,oD,oD] ((xL 2,frame 173 [(2,pt 0 0),(3,pt 1 0),(4,sl false 0 0 fun _=>[]),(5,pt 2 0),(6,bv false),(15,EV.ms 9 1 0 G none)],[fE.var true true (AB q),Ax ns sv,oV J7,oD,oD,oD,oD,oD,oD,oA 1 false G fun i=>(AA gm i)]):RC)):sP 38 [Ak q,AE ns sv] (tu [AT,ag [AE ns sv,AE G gm,AK bg NG gg],bv false]):=
 kPm Bl CY [[]] (.mk (dS 26) [(8,.is 1879048444 7 (xL 0,(AIk),[fE.var true true (AB q),fE.var true true [AE ns sv],oV Gr])),(14,.is 66113130760175033033980 7 (xL 2,(P4 G),[fE.var true true (AB q),fE.var true true [AE ns sv],oV Gr,oD,oD,oD,oD,oD,oD,oA 1 false G fun i=>(AA gm i)]))] [some (pv [iv Vn,AF bN NB B,EV.im es,iv tot,iv fi] 0),some (tu [AK bN NB f,iv v,AE k s,iv 0]),some (ag [AE ns sv,AE G gm,AK bg NG gg])] [] []) (kO AN) (.cons ihx (.cons ih13 (oI (decide (v<tot)) (.cons ihm (.cons ihb (.cons ih3 .nil))))))
theorem ABy (hv:tot<=v)(hm:q.m<=1000)(ihb:sP 60 [Ak q,fc (65) [] (Az q ns sv),bv true,fc (66) (AB q) []] (pv [iv Vn,AF bN NB B,.im es,iv tot,iv fi] 0))(ihm:sP 62 [ag [iv Vn,AF bN NB B]] (tu [AK bN NB f,iv v,AE k s,iv 0]))(ih3:sL (AIM) (AIv q) [oV (AB q),oV [BI ns sv],oV J7] ((xL 0,frame 173 [(2,pt 0 0),(3,pt 1 0),(4,sl false 0 0 fun _=>[]),(5,pt 2 0),(6,bv false),(7,fc (65) [] BA)],[fE.var true true (AB q),Ax ns sv,oV J7]):RC))(ih21:sL (AIS) (frame 173 [(2,pt 0 0),(4,.ms 9 1 0 (q.m:Int).toNat (some (q.m:Int).toNat)),(5,pt 2 0),(6,bv false),(7,fc (65) [] BA),(10,pv [iv Vn,AF bN NB B,.im es,iv tot,iv fi] 0),(11,sl bN 1 NB fun i=>[iv (f i)]),(111,sl (!(BB q).isEmpty) 2 (BB q).length fun i=>(aK (BB q) i).cells),(112,iv (BB q).length),(113,iv 0)]) [fE.var true true (AB q),Ax ns sv,oV J7,oD,oD,oD,oD,oD,oD,oA 1 true (q.m:Int).toNat fun i=>[iv 0]] ((xL 4,frame 173 [(2,pt 0 0),(4,.ms 9 1 0 q.m (some q.m)),(5,pt 2 0),(6,bv false)],[fE.var true true (AB q),Ax ns sv,oV J7,oD,oD,oD,oD,oD,oD,oA 1 true q.m fun i=>(AA row i)]):RC)):sP 38 [Ak q,AE ns sv] (tu [sl true 1 q.m fun i=>[iv (row (0+i))],ag Gr,bv true]):=
 kPm Bl CY [[]] (.mk (dS 442) [(8,.is 1879048444 7 (xL 0,(AIk),[fE.var true true (AB q),fE.var true true [AE ns sv],oV Gr])),(15,.is 18173039004871896699856737152273652 519 (xL 4,(P5 q),[fE.var true true (AB q),fE.var true true [AE ns sv],oV Gr,oD,oD,oD,oD,oD,oD,oA 1 true q.m fun i=>(AA row i)]))] [some (pv [iv Vn,AF bN NB B,EV.im es,iv tot,iv fi] 0),some (tu [AK bN NB f,iv v,AE k s,iv 0])] [] []) (kO AN) (.cons ih21 (oS (Eu q) (oI (decide (v<tot)=false) (.cons ihm (.cons ihb (.cons ih3 .nil))))))
end
section
variable {q:fG}{ns:Nat}{sv:Nat->Int}{Vn:Int}{NB:Nat}{B:Nat->uN}{es:List (EV×EV)}{tot fi:Int}{f:Nat->Int}{v:Int}{k0:Nat}{s:Nat->Int}{bN:Bool}{ct:Int->Bool}
 (hns:ns<=900) (hfi:0<=fi/\fi<=1000) (hsv:∀ i,i<ns->0<=sv i/\sv i<=1000) (ihc:∀ x:Int,uY prog fF 45 [AW true k0 s,.int .i64 x] (.bool (ct x)))
abbrev t7T (q:fG)(ns:Nat)(sv:Nat->Int)(Vn:Int)(NB:Nat)(B:Nat->uN)(es:List (EV×EV))(tot fi:Int)(k0:Nat)(s:Nat->Int)(bN:Bool)(pr:EV)(i:Int):List EV:=frame 148 [(0,EV.ip (AD q) 0),(3,.ptr 0 0),(4,Av),(5,.ptr 1 0),(6,.bool false),(8,EV.ip [.int .i64 Vn,.uS bN 3 NB fun i=>(B i).cells,.im es,.int .i64 tot,.int .i64 fi] 0),(11,AW true k0 s),(13,pr),(44,AW true ns sv),(45,.int .i64 ns),(46,.int .i64 i)]
abbrev t7E (q:fG)(pr:EV):List EV:=frame 148 [(0,EV.ip (AD q) 0),(3,.ptr 0 0),(4,Av),(5,.ptr 1 0),(6,.bool false),(13,pr)]
abbrev w6 (ns:Nat)(sv:Nat->Int):AL:=[fE.var true true [AW true ns sv],fE.var false true [Av,Av,Av],fE.dead,fE.dead,fE.dead,fE.dead,fE.dead,fE.dead]
abbrev w7 (ns:Nat)(sv:Nat->Int)(G:Nat)(gm:Nat->Int):AL:=[fE.var true true [AW true ns sv],fE.var false true [Av,Av,Av],fE.dead,fE.dead,fE.dead,fE.dead,fE.dead,fE.dead,fE.arr false true 1 false G fun i=>[.int .i64 (gm i)]]
include hns hfi hsv ihc
theorem w8:∀ (k i G:Nat) (gm:Nat->Int),i+k=ns->G<=i->∃ G' gm',G'<=ns/\uM prog fF false 8 XA (t7T q ns sv Vn NB B es tot fi k0 s bN (.ms 8 1 0 G none) i) (w7 ns sv G gm) (EX.leave 0,t7E q (.ms 8 1 0 G' none),w7 ns sv G' gm')
 | 0,i,G,gm,h,hG=>by
  obtain rfl:i=ns:=by omega
  exact ⟨G,gm,by omega,uM.aC (ABc q i sv Vn NB B es tot fi (fun _=>0) 0 k0 s bN ct G gm i (by omega) (by omega) (by omega) hfi.1 hfi.2 (fun h=>absurd h (by omega)) ihc (uL (by omega))) (by simp)⟩
 | k+1,i,G,gm,h,hG=>by
  have q0:(Decidable.decide ((i:Int)<(ns:Int)))=true:=uK (by omega);have hs:(i:Int)<ns->0<=sv ((i:Nat):Int).toNat/\sv ((i:Nat):Int).toNat<=1000:=fun _=>hsv i (by omega);rcases hA:ct (fi+sv i) with _ | _
  ·obtain ⟨G1,gm1,g1,h1⟩:=w8 k (i+1) (G+1) (fun p=>if p<G then gm p else sv i) (by omega) (by omega);refine ⟨G1,gm1,g1,uM.uQ (uR.weaken (ABa q ns sv Vn NB B es tot fi (fun _=>0) 0 k0 s bN ct G gm i (by omega) (by omega) (by omega) hfi.1 hfi.2 hs ihc q0 (by show (!ct (fi+sv i))=true; rw [hA]; rfl)) (uI _) (.cons (uH _) (.cons (uH _) (.cons (uH _) (.cons (uH _) (.cons (uH _) (.cons (uH _) (.cons (uH _) (.cons (uH _) (.cons (uU.arr fun p hp=>?_) .nil)))))))))) h1⟩;simp only [Ar,uJ];split
   ·rfl
   ·obtain rfl:p=G:=by omega
    simp
  ·obtain ⟨G1,gm1,g1,h1⟩:=w8 k (i+1) G gm (by omega) (by omega);exact ⟨G1,gm1,g1,uM.uQ (ABb q ns sv Vn NB B es tot fi (fun _=>0) 0 k0 s bN ct G gm i (by omega) (by omega) (by omega) hfi.1 hfi.2 hs ihc q0 (by show (!ct (fi+sv i))=false; rw [hA]; rfl)) h1⟩
theorem ABz:∀ (k i:Nat),i+k=ns->uM prog fF false 8 XA (t7T q ns sv Vn NB B es tot fi k0 s bN Av i) (w6 ns sv) (EX.leave 0,t7E q Av,w6 ns sv)∨
  ∃ G' gm',G'<=ns/\uM prog fF false 8 XA (t7T q ns sv Vn NB B es tot fi k0 s bN Av i) (w6 ns sv) (EX.leave 0,t7E q (.ms 8 1 0 G' none),w7 ns sv G' gm')
 | 0,i,h=>by
  obtain rfl:i=ns:=by omega
  exact .inl (uM.aC (ABY q i sv Vn NB B es tot fi (fun _=>0) 0 k0 s bN ct 0 (fun _=>0) i (by omega) (by omega) (by omega) hfi.1 hfi.2 (fun h=>absurd h (by omega)) ihc (uL (by omega))) (by simp))
 | k+1,i,h=>by
  have q0:(Decidable.decide ((i:Int)<(ns:Int)))=true:=uK (by omega);have hs:(i:Int)<ns->0<=sv ((i:Nat):Int).toNat/\sv ((i:Nat):Int).toNat<=1000:=fun _=>hsv i (by omega);rcases hA:ct (fi+sv i) with _ | _
  ·obtain ⟨G1,gm1,g1,h1⟩:=w8 hns hfi hsv ihc (q:=q) (Vn:=Vn) (NB:=NB) (B:=B) (es:=es) (tot:=tot) (bN:=bN) k (i+1) 1 (fun _=>sv i) (by omega) (by omega);refine Or.inr ⟨G1,gm1,g1,uM.uQ (uR.weaken (ABW q ns sv Vn NB B es tot fi (fun _=>0) 0 k0 s bN ct 0 (fun _=>0) i (by omega) (by omega) (by omega) hfi.1 hfi.2 hs ihc q0 (by show (!ct (fi+sv i))=true; rw [hA]; rfl)) (uI _) (.cons (uH _) (.cons (uH _) (.cons (uH _) (.cons (uH _) (.cons (uH _) (.cons (uH _) (.cons (uH _) (.cons (uH _) (.cons (uU.arr fun p hp=>?_) .nil)))))))))) h1⟩;obtain rfl:p=0:=by omega
   rfl
  ·have st:=ABX q ns sv Vn NB B es tot fi (fun _=>0) 0 k0 s bN ct 0 (fun _=>0) i (by omega) (by omega) (by omega) hfi.1 hfi.2 hs ihc q0 (by show (!ct (fi+sv i))=false; rw [hA]; rfl);rcases ABz k (i+1) (by omega) with h1 | ⟨G',gm',g1,h1⟩
   ·exact Or.inl (uM.uQ st h1)
   ·exact Or.inr ⟨G',gm',g1,uM.uQ st h1⟩
end
def dD (q:fG)(hf:Nat×Nat->Int)(ps:List (Nat×Nat))(row:Nat->Int):Prop:=
 ∀ p,p∈ps->(∀ g,g∈AO q.gp q.m p->1<=row g/\row g<=3)/\BV (Ec q p row) (AO q.gp q.m p)=hf p
theorem YM {α:Type}{φ ψ:α->Int}:∀ {l:List α},(∀ x,x∈l->φ x=ψ x)->BV φ l=BV ψ l:=fun h=>DI h
theorem Kg {gp:Nat->Nat×Nat}{m g:Nat}{p:Nat×Nat}(h:g∈AO gp m p):gp g=p:=of_decide_eq_true (List.mem_filter.1 h).2
theorem dD.step {q:fG}{hf:Nat×Nat->Int}{ps:List (Nat×Nat)}{p:Nat×Nat}{row row':Nat->Int}(h:dD q hf ps row)(hp:p ∉ ps)
  (h1:∀ g,g ∉ AO q.gp q.m p->row' g=row g) (h2:∀ g,g∈AO q.gp q.m p->1<=row' g/\row' g<=3) (h3:BV (Ec q p row') (AO q.gp q.m p)=hf p):dD q hf (ps++[p]) row':=fun r hr=>by
 rcases List.mem_append.1 hr with hr | hr
 ·have hne:∀ g,g∈AO q.gp q.m r->row' g=row g:=fun g hg=>h1 g fun hg2=>hp (by rw [<-Kg hg2,Kg hg]; exact hr);obtain ⟨a,b⟩:=h r hr;refine ⟨fun g hg=>by rw [hne g hg]; exact a g hg,?_⟩;rw [<-b];exact YM fun g hg=>by rw [Ec,Ec,hne g hg]
 ·obtain rfl:=List.mem_singleton.1 hr;exact ⟨h2,h3⟩
theorem Rj {q:fG}(hq:q.Ok){p:Nat×Nat}(hp:p∈AG q q.m)(row:Nat->Int):
  ∃ row':Int->Nat->Int,(∀ h:Int,0<=h->h<=1000000->aA prog fF 64 [EV.ip (AD q) 0,EV.ms 0 1 0 q.m (some q.m),EV.agg [.int .i64 p.1,.int .i64 p.2],.int .i64 h] [OT q row] (EV.tuple []) [OT q (row' h)])/\
   ∀ h:Int,0<=h->h<=2*((AO q.gp q.m p).length:Int)->(∀ g,g ∉ AO q.gp q.m p->row' h g=row g)/\(∀ g,g∈AO q.gp q.m p->1<=row' h g/\row' h g<=3)/\BV (Ec q p (row' h)) (AO q.gp q.m p)=h:=by
 have hm:=hq.m;have hL:=Cs (gp:=q.gp) (m:=q.m) (p:=p);obtain ⟨n,hfy⟩:=Sm hp;have all:∀ h:Int,∃ row':Nat->Int,0<=h->h<=1000000->aA prog fF 64 [EV.ip (AD q) 0,EV.ms 0 1 0 q.m (some q.m),EV.agg [.int .i64 p.1,.int .i64 p.2],.int .i64 h] [OT q row] (EV.tuple []) [OT q row']/\
   (∀ g,g ∉ AO q.gp q.m p->row' g=row g)/\(∀ g,g∈AO q.gp q.m p->1<=row' g/\row' g<=3)/\BV (Ec q p row') (AO q.gp q.m p)=min h (2*((AO q.gp q.m p).length:Int)):=fun h=>by
  by_cases hh:0<=h/\h<=1000000
  ·obtain ⟨row',r1,r2,r3,r4⟩:=Pw hq (p:=p) (AO q.gp q.m p).length 0 h row (by omega) hh.1 hh.2;exact ⟨row',fun _ _=>⟨ABU q row ⟨p.1,p.2⟩ h _ _ n true row' rfl hfy (r1.cl (path:=ABP) (by kernel_rfl) (by kernel_rfl)),r2,r3,r4⟩⟩
  ·exact ⟨row,fun a b=>absurd ⟨a,b⟩ hh⟩
 obtain ⟨row',hr⟩:=Classical.axiomOfChoice all;refine ⟨row',fun h a b=>(hr h a b).1,fun h a b=>?_⟩;obtain ⟨_,r2,r3,r4⟩:=hr h a (by omega);exact ⟨r2,r3,by rw [r4]; omega⟩
section
variable {q:fG}(hq:q.Ok){ns:Nat}{sv:Nat->Int}{Vn:Int}{NB:Nat}{B:Nat->uN}{es:List (EV×EV)}{tot fi:Int}{f:Nat->Int}{bN:Bool}{hf:Nat×Nat->Int}
 (hgive:∀ p,p∈AG q q.m->∃ (mt:Bool) (jg:Nat) (ga gb:Int),(mt=true->BM prog 94 (FM p) es 0 (some (jg,.agg [.int .i64 ga,.int .i64 gb])))/\(mt=false->BM prog 94 (FM p) es 0 none)/\gb<NB/\(gb<0∨(0<=f gb.toNat/\f gb.toNat<=2*((AO q.gp q.m p).length:Int)))/\
  hf p=if mt=true then (if gb>=0 then (if ga<0 then 0 else 2*((AO q.gp q.m p).length:Int) - f gb.toNat) else 2*((AO q.gp q.m p).length:Int)) else if p.1=q.own then 0 else 2*((AO q.gp q.m p).length:Int))
abbrev YN (q:fG)(Vn:Int)(NB:Nat)(B:Nat->uN)(es:List (EV×EV))(tot fi:Int)(f:Nat->Int)(bN:Bool)(i:Int):List EV:=frame 148 [(0,EV.ip (AD q) 0),(4,.ms 8 1 0 q.m (some q.m)),(5,.ptr 1 0),(6,.bool false),(8,EV.ip [.int .i64 Vn,.uS bN 3 NB fun i=>(B i).cells,.im es,.int .i64 tot,.int .i64 fi] 0),(9,.uS bN 1 NB fun i=>[.int .i64 (f i)]),(78,.uS (!(AG q q.m).isEmpty) 2 (AG q q.m).length fun i=>(aK (AG q q.m) i).cells),(79,.int .i64 (AG q q.m).length),(80,.int .i64 i)]
abbrev VX (q:fG)(ns:Nat)(sv:Nat->Int)(row:Nat->Int):AL:=[fE.var true true [AW true ns sv],fE.var false true [Av,Av,Av],fE.dead,fE.dead,fE.dead,fE.dead,fE.dead,fE.dead,OT q row]
include hq hgive
theorem ZI:∀ (k i:Nat) (row:Nat->Int),i+k=(AG q q.m).length->dD q hf ((AG q q.m).take i) row->
  ∃ row',uM prog fF false 9 XB (YN q Vn NB B es tot fi f bN i) (VX q ns sv row) (EX.leave 2,frame 148 [(0,EV.ip (AD q) 0),(4,.ms 8 1 0 q.m (some q.m)),(5,.ptr 1 0),(6,.bool false)],VX q ns sv row')/\dD q hf (AG q q.m) row'
 | 0,i,row,h,hF=>by
  have hm:=hq.m;have hpl:=Df (q:=q) q.m;obtain rfl:i=(AG q q.m).length:=by omega
  rw [List.take_length] at hF;exact ⟨row,uM.aC (ABj q ns sv Vn NB B es tot fi f 0 0 (fun _=>0) bN _ (aK (AG q q.m)) _ row (fun _=>row) 0 0 (fun _=>0) true false 0 0 (-1) _ (by omega) (by omega) (by omega) rfl (by omega) (.inl (by omega)) (fun h=>absurd h (by omega)) (fun h=>absurd h (by omega)) (fun h=>absurd h (by omega)) (fun h=>absurd h (by omega)) (uL (by omega))) (by simp),hF⟩
 | k+1,i,row,h,hF=>by
  have hm:=hq.m;have hpl:=Df (q:=q) q.m;have hi:i<(AG q q.m).length:=by omega
  have q0:(Decidable.decide ((i:Int)<((AG q q.m).length:Int)))=true:=uK (by omega);have hp:(AG q q.m).getD i (0,0)∈AG q q.m:=D9 hi;have hg:(AG q q.m).getD i (0,0)=(AG q q.m)[i]:=by rw [uA,uD hi]; rfl
  have hnd:=Bo (q:=q) q.m;have ht:(AG q q.m).take (i+1)=(AG q q.m).take i++[(AG q q.m).getD i (0,0)]:=by
   rw [List.take_add_one,uD hi,hg]; rfl
  have hno:(AG q q.m).getD i (0,0) ∉ (AG q q.m).take i:=fun x=>by
   rw [hg] at x;obtain ⟨j,hj,e⟩:=List.mem_take_iff_getElem.1 x;have:=(List.getElem_inj hnd (h₀:=by omega) (h₁:=hi)).1 e;omega
  obtain ⟨mt,jg,ga,gb,y1,y2,y3,y4,y5⟩:=hgive _ hp;obtain ⟨n,l,hfy⟩:=Jz hp;obtain ⟨row',r1,r2⟩:=Rj hq hp row;have hL:=Cs (gp:=q.gp) (m:=q.m) (p:=(AG q q.m).getD i (0,0));have hb:(((aK (AG q q.m) ((i:Nat):Int).toNat).left==q.uO):Bool)=decide (((AG q q.m).getD i (0,0)).1=q.own):=by
   have hc:=hq.uO;rw [Bool.eq_iff_iff,beq_iff_eq,decide_eq_true_iff];show ((((AG q q.m).getD i (0,0)).1:Nat):Int)=q.uO↔((AG q q.m).getD i (0,0)).1=q.uO.toNat;omega
  have go:∀ x:Int,0<=x->x<=2*((AO q.gp q.m ((AG q q.m).getD i (0,0))).length:Int)->hf ((AG q q.m).getD i (0,0))=x->
    uR prog fF false 9 XB (YN q Vn NB B es tot fi f bN i) (VX q ns sv row) (EX.normal,YN q Vn NB B es tot fi f bN ((i:Int)+1),VX q ns sv (row' x))->
    ∃ row',uM prog fF false 9 XB (YN q Vn NB B es tot fi f bN i) (VX q ns sv row) (EX.leave 2,frame 148 [(0,EV.ip (AD q) 0),(4,.ms 8 1 0 q.m (some q.m)),(5,.ptr 1 0),(6,.bool false)],VX q ns sv row')/\dD q hf (AG q q.m) row':=fun x a b e st=>by
   obtain ⟨z1,z2,z3⟩:=r2 x a b;have hF':=hF.step hno z1 z2 (by rw [z3,e]);rw [<-ht] at hF';obtain ⟨rw',w1,w2⟩:=ZI k (i+1) (row' x) (by omega) hF';exact ⟨rw',uM.uQ st w1,w2⟩
  have fy:(i:Int)<(AG q q.m).length->BM prog 94 (EV.agg (aK (AG q q.m) ((i:Nat):Int).toNat).cells) (D0 q) 0 (some (n,.uS true 1 (AO q.gp q.m ((AG q q.m).getD i (0,0))).length fun x=>[.int .i64 (l x)])):=fun _=>hfy;have com:=fun (x:Nat)=>x;rcases mt with _ | _
  ·by_cases ho:((AG q q.m).getD i (0,0)).1=q.own
   ·refine go 0 (by omega) (by omega) (by rw [y5,if_neg (by simp),if_pos ho]) (ABh q ns sv Vn NB B es tot fi f 0 0 (fun _=>0) bN _ (aK (AG q q.m)) _ row row' n _ l true false jg ga gb i (by omega) (by omega) (by omega) rfl y3 y4 fy (fun _=>y1) (fun _=>y2) (fun _=>r1) q0 rfl (by rw [hb]; exact uK ho))
   ·refine go _ (by omega) (Int.le_refl _) (by rw [y5,if_neg (by simp),if_neg ho]) (ABi q ns sv Vn NB B es tot fi f 0 0 (fun _=>0) bN _ (aK (AG q q.m)) _ row row' n _ l true false jg ga gb i (by omega) (by omega) (by omega) rfl y3 y4 fy (fun _=>y1) (fun _=>y2) (fun _=>r1) q0 rfl (by rw [hb]; exact uL ho))
  ·rw [if_pos rfl] at y5;by_cases h1:gb>=0
   ·rw [if_pos h1] at y5;by_cases h2:ga<0
    ·rw [if_pos h2] at y5;exact go 0 (by omega) (by omega) y5 (ABe q ns sv Vn NB B es tot fi f 0 0 (fun _=>0) bN _ (aK (AG q q.m)) _ row row' n _ l true true jg ga gb i (by omega) (by omega) (by omega) rfl y3 y4 fy (fun _=>y1) (fun _=>y2) (fun _=>r1) q0 rfl (uK h1) (uK h2))
    ·rw [if_neg h2] at y5;exact go _ (by omega) (by omega) y5 (ABf q ns sv Vn NB B es tot fi f 0 0 (fun _=>0) bN _ (aK (AG q q.m)) _ row row' n _ l true true jg ga gb i (by omega) (by omega) (by omega) rfl y3 y4 fy (fun _=>y1) (fun _=>y2) (fun _=>r1) q0 rfl (uK h1) (uL h2))
   ·rw [if_neg h1] at y5;exact go _ (by omega) (Int.le_refl _) y5 (ABg q ns sv Vn NB B es tot fi f 0 0 (fun _=>0) bN _ (aK (AG q q.m)) _ row row' n _ l true true jg ga gb i (by omega) (by omega) (by omega) rfl y3 y4 fy (fun _=>y1) (fun _=>y2) (fun _=>r1) q0 rfl (uL h1))
end
abbrev XE:EV:=EV.func (.func 65) [] [.ptr 0 0,.ptr 1 0]
abbrev sH0 (q:fG)(ns:Nat)(sv:Nat->Int):AL:=[fE.var true true [EV.ip (AD q) 0],fE.var true true [AW true ns sv],fE.var false true [Av,Av,Av]]
abbrev s3T (q:fG)(i:Int):List EV:=frame 173 [(2,.ptr 0 0),(3,.ptr 1 0),(4,Av),(5,.ptr 2 0),(6,.bool false),(7,XE),(28,AW true (AH q.n q.own).length (Co q)),(29,.int .i64 (AH q.n q.own).length),(30,.int .i64 i)]
theorem LU {q:fG}{i:Nat}(hi:i<(AH q.n q.own).length):Co q ((i:Nat):Int).toNat=(((AH q.n q.own)[i]:Nat):Int):=by
 show (((AH q.n q.own).getD i 0:Nat):Int)=_;rw [uA,uD hi]; rfl
theorem Dg {q:fG}(hq:q.Ok):(AH q.n q.own).length<=900:=by
 have:=hq.n2;have h:=List.length_filter_le (fun x=>decide (x≠q.own)) (List.range q.n);rw [List.length_range] at h;have:(AH q.n q.own).length<=q.n:=h;omega
section
variable {q:fG}(hq:q.Ok){ns:Nat}{sv:Nat->Int}{ct:Int->Bool}{tk:Int->Int}
 (ihc:∀ x:Int,uY prog fF 65 [.int .i64 x,EV.ip [EV.ip (AD q) 0] 0,EV.ip [AW true ns sv] 0] (.bool (ct x)))
include hq ihc
theorem XF (iht:∀ x:Int,0<=x->x<q.m'->uY prog fF 66 [EV.ip (AD q) 0,.int .i64 x] (.int .i64 (tk x)))
 (ihx:∀ r:Int,∃ (bg:Bool) (NG:Nat) (gg:Nat->Int),uY prog fF 63 [EV.ip (AD q) 0,AW true ns sv,.uS true 1 1 fun i=>[[EV.int .i64 r]].getD (0+i) [],EV.bool true] (EV.agg [AW true ns sv,.uS true 1 1 fun _=>[.int .i64 r],AW bg NG gg])):
 ∀ (k i:Nat),i+k=(AH q.n q.own).length->
 ((∀ r,r∈(AH q.n q.own).drop i->ct (r:Nat)=true->0<=tk (r:Nat))/\uM prog fF false 3 XC (s3T q i) (sH0 q ns sv) (EX.leave 0,frame 173 [(2,.ptr 0 0),(3,.ptr 1 0),(4,Av),(5,.ptr 2 0),(6,.bool false),(7,XE)],sH0 q ns sv))∨
 ∃ (r:Nat) (bg:Bool) (NG:Nat) (gg:Nat->Int),r∈AH q.n q.own/\ct r=true/\tk r<0/\uM prog fF false 3 XC (s3T q i) (sH0 q ns sv) (EX.ret,frame 173 [(4,Av),(5,.ptr 2 0),(6,.bool false)],[fE.var true true [EV.ip (AD q) 0],fE.var true true [AW true ns sv],fE.var false true [AW true ns sv,.uS true 1 1 fun _=>[.int .i64 (r:Nat)],AW bg NG gg]])
 | 0,i,h=>by
  have hl:=Dg hq;obtain rfl:i=(AH q.n q.own).length:=by omega
  obtain ⟨bg,NG,gg,hx⟩:=ihx (Co q ((((AH q.n q.own).length:Nat):Int)).toNat);exact .inl ⟨fun r hr=>absurd hr (by rw [List.drop_length]; simp),uM.aC (ADZ q ns sv ct tk (AH q.n q.own).length (Co q) bg NG gg (AH q.n q.own).length (by omega) (by omega) (fun h=>absurd h (by omega)) (fun h=>absurd h (by omega)) ihc iht hx (uL (by omega))) (by simp)⟩
 | k+1,i,h=>by
  have hl:=Dg hq;have hi:i<(AH q.n q.own).length:=by omega
  have hm:=Cy.1 (List.getElem_mem hi);have e:=LU hi;have q0:(Decidable.decide ((i:Int)<((AH q.n q.own).length:Int)))=true:=uK (by omega);obtain ⟨bg,NG,gg,hx⟩:=ihx (Co q ((i:Nat):Int).toNat);have hv:(i:Int)<((AH q.n q.own).length:Int)->0<=Co q ((i:Nat):Int).toNat:=fun _=>by rw [e]; omega
  have hv2:(i:Int)<((AH q.n q.own).length:Int)->Co q ((i:Nat):Int).toNat<q.m':=fun _=>by rw [e,hq.np.2]; omega
  have hd:(AH q.n q.own).drop i=(AH q.n q.own)[i] :: (AH q.n q.own).drop (i+1):=(List.drop_eq_getElem_cons hi)
  have go:(ct (((AH q.n q.own)[i]:Nat):Int)=true->0<=tk (((AH q.n q.own)[i]:Nat):Int))->uR prog fF false 3 XC (s3T q i) (sH0 q ns sv) (EX.normal,s3T q ((i:Int)+1),sH0 q ns sv)->(((∀ r,r∈(AH q.n q.own).drop i->ct (r:Nat)=true->0<=tk (r:Nat))/\uM prog fF false 3 XC (s3T q i) (sH0 q ns sv) (EX.leave 0,frame 173 [(2,.ptr 0 0),(3,.ptr 1 0),(4,Av),(5,.ptr 2 0),(6,.bool false),(7,XE)],sH0 q ns sv))∨
 ∃ (r:Nat) (bg:Bool) (NG:Nat) (gg:Nat->Int),r∈AH q.n q.own/\ct r=true/\tk r<0/\uM prog fF false 3 XC (s3T q i) (sH0 q ns sv) (EX.ret,frame 173 [(4,Av),(5,.ptr 2 0),(6,.bool false)],[fE.var true true [EV.ip (AD q) 0],fE.var true true [AW true ns sv],fE.var false true [AW true ns sv,.uS true 1 1 fun _=>[.int .i64 (r:Nat)],AW bg NG gg]])):=fun hh st=>by
   rcases XF iht ihx k (i+1) (by omega) with ⟨x1,x2⟩ | ⟨r,bg,NG,gg,x1,x2,x3,x4⟩
   ·refine Or.inl ⟨fun r hr hc=>?_,uM.uQ st x2⟩;rw [hd,List.mem_cons] at hr;rcases hr with rfl | hr
    ·exact hh hc
    ·exact x1 r hr hc
   ·exact Or.inr ⟨r,bg,NG,gg,x1,x2,x3,uM.uQ st x4⟩
  rcases hA:ct (((AH q.n q.own)[i]:Nat):Int) with _ | _
  ·refine go (fun x=>by rw [hA] at x; cases x) (ADY q ns sv ct tk (AH q.n q.own).length (Co q) bg NG gg i (by omega) (by omega) hv hv2 ihc iht hx q0 (by rw [e]; exact hA))
  ·by_cases hB:tk (((AH q.n q.own)[i]:Nat):Int)<0
   ·have st:=ADW q ns sv ct tk (AH q.n q.own).length (Co q) bg NG gg i (by omega) (by omega) hv hv2 ihc iht hx q0 (by rw [e]; exact hA) (by rw [e]; exact uK hB);rw [e] at st;exact Or.inr ⟨(AH q.n q.own)[i],bg,NG,gg,List.getElem_mem hi,hA,hB,uM.aC (uR.weaken st (FLe.vles (by rfl) (.drop (.drop (.uX (bL.refl _) (.uX (bL.refl _) (.uX (bL.refl _) (.drop .nil))))))) (eW.refl _)) (by simp)⟩
   ·exact go (fun _=>by omega) (ADX q ns sv ct tk (AH q.n q.own).length (Co q) bg NG gg i (by omega) (by omega) hv hv2 ihc iht hx q0 (by rw [e]; exact hA) (by rw [e]; exact uL hB))
end
section
variable {q:fG}(hq:q.Ok){ns:Nat}{sv:Nat->Int}{Vn:Int}{NB:Nat}{B:Nat->uN}{es:List (EV×EV)}{tot fi:Int}{f:Nat->Int}{k0:Nat}{s:Nat->Int}{bN:Bool}{ct cs:Int->Bool}
 (hfi:0<=fi/\fi<=1000) (ihc:∀ x:Int,uY prog fF 65 [.int .i64 x,EV.ip [EV.ip (AD q) 0] 0,EV.ip [AW true ns sv] 0] (.bool (ct x)))
 (ihs:∀ x:Int,uY prog fF 45 [AW true k0 s,.int .i64 x] (.bool (cs x)))
abbrev Sn (q:fG)(Vn:Int)(NB:Nat)(B:Nat->uN)(es:List (EV×EV))(tot fi:Int)(k0:Nat)(s:Nat->Int)(bN:Bool)(pr:EV)(i:Int):List EV:=frame 173 [(2,.ptr 0 0),(3,.ptr 1 0),(4,Av),(5,.ptr 2 0),(6,.bool false),(7,XE),(10,EV.ip [.int .i64 Vn,.uS bN 3 NB fun i=>(B i).cells,.im es,.int .i64 tot,.int .i64 fi] 0),(13,AW true k0 s),(15,pr),(73,AW true (AH q.n q.own).length (Co q)),(74,.int .i64 (AH q.n q.own).length),(75,.int .i64 i)]
abbrev XG (pr:EV):List EV:=frame 173 [(2,.ptr 0 0),(3,.ptr 1 0),(4,Av),(5,.ptr 2 0),(6,.bool false),(15,pr)]
abbrev Ml (q:fG)(ns:Nat)(sv:Nat->Int):AL:=[fE.var true true [EV.ip (AD q) 0],fE.var true true [AW true ns sv],fE.var false true [Av,Av,Av],fE.dead,fE.dead,fE.dead,fE.dead,fE.dead,fE.dead]
abbrev TY (q:fG)(ns:Nat)(sv:Nat->Int)(G:Nat)(gm:Nat->Int):AL:=[fE.var true true [EV.ip (AD q) 0],fE.var true true [AW true ns sv],fE.var false true [Av,Av,Av],fE.dead,fE.dead,fE.dead,fE.dead,fE.dead,fE.dead,fE.arr false true 1 false G fun i=>[.int .i64 (gm i)]]
include hq hfi ihc ihs
theorem TZ:∀ (k i G:Nat) (gm:Nat->Int),i+k=(AH q.n q.own).length->G<=i->∃ G' gm',G'<=1000/\uM prog fF false 9 MO (Sn q Vn NB B es tot fi k0 s bN (.ms 9 1 0 G none) i) (TY q ns sv G gm) (EX.leave 2,XG (.ms 9 1 0 G' none),TY q ns sv G' gm')
 | 0,i,G,gm,h,hG=>by
  have hl:=Dg hq;obtain rfl:i=(AH q.n q.own).length:=by omega
  exact ⟨G,gm,by omega,uM.aC (w5 q ns sv Vn NB B es tot fi (fun _=>0) 0 k0 s bN ct cs _ (Co q) G gm _ (by omega) (by omega) (by omega) hfi.1 hfi.2 (fun h=>absurd h (by omega)) ihc ihs (uL (by omega))) (by simp)⟩
 | k+1,i,G,gm,h,hG=>by
  have hl:=Dg hq;have hn:=hq.n2;have hi:i<(AH q.n q.own).length:=by omega
  have hm:=Cy.1 (List.getElem_mem hi);have e:=LU hi;have q0:(Decidable.decide ((i:Int)<((AH q.n q.own).length:Int)))=true:=uK (by omega);have hs:(i:Int)<((AH q.n q.own).length:Int)->0<=Co q ((i:Nat):Int).toNat/\Co q ((i:Nat):Int).toNat<=1000:=fun _=>by rw [e]; omega
  rcases hA:ct (Co q ((i:Nat):Int).toNat) with _ | _
  ·obtain ⟨G1,gm1,g1,h1⟩:=TZ k (i+1) G gm (by omega) (by omega);exact ⟨G1,gm1,g1,uM.uQ (w4 q ns sv Vn NB B es tot fi (fun _=>0) 0 k0 s bN ct cs _ (Co q) G gm i (by omega) (by omega) (by omega) hfi.1 hfi.2 hs ihc ihs q0 hA) h1⟩
  ·rcases hB:cs (fi+Co q ((i:Nat):Int).toNat) with _ | _
   ·obtain ⟨G1,gm1,g1,h1⟩:=TZ k (i+1) G gm (by omega) (by omega);exact ⟨G1,gm1,g1,uM.uQ (wZ q ns sv Vn NB B es tot fi (fun _=>0) 0 k0 s bN ct cs _ (Co q) G gm i (by omega) (by omega) (by omega) hfi.1 hfi.2 hs ihc ihs q0 hA hB) h1⟩
   ·obtain ⟨G1,gm1,g1,h1⟩:=TZ k (i+1) (G+1) (fun p=>if p<G then gm p else Co q ((i:Nat):Int).toNat) (by omega) (by omega);refine ⟨G1,gm1,g1,uM.uQ (uR.weaken (wY q ns sv Vn NB B es tot fi (fun _=>0) 0 k0 s bN ct cs _ (Co q) G gm i (by omega) (by omega) (by omega) hfi.1 hfi.2 hs ihc ihs q0 hA hB) (uI _) (.cons (uH _) (.cons (uH _) (.cons (uH _) (.cons (uH _) (.cons (uH _) (.cons (uH _) (.cons (uH _) (.cons (uH _) (.cons (uH _) (.cons (uU.arr fun p hp=>?_) .nil))))))))))) h1⟩;simp only [Ar,uJ];split
    ·rfl
    ·obtain rfl:p=G:=by omega
     simp
theorem ZJ:∀ (k i:Nat),i+k=(AH q.n q.own).length->uM prog fF false 9 MO (Sn q Vn NB B es tot fi k0 s bN Av i) (Ml q ns sv) (EX.leave 2,XG Av,Ml q ns sv)∨
  ∃ G' gm',G'<=1000/\uM prog fF false 9 MO (Sn q Vn NB B es tot fi k0 s bN Av i) (Ml q ns sv) (EX.leave 2,XG (.ms 9 1 0 G' none),TY q ns sv G' gm')
 | 0,i,h=>by
  have hl:=Dg hq;obtain rfl:i=(AH q.n q.own).length:=by omega
  exact .inl (uM.aC (wW q ns sv Vn NB B es tot fi (fun _=>0) 0 k0 s bN ct cs _ (Co q) 0 (fun _=>0) _ (by omega) (by omega) (by omega) hfi.1 hfi.2 (fun h=>absurd h (by omega)) ihc ihs (uL (by omega))) (by simp))
 | k+1,i,h=>by
  have hl:=Dg hq;have hn:=hq.n2;have hi:i<(AH q.n q.own).length:=by omega
  have hm:=Cy.1 (List.getElem_mem hi);have e:=LU hi;have q0:(Decidable.decide ((i:Int)<((AH q.n q.own).length:Int)))=true:=uK (by omega);have hs:(i:Int)<((AH q.n q.own).length:Int)->0<=Co q ((i:Nat):Int).toNat/\Co q ((i:Nat):Int).toNat<=1000:=fun _=>by rw [e]; omega
  have no:uR prog fF false 9 MO (Sn q Vn NB B es tot fi k0 s bN Av i) (Ml q ns sv) (EX.normal,Sn q Vn NB B es tot fi k0 s bN Av ((i:Int)+1),Ml q ns sv)->(uM prog fF false 9 MO (Sn q Vn NB B es tot fi k0 s bN Av i) (Ml q ns sv) (EX.leave 2,XG Av,Ml q ns sv)∨
  ∃ G' gm',G'<=1000/\uM prog fF false 9 MO (Sn q Vn NB B es tot fi k0 s bN Av i) (Ml q ns sv) (EX.leave 2,XG (.ms 9 1 0 G' none),TY q ns sv G' gm')):=fun st=>by
   rcases ZJ k (i+1) (by omega) with h1 | ⟨G',gm',g1,h1⟩
   ·exact Or.inl (uM.uQ st h1)
   ·exact Or.inr ⟨G',gm',g1,uM.uQ st h1⟩
  rcases hA:ct (Co q ((i:Nat):Int).toNat) with _ | _
  ·exact no (wV q ns sv Vn NB B es tot fi (fun _=>0) 0 k0 s bN ct cs _ (Co q) 0 (fun _=>0) i (by omega) (by omega) (by omega) hfi.1 hfi.2 hs ihc ihs q0 hA)
  ·rcases hB:cs (fi+Co q ((i:Nat):Int).toNat) with _ | _
   ·exact no (wU q ns sv Vn NB B es tot fi (fun _=>0) 0 k0 s bN ct cs _ (Co q) 0 (fun _=>0) i (by omega) (by omega) (by omega) hfi.1 hfi.2 hs ihc ihs q0 hA hB)
   ·obtain ⟨G1,gm1,g1,h1⟩:=TZ hq hfi ihc ihs (Vn:=Vn) (NB:=NB) (B:=B) (es:=es) (tot:=tot) (bN:=bN) k (i+1) 1 (fun _=>Co q ((i:Nat):Int).toNat) (by omega) (by omega);refine Or.inr ⟨G1,gm1,g1,uM.uQ (uR.weaken (wT q ns sv Vn NB B es tot fi (fun _=>0) 0 k0 s bN ct cs _ (Co q) 0 (fun _=>0) i (by omega) (by omega) (by omega) hfi.1 hfi.2 hs ihc ihs q0 hA hB) (uI _) (.cons (uH _) (.cons (uH _) (.cons (uH _) (.cons (uH _) (.cons (uH _) (.cons (uH _) (.cons (uH _) (.cons (uH _) (.cons (uH _) (.cons (uU.arr fun p hp=>?_) .nil))))))))))) h1⟩;obtain rfl:p=0:=by omega
    rfl
end
section
variable {q:fG}(hq:q.Ok){ns:Nat}{sv:Nat->Int}{Vn:Int}{NB:Nat}{B:Nat->uN}{es:List (EV×EV)}{tot fi:Int}{f:Nat->Int}{bN:Bool}{ct:Int->Bool}{hf:Nat×Nat->Int}
 (ihc:∀ x:Int,uY prog fF 65 [.int .i64 x,EV.ip [EV.ip (AD q) 0] 0,EV.ip [AW true ns sv] 0] (.bool (ct x)))
 (hgive:∀ p,p∈AG q q.m->∃ (mt:Bool) (jg:Nat) (ga gb:Int),(mt=true->BM prog 94 (FM p) es 0 (some (jg,.agg [.int .i64 ga,.int .i64 gb])))/\(mt=false->BM prog 94 (FM p) es 0 none)/\(mt=true->0<=ga/\ga<NB)/\(mt=true->0<=f ga.toNat/\f ga.toNat<=2*((AO q.gp q.m p).length:Int))/\
  hf p=if mt=true then f ga.toNat else if p.2=q.own∨(p.1≠q.own/\ct (p.1:Nat)=true) then 0 else 2*((AO q.gp q.m p).length:Int))
abbrev YO (q:fG)(Vn:Int)(NB:Nat)(B:Nat->uN)(es:List (EV×EV))(tot fi:Int)(f:Nat->Int)(bN:Bool)(i:Int):List EV:=frame 173 [(2,.ptr 0 0),(4,.ms 9 1 0 q.m (some q.m)),(5,.ptr 2 0),(6,.bool false),(7,XE),(10,EV.ip [.int .i64 Vn,.uS bN 3 NB fun i=>(B i).cells,.im es,.int .i64 tot,.int .i64 fi] 0),(11,.uS bN 1 NB fun i=>[.int .i64 (f i)]),(111,.uS (!(AG q q.m).isEmpty) 2 (AG q q.m).length fun i=>(aK (AG q q.m) i).cells),(112,.int .i64 (AG q q.m).length),(113,.int .i64 i)]
abbrev VY (q:fG)(ns:Nat)(sv:Nat->Int)(row:Nat->Int):AL:=[fE.var true true [EV.ip (AD q) 0],fE.var true true [AW true ns sv],fE.var false true [Av,Av,Av],fE.dead,fE.dead,fE.dead,fE.dead,fE.dead,fE.dead,OT q row]
abbrev AB0 (q:fG):List EV:=frame 173 [(2,.ptr 0 0),(4,.ms 9 1 0 q.m (some q.m)),(5,.ptr 2 0),(6,.bool false)]
include hq ihc hgive
theorem ZK:∀ (k i:Nat) (row:Nat->Int),i+k=(AG q q.m).length->dD q hf ((AG q q.m).take i) row->
  ∃ row',uM prog fF false 10 XD (YO q Vn NB B es tot fi f bN i) (VY q ns sv row) (EX.leave 4,AB0 q,VY q ns sv row')/\dD q hf (AG q q.m) row'
 | 0,i,row,h,hF=>by
  have hm:=hq.m;have hpl:=Df (q:=q) q.m;obtain rfl:i=(AG q q.m).length:=by omega
  rw [List.take_length] at hF;exact ⟨row,uM.aC (ABu q ns sv Vn NB B es tot fi f 0 0 (fun _=>0) bN ct _ (aK (AG q q.m)) _ row (fun _=>row) 0 0 (fun _=>0) true false 0 0 (-1) _ (by omega) (by omega) (by omega) rfl (fun h=>by cases h) (fun h=>by cases h) ihc (fun h=>absurd h (by omega)) (fun h=>absurd h (by omega)) (fun h=>absurd h (by omega)) (fun h=>absurd h (by omega)) (uL (by omega))) (by simp),hF⟩
 | k+1,i,row,h,hF=>by
  have hm:=hq.m;have hpl:=Df (q:=q) q.m;have hi:i<(AG q q.m).length:=by omega
  have q0:(Decidable.decide ((i:Int)<((AG q q.m).length:Int)))=true:=uK (by omega);have hp:(AG q q.m).getD i (0,0)∈AG q q.m:=D9 hi;have hg:(AG q q.m).getD i (0,0)=(AG q q.m)[i]:=by rw [uA,uD hi]; rfl
  have hnd:=Bo (q:=q) q.m;have ht:(AG q q.m).take (i+1)=(AG q q.m).take i++[(AG q q.m).getD i (0,0)]:=by
   rw [List.take_add_one,uD hi,hg]; rfl
  have hno:(AG q q.m).getD i (0,0) ∉ (AG q q.m).take i:=fun x=>by
   rw [hg] at x;obtain ⟨j,hj,e⟩:=List.mem_take_iff_getElem.1 x;have:=(List.getElem_inj hnd (h₀:=by omega) (h₁:=hi)).1 e;omega
  obtain ⟨mt,jg,ga,gb,y1,y2,y3,y4,y5⟩:=hgive _ hp;obtain ⟨n,l,hfy⟩:=Jz hp;obtain ⟨row',r1,r2⟩:=Rj hq hp row;have hL:=Cs (gp:=q.gp) (m:=q.m) (p:=(AG q q.m).getD i (0,0));have hc:=hq.uO;have hbR:(((aK (AG q q.m) ((i:Nat):Int).toNat).right==q.uO):Bool)=decide (((AG q q.m).getD i (0,0)).2=q.own):=by
   rw [Bool.eq_iff_iff,beq_iff_eq,decide_eq_true_iff];show ((((AG q q.m).getD i (0,0)).2:Nat):Int)=q.uO↔((AG q q.m).getD i (0,0)).2=q.uO.toNat;omega
  have hbL:(((aK (AG q q.m) ((i:Nat):Int).toNat).left != q.uO):Bool)=decide (((AG q q.m).getD i (0,0)).1≠q.own):=by
   rw [Bool.eq_iff_iff,bne_iff_ne,decide_eq_true_iff];show ((((AG q q.m).getD i (0,0)).1:Nat):Int)≠q.uO↔((AG q q.m).getD i (0,0)).1≠q.uO.toNat;omega
  have go:∀ x:Int,0<=x->x<=2*((AO q.gp q.m ((AG q q.m).getD i (0,0))).length:Int)->hf ((AG q q.m).getD i (0,0))=x->
    uR prog fF false 10 XD (YO q Vn NB B es tot fi f bN i) (VY q ns sv row) (EX.normal,YO q Vn NB B es tot fi f bN ((i:Int)+1),VY q ns sv (row' x))->
    ∃ row',uM prog fF false 10 XD (YO q Vn NB B es tot fi f bN i) (VY q ns sv row) (EX.leave 4,AB0 q,VY q ns sv row')/\dD q hf (AG q q.m) row':=fun x a b e st=>by
   obtain ⟨z1,z2,z3⟩:=r2 x a b;have hF':=hF.step hno z1 z2 (by rw [z3,e]);rw [<-ht] at hF';obtain ⟨rw',w1,w2⟩:=ZK k (i+1) (row' x) (by omega) hF';exact ⟨rw',uM.uQ st w1,w2⟩
  have fy:(i:Int)<(AG q q.m).length->BM prog 94 (EV.agg (aK (AG q q.m) ((i:Nat):Int).toNat).cells) (D0 q) 0 (some (n,.uS true 1 (AO q.gp q.m ((AG q q.m).getD i (0,0))).length fun x=>[.int .i64 (l x)])):=fun _=>hfy;rcases mt with _ | _
  ·rw [if_neg (by simp)] at y5;by_cases h2:((AG q q.m).getD i (0,0)).2=q.own
   ·rw [if_pos (.inl h2)] at y5;exact go 0 (by omega) (by omega) y5 (ABq q ns sv Vn NB B es tot fi f 0 0 (fun _=>0) bN ct _ (aK (AG q q.m)) _ row row' n _ l true false jg ga gb i (by omega) (by omega) (by omega) rfl y3 y4 ihc fy (fun _=>y1) (fun _=>y2) (fun _=>r1) q0 rfl (by rw [hbR]; exact uK h2))
   ·by_cases h1:((AG q q.m).getD i (0,0)).1=q.own
    ·rw [if_neg (by rintro (x | x); exact h2 x; exact x.1 h1)] at y5;exact go _ (by omega) (Int.le_refl _) y5 (ABt q ns sv Vn NB B es tot fi f 0 0 (fun _=>0) bN ct _ (aK (AG q q.m)) _ row row' n _ l true false jg ga gb i (by omega) (by omega) (by omega) rfl y3 y4 ihc fy (fun _=>y1) (fun _=>y2) (fun _=>r1) q0 rfl (by rw [hbR]; exact uL h2) (by rw [hbL]; exact uL (by simpa using h1)))
    ·rcases h3:ct ((((AG q q.m).getD i (0,0)).1:Nat):Int) with _ | _
     ·rw [if_neg (by rintro (x | x); exact h2 x; exact absurd x.2 (by rw [h3]; simp))] at y5;exact go _ (by omega) (Int.le_refl _) y5 (ABs q ns sv Vn NB B es tot fi f 0 0 (fun _=>0) bN ct _ (aK (AG q q.m)) _ row row' n _ l true false jg ga gb i (by omega) (by omega) (by omega) rfl y3 y4 ihc fy (fun _=>y1) (fun _=>y2) (fun _=>r1) q0 rfl (by rw [hbR]; exact uL h2) (by rw [hbL]; exact uK h1) h3)
     ·rw [if_pos (.inr ⟨h1,h3⟩)] at y5;exact go 0 (by omega) (by omega) y5 (ABr q ns sv Vn NB B es tot fi f 0 0 (fun _=>0) bN ct _ (aK (AG q q.m)) _ row row' n _ l true false jg ga gb i (by omega) (by omega) (by omega) rfl y3 y4 ihc fy (fun _=>y1) (fun _=>y2) (fun _=>r1) q0 rfl (by rw [hbR]; exact uL h2) (by rw [hbL]; exact uK h1) h3)
  ·rw [if_pos rfl] at y5;have z:=y4 rfl;exact go _ z.1 z.2 y5 (ABp q ns sv Vn NB B es tot fi f 0 0 (fun _=>0) bN ct _ (aK (AG q q.m)) _ row row' n _ l true true jg ga gb i (by omega) (by omega) (by omega) rfl y3 y4 ihc fy (fun _=>y1) (fun _=>y2) (fun _=>r1) q0 rfl)
end
section
variable {ct:Nat->Bool}{pr:Nat->Nat×Nat}
theorem Mm {j:Nat}:∀ {K:Nat},j<K->∃ rest,CD ct pr K=CD ct pr j++(Ih ct pr j++rest)
 | K+1,h=>by
  rcases Nat.lt_or_ge j K with h1 | h1
  ·obtain ⟨rest,e⟩:=Mm h1;exact ⟨rest++Ih ct pr K,by rw [CD,e,List.append_assoc,List.append_assoc]⟩
  ·obtain rfl:j=K:=by omega
   exact ⟨[],by rw [CD,List.append_nil]⟩
theorem Qv {K n j x:Nat}(hj:j<K)(hx:x<(Ih ct pr j).length):(CD ct pr j).length+x<(tags ct pr K n).length/\(tags ct pr K n).getD ((CD ct pr j).length+x) default=(Ih ct pr j).getD x default:=by
 obtain ⟨rest,e⟩:=Mm (ct:=ct) (pr:=pr) hj;have e2:tags ct pr K n=CD ct pr j++(Ih ct pr j++(rest++GH ct n)):=by rw [tags,e,List.append_assoc,List.append_assoc]
 rw [e2];refine ⟨by simp only [List.length_append]; omega,?_⟩;rw [uA,List.getElem?_append_right (by omega),show (CD ct pr j).length+x - (CD ct pr j).length=x by omega,List.getElem?_append_left hx,<-uA]
theorem Rk {K n i j:Nat}(hi:i<(tags ct pr K n).length)(hj:j<(tags ct pr K n).length)(h:(tags ct pr K n).getD i default=(tags ct pr K n).getD j default):i=j:=by
 rw [uA,uA,uD hi,uD hj,Option.getD_some,Option.getD_some] at h;exact (List.getElem_inj (Kf K n) (h₀:=hi) (h₁:=hj)).1 h
def Qw (ct:Nat->Bool)(pr:Nat->Nat×Nat)(j:Nat):Nat:=(CD ct pr j).length+1
def OV (ct:Nat->Bool)(pr:Nat->Nat×Nat)(j:Nat):Nat:=(CD ct pr j).length+if ct (pr j).1 then 2 else 1
theorem Ta {K n j:Nat}(hj:j<K)(h:ct (pr j).1=true):Qw ct pr j<(tags ct pr K n).length/\(tags ct pr K n).getD (Qw ct pr j) default=.toA j:=by
 obtain ⟨h1,h2⟩:=Qv (ct:=ct) (pr:=pr) (n:=n) (x:=1) hj (by rw [Ih,h]; simp);refine ⟨h1,h2.trans ?_⟩;rw [Ih,h]; rfl
theorem Tb {K n j:Nat}(hj:j<K)(h:ct (pr j).2=true):OV ct pr j<(tags ct pr K n).length/\(tags ct pr K n).getD (OV ct pr j) default=.toB j:=by
 unfold OV;cases hA:ct (pr j).1
 ·obtain ⟨h1,h2⟩:=Qv (ct:=ct) (pr:=pr) (n:=n) (x:=1) hj (by rw [Ih,h]; simp);refine ⟨by simpa using h1,?_⟩;rw [if_neg (by simp),h2,Ih,h,hA]; rfl
 ·obtain ⟨h1,h2⟩:=Qv (ct:=ct) (pr:=pr) (n:=n) (x:=2) hj (by rw [Ih,h,hA]; simp);refine ⟨by simpa using h1,?_⟩;rw [if_pos rfl,h2,Ih,h,hA]; rfl
end
theorem Tc {ct:Int->Bool}{fl:List (Nat×Nat)}{n:Nat}{all:Nat×Nat->Int}{mo:Int->Int}:Fo ct fl n all mo=(tags (bK ct) (uP fl) fl.length n).map (Cp (uP fl) fl.length n (fun j=>all (uP fl j)) fun c=>mo (c:Nat)):=by
 show Bx ct fl n all (fun c=>mo (c:Nat)) fl.length++BR ct fl.length n mo n=_;rw [tags,List.map_append,Bx,BR]
 congr 1
 refine List.map_congr_left fun t ht=>?_;obtain ⟨c,_,rfl,_⟩:=Fa.1 ht;rfl
theorem LV {ct:Int->Bool}{fl:List (Nat×Nat)}{n:Nat}{all:Nat×Nat->Int}{mo:Int->Int}:(Fo ct fl n all mo).length=GA (bK ct) fl n:=by rw [Tc,List.length_map]
theorem XH {ct:Int->Bool}{fl:List (Nat×Nat)}{n:Nat}{all:Nat×Nat->Int}{mo:Int->Int}{i:Nat}(hi:i<(Fo ct fl n all mo).length):Cb (Fo ct fl n all mo) i=HB (bK ct) fl n all (fun c=>mo (c:Nat)) i:=by
 have hi':i<(tags (bK ct) (uP fl) fl.length n).length:=by rw [LV] at hi; exact hi
 rw [Cb,Tc,uA,List.getElem?_map,uD hi'];simp only [HB,uA,uD hi',Option.getD_some,Option.map_some]
section
variable {q:fG}(hq:q.Ok)
include hq
theorem DZ:Games q.m q.n q.gl q.gr (AG q q.m):=by
 refine ⟨Bo _,fun p hp=>F4 hq hp,fun g hg=>?_,fun g hg=>Fe hg,by have:=hq.m; omega⟩;have h:=hq.op g hg;show (q.op g).left.toNat<q.n/\(q.op g).right.toNat<q.n/\(q.op g).left.toNat≠(q.op g).right.toNat;omega
theorem MP:q.own<q.n:=by have:=hq.uO; show q.uO.toNat<q.n; omega
theorem OW:RaceG q.n q.own (AG q q.m) (Ac q.gl q.gr q.m):=AAe (DZ hq) (MP hq)
theorem MQ:(AG q q.m).length<=64:=by
 have h8:=hq.n2;have h:((AG q q.m).map fun p=>p.1*8+p.2).Nodup:=by
  rw [List.nodup_iff_pairwise_ne,List.pairwise_map];refine (List.nodup_iff_pairwise_ne.1 (Bo (q:=q) q.m)).imp_of_mem fun {a b} ha hb hne e=>hne ?_;have h1:=F4 hq ha;have h2:=F4 hq hb;exact Prod.ext (by omega) (by omega)
 have:=HY (l2:=List.range 64) h fun x hx=>by
  obtain ⟨p,hp,rfl⟩:=List.mem_map.1 hx;have h1:=F4 hq hp;exact List.mem_range.2 (by omega)
 rw [List.length_map,List.length_range] at this;exact this
theorem Td {ct:Int->Bool}{mo:Int->Int}{met:Nat×Nat->Bool}{fl:List (Nat×Nat)}(hfl:fl=(AG q q.m).filter met)(hm:∀ c,c<q.n->ct (c:Nat)=true->0<=mo (c:Nat)/\mo (c:Nat)<=1073741824):
  ∃ (f lev:Nat->Int) (v:Int) (k:Nat) (s:Nat->Int),BestOk (KL fl q.n) (GA (bK ct) fl q.n) (HB (bK ct) fl q.n (Ac q.gl q.gr q.m) fun c=>mo (c:Nat)) f lev v/\k<=900/\
   uY prog fF 62 [.agg [.int .i64 (1+(fl.length:Int)+(q.n:Int)+1),.uS (decide (0<(Fo ct fl q.n (Ac q.gl q.gr q.m) mo).length)) 3 (Fo ct fl q.n (Ac q.gl q.gr q.m) mo).length fun i=>(Cb (Fo ct fl q.n (Ac q.gl q.gr q.m) mo) i).cells]]
    (.tuple [.uS (decide (0<(Fo ct fl q.n (Ac q.gl q.gr q.m) mo).length)) 1 (Fo ct fl q.n (Ac q.gl q.gr q.m) mo).length fun i=>[.int .i64 (f i)],.int .i64 v,.uS true 1 k fun i=>[.int .i64 (s i)],.int .i64 0]):=by
 have h8:=hq.n2;have hp:=MQ hq;have hfl2:fl.length<=(AG q q.m).length:=by rw [hfl]; exact List.length_filter_le _ _
 have hA:Arcs (KL fl q.n) (GA (bK ct) fl q.n) (HB (bK ct) fl q.n (Ac q.gl q.gr q.m) fun c=>mo (c:Nat)):=by
  rw [hfl]; exact HC (OW hq) hm
 have hN:GA (bK ct) fl q.n<=2048:=by
  have h1:=Fm (ct:=ct) (fl:=fl) fl.length;have h2:=Cl (ct:=ct) (K:=fl.length) (n:=q.n) (mo:=mo) q.n;rw [BR,List.length_map] at h2;show (tags (bK ct) (uP fl) fl.length q.n).length<=2048;rw [tags,List.length_append];omega
 obtain ⟨f,lev,v,k,s,h1,h2,h3⟩:=X4 (nn:=decide (0<GA (bK ct) fl q.n)) hA (by show 1+fl.length+q.n+1<100; omega) hN;refine ⟨f,lev,v,k,s,h1,by have:k<=1+fl.length+q.n+1:=h2; omega,?_⟩;have eN:=LV (ct:=ct) (fl:=fl) (n:=q.n) (all:=Ac q.gl q.gr q.m) (mo:=mo);have eV:((KL fl q.n:Nat):Int)=1+(fl.length:Int)+(q.n:Int)+1:=by show ((1+fl.length+q.n+1:Nat):Int)=_; omega
 rw [Mw,eV] at h3;rw [<-eN] at h3;refine uY.weaken (.cons (aG.aggs (.cons (aG.refl _) (.cons (aG.uS fun i hi=>?_) .nil))) .nil) h3 (aG.refl _);rw [XH hi]
theorem Mn {hf:Nat×Nat->Int}{row:Nat->Int}(hF:dD q hf (AG q q.m) row):Bw q row/\Sc q.m (fun g=>3 - row g)/\∀ c,FN q.gl q.gr q.m (fun g=>3 - row g) c=hwP (AG q q.m) (Ac q.gl q.gr q.m) hf c:=by
 have hg:∀ g,g<q.m->1<=row g/\row g<=3:=fun g hg=>(hF (q.gp g) (Fe hg)).1 g (List.mem_filter.2 ⟨List.mem_range.2 hg,uK rfl⟩);refine ⟨hg,fun g h=>by have:=hg g h; show 0<=3 - row g/\3 - row g<=2; omega,fun c=>?_⟩;rw [OE (DZ hq)];refine DI fun p hp=>?_;have e:hfX q.gl q.gr q.m (fun g=>3 - row g) p=hf p:=(hF p hp).2;rw [Cx,Cx,e]
end
theorem aG.tups {cs ds:List EV}(h:eJ cs ds):aG (.tuple cs) (.tuple ds):=by
 intro F w mv hv;cases hv with
 | tuple _ mcs hl hh=>
  have hp:PRs F w cs mcs:=⟨hl,hh⟩
  have:=h.prs hp;exact .tuple _ _ this.1 this.2
abbrev cX (s:List Nat):Nat->Int:=fun p=>((s.getD p 0:Nat):Int)
abbrev bA (s:List Nat):Int->Bool:=fun x=>Wq s.length (cX s) x
theorem NO {s:List Nat}{c:Nat}:bA s (c:Nat)=decide (c∈s):=VB
abbrev hwC (q:fG)(row:Nat->Int)(c:Nat):Int:=FN q.gl q.gr q.m (fun g=>3 - row g) c
def So (q:fG)(P Z:(Nat->Int)->Prop)(v:EV):Prop:=
 (∃ row,v=.tuple [AW true q.m row,.agg [Av,Av,Av],.bool true]/\Bw q row/\P row)∨
 ∃ (ba:Bool) (na:Nat) (as':Nat->Int) (bc:Bool) (nc:Nat) (cl:Nat->Int) (bx:Bool) (nx:Nat) (xs:Nat->Int),v=.tuple [Av,.agg [AW ba na as',AW bc nc cl,AW bx nx xs],.bool false]/\∀ row,Bw q row->¬ Z row
def ixP (fl:List (Nat×Nat))(p:Nat×Nat):Nat:=@List.idxOf _ instBEqOfDecidableEq p fl
theorem NP {fl:List (Nat×Nat)}(hnd:fl.Nodup){j:Nat}(hj:j<fl.length):ixP fl (uP fl j)=j:=Us hnd hj
def moT (q:fG):Int->Int:=fun x=>if 0<=x/\x<q.n then HZ q x.toNat else 0
section
variable {q:fG}(hq:q.Ok)(hd:0<q.draw)
include hq hd
theorem Qx {c:Nat}(hc:c<q.n):moT q (c:Nat)=HZ q c:=by
 unfold moT;rw [if_pos ⟨by omega,by omega⟩,uG]
theorem XI (x:Int):0<=moT q x/\moT q x<=1073741824:=by
 unfold moT;split
 ·rename_i h;have:=OM hq hd (i:=x.toNat) (by omega);exact ⟨this.1,this.2.1⟩
 ·omega
theorem HH {row:Nat->Int}(h:Bw q row):Sc q.m fun g=>3 - row g:=fun g hg=>by
 have:=h g hg;show 0<=3 - row g/\3 - row g<=2;omega
theorem Sp {s:List Nat}(hs:s.length<=8)(ho:q.own ∉ s)(hn:∀ c,c∈s->c<q.n):
  ∃ v,uY prog fF 37 [EV.ip (AD q) 0,AW true s.length (cX s)] v/\So q (fun row=>hwC q row q.own=0/\∀ c,c∈s->HZ q c<=hwC q row c) (fun row=>∀ c,c∈s->HZ q c<=hwC q row c) v:=by
 have h8:=hq.n2;have hm:=hq.m;have ihk:∀ x:Int,uY prog fF 45 [AW true s.length (cX s),.int .i64 x] (.bool (bA s x)):=fun x=>Cq true (by omega) _ x;have ihc:∀ x:Int,uY prog fF 59 [.int .i64 x,EV.ip [AW true s.length (cX s)] 0] (.bool (bA s x)):=fun x=>thC true _ _ x _ (ihk x);have ihm:∀ x:Int,0<=x->x<q.m'->uY prog fF 61 [EV.ip (AD q) 0,.int .i64 x] (.int .i64 (moT q x)):=fun x h0 h1=>by
  obtain ⟨i,rfl⟩:=Int.eq_ofNat_of_zero_le h0;have hi:i<q.n:=by rw [<-hq.np.2]; omega
  rw [Qx hq hd hi];exact VD hq hd hi
 have hm':∀ c,c<q.n->bA s (c:Nat)=true->0<=moT q (c:Nat)/\moT q (c:Nat)<=1073741824:=fun c _ _=>XI hq hd _;have hown:bA s (q.own:Nat)=false:=by rw [NO]; exact uL ho
 obtain ⟨f,lev,v,k,sd,hB,hk,h80⟩:=Td hq (ct:=bA s) (mo:=moT q) (met:=CX (bA s)) rfl hm';have h78:=xY hq (ct:=bA s) (mo:=moT q) rfl ihc ihm fun x=>by have:=XI hq hd x; omega
 have hnd:((AG q q.m).filter (CX (bA s))).Nodup:=(Bo _).filter _;have hpf:=MQ hq;have hfl:((AG q q.m).filter (CX (bA s))).length<=64:=Nat.le_trans (List.length_filter_le _ _) hpf;have hR:=OW hq;have hA:=HC hR (met:=CX (bA s)) (ct:=bK (bA s)) (most:=fun c=>moT q (c:Nat)) hm';have hM:=WU hA hB.lv hB.fl.cap hB.fl.cons hB.s;have hval:=hB.fl.val;rw [hval] at hM;have htot:CE (bA s) (moT q) (Ii q ((AG q q.m).filter (CX (bA s))) ((AG q q.m).filter (CX (bA s))).length) q.n=Bd (fun c=>if bK (bA s) c then moT q (c:Nat) else 0) q.n:=by
  show (0:Int)+_=_;rw [Int.zero_add]
 by_cases hv:v<CE (bA s) (moT q) (Ii q ((AG q q.m).filter (CX (bA s))) ((AG q q.m).filter (CX (bA s))).length) q.n
 ·have hno:∀ row,Bw q row->¬ ∀ c,c∈s->HZ q c<=hwC q row c:=fun row hc hh=>by
   have:=RW hR (ct:=bK (bA s)) (most:=fun c=>moT q (c:Nat)) hown rfl hm' hB.lv hB.fl.cap hB.fl.cons hB.s (hf:=hfX q.gl q.gr q.m fun g=>3 - row g) (fun p hp=>Pb (DZ hq) (HH hq hd hc) p) (fun c hcn hct=>by
    show moT q (c:Nat)<=_;rw [<-OE (DZ hq),Qx hq hd hcn];have hct':bA s (c:Nat)=true:=hct;rw [NO,decide_eq_true_iff] at hct';exact hh c hct')
   rw [hval,<-htot] at this;omega
  have hfi:(0:Int)<=1+(((AG q q.m).filter (CX (bA s))).length:Int)/\1+(((AG q q.m).filter (CX (bA s))).length:Int)<=1000:=by omega
  have hsv:∀ i,i<s.length->0<=cX s i/\cX s i<=1000:=fun i hi=>by
   have:=hn _ (D9 (d:=0) hi);show 0<=((s.getD i 0:Nat):Int)/\((s.getD i 0:Nat):Int)<=1000;omega
  rcases ABz (q:=q) (by omega:s.length<=900) hfi hsv (fun x=>Cq true (n:=k) (by omega) sd x) s.length 0 (by omega) with h7 | ⟨G,gm,hG,h7⟩
  ·obtain ⟨b,NG,gg,hx⟩:=Rh (q:=q) (nf:=s.length) (fr:=cX s) (bc:=false) (nc:=0) (cl:=fun _=>0) (by omega) (fun x=>Cq false (by omega) _ x);have h7':=uM.cl (path:=ABV) h7 (by kernel_rfl) (by kernel_rfl);have h:=ABk q s.length (cX s) _ _ _ _ _ _ f v k sd _ 0 (fun _=>0) b NG gg hv h78 h80 (hx.weaken (.cons (aG.refl _) (.cons (aG.refl _) (.cons aG.bB (.cons (aG.refl _) .nil)))) (aG.aggs (.cons (aG.refl _) (.cons aG.bB (.cons (aG.refl _) .nil))))) h7';refine ⟨.tuple [Av,.agg [AW true s.length (cX s),AW false 0 (fun _=>0),AW b NG gg],.bool false],h.res (aG.tups (.cons (aG.refl _) (.cons (aG.aggs (.cons (aG.refl _) (.cons aG.bB (.cons (aG.refl _) .nil)))) (.cons (aG.refl _) .nil)))),.inr ⟨_,_,_,_,_,_,_,_,_,rfl,hno⟩⟩
  ·obtain ⟨b,NG,gg,hx⟩:=Rh (q:=q) (nf:=s.length) (fr:=cX s) (bc:=true) (nc:=G) (cl:=gm) (by omega) (fun x=>Cq true (by omega) _ x);have h7':=uM.cl (path:=ABZ) h7 (by kernel_rfl) (by kernel_rfl);have h:=ABl q s.length (cX s) _ _ _ _ _ _ f v k sd _ G gm b NG gg hv h78 h80 (by simpa only [uJ] using hx) h7';exact ⟨_,h,.inr ⟨_,_,_,_,_,_,_,_,_,rfl,hno⟩⟩
 ·have hv':CE (bA s) (moT q) (Ii q ((AG q q.m).filter (CX (bA s))) ((AG q q.m).filter (CX (bA s))).length) q.n<=v:=by omega
  have hflow:=RV hR (ct:=bK (bA s)) (most:=fun c=>moT q (c:Nat)) hown rfl hm' hM (by rw [<-htot]; exact hv') (fB:=fun p=>f (OV (bK (bA s)) (uP ((AG q q.m).filter (CX (bA s)))) (ixP ((AG q q.m).filter (CX (bA s))) p))) (fun j hj h1 h2 i hi e=>by
   obtain ⟨p1,p2⟩:=Tb (n:=q.n) hj h2;show f (OV _ _ (ixP ((AG q q.m).filter (CX (bA s))) (uP ((AG q q.m).filter (CX (bA s))) j)))=f i;rw [NP hnd hj];exact congrArg f (Rk p1 hi (p2.trans e.symm)))
  obtain ⟨f1,f2,f3⟩:=hflow;have hgive:∀ p,p∈AG q q.m->∃ (mt:Bool) (jg:Nat) (ga gb:Int),(mt=true->BM prog 94 (FM p) (CU (bA s) ((AG q q.m).filter (CX (bA s))) ((AG q q.m).filter (CX (bA s))).length) 0 (some (jg,.agg [.int .i64 ga,.int .i64 gb])))/\(mt=false->BM prog 94 (FM p) (CU (bA s) ((AG q q.m).filter (CX (bA s))) ((AG q q.m).filter (CX (bA s))).length) 0 none)/\gb<(Fo (bA s) ((AG q q.m).filter (CX (bA s))) q.n (Ac q.gl q.gr q.m) (moT q)).length/\(gb<0∨(0<=f gb.toNat/\f gb.toNat<=2*((AO q.gp q.m p).length:Int)))/\
    hfT (bK (bA s)) q.own (Ac q.gl q.gr q.m) (fun p=>f (OV (bK (bA s)) (uP ((AG q q.m).filter (CX (bA s)))) (ixP ((AG q q.m).filter (CX (bA s))) p))) p=if mt=true then (if gb>=0 then (if ga<0 then 0 else 2*((AO q.gp q.m p).length:Int) - f gb.toNat) else 2*((AO q.gp q.m p).length:Int)) else if p.1=q.own then 0 else 2*((AO q.gp q.m p).length:Int):=fun p hp=>by
   have hcap:=hB.fl.cap;generalize hF:(AG q q.m).filter (CX (bA s))=fl at hnd hcap ⊢;by_cases hmet:CX (bA s) p=true
   ·have hpf:p∈fl:=by rw [<-hF]; exact List.mem_filter.2 ⟨hp,hmet⟩
    obtain ⟨j,hj,e⟩:=List.getElem_of_mem hpf;have ep:uP fl j=p:=by rw [uP,uA,uD hj]; exact e
    have ei:ixP fl p=j:=by rw [<-ep]; exact NP hnd hj
    have hfind:=Gc (f:=Mz (bA s) fl) fl 0 0 j hj hnd e;rw [uJ] at hfind;rw [CU,List.take_length];have hm2:(bK (bA s) p.1 || bK (bA s) p.2)=true:=hmet;rw [hfT,if_pos hm2];simp only [ei];have hall:Ac q.gl q.gr q.m p=2*((AO q.gp q.m p).length:Int):=rfl;cases h2:bA s (p.2:Nat)
    ·refine ⟨true,j,_,_,fun _=>hfind,(fun h=>by cases h),?_⟩;rw [ep,h2];have:bK (bA s) p.2=false:=h2;rw [this,if_neg (by simp),if_neg (by simp),if_pos rfl,if_neg (by omega)];exact ⟨by omega,.inl (by omega),hall⟩
    ·have hb2:bK (bA s) (uP fl j).2=true:=by rw [ep]; exact h2
     obtain ⟨p1,p2⟩:=Tb (n:=q.n) hj hb2;have hc:=hcap _ p1;simp only [HB,p2,Cp] at hc;rw [ep,hall] at hc;have hlen:=LV (ct:=bA s) (fl:=fl) (n:=q.n) (all:=Ac q.gl q.gr q.m) (mo:=moT q);have p1':OV (bK (bA s)) (uP fl) j<GA (bK (bA s)) fl q.n:=p1;rw [<-hlen] at p1';have e2:bK (bA s) p.2=true:=h2;cases h1:bA s (p.1:Nat)
     ·have e1:bK (bA s) p.1=false:=h1;have epos:OV (bK (bA s)) (uP fl) j=(CD (bK (bA s)) (uP fl) j).length+1:=by rw [OV,ep,e1]; rfl
      rw [epos] at hc p1';refine ⟨true,j,_,_,fun _=>hfind,(fun h=>by cases h),?_⟩;simp only [ep,h1,h2,e1,e2,Bool.false_eq_true,if_false,if_true];rw [if_pos (show (((CD (bK (bA s)) (uP fl) j).length:Int)+1)>=0 by omega),if_pos (show (-1:Int)<0 by omega)];have et:(((CD (bK (bA s)) (uP fl) j).length:Int)+1).toNat=(CD (bK (bA s)) (uP fl) j).length+1:=by omega
      rw [et];exact ⟨by omega,.inr hc,rfl⟩
     ·have e1:bK (bA s) p.1=true:=h1;have epos:OV (bK (bA s)) (uP fl) j=(CD (bK (bA s)) (uP fl) j).length+2:=by rw [OV,ep,e1]; rfl
      rw [epos] at hc p1' ⊢;refine ⟨true,j,_,_,fun _=>hfind,(fun h=>by cases h),?_⟩;simp only [ep,h1,h2,e1,e2,if_true];rw [if_pos (show (((CD (bK (bA s)) (uP fl) j).length:Int)+1+1)>=0 by omega),if_neg (show ¬ ((CD (bK (bA s)) (uP fl) j).length:Int)+1<0 by omega),hall];have et:(((CD (bK (bA s)) (uP fl) j).length:Int)+1+1).toNat=(CD (bK (bA s)) (uP fl) j).length+2:=by omega
      rw [et];exact ⟨by omega,.inr hc,rfl⟩
   ·have hpf:p ∉ fl:=by rw [<-hF]; exact fun h=>hmet (List.mem_filter.1 h).2
    rw [CU,List.take_length];have hm2:¬ (bK (bA s) p.1 || bK (bA s) p.2)=true:=hmet;refine ⟨false,0,0,-1,(fun h=>by cases h),fun _=>I4 _ _ _ hpf,by omega,.inl (by omega),?_⟩;rw [hfT,if_neg hm2];simp only [Bool.false_eq_true,if_false];rfl
  obtain ⟨row,h15,hF⟩:=ZI hq (ns:=s.length) (sv:=cX s) (Vn:=1+(((AG q q.m).filter (CX (bA s))).length:Int)+(q.n:Int)+1) (B:=Cb (Fo (bA s) ((AG q q.m).filter (CX (bA s))) q.n (Ac q.gl q.gr q.m) (moT q))) (tot:=CE (bA s) (moT q) (Ii q ((AG q q.m).filter (CX (bA s))) ((AG q q.m).filter (CX (bA s))).length) q.n) (fi:=1+(((AG q q.m).filter (CX (bA s))).length:Int)) (bN:=decide (0<(Fo (bA s) ((AG q q.m).filter (CX (bA s))) q.n (Ac q.gl q.gr q.m) (moT q)).length)) hgive (AG q q.m).length 0 (fun _=>0) (by omega) (fun p hp=>by simp at hp);have h15':=uM.cl (path:=ABd) h15 (by kernel_rfl) (by kernel_rfl);have h:=ABm q s.length (cX s) _ _ _ _ _ _ f v k sd _ row hv' (by omega) h78 h80 h15';simp only [uJ] at h;obtain ⟨c1,c2,c3⟩:=Mn hq hF;refine ⟨_,h,.inl ⟨row,rfl,c1,?_,fun c hc=>?_⟩⟩
  ·rw [hwC,c3]; exact f2
  ·rw [hwC,c3,<-Qx hq hd (hn c hc)];refine f3 c (hn c hc) ?_;show bA s (c:Nat)=true;rw [NO]; exact uK hc
end
abbrev bH (q:fG)(s:List Nat):Int->Bool:=fun x=>bif x != q.uO then !(bA s x) else false
def moS (q:fG):Int->Int:=fun x=>if 0<=x/\x<q.n then HE q x.toNat else 0
theorem Sq {gl gr:Nat->Nat}{g:Nat}{p:Nat×Nat}(h:My gl gr g=p):(gl g=p.1/\gr g=p.2)∨(gl g=p.2/\gr g=p.1):=by
 have e1:min (gl g) (gr g)=p.1:=congrArg Prod.fst h;have e2:max (gl g) (gr g)=p.2:=congrArg Prod.snd h;omega
theorem w9 {m n:Nat}{gl gr:Nat->Nat}{ps:List (Nat×Nat)}(hG:Games m n gl gr ps)(own:Nat):BV (fun p=>if p.1=own∨p.2=own then Ac gl gr m p else 0) ps=Hy gl gr m own:=by
 rw [Hy,<-PZ hG.nd hG.mem];refine DI fun p hp=>?_;have hl:=hG.lt p hp;have hc:∀ g,g∈AO (My gl gr) m p->((if gl g=own then (2:Int) else 0)+if gr g=own then 2 else 0)=if p.1=own∨p.2=own then 2 else 0:=fun g hg=>by
  rcases Sq (Kg hg) with ⟨h1,h2⟩ | ⟨h1,h2⟩<;>rw [h1,h2]<;>by_cases a:p.1=own<;>by_cases b:p.2=own<;>simp [a,b]<;>omega
 rw [N9 hc,Ac];split<;>simp
section
variable {q:fG}(hq:q.Ok)(hd:0<q.draw)
include hq hd
theorem LW {s:List Nat}{c:Nat}:bH q s (c:Nat)=decide (c≠q.own/\c ∉ s):=by
 have hc:=hq.uO;show (bif ((c:Nat):Int) != q.uO then !(bA s (c:Nat)) else false)=_;rw [NO];by_cases h:((c:Nat):Int)=q.uO
 ·have h2:c=q.own:=by show c=q.uO.toNat; omega
  rw [show ((((c:Nat):Int) != q.uO):Bool)=false by rw [bne_eq_false_iff_eq]; exact h];simp [h2]
 ·have h2:c≠q.own:=by show c≠q.uO.toNat; omega
  rw [show ((((c:Nat):Int) != q.uO):Bool)=true by rw [bne_iff_ne]; exact h];simp [h2]
theorem NQ {c:Nat}(hc:c<q.n):moS q (c:Nat)=HE q c:=by
 unfold moS;rw [if_pos ⟨by omega,by omega⟩,uG]
theorem XJ (x:Int): -100000000<=moS q x/\moS q x<=1073741824:=by
 unfold moS;split
 ·rename_i h;have hx:x.toNat<q.n:=by omega
  obtain ⟨h1,h2⟩:=ON hq hd hx;refine ⟨?_,h1⟩;rw [h2];have hp:=hq.uV _ hx;have hb:=IV hq hd;have:=Int.mul_le_mul_of_nonneg_right (show (1:Int)<=q.draw by omega) (show (0:Int)<=100000000 by omega);rw [Int.mul_neg];omega
 ·omega
theorem Sr {s:List Nat}(hs:s.length<=8):
  ∃ v,uY prog fF 38 [EV.ip (AD q) 0,AW true s.length (cX s)] v/\So q (fun row=>hwC q row q.own=Hy q.gl q.gr q.m q.own/\∀ c,c<q.n->c≠q.own->c ∉ s->hwC q row c<=HE q c) (fun row=>∀ c,c<q.n->c≠q.own->c ∉ s->hwC q row c<=HE q c) v:=by
 have h8:=hq.n2;have hm:=hq.m;have ihk:∀ x:Int,uY prog fF 45 [AW true s.length (cX s),.int .i64 x] (.bool (bA s x)):=fun x=>Cq true (by omega) _ x;have ihc:∀ x:Int,uY prog fF 65 [.int .i64 x,EV.ip [EV.ip (AD q) 0] 0,EV.ip [AW true s.length (cX s)] 0] (.bool (bH q s x)):=fun x=>shC true _ _ x q _ (ihk x);have iht:∀ x:Int,0<=x->x<q.m'->uY prog fF 66 [EV.ip (AD q) 0,.int .i64 x] (.int .i64 (moS q x)):=fun x h0 h1=>by
  obtain ⟨i,rfl⟩:=Int.eq_ofNat_of_zero_le h0;have hi:i<q.n:=by rw [<-hq.np.2]; omega
  rw [NQ hq hd hi];exact VF hq hd hi
 have ihx:∀ r:Int,∃ (bg:Bool) (NG:Nat) (gg:Nat->Int),uY prog fF 63 [EV.ip (AD q) 0,AW true s.length (cX s),.uS true 1 1 fun i=>[[EV.int .i64 r]].getD (0+i) [],EV.bool true] (EV.agg [AW true s.length (cX s),.uS true 1 1 fun _=>[.int .i64 r],AW bg NG gg]):=fun r=>by
  obtain ⟨b,NG,gg,hx⟩:=OU (q:=q) (nf:=s.length) (fr:=cX s) (bc:=true) (nc:=1) (cl:=fun _=>r) (by omega) (fun x=>Cq true (by omega) _ x);refine ⟨b,NG,gg,hx.weaken (.cons (aG.refl _) (.cons (aG.refl _) (.cons (aG.uS fun i hi=>?_) (.cons (aG.refl _) .nil)))) (aG.refl _)⟩;obtain rfl:i=0:=by omega
  rfl
 have hown:bH q s (q.own:Nat)=false:=by rw [LW hq hd]; exact uL (by simp)
 rcases XF hq ihc iht ihx _ 0 (uJ _) with ⟨hpos,h3⟩ | ⟨r,bg,NG,gg,hr,hr2,hr3,h3⟩
 ·have h3':=uM.cl (path:=ABn) (uM.cT (σ:=[fE.var false true [EV.ip (AD q) 0],fE.var false true [AW true s.length (cX s)],fE.var false true [Av,Av,Av]]) (r:=0) rfl rfl (uM.cT (r:=1) rfl rfl h3)) (by kernel_rfl) (by kernel_rfl);have hm':∀ c,c<q.n->bH q s (c:Nat)=true->0<=moS q (c:Nat)/\moS q (c:Nat)<=1073741824:=fun c hc h=>by
   have h1:=LW hq hd (s:=s) (c:=c);rw [h] at h1;have h2:=of_decide_eq_true h1.symm;exact ⟨hpos c (Cy.2 ⟨hc,h2.1⟩) h,(XJ hq hd _).2⟩
  obtain ⟨f,lev,v,k,sd,hB,hk,h80⟩:=Td hq (ct:=bH q s) (mo:=moS q) (met:=CT (bH q s)) rfl hm';have h78:=xZ hq (ct:=bH q s) (mo:=moS q) rfl ihc iht fun x=>by have:=XJ hq hd x; omega
  have hnd:((AG q q.m).filter (CT (bH q s))).Nodup:=(Bo _).filter _;have hpf:=MQ hq;have hfl:((AG q q.m).filter (CT (bH q s))).length<=64:=Nat.le_trans (List.length_filter_le _ _) hpf;have hR:=OW hq;have hA:=HC hR (met:=CT (bH q s)) (ct:=bK (bH q s)) (most:=fun c=>moS q (c:Nat)) hm';have hM:=WU hA hB.lv hB.fl.cap hB.fl.cons hB.s;have hval:=hB.fl.val;rw [hval] at hM;by_cases hv:v<Dj (bH q s) (moS q) (I5 q ((AG q q.m).filter (CT (bH q s))) ((AG q q.m).filter (CT (bH q s))).length) q.n
  ·have hno:∀ row,Bw q row->¬ ∀ c,c<q.n->c≠q.own->c ∉ s->hwC q row c<=HE q c:=fun row hc hh=>by
    have:=RY hR (ct:=bK (bH q s)) (most:=fun c=>moS q (c:Nat)) hown rfl hm' hB.lv hB.fl.cap hB.fl.cons hB.s (hf:=hfX q.gl q.gr q.m fun g=>3 - row g) (fun p hp=>Pb (DZ hq) (HH hq hd hc) p) (fun c hcn hct=>by
     show _<=moS q (c:Nat);rw [<-OE (DZ hq),NQ hq hd hcn];have hct':bH q s (c:Nat)=true:=hct;rw [LW hq hd,decide_eq_true_iff] at hct';exact hh c hcn hct'.1 hct'.2)
    rw [hval] at this;have hv2:v<Bd (fun j=>Ac q.gl q.gr q.m (uP ((AG q q.m).filter (CT (bH q s))) j)) ((AG q q.m).filter (CT (bH q s))).length:=hv;exact absurd hv2 (Int.not_lt.2 this)
   have hfi:(0:Int)<=1+(((AG q q.m).filter (CT (bH q s))).length:Int)/\1+(((AG q q.m).filter (CT (bH q s))).length:Int)<=1000:=by omega
   rcases ZJ hq hfi ihc (fun x=>Cq true (n:=k) (by omega) sd x) _ 0 (uJ _) with h13 | ⟨G,gm,hG,h13⟩
   ·obtain ⟨b,NG,gg,hx⟩:=OU (q:=q) (nf:=s.length) (fr:=cX s) (bc:=false) (nc:=0) (cl:=fun _=>0) (by omega) (fun x=>Cq false (by omega) _ x);have h13':=uM.cl (path:=wS) h13 (by kernel_rfl) (by kernel_rfl);have h:=ABw q s.length (cX s) _ _ _ _ _ _ f v k sd _ 0 (fun _=>0) b NG gg 0 (fun _=>0) hv h78 h80 (hx.weaken (.cons (aG.refl _) (.cons (aG.refl _) (.cons aG.bB (.cons (aG.refl _) .nil)))) (aG.aggs (.cons (aG.refl _) (.cons aG.bB (.cons (aG.refl _) .nil))))) h3' h13';refine ⟨.tuple [Av,.agg [AW true s.length (cX s),AW false 0 (fun _=>0),AW b NG gg],.bool false],h.res (aG.tups (.cons (aG.refl _) (.cons (aG.aggs (.cons (aG.refl _) (.cons aG.bB (.cons (aG.refl _) .nil)))) (.cons (aG.refl _) .nil)))),.inr ⟨_,_,_,_,_,_,_,_,_,rfl,hno⟩⟩
   ·obtain ⟨b,NG,gg,hx⟩:=OU (q:=q) (nf:=s.length) (fr:=cX s) (bc:=true) (nc:=G) (cl:=gm) (by omega) (fun x=>Cq true (by omega) _ x);have h13':=uM.cl (path:=wX) h13 (by kernel_rfl) (by kernel_rfl);have h:=ABx q s.length (cX s) _ _ _ _ _ _ f v k sd _ G gm b NG gg 0 (fun _=>0) hv h78 h80 (by simpa only [uJ] using hx) h3' h13';exact ⟨_,h,.inr ⟨_,_,_,_,_,_,_,_,_,rfl,hno⟩⟩
  ·have hv':Dj (bH q s) (moS q) (I5 q ((AG q q.m).filter (CT (bH q s))) ((AG q q.m).filter (CT (bH q s))).length) q.n<=v:=by omega
   have hflow:=RX hR (ct:=bK (bH q s)) (most:=fun c=>moS q (c:Nat)) hown rfl hm' hM hv' (fA:=fun p=>f (Qw (bK (bH q s)) (uP ((AG q q.m).filter (CT (bH q s)))) (ixP ((AG q q.m).filter (CT (bH q s))) p))) (fun j hj i hi e=>by
    have hmt:=(List.mem_filter.1 (D9 (d:=((0:Nat),(0:Nat))) hj)).2;have h1:bK (bH q s) (uP ((AG q q.m).filter (CT (bH q s))) j).1=true:=(Bool.and_eq_true_iff.1 hmt).1;obtain ⟨p1,p2⟩:=Ta (n:=q.n) hj h1;show f (Qw _ _ (ixP ((AG q q.m).filter (CT (bH q s))) (uP ((AG q q.m).filter (CT (bH q s))) j)))=f i;rw [NP hnd hj];exact congrArg f (Rk p1 hi (p2.trans e.symm)))
   obtain ⟨f1,f2,f3⟩:=hflow;have hgive:∀ p,p∈AG q q.m->∃ (mt:Bool) (jg:Nat) (ga gb:Int),(mt=true->BM prog 94 (FM p) (CU (bH q s) ((AG q q.m).filter (CT (bH q s))) ((AG q q.m).filter (CT (bH q s))).length) 0 (some (jg,.agg [.int .i64 ga,.int .i64 gb])))/\(mt=false->BM prog 94 (FM p) (CU (bH q s) ((AG q q.m).filter (CT (bH q s))) ((AG q q.m).filter (CT (bH q s))).length) 0 none)/\(mt=true->0<=ga/\ga<(Fo (bH q s) ((AG q q.m).filter (CT (bH q s))) q.n (Ac q.gl q.gr q.m) (moS q)).length)/\(mt=true->0<=f ga.toNat/\f ga.toNat<=2*((AO q.gp q.m p).length:Int))/\
     hfS (bK (bH q s)) q.own (Ac q.gl q.gr q.m) (fun p=>f (Qw (bK (bH q s)) (uP ((AG q q.m).filter (CT (bH q s)))) (ixP ((AG q q.m).filter (CT (bH q s))) p))) p=if mt=true then f ga.toNat else if p.2=q.own∨(p.1≠q.own/\bH q s (p.1:Nat)=true) then 0 else 2*((AO q.gp q.m p).length:Int):=fun p hp=>by
    have hcap:=hB.fl.cap;generalize hF:(AG q q.m).filter (CT (bH q s))=fl at hnd hcap ⊢;by_cases hmet:CT (bH q s) p=true
    ·have hpf:p∈fl:=by rw [<-hF]; exact List.mem_filter.2 ⟨hp,hmet⟩
     obtain ⟨j,hj,e⟩:=List.getElem_of_mem hpf;have ep:uP fl j=p:=by rw [uP,uA,uD hj]; exact e
     have ei:ixP fl p=j:=by rw [<-ep]; exact NP hnd hj
     have hfind:=Gc (f:=Mz (bH q s) fl) fl 0 0 j hj hnd e;rw [uJ] at hfind;rw [CU,List.take_length];have hm2:(bK (bH q s) p.1 && bK (bH q s) p.2)=true:=hmet;have h1:bH q s (p.1:Nat)=true:=(Bool.and_eq_true_iff.1 hmet).1;rw [hfS,if_pos hm2];simp only [ei];have hb1:bK (bH q s) (uP fl j).1=true:=by rw [ep]; exact h1
     obtain ⟨p1,p2⟩:=Ta (n:=q.n) hj hb1;have hc:=hcap _ p1;simp only [HB,p2,Cp] at hc;rw [ep,show Ac q.gl q.gr q.m p=2*((AO q.gp q.m p).length:Int) from rfl] at hc;have hlen:=LV (ct:=bH q s) (fl:=fl) (n:=q.n) (all:=Ac q.gl q.gr q.m) (mo:=moS q);have p1':Qw (bK (bH q s)) (uP fl) j<GA (bK (bH q s)) fl q.n:=p1;rw [<-hlen] at p1';have h1':bH q s ((uP fl j).1:Nat)=true:=hb1;refine ⟨true,j,_,_,fun _=>hfind,(fun h=>by cases h),?_⟩;rw [if_pos h1',if_pos rfl];have et:(((CD (bK (bH q s)) (uP fl) j).length:Int)+1).toNat=Qw (bK (bH q s)) (uP fl) j:=by rw [Qw]; omega
     rw [et];refine ⟨fun _=>⟨by omega,?_⟩,fun _=>hc,rfl⟩;rw [Qw] at p1';omega
    ·have hpf:p ∉ fl:=by rw [<-hF]; exact fun h=>hmet (List.mem_filter.1 h).2
     rw [CU,List.take_length];have hm2:¬ (bK (bH q s) p.1 && bK (bH q s) p.2)=true:=hmet;refine ⟨false,0,0,-1,(fun h=>by cases h),fun _=>I4 _ _ _ hpf,(fun h=>by cases h),(fun h=>by cases h),?_⟩;rw [hfS,if_neg hm2];simp only [Bool.false_eq_true,if_false];rfl
   obtain ⟨row,h21,hF⟩:=ZK hq (Vn:=1+(((AG q q.m).filter (CT (bH q s))).length:Int)+(q.n:Int)+1) (B:=Cb (Fo (bH q s) ((AG q q.m).filter (CT (bH q s))) q.n (Ac q.gl q.gr q.m) (moS q))) (tot:=Dj (bH q s) (moS q) (I5 q ((AG q q.m).filter (CT (bH q s))) ((AG q q.m).filter (CT (bH q s))).length) q.n) (fi:=1+(((AG q q.m).filter (CT (bH q s))).length:Int)) (bN:=decide (0<(Fo (bH q s) ((AG q q.m).filter (CT (bH q s))) q.n (Ac q.gl q.gr q.m) (moS q)).length)) ihc hgive (AG q q.m).length 0 (fun _=>0) (by omega) (fun p hp=>by simp at hp);have h21':=uM.cl (path:=ABo) h21 (by kernel_rfl) (by kernel_rfl);have h:=ABy q s.length (cX s) _ _ _ _ _ _ f v k sd _ 0 (fun _=>0) true 0 (fun _=>0) 0 row hv' (by omega) h78 h80 h3' h21';simp only [uJ] at h;obtain ⟨c1,c2,c3⟩:=Mn hq hF;refine ⟨_,h,.inl ⟨row,rfl,c1,?_,fun c hc hco hcs=>?_⟩⟩
   ·rw [hwC,c3,f2];exact w9 (DZ hq) q.own
   ·rw [hwC,c3,<-NQ hq hd hc];refine f3 c hc ?_;show bH q s (c:Nat)=true;rw [LW hq hd]; exact uK ⟨hco,hcs⟩
 ·have h3':=uM.cl (path:=ABn) (uM.cT (σ:=[fE.var false true [EV.ip (AD q) 0],fE.var false true [AW true s.length (cX s)],fE.var false true [Av,Av,Av]]) (r:=0) rfl rfl (uM.cT (r:=1) rfl rfl h3)) (by kernel_rfl) (by kernel_rfl);have h:=ABv q s.length (cX s) 0 0 (fun _=>default) [] 0 0 (fun _=>0) 0 0 (fun _=>0) true 0 (fun _=>0) bg NG gg (r:Nat) (fun _=>0) h3';refine ⟨_,h,.inr ⟨true,s.length,cX s,true,1,fun _=>(r:Nat),bg,NG,gg,rfl,fun row hc hh=>?_⟩⟩;obtain ⟨hrn,hro⟩:=Cy.1 hr;have h1:=LW hq hd (s:=s) (c:=r);rw [hr2] at h1;have h2:=of_decide_eq_true h1.symm;have h4:=hh r hrn h2.1 h2.2;rw [NQ hq hd hrn] at hr3;have h5:=IS (DZ hq) (MP hq) hd (HH hq hd hc) r;have h6:hwC q row r=FN q.gl q.gr q.m (fun g=>3 - row g) r:=rfl;omega
end
section
variable {q:fG}(hq:q.Ok)(hd:0<q.draw)(hw:q.aI=2*q.draw)
include hq hd hw
theorem vA {c:Nat->Int}(hc:Bw q c)(i:Nat):CS q c q.m i=Ic q.draw q.uV q.gl q.gr q.m (fun g=>3 - c g) i:=by
 have key:∀ k,k<=q.m->CS q c k i=q.uV i+q.draw*FN q.gl q.gr k (fun g=>3 - c g) i:=by
  intro k;induction k with
  | zero=>intro _; simp [CS,FN,Bd]
  | succ k ih=>
   intro hk;have h:=hq.op k (by omega);have hck:=hc k (by omega);have el:((q.op k).left=(i:Int))↔q.gl k=i:=by
    show _↔(q.op k).left.toNat=i;omega
   have er:((q.op k).right=(i:Int))↔q.gr k=i:=by
    show _↔(q.op k).right.toNat=i;omega
   have eh:FN q.gl q.gr (k+1) (fun g=>3 - c g) i=FN q.gl q.gr k (fun g=>3 - c g) i+((if q.gl k=i then 3 - c k else 0)+if q.gr k=i then 2 - (3 - c k) else 0):=rfl;rw [CS,I3,ih (by omega),eh,Int.mul_add];simp only [el,er,Mi,Mj,hw];rcases (by omega:c k=1∨c k=2∨c k=3) with e | e | e<;>simp only [e]<;>(by_cases a1:q.gl k=i<;>by_cases a2:q.gr k=i<;>simp [a1,a2]<;>omega)
 exact key q.m (Nat.le_refl _)
theorem Rl:Bf q q.m=q.uV q.own+q.draw*Hy q.gl q.gr q.m q.own:=by
 have key:∀ k,k<=q.m->Bf q k=q.uV q.own+q.draw*Hy q.gl q.gr k q.own:=by
  intro k;induction k with
  | zero=>intro _; simp [Bf,Hy,Bd]
  | succ k ih=>
   intro hk;have h:=(DZ hq).lr k (by omega);have eh:Hy q.gl q.gr (k+1) q.own=Hy q.gl q.gr k q.own+((if q.gl k=q.own then 2 else 0)+if q.gr k=q.own then 2 else 0):=rfl;rw [Bf,ih (by omega),eh,Int.mul_add];by_cases h1:q.gl k=q.own
   ·have h2:q.gr k≠q.own:=fun e=>h.2.2 (h1.trans e.symm);rw [if_pos (.inl h1),if_pos h1,if_neg h2,hw]; omega
   ·by_cases h2:q.gr k=q.own
    ·rw [if_pos (.inr h2),if_neg h1,if_pos h2,hw]; omega
    ·rw [if_neg (by rintro (x | x); exact h1 x; exact h2 x),if_neg h1,if_neg h2]; omega
 exact key q.m (Nat.le_refl _)
theorem LX {c:Nat->Int}(hc:Bw q c):CS q c q.m=Ic q.draw q.uV q.gl q.gr q.m fun g=>3 - c g:=funext fun i=>vA hq hd hw hc i
abbrev AB1 (q:fG)(s:List Nat)(row:Nat->Int):Prop:=hwC q row q.own=0/\∀ c,c∈s->HZ q c<=hwC q row c
abbrev AB2 (q:fG)(s:List Nat)(row:Nat->Int):Prop:=∀ c,c∈s->HZ q c<=hwC q row c
abbrev AB3 (q:fG)(s:List Nat)(row:Nat->Int):Prop:=hwC q row q.own=Hy q.gl q.gr q.m q.own/\∀ c,c<q.n->c≠q.own->c ∉ s->hwC q row c<=HE q c
abbrev AB4 (q:fG)(s:List Nat)(row:Nat->Int):Prop:=∀ c,c<q.n->c≠q.own->c ∉ s->hwC q row c<=HE q c
theorem Rm {s:List Nat}(hs:s∈CL q.place.toNat (AH q.n q.own)){row:Nat->Int}(hc:Bw q row)(h:AB1 q s row):D1 q row:=by
 have hp:=hq.place;have:=RZ (DZ hq) (MP hq) hd (fun i hi=>OM hq hd hi) hs h.1 h.2;rw [D1,LX hq hd hw hc];omega
theorem Rn (h:∀ s,s∈CL q.place.toNat (AH q.n q.own)->∀ row,Bw q row->¬ AB2 q s row){row:Nat->Int}(hc:Bw q row):¬ D1 q row:=fun hg=>by
 have hp:=hq.place;rw [D1,LX hq hd hw hc] at hg;obtain ⟨s,h1,h2⟩:=Ra (DZ hq) (MP hq) hd (fun i hi=>OM hq hd hi) (k:=q.place.toNat) (HH hq hd hc) (by omega);exact h s h1 row hc h2
theorem Ro {s:List Nat}(hs:s∈CL (q.place - 1).toNat (AH q.n q.own)){row:Nat->Int}(hc:Bw q row)(h:AB3 q s row):ET q row:=by
 have hp:=hq.place;have:=Rb (DZ hq) (MP hq) hd (Rl hq hd hw) (fun i hi=>ON hq hd hi) hs h.1 h.2;rw [ET,LX hq hd hw hc];omega
theorem Rp (h:∀ s,s∈CL (q.place - 1).toNat (AH q.n q.own)->∀ row,Bw q row->¬ AB4 q s row){row:Nat->Int}(hc:Bw q row):¬ ET q row:=fun hg=>by
 have hp:=hq.place;rw [ET,LX hq hd hw hc] at hg;obtain ⟨s,h1,h2⟩:=Rc (DZ hq) (MP hq) hd (Rl hq hd hw) (fun i hi=>ON hq hd hi) (k:=(q.place - 1).toNat) (by omega) (HH hq hd hc) (by omega);exact h s h1 row hc h2
end
end Go.Ev
namespace Go.Ev
set_option linter.unusedVariables false
def Ij (L:List Nat)(m r:Nat):Nat:=if r<L.length then L.getD r 0 else r - L.length+m
def I8 (L:List Nat)(m:Nat):AL->Option AL
 | []=>some []
 | .dead :: σ=>(I8 L m σ).map (.dead :: ·)
 | .free :: σ=>(I8 L m σ).map (.dead :: ·)
 | .loop st t ps a b p :: σ=>if t.all fun v=>v.refs.all fun r=>Nat.beq (Ij L m r) r then (I8 L m σ).map (.loop st t ps a b p :: ·) else none
 | o :: σ=>if o.cT then (I8 L m σ).map (o.aX (Ij L m) :: ·) else none
def MR (L:List Nat)(s:AL):Nat->Nat->AL
 | _,0=>[]
 | i,n+1=>(if L.contains i then s.getD (L.idxOf i) .dead else .dead) :: MR L s (i+1) n
theorem I9 (L:List Nat)(s:AL):∀ n i,(MR L s i n).length=n
 | 0,_=>rfl
 | n+1,i=>by rw [MR,List.length_cons,I9 L s n]
theorem Rq (L:List Nat)(s:AL):∀ n i j,j<n->(MR L s i n)[j]? =some (if L.contains (i+j) then s.getD (L.idxOf (i+j)) .dead else .dead)
 | n+1,i,0,_=>by rw [MR,List.getElem?_cons_zero,Nat.add_zero]
 | n+1,i,j+1,h=>by rw [MR,List.getElem?_cons_succ,Rq L s n (i+1) j (by omega),show i+1+j=i+(j+1) by omega]
theorem P6 {L:List Nat}{m:Nat}:∀ (σ s:AL),I8 L m σ=some s->s.length=σ.length/\∀ (i:Nat) (o:fE),s[i]? =some o->o=.dead∨∃ o0,σ[i]? =some o0/\eG (Ij L m) (fun _=>True) o0/\o=o0.aX (Ij L m)
 | [],s,h=>by
  simp only [I8,uB] at h;subst h;exact ⟨rfl,fun i o h=>by simp at h⟩
 | x :: σ,s,h=>by
  have step:∀ y:fE,(y=.dead∨(eG (Ij L m) (fun _=>True) x/\y=x.aX (Ij L m)))->(I8 L m σ).map (y :: ·)=some s->s.length=(x :: σ).length/\∀ (i:Nat) (o:fE),s[i]? =some o->o=.dead∨∃ o0,(x :: σ)[i]? =some o0/\eG (Ij L m) (fun _=>True) o0/\o=o0.aX (Ij L m):=by
   intro y hy h;cases hf:I8 L m σ with
   | none=>rw [hf] at h; cases h
   | some s'=>
    rw [hf] at h;simp only [Option.map_some,uB] at h;subst h;obtain ⟨h1,h2⟩:=P6 σ s' hf;refine ⟨by simp [h1],fun i o ho=>?_⟩;cases i with
    | zero=>
     simp only [List.getElem?_cons_zero,uB] at ho;subst ho;rcases hy with h | ⟨h,h'⟩
     ·exact .inl h
     ·exact .inr ⟨x,by simp,h,h'⟩
    | succ i=>simpa using h2 i o (by simpa using ho)
  cases x with
  | dead=>exact step _ (.inl rfl) h
  | free=>exact step _ (.inl rfl) h
  | loop st t ps a b p=>
   simp only [I8] at h;split at h
   ·rename_i hc;refine step _ (.inr ⟨.inr ⟨st,t,ps,a,b,p,rfl,fun v hv r hr=>⟨trivial,?_⟩⟩,rfl⟩) h;exact Nat.eq_of_beq_eq_true (List.all_eq_true.1 (List.all_eq_true.1 hc v hv) r hr)
   ·cases h
  | dfr=>simp [I8,fE.cT] at h
  | var fr pf c=>exact step _ (.inr ⟨.inl ⟨rfl,fun _ _=>trivial⟩,rfl⟩) (by simpa [I8,fE.cT] using h)
  | arr fr pf esz ex len row=>exact step _ (.inr ⟨.inl ⟨rfl,fun _ _=>trivial⟩,rfl⟩) (by simpa [I8,fE.cT] using h)
  | map fr pf es=>exact step _ (.inr ⟨.inl ⟨rfl,fun _ _=>trivial⟩,rfl⟩) (by simpa [I8,fE.cT] using h)
  | flat fr len cell over=>exact step _ (.inr ⟨.inl ⟨rfl,fun _ _=>trivial⟩,rfl⟩) (by simpa [I8,fE.cT] using h)
def KM.via (K K':KM)(L:List Nat)(m:Nat):KM:=
 ⟨fun r=>if r<m then (if r∈L then K'.vP (L.idxOf r) else K.vP r) else K'.vP (r - m+L.length),fun r=>if r<m then (if r∈L then K'.off (L.idxOf r) else K.off r) else K'.off (r - m+L.length),fun r=>if r<m then (if r∈L then K'.ext (L.idxOf r) else K.ext r) else K'.ext (r - m+L.length),fun r=>if r<m then (if r∈L then K'.len (L.idxOf r) else K.len r) else K'.len (r - m+L.length),
  fun r=>if r<m then (if r∈L then K'.al (L.idxOf r) else K.al r) else K'.al (r - m+L.length),K'.F⟩
theorem Ss {K K':KM}{L:List Nat}{m r:Nat}(h:r<m)(hL:r∈L):(K.via K' L m).vP r=K'.vP (L.idxOf r)/\(K.via K' L m).off r=K'.off (L.idxOf r)/\(K.via K' L m).ext r=K'.ext (L.idxOf r)/\(K.via K' L m).len r=K'.len (L.idxOf r)/\((K.via K' L m).al r↔K'.al (L.idxOf r)):=by
 simp only [KM.via,if_pos h,if_pos hL,and_self,iff_self]
theorem Te {K K':KM}{L:List Nat}{m r:Nat}(h:r<m)(hL:r ∉ L):(K.via K' L m).vP r=K.vP r/\(K.via K' L m).off r=K.off r/\(K.via K' L m).ext r=K.ext r/\(K.via K' L m).len r=K.len r/\((K.via K' L m).al r↔K.al r):=by
 simp only [KM.via,if_pos h,if_neg hL,and_self,iff_self]
theorem XK {L:List Nat}(hnd:L.Nodup){r:Nat}(h:r<L.length):L.getD r 0∈L/\L.idxOf (L.getD r 0)=r:=by
 rw [uA,uD h,Option.getD_some];exact ⟨List.getElem_mem h,hnd.idxOf_getElem r h⟩
theorem VZ {K K':KM}{L:List Nat}{m r:Nat}(hnd:L.Nodup)(hlt:∀ r∈L,r<m):F0 K' (K.via K' L m) (Ij L m) r:=by
 by_cases h:r<L.length
 ·obtain ⟨h1,h2⟩:=XK hnd h;have e:Ij L m r=L.getD r 0:=if_pos h;obtain ⟨a,b,c,d,f⟩:=Ss (K:=K) (K':=K') (hlt _ h1) h1;rw [h2] at a b c d f;rw [F0,e];exact ⟨f.2,a,b,c,d⟩
 ·have e:Ij L m r=r - L.length+m:=if_neg h;have h1:¬ r - L.length+m<m:=by omega
  have h2:r - L.length+m - m+L.length=r:=by omega
  rw [F0,e];simp only [KM.via,if_neg h1,h2];exact ⟨id,trivial,trivial,trivial,trivial⟩
section
variable {P:Program}{G:Nat->Option (List EV)}
theorem aA.via (L:List Nat){f:FuncId}{args as':List EV}{τ σ σ' s s3:AL}{v v':EV}(hL:(decide L.Nodup && L.all fun r=>Nat.blt r τ.length)=true)(hr:FQ τ L L=some σ)(ha:as'=args.map (I0 L))(h:aA P G f as' σ v σ')
  (hs:I8 L τ.length σ'=some s) (hv:bL (v.aX (Ij L τ.length)) v') (hh:eW (MR L s 0 τ.length++s.drop L.length) s3):aA P G f args τ v' s3:=by
 simp only [uF,decide_eq_true_eq,List.all_eq_true] at hL;obtain ⟨hnd,hlt⟩:=hL;have hlt:∀ r∈L,r<τ.length:=fun r h=>by simpa [Nat.blt_eq] using hlt r h
 refine ⟨h.1,fun K w margs hR hG hargs=>?_⟩;obtain ⟨r1,r2⟩:=NC hR hnd hr;have hσ:=(Hk L σ hr).1;have hargs1:aU (K.loc L) w as' margs:=by
  subst ha;refine ⟨by simp [hargs.1],fun i a b=>?_⟩;rw [List.getElem_map];have:=hargs.2 i (by simpa using a) b;unfold I0;split
  ·rename_i hall;exact VR.aX (K:=K) (K':=K.loc L) rfl this fun r hr=>EC (by simpa using List.all_eq_true.1 hall r hr)
  ·exact .pure _ _ (.undef _)
 refine (h.2 (K.loc L) w margs r1 hG hargs1).mono fun e w' hp=>?_;cases e with
 | outgrown=>exact hp
 | panicked _=>exact hp
 | returned mv=>
  obtain ⟨K',h3,h4,h5⟩:=hp;obtain ⟨l1,l2⟩:=P6 σ' s hs;have hlen:=h3.len;have get:∀ i o,(MR L s 0 τ.length++s.drop L.length)[i]? =some o->o=.dead∨∃ r o0,σ'[r]? =some o0/\Ij L τ.length r=i/\eG (Ij L τ.length) (fun _=>True) o0/\o=o0.aX (Ij L τ.length):=by
   intro i o hi;rcases Nat.lt_or_ge i τ.length with h1 | h1
   ·rw [List.getElem?_append_left (by rw [I9]; exact h1),Rq L s _ _ _ h1,uJ] at hi;have hi:=uC hi;split at hi
    ·rename_i hc;have hm:i∈L:=by simpa using hc
     have hx:=List.idxOf_lt_length_of_mem hm;rw [uA] at hi;cases hg:s[L.idxOf i]? with
     | none=>rw [hg] at hi; exact .inl hi.symm
     | some o1=>
      rw [hg] at hi;obtain rfl:o1=o:=hi;rcases l2 _ _ hg with h | ⟨o0,a,b,c⟩
      ·exact .inl h
      ·refine .inr ⟨L.idxOf i,o0,a,?_,b,c⟩;rw [Ij,if_pos hx,uA,uD hx];simp
    ·exact .inl hi.symm
   ·rw [List.getElem?_append_right (by rw [I9]; exact h1),I9,List.getElem?_drop] at hi;rcases l2 _ o hi with h | ⟨o0,a,b,c⟩
    ·exact .inl h
    ·exact .inr ⟨_,o0,a,by rw [Ij,if_neg (by omega)]; omega,b,c⟩
  have hmv:∀ r,F0 K' (K.via K' L τ.length) (Ij L τ.length) r:=fun r=>VZ hnd hlt;have hown:∀ b,aD (K.via K' L τ.length) (MR L s 0 τ.length++s.drop L.length) b->aD K' σ' b:=by
   rintro b ⟨i,o,hi,hlv,hb⟩
   rcases get i o hi with rfl | ⟨r,o0,a1,a2,a3,rfl⟩
   ·cases hlv
   ·rw [Dh] at hlv;exact ⟨r,o0,a1,hlv,by rw [<-hb,<-a2]; exact (hmv r).2.1.symm⟩
  have hTl:(MR L s 0 τ.length++s.drop L.length).length=τ.length+(σ'.length - L.length):=by
   rw [List.length_append,I9,List.length_drop,l1]
  have hE:Ext K τ w (K.via K' L τ.length) (MR L s 0 τ.length++s.drop L.length) w':=by
   refine ⟨by rw [hTl]; omega,fun r hr=>?_,fun r hr=>?_,h3.F,fun b hb=>?_,fun b hb=>?_,fun b h1 h2=>h3.stay b h1 fun ho=>h2 (r2 b ho),h3.size,h3.os,h3.tape,h3.output⟩
   ·have hlt':=hR.alt r hr;by_cases hm:r∈L
    ·refine (Ss hlt' hm).2.2.2.2.2 (h3.al _ ?_);have hx:=List.idxOf_lt_length_of_mem hm;refine ⟨hx,?_⟩;rw [uA,uD hx];simpa using hr
    ·exact (Te hlt' hm).2.2.2.2.2 hr
   ·have hlt':=hR.alt r hr;by_cases hm:r∈L
    ·have hx:=List.idxOf_lt_length_of_mem hm;have hg:L.getD (L.idxOf r) 0=r:=by
      rw [uA,uD hx];simp
     obtain ⟨a,b,c,e,_⟩:=Ss (K:=K) (K':=K') hlt' hm;obtain ⟨a',b',c',e'⟩:=h3.vP (L.idxOf r) ⟨hx,by rw [hg]; exact hr⟩;simp only [KM.loc,hg] at a' b' c' e';exact ⟨a.trans a',b.trans b',c.trans c',e.trans e'⟩
    ·obtain ⟨a,b,c,e,_⟩:=Te (K:=K) (K':=K') hlt' hm;exact ⟨a,b,c,e⟩
   ·rcases h3.F' b hb with h | h | h
    ·exact .inl h
    ·exact .inr (.inl h)
    ·exact .inr (.inr (r2 b h))
   ·rcases h3.own b (hown b hb) with h | h
    ·exact .inl h
    ·exact .inr (r2 b h)
  have hR2:Rel (K.via K' L τ.length) (MR L s 0 τ.length++s.drop L.length) w':=by
   refine ⟨fun i o hi=>?_,fun i i' o1 o2 hi hi' k1 k2 hb=>?_,fun b hb=>h4.cD b (hown b hb),fun i o hi ht=>?_,h4.Flt,fun r hr=>?_⟩
   ·rcases get i o hi with rfl | ⟨r,o0,a1,a2,a3,rfl⟩
    ·trivial
    ·rw [<-a2];exact OR.renOk (K:=K') rfl a3 (h4.obj r o0 a1) (hmv r) fun r' _=>hmv r'
   ·rcases get i o1 hi with rfl | ⟨r,o0,a1,a2,a3,rfl⟩
    ·cases k1
    rcases get i' o2 hi' with rfl | ⟨r',p0,b1,b2,b3,rfl⟩
    ·cases k2
    rw [Dh] at k1 k2;rw [<-a2,<-b2,(hmv r).2.1,(hmv r').2.1] at hb;rw [<-a2,<-b2,h4.inj r r' o0 p0 a1 b1 k1 k2 hb]
   ·rcases get i o hi with rfl | ⟨r,o0,a1,a2,a3,rfl⟩
    ·cases ht
    ·rw [<-a2,(hmv r).2.1];exact h4.lt r o0 a1 a3.there
   ·rw [hTl];rcases Nat.lt_or_ge r τ.length with h1 | h1
    ·omega
    ·have hr':K'.al (r - τ.length+L.length):=by simpa only [KM.via,if_neg (Nat.not_lt.2 h1)] using hr
     have:=h4.alt _ hr';omega
  exact ⟨_,hE.weaken (eW.refl _) hh,hh.rel hR2,hv _ _ _ (VR.aX (K:=K') rfl h5 fun r _=>hmv r)⟩
end
end Go.Ev
namespace Go.Ev
open Go.Proofs.Tryz (prog)
set_option maxRecDepth 100000
set_option maxHeartbeats 0
def cRA:Code->Code | .rangeFunc _ _ a _=>a | c=>c
def cRB:Code->Code | .rangeFunc _ _ _ b=>b | c=>c
noncomputable def XL:Code:=cB (cR (cL (cR (AY prog 35))))
noncomputable def Mo:Code:=cRA XL
noncomputable def Mp:Code:=cRB XL
noncomputable abbrev vB (st:LoopState):fE:=.loop st (frame 30 [(4,.ptr 0 0),(5,.ptr 1 0),(6,.ptr 2 0),(7,.ptr 3 0)]) #[15] Mo Mp none
noncomputable abbrev Qy:fE:=.loop .done (frame 30 [(4,.ptr 0 0),(5,.ptr 1 0),(6,.ptr 2 0),(7,.ptr 3 0)]) #[15] Mo Mp (some .ret)
noncomputable abbrev FD:=frame 43 []
abbrev DA (a0:fG):=(AH a0.n a0.own).length<=900
noncomputable abbrev Ab:=vB .ready
abbrev Va (a0:fG)(a1:Int):=[[iv (Co a0 a1.toNat)]]
abbrev FE (a0:Nat):=pv [iv a0] 0
abbrev AZ:=fE.var false false [.it 4]
abbrev DB (a0:Nat)(a1:Nat):=decide (a0+1<=a1)
noncomputable abbrev A3:=fE.loop LoopState.ready (frame 30 [(4,pt 0 0),(5,pt 1 0),(6,pt 2 0),(7,pt 3 0)]) #[15] Mo Mp none
abbrev CA (a0:Nat):=pv [iv ↑a0] 0
noncomputable abbrev AIT:=cB (cR (cL (cR (cR (AY prog 58)))))
abbrev P7 (a0:Int)(a1:fG):=decide (a0<(↑(AH a1.n a1.own).length:Int))
abbrev Am:=fE.var false false [EV.it 4]
abbrev J6 (a0:Int)(a1:fG):=(P7 a0 a1)=false
abbrev Vb (a0:fG)(a1:Int):=Va a0 a1
abbrev AJk (a0:Nat)(a1:fG):=fE.var false false [fc (58) [] [FE a0,pt 5 0,pv (Jm a1) 0,pt 6 0]]
abbrev AJl (a0:Nat)(a1:fG):=fE.var false false [fc (58) [] [CA a0,pt 5 0,pv (Jm a1) 0,pt 6 0]]
abbrev cP:=[AT]
abbrev DC (a0:Int)(a1:fG):=(P7 a0 a1)=true
noncomputable abbrev AH8:=cB (AIT)
noncomputable abbrev Bc (a0:Nat)(a1:Nat)(a2:fG)(a3:Int):=frame 43 [(1,.ms 7 1 0 a0 (some a1)),(4,pv (Ge a2) 0),(5,pt 6 0),(9,iv a3)]
abbrev BT (a0:fG)(a1:Int):=Vb a0 a1
abbrev eX (a0:Nat)(a1:fG):=AJk a0 a1
abbrev DD (a0:Int)(a1:Nat)(a2:Nat)(a3:fG):=[iv (a0+1),.ms 7 1 0 (a1+1) (some a2),FE a2,pt 5 0,H7 a3,pt 6 0]
abbrev aL (a0:Nat)(a1:fG):=[fc (a0) (Ge a1) []]
abbrev eY (a0:Nat)(a1:fG):=AJl a0 a1
section
variable (q:fG)(xf:Nat)(k:Nat)(o:Nat->Int)(c:Nat)(cr:Nat->List EV)(l:Nat)(i:Int)(o2:Nat->Int)(c2:Nat)(cr2:Nat->List EV)(row:Nat->Int)(hk:k<=8)(hl:l<k)(h0:0<=i)(hR:DA q)(ihw:i<(CQ q).length->sF 58 (DD i l k q) [oV (aL xf q),oV cG,oV cG,oV [bv false],Ab,AZ,eX k q,oA 1 true k (Aw (0+l) 1 (fun i=>[iv (o i)]) fun i_1=>(BT q i).getD (0+i_1) []),oA 1 true 1 fun i_1=>(BT q i).getD i_1 [],fE.free,fE.free,fE.free,fE.free] (bv true) [oV (aL xf q),oV cG,oV cG,oV [bv false],Ab,AZ,eX k q,oA 1 true k fun j=>(AA o2 j),oD,oD,oD,oD,oD])
include q xf k o c cr l i o2 c2 cr2 row hk hl h0 hR ihw
theorem YP (q0:DC i q):sR 8 (AH8) (Bc l k q i) ([oV (aL xf q),oV cG,oV cG,oV [bv false],Ab,AZ,eX k q,oA 1 true k fun j=>[iv (o j)]]) (xN,(frame 43 [(1,EV.ms 7 1 0 l (some k)),(4,pv (AB q) 0),(5,pt 6 0),(9,iv (i+1))]),[oV (aL xf q),oV cP,oV cP,oV [bv false],A3,Am,eY k q,oA 1 true k fun i=>(AA o2 i)]):=
 kR _ (.mk (dS 71582745006) [] [] [some ((bv true,[oV (aL xf q),oV cP,oV cP,oV [bv false],A3,Am,eY k q,oA 1 true k fun i=>(AA o2 i),oD,oD,oD,oD,oD]))] []) (kO (kz q0 AN)) (rI (i+1) (.cons (ihw (by simp_all)) (oI (DB l k) (oL (A5 l) (rB i (AH q.n q.own).length (rI (i+1) .nil)))))) 562 255 [0,1,2,3,4,5,6,7] 8
end
abbrev DE (a0:Nat):=fE.var false false [EV.ms 8 3 0 a0 none]
section
variable (q:fG)(xf:Nat)(k:Nat)(o:Nat->Int)(c:Nat)(cr:Nat->List EV)(l:Nat)(i:Int)(o2:Nat->Int)(c2:Nat)(cr2:Nat->List EV)(row:Nat->Int)(hk:k<=8)(hl:l<k)(h0:0<=i)(hR:DA q)(ihw:i<(CQ q).length->sF 58 (DD i l k q) [oV (aL xf q),oV cG,oV cG,oV [bv false],Ab,AZ,eX k q,oA 1 true k (Aw (0+l) 1 (fun i=>[iv (o i)]) fun i_1=>(BT q i).getD (0+i_1) []),oA 1 true 1 fun i_1=>(BT q i).getD i_1 [],fE.free,fE.free,fE.free,fE.free] (bv true) [oV (aL xf q),oV cG,fE.var false false [.ms 13 3 0 c2 none],oV [bv false],Ab,AZ,eX k q,oA 1 true k fun j=>(AA o2 j),oD,oD,oD,oD,oD,oA 3 false c2 fun j=>cr2 j])
include q xf k o c cr l i o2 c2 cr2 row hk hl h0 hR ihw
theorem YQ (q0:DC i q):sR 8 (AH8) (Bc l k q i) ([oV (aL xf q),oV cG,oV cG,oV [bv false],Ab,AZ,eX k q,oA 1 true k fun j=>[iv (o j)]]) (xN,(frame 43 [(1,EV.ms 7 1 0 l (some k)),(4,pv (AB q) 0),(5,pt 6 0),(9,iv (i+1))]),[oV (aL xf q),oV cP,DE c2,oV [bv false],A3,Am,eY k q,oA 1 true k fun i=>(AA o2 i),oA 3 false c2 cr2]):=
 kR _ (.mk (dS 71582745006) [] [] [some ((bv true,[oV (aL xf q),oV cP,fE.var false false [EV.ms 13 3 0 c2 none],oV [bv false],A3,Am,eY k q,oA 1 true k fun i=>(AA o2 i),oD,oD,oD,oD,oD,oA 3 false c2 cr2]))] []) (kO (kz q0 AN)) (rI (i+1) (.cons (ihw (by simp_all)) (oI (DB l k) (oL (A5 l) (rB i (AH q.n q.own).length (rI (i+1) .nil)))))) 562 511 [0,1,2,3,4,5,6,7,13] 8
end
noncomputable abbrev Ve:=frame 30 [(4,pt 0 0),(5,pt 1 0),(6,pt 2 0),(7,pt 3 0)]
noncomputable abbrev Gs:=frame 43 [(8,bv false)]
noncomputable abbrev B3:=fE.loop LoopState.done (Ve) #[15] Mo Mp (some Code.ret)
abbrev CJ:=fE.var false false [AT]
abbrev AET:=fE.var false false cG
section
variable (q:fG)(xf:Nat)(k:Nat)(o:Nat->Int)(c:Nat)(cr:Nat->List EV)(l:Nat)(i:Int)(o2:Nat->Int)(c2:Nat)(cr2:Nat->List EV)(row:Nat->Int)(hk:k<=8)(hl:l<k)(h0:0<=i)(hR:DA q)(ihw:i<(CQ q).length->sF 58 (DD i l k q) [oV (aL xf q),oV cG,oV cG,oV [bv false],Ab,AZ,eX k q,oA 1 true k (Aw (0+l) 1 (fun i=>[iv (o i)]) fun i_1=>(BT q i).getD (0+i_1) []),oA 1 true 1 fun i_1=>(BT q i).getD i_1 [],fE.free,fE.free,fE.free,fE.free] (bv false) [oV (aL xf q),oV [Bs q row],AET,oV [bv true],Qy,AZ,eX k q,oA 1 true k fun j=>(AA o2 j),oD,oD,oD,oD,oD])
include q xf k o c cr l i o2 c2 cr2 row hk hl h0 hR ihw
theorem YR (q0:DC i q):sR 8 (AH8) (Bc l k q i) ([oV (aL xf q),oV cG,oV cG,oV [bv false],Ab,AZ,eX k q,oA 1 true k fun j=>[iv (o j)]]) (EX.ret,(Gs),[oV (aL xf q),oV [sl true 1 q.m fun i=>(AA row i)],CJ,oV [bv true],B3,Am,eY k q,oA 1 true k fun i=>(AA o2 i)]):=
 kR _ (.mk (dS 1092266) [] [] [some ((bv false,[oV (aL xf q),oV [sl true 1 q.m fun i=>(AA row i)],CJ,oV [bv true],B3,Am,eY k q,oA 1 true k fun i=>(AA o2 i),oD,oD,oD,oD,oD]))] []) (kO (kz q0 AN)) (.cons (ihw (by simp_all)) (oI (DB l k) (oL (A5 l) (rB i (AH q.n q.own).length (rI (i+1) .nil))))) 256 255 [0,1,2,3,4,5,6,7] 8
theorem YS (q0:J6 i q):sR 8 (AH8) (Bc l k q i) ([oV (aL xf q),oV cG,oV cG,oV [bv false],Ab,AZ,eX k q,oA 1 true k fun j=>[iv (o j)]]) (xL 0,(FD),[oV (aL xf q),oV cP,oV cP,oV [bv false],A3,Am,eY k q,oA 1 true k fun i=>[iv (o i)]]):=
 kR _ (.mk (dS 16) [] [] [] []) (kO (kz q0 AN)) .nil 0 255 [0,1,2,3,4,5,6,7] 8
end
abbrev Vf (a0:Nat):=fE.var false false [.ms 8 3 0 a0 none]
abbrev Vg (a0:Nat):=Vf a0
abbrev BH (a0:Nat):=Vg a0
section
variable (q:fG)(xf:Nat)(k:Nat)(o:Nat->Int)(c:Nat)(cr:Nat->List EV)(l:Nat)(i:Int)(o2:Nat->Int)(c2:Nat)(cr2:Nat->List EV)(row:Nat->Int)(hk:k<=8)(hl:l<k)(h0:0<=i)(hR:DA q)(ihw:i<(CQ q).length->sF 58 (DD i l k q) [oV (aL xf q),oV cG,BH c,oV [bv false],Ab,AZ,eX k q,oA 1 true k (Aw (0+l) 1 (fun i=>[iv (o i)]) fun i_1=>(BT q i).getD (0+i_1) []),oA 3 false c fun j=>cr j,oA 1 true 1 fun i_1=>(BT q i).getD i_1 [],fE.free,fE.free,fE.free,fE.free] (bv true) [oV (aL xf q),oV cG,BH c,oV [bv false],Ab,AZ,eX k q,oA 1 true k fun j=>(AA o2 j),oA 3 false c fun j=>cr j,oD,oD,oD,oD,oD])
include q xf k o c cr l i o2 c2 cr2 row hk hl h0 hR ihw
theorem YT (q0:DC i q):sR 8 (AH8) (Bc l k q i) ([oV (aL xf q),oV cG,BH c,oV [bv false],Ab,AZ,eX k q,oA 1 true k fun j=>[iv (o j)],oA 3 false c fun j=>cr j]) (xN,(frame 43 [(1,EV.ms 7 1 0 l (some k)),(4,pv (AB q) 0),(5,pt 6 0),(9,iv (i+1))]),[oV (aL xf q),oV cP,DE c,oV [bv false],A3,Am,eY k q,oA 1 true k fun i=>(AA o2 i),oA 3 false c cr]):=
 kR _ (.mk (dS 71582745006) [] [] [some ((bv true,[oV (aL xf q),oV cP,DE c,oV [bv false],A3,Am,eY k q,oA 1 true k fun i=>(AA o2 i),oA 3 false c cr,oD,oD,oD,oD,oD]))] []) (kO (kz q0 AN)) (rI (i+1) (.cons (ihw (by simp_all)) (oI (DB l k) (oL (A5 l) (rB i (AH q.n q.own).length (rI (i+1) .nil)))))) 562 511 [0,1,2,3,4,5,6,7,8] 8
end
section
variable (q:fG)(xf:Nat)(k:Nat)(o:Nat->Int)(c:Nat)(cr:Nat->List EV)(l:Nat)(i:Int)(o2:Nat->Int)(c2:Nat)(cr2:Nat->List EV)(row:Nat->Int)(hk:k<=8)(hl:l<k)(h0:0<=i)(hR:DA q)(ihw:i<(CQ q).length->sF 58 (DD i l k q) [oV (aL xf q),oV cG,BH c,oV [bv false],Ab,AZ,eX k q,oA 1 true k (Aw (0+l) 1 (fun i=>[iv (o i)]) fun i_1=>(BT q i).getD (0+i_1) []),oA 3 false c fun j=>cr j,oA 1 true 1 fun i_1=>(BT q i).getD i_1 [],fE.free,fE.free,fE.free,fE.free] (bv true) [oV (aL xf q),oV cG,fE.var false false [.ms 14 3 0 c2 none],oV [bv false],Ab,AZ,eX k q,oA 1 true k fun j=>(AA o2 j),oD,oD,oD,oD,oD,oD,oA 3 false c2 fun j=>cr2 j])
include q xf k o c cr l i o2 c2 cr2 row hk hl h0 hR ihw
theorem YU (q0:DC i q):sR 8 (AH8) (Bc l k q i) ([oV (aL xf q),oV cG,BH c,oV [bv false],Ab,AZ,eX k q,oA 1 true k fun j=>[iv (o j)],oA 3 false c fun j=>cr j]) (xN,(frame 43 [(1,EV.ms 7 1 0 l (some k)),(4,pv (AB q) 0),(5,pt 6 0),(9,iv (i+1))]),[oV (aL xf q),oV cP,DE c2,oV [bv false],A3,Am,eY k q,oA 1 true k fun i=>(AA o2 i),oA 3 false c2 cr2]):=
 kR _ (.mk (dS 71582745006) [] [] [some ((bv true,[oV (aL xf q),oV cP,fE.var false false [EV.ms 14 3 0 c2 none],oV [bv false],A3,Am,eY k q,oA 1 true k fun i=>(AA o2 i),oD,oD,oD,oD,oD,oD,oA 3 false c2 cr2]))] []) (kO (kz q0 AN)) (rI (i+1) (.cons (ihw (by simp_all)) (oI (DB l k) (oL (A5 l) (rB i (AH q.n q.own).length (rI (i+1) .nil)))))) 562 511 [0,1,2,3,4,5,6,7,14] 8
end
section
variable (q:fG)(xf:Nat)(k:Nat)(o:Nat->Int)(c:Nat)(cr:Nat->List EV)(l:Nat)(i:Int)(o2:Nat->Int)(c2:Nat)(cr2:Nat->List EV)(row:Nat->Int)(hk:k<=8)(hl:l<k)(h0:0<=i)(hR:DA q)(ihw:i<(CQ q).length->sF 58 (DD i l k q) [oV (aL xf q),oV cG,BH c,oV [bv false],Ab,AZ,eX k q,oA 1 true k (Aw (0+l) 1 (fun i=>[iv (o i)]) fun i_1=>(BT q i).getD (0+i_1) []),oA 3 false c fun j=>cr j,oA 1 true 1 fun i_1=>(BT q i).getD i_1 [],fE.free,fE.free,fE.free,fE.free] (bv false) [oV (aL xf q),oV [Bs q row],AET,oV [bv true],Qy,AZ,eX k q,oA 1 true k fun j=>(AA o2 j),oD,oD,oD,oD,oD,oD])
include q xf k o c cr l i o2 c2 cr2 row hk hl h0 hR ihw
theorem YV (q0:DC i q):sR 8 (AH8) (Bc l k q i) ([oV (aL xf q),oV cG,BH c,oV [bv false],Ab,AZ,eX k q,oA 1 true k fun j=>[iv (o j)],oA 3 false c fun j=>cr j]) (EX.ret,(Gs),[oV (aL xf q),oV [sl true 1 q.m fun i=>(AA row i)],CJ,oV [bv true],B3,Am,eY k q,oA 1 true k fun i=>(AA o2 i)]):=
 kR _ (.mk (dS 1092266) [] [] [some ((bv false,[oV (aL xf q),oV [sl true 1 q.m fun i=>(AA row i)],CJ,oV [bv true],B3,Am,eY k q,oA 1 true k fun i=>(AA o2 i),oD,oD,oD,oD,oD,oD]))] []) (kO (kz q0 AN)) (.cons (ihw (by simp_all)) (oI (DB l k) (oL (A5 l) (rB i (AH q.n q.own).length (rI (i+1) .nil))))) 256 255 [0,1,2,3,4,5,6,7] 8
theorem YW (q0:J6 i q):sR 8 (AH8) (Bc l k q i) ([oV (aL xf q),oV cG,BH c,oV [bv false],Ab,AZ,eX k q,oA 1 true k fun j=>[iv (o j)],oA 3 false c fun j=>cr j]) (xL 0,(FD),[oV (aL xf q),oV cP,DE c,oV [bv false],A3,Am,eY k q,oA 1 true k fun i=>[iv (o i)],oA 3 false c cr]):=
 kR _ (.mk (dS 16) [] [] [] []) (kO (kz q0 AN)) .nil 0 511 [0,1,2,3,4,5,6,7,8] 8
end
section
variable (q:fG)(xf:Nat)(k:Nat)(o:Nat->Int)(c:Nat)(cr:Nat->List EV)(l:Nat)(i:Int)(o2:Nat->Int)(c2:Nat)(cr2:Nat->List EV)(row:Nat->Int)(hk:k<=8)(hl:l<k)(h0:0<=i)(hR:DA q)(ihw:i<(CQ q).length->sF 58 (DD i l k q) [oV (aL xf q),oV cG,BH c,oV [bv false],Ab,AZ,eX k q,oA 1 true k (Aw (0+l) 1 (fun i=>[iv (o i)]) fun i_1=>(BT q i).getD (0+i_1) []),oA 3 false c fun j=>cr j,oA 1 true 1 fun i_1=>(BT q i).getD i_1 [],fE.free,fE.free,fE.free,fE.free] (bv true) [oV (aL xf q),oV cG,BH c,oV [bv false],Ab,AZ,eX k q,oA 1 true k fun j=>(AA o2 j),oA 3 false c fun j=>cr j,oD,oD,oD,oD,oD])
include q xf k o c cr l i o2 c2 cr2 row hk hl h0 hR ihw
theorem YX (q0:DC i q):sR 9 (AH8) (Bc l k q i) ([oV (aL xf q),oV cG,BH c,oV [bv false],Ab,AZ,eX k q,oA 1 true k fun j=>[iv (o j)],oA 3 false c fun j=>cr j]) (xN,(frame 43 [(1,EV.ms 7 1 0 l (some k)),(4,pv (AB q) 0),(5,pt 6 0),(9,iv (i+1))]),[oV (aL xf q),oV cP,DE c,oV [bv false],A3,Am,eY k q,oA 1 true k fun i=>(AA o2 i),oA 3 false c cr]):=
 kR _ (.mk (dS 71582745006) [] [] [some ((bv true,[oV (aL xf q),oV cP,DE c,oV [bv false],A3,Am,eY k q,oA 1 true k fun i=>(AA o2 i),oA 3 false c cr,oD,oD,oD,oD,oD]))] []) (kO (kz q0 AN)) (rI (i+1) (.cons (ihw (by simp_all)) (oI (DB l k) (oL (A5 l) (rB i (AH q.n q.own).length (rI (i+1) .nil)))))) 562 511 [0,1,2,3,4,5,6,7,8] 9
end
abbrev Ft (a0:Nat):=fE.var false false [EV.ms 9 3 0 a0 none]
section
variable (q:fG)(xf:Nat)(k:Nat)(o:Nat->Int)(c:Nat)(cr:Nat->List EV)(l:Nat)(i:Int)(o2:Nat->Int)(c2:Nat)(cr2:Nat->List EV)(row:Nat->Int)(hk:k<=8)(hl:l<k)(h0:0<=i)(hR:DA q)(ihw:i<(CQ q).length->sF 58 (DD i l k q) [oV (aL xf q),oV cG,BH c,oV [bv false],Ab,AZ,eX k q,oA 1 true k (Aw (0+l) 1 (fun i=>[iv (o i)]) fun i_1=>(BT q i).getD (0+i_1) []),oA 3 false c fun j=>cr j,oA 1 true 1 fun i_1=>(BT q i).getD i_1 [],fE.free,fE.free,fE.free,fE.free] (bv true) [oV (aL xf q),oV cG,fE.var false false [.ms 14 3 0 c2 none],oV [bv false],Ab,AZ,eX k q,oA 1 true k fun j=>(AA o2 j),oD,oD,oD,oD,oD,oD,oA 3 false c2 fun j=>cr2 j])
include q xf k o c cr l i o2 c2 cr2 row hk hl h0 hR ihw
theorem YY (q0:DC i q):sR 9 (AH8) (Bc l k q i) ([oV (aL xf q),oV cG,BH c,oV [bv false],Ab,AZ,eX k q,oA 1 true k fun j=>[iv (o j)],oA 3 false c fun j=>cr j]) (xN,(frame 43 [(1,EV.ms 7 1 0 l (some k)),(4,pv (AB q) 0),(5,pt 6 0),(9,iv (i+1))]),[oV (aL xf q),oV cP,Ft c2,oV [bv false],A3,Am,eY k q,oA 1 true k fun i=>(AA o2 i),oD,oA 3 false c2 cr2]):=
 kR _ (.mk (dS 71582745006) [] [] [some ((bv true,[oV (aL xf q),oV cP,fE.var false false [EV.ms 14 3 0 c2 none],oV [bv false],A3,Am,eY k q,oA 1 true k fun i=>(AA o2 i),oD,oD,oD,oD,oD,oD,oA 3 false c2 cr2]))] []) (kO (kz q0 AN)) (rI (i+1) (.cons (ihw (by simp_all)) (oI (DB l k) (oL (A5 l) (rB i (AH q.n q.own).length (rI (i+1) .nil)))))) 562 767 [0,1,2,3,4,5,6,7,8,14] 9
end
section
variable (q:fG)(xf:Nat)(k:Nat)(o:Nat->Int)(c:Nat)(cr:Nat->List EV)(l:Nat)(i:Int)(o2:Nat->Int)(c2:Nat)(cr2:Nat->List EV)(row:Nat->Int)(hk:k<=8)(hl:l<k)(h0:0<=i)(hR:DA q)(ihw:i<(CQ q).length->sF 58 (DD i l k q) [oV (aL xf q),oV cG,BH c,oV [bv false],Ab,AZ,eX k q,oA 1 true k (Aw (0+l) 1 (fun i=>[iv (o i)]) fun i_1=>(BT q i).getD (0+i_1) []),oA 3 false c fun j=>cr j,oA 1 true 1 fun i_1=>(BT q i).getD i_1 [],fE.free,fE.free,fE.free,fE.free] (bv false) [oV (aL xf q),oV [Bs q row],AET,oV [bv true],Qy,AZ,eX k q,oA 1 true k fun j=>(AA o2 j),oD,oD,oD,oD,oD,oD])
include q xf k o c cr l i o2 c2 cr2 row hk hl h0 hR ihw
theorem YZ (q0:DC i q):sR 9 (AH8) (Bc l k q i) ([oV (aL xf q),oV cG,BH c,oV [bv false],Ab,AZ,eX k q,oA 1 true k fun j=>[iv (o j)],oA 3 false c fun j=>cr j]) (EX.ret,(Gs),[oV (aL xf q),oV [sl true 1 q.m fun i=>(AA row i)],CJ,oV [bv true],B3,Am,eY k q,oA 1 true k fun i=>(AA o2 i),oD]):=
 kR _ (.mk (dS 1092266) [] [] [some ((bv false,[oV (aL xf q),oV [sl true 1 q.m fun i=>(AA row i)],CJ,oV [bv true],B3,Am,eY k q,oA 1 true k fun i=>(AA o2 i),oD,oD,oD,oD,oD,oD]))] []) (kO (kz q0 AN)) (.cons (ihw (by simp_all)) (oI (DB l k) (oL (A5 l) (rB i (AH q.n q.own).length (rI (i+1) .nil))))) 256 255 [0,1,2,3,4,5,6,7,8] 9
theorem Ya (q0:J6 i q):sR 9 (AH8) (Bc l k q i) ([oV (aL xf q),oV cG,BH c,oV [bv false],Ab,AZ,eX k q,oA 1 true k fun j=>[iv (o j)],oA 3 false c fun j=>cr j]) (xL 0,(FD),[oV (aL xf q),oV cP,DE c,oV [bv false],A3,Am,eY k q,oA 1 true k fun i=>[iv (o i)],oA 3 false c cr]):=
 kR _ (.mk (dS 16) [] [] [] []) (kO (kz q0 AN)) .nil 0 511 [0,1,2,3,4,5,6,7,8] 9
end
abbrev EP (a0:Nat):=fE.var false false [.ms 9 3 0 a0 none]
section
variable (q:fG)(xf:Nat)(k:Nat)(o:Nat->Int)(c:Nat)(cr:Nat->List EV)(l:Nat)(i:Int)(o2:Nat->Int)(c2:Nat)(cr2:Nat->List EV)(row:Nat->Int)(hk:k<=8)(hl:l<k)(h0:0<=i)(hR:DA q)(ihw:i<(CQ q).length->sF 58 (DD i l k q) [oV (aL xf q),oV cG,EP c,oV [bv false],Ab,AZ,eX k q,oA 1 true k (Aw (0+l) 1 (fun i=>[iv (o i)]) fun i_1=>(BT q i).getD (0+i_1) []),oD,oA 3 false c fun j=>cr j,oA 1 true 1 fun i_1=>(BT q i).getD i_1 [],fE.free,fE.free,fE.free,fE.free] (bv true) [oV (aL xf q),oV cG,EP c,oV [bv false],Ab,AZ,eX k q,oA 1 true k fun j=>(AA o2 j),oD,oA 3 false c fun j=>cr j,oD,oD,oD,oD,oD])
include q xf k o c cr l i o2 c2 cr2 row hk hl h0 hR ihw
theorem Yb (q0:DC i q):sR 9 (AH8) (Bc l k q i) ([oV (aL xf q),oV cG,EP c,oV [bv false],Ab,AZ,eX k q,oA 1 true k fun j=>[iv (o j)],oD,oA 3 false c fun j=>cr j]) (xN,(frame 43 [(1,EV.ms 7 1 0 l (some k)),(4,pv (AB q) 0),(5,pt 6 0),(9,iv (i+1))]),[oV (aL xf q),oV cP,Ft c,oV [bv false],A3,Am,eY k q,oA 1 true k fun i=>(AA o2 i),oD,oA 3 false c cr]):=
 kR _ (.mk (dS 71582745006) [] [] [some ((bv true,[oV (aL xf q),oV cP,Ft c,oV [bv false],A3,Am,eY k q,oA 1 true k fun i=>(AA o2 i),oD,oA 3 false c cr,oD,oD,oD,oD,oD]))] []) (kO (kz q0 AN)) (rI (i+1) (.cons (ihw (by simp_all)) (oI (DB l k) (oL (A5 l) (rB i (AH q.n q.own).length (rI (i+1) .nil)))))) 562 767 [0,1,2,3,4,5,6,7,8,9] 9
end
section
variable (q:fG)(xf:Nat)(k:Nat)(o:Nat->Int)(c:Nat)(cr:Nat->List EV)(l:Nat)(i:Int)(o2:Nat->Int)(c2:Nat)(cr2:Nat->List EV)(row:Nat->Int)(hk:k<=8)(hl:l<k)(h0:0<=i)(hR:DA q)(ihw:i<(CQ q).length->sF 58 (DD i l k q) [oV (aL xf q),oV cG,EP c,oV [bv false],Ab,AZ,eX k q,oA 1 true k (Aw (0+l) 1 (fun i=>[iv (o i)]) fun i_1=>(BT q i).getD (0+i_1) []),oD,oA 3 false c fun j=>cr j,oA 1 true 1 fun i_1=>(BT q i).getD i_1 [],fE.free,fE.free,fE.free,fE.free] (bv true) [oV (aL xf q),oV cG,fE.var false false [.ms 15 3 0 c2 none],oV [bv false],Ab,AZ,eX k q,oA 1 true k fun j=>(AA o2 j),oD,oD,oD,oD,oD,oD,oD,oA 3 false c2 fun j=>cr2 j])
include q xf k o c cr l i o2 c2 cr2 row hk hl h0 hR ihw
theorem Yc (q0:DC i q):sR 9 (AH8) (Bc l k q i) ([oV (aL xf q),oV cG,EP c,oV [bv false],Ab,AZ,eX k q,oA 1 true k fun j=>[iv (o j)],oD,oA 3 false c fun j=>cr j]) (xN,(frame 43 [(1,EV.ms 7 1 0 l (some k)),(4,pv (AB q) 0),(5,pt 6 0),(9,iv (i+1))]),[oV (aL xf q),oV cP,Ft c2,oV [bv false],A3,Am,eY k q,oA 1 true k fun i=>(AA o2 i),oD,oA 3 false c2 cr2]):=
 kR _ (.mk (dS 71582745006) [] [] [some ((bv true,[oV (aL xf q),oV cP,fE.var false false [EV.ms 15 3 0 c2 none],oV [bv false],A3,Am,eY k q,oA 1 true k fun i=>(AA o2 i),oD,oD,oD,oD,oD,oD,oD,oA 3 false c2 cr2]))] []) (kO (kz q0 AN)) (rI (i+1) (.cons (ihw (by simp_all)) (oI (DB l k) (oL (A5 l) (rB i (AH q.n q.own).length (rI (i+1) .nil)))))) 562 767 [0,1,2,3,4,5,6,7,8,15] 9
end
section
variable (q:fG)(xf:Nat)(k:Nat)(o:Nat->Int)(c:Nat)(cr:Nat->List EV)(l:Nat)(i:Int)(o2:Nat->Int)(c2:Nat)(cr2:Nat->List EV)(row:Nat->Int)(hk:k<=8)(hl:l<k)(h0:0<=i)(hR:DA q)(ihw:i<(CQ q).length->sF 58 (DD i l k q) [oV (aL xf q),oV cG,EP c,oV [bv false],Ab,AZ,eX k q,oA 1 true k (Aw (0+l) 1 (fun i=>[iv (o i)]) fun i_1=>(BT q i).getD (0+i_1) []),oD,oA 3 false c fun j=>cr j,oA 1 true 1 fun i_1=>(BT q i).getD i_1 [],fE.free,fE.free,fE.free,fE.free] (bv false) [oV (aL xf q),oV [Bs q row],AET,oV [bv true],Qy,AZ,eX k q,oA 1 true k fun j=>(AA o2 j),oD,oD,oD,oD,oD,oD,oD])
include q xf k o c cr l i o2 c2 cr2 row hk hl h0 hR ihw
theorem Yd (q0:DC i q):sR 9 (AH8) (Bc l k q i) ([oV (aL xf q),oV cG,EP c,oV [bv false],Ab,AZ,eX k q,oA 1 true k fun j=>[iv (o j)],oD,oA 3 false c fun j=>cr j]) (EX.ret,(Gs),[oV (aL xf q),oV [sl true 1 q.m fun i=>(AA row i)],CJ,oV [bv true],B3,Am,eY k q,oA 1 true k fun i=>(AA o2 i),oD]):=
 kR _ (.mk (dS 1092266) [] [] [some ((bv false,[oV (aL xf q),oV [sl true 1 q.m fun i=>(AA row i)],CJ,oV [bv true],B3,Am,eY k q,oA 1 true k fun i=>(AA o2 i),oD,oD,oD,oD,oD,oD,oD]))] []) (kO (kz q0 AN)) (.cons (ihw (by simp_all)) (oI (DB l k) (oL (A5 l) (rB i (AH q.n q.own).length (rI (i+1) .nil))))) 256 255 [0,1,2,3,4,5,6,7,8] 9
theorem Ye (q0:J6 i q):sR 9 (AH8) (Bc l k q i) ([oV (aL xf q),oV cG,EP c,oV [bv false],Ab,AZ,eX k q,oA 1 true k fun j=>[iv (o j)],oD,oA 3 false c fun j=>cr j]) (xL 0,(FD),[oV (aL xf q),oV cP,Ft c,oV [bv false],A3,Am,eY k q,oA 1 true k fun i=>[iv (o i)],oD,oA 3 false c cr]):=
 kR _ (.mk (dS 16) [] [] [] []) (kO (kz q0 AN)) .nil 0 767 [0,1,2,3,4,5,6,7,8,9] 9
end
section
variable (q:fG)(k:Nat)(o:Nat->Int)(c:Nat)(cr:Nat->List EV)(fr:Int)(cp:Option Nat)(exx:Bool)(n1:Nat)(c1:Nat->Int)(ba:Bool)(na:Nat)(av:Nat->Int)(bc:Bool)(nc:Nat)(cl:Nat->Int)(bx:Bool)(nx:Nat)(xs:Nat->Int)(row:Nat->Int)(hk:k<=8)(hc:c<=1000)(ihc:sF 25 [.ms 0 1 0 k (some k)] [oA 1 true k fun i=>[iv (o i)]] (.ms 1 1 0 k cp) [oA 1 true k fun i=>[iv (o i)],oA 1 exx n1 fun i=>(AA c1 i)])
include q k o c cr fr cp exx n1 c1 ba na av bc nc cl bx nx xs row hk hc ihc
theorem Yf (ihE:sP 37 [Ak q,sl true 1 k fun i=>[iv (c1 (0+i))]] (tu [Aq,ag [AW ba na av,AW bc nc cl,AW bx nx xs],bv false])):sF 58 [iv fr,DP k,CA k,pt 5 0,AX q,pt 6 0] [oV [fc (37) (AB q) []],oV cG,oV cG,oV [bv false],Ab,AZ,eX k q,oA 1 true k fun i=>[iv (o i)]] (bv true) [oV [fc (37) (AB q) []],oV cP,fE.var false false [EV.ms 8 3 0 1 none],oV [bv false],A3,Am,eY k q,oA 1 true k fun i=>[iv (o i)],oA 3 false 1 fun i=>[[AK ba na av,AK bc nc cl,AK bx nx xs]].getD (0+i) []]:=
 kF [[]] (.mk (dS 26) [] [some (tu [AT,ag [AK ba na av,AK bc nc cl,AK bx nx xs],bv false])] [some ((EV.ms 1 1 0 k cp,[oA 1 true k fun i=>[iv (o i)],oA 1 exx n1 fun i=>(AA c1 i)]))] []) (kO AN) (.cons ihE (.cons ihc (oI ((↑k:Int)==(↑k:Int)) .nil))) 511 [0,1,2,3,4,5,6,7,16]
theorem Yg (ihE:sP 37 [Ak q,sl true 1 k fun i=>[iv (c1 (0+i))]] (tu [Bs q row,ag J7,bv true])):sF 58 [iv fr,DP k,CA k,pt 5 0,AX q,pt 6 0] [oV [fc (37) (AB q) []],oV cG,oV cG,oV [bv false],Ab,AZ,eX k q,oA 1 true k fun i=>[iv (o i)]] (bv false) [oV [fc (37) (AB q) []],oV [sl true 1 q.m fun i=>(AA row i)],oV cP,oV [bv true],B3,Am,eY k q,oA 1 true k fun i=>[iv (o i)]]:=
 kF [[]] (.mk (dS 26) [] [some (tu [sl true 1 q.m fun i=>(AA row i),ag Gr,bv true])] [some ((EV.ms 1 1 0 k cp,[oA 1 true k fun i=>[iv (o i)],oA 1 exx n1 fun i=>(AA c1 i)]))] []) (kO AN) (.cons ihE (.cons ihc (oI ((↑k:Int)==(↑k:Int)) .nil))) 255 [0,1,2,3,4,5,6,7]
theorem Yh (ihE:sP 37 [Ak q,sl true 1 k fun i=>[iv (c1 (0+i))]] (tu [Aq,ag [AW ba na av,AW bc nc cl,AW bx nx xs],bv false])):sF 58 [iv fr,DP k,CA k,pt 5 0,AX q,pt 6 0] [oV [fc (37) (AB q) []],oV cG,BH c,oV [bv false],Ab,AZ,eX k q,oA 1 true k fun i=>[iv (o i)],oA 3 false c fun i=>cr i] (bv true) [oV [fc (37) (AB q) []],oV cP,fE.var false false [EV.ms 9 3 0 (c+1) none],oV [bv false],A3,Am,eY k q,oA 1 true k fun i=>[iv (o i)],oD,oA 3 false (c+1) (Ar c (fun i=>cr (0+i)) fun i=>[[AK ba na av,AK bc nc cl,AK bx nx xs]].getD (0+i) [])]:=
 kF [[]] (.mk (dS 1704366) [] [some (tu [AT,ag [AK ba na av,AK bc nc cl,AK bx nx xs],bv false])] [some ((EV.ms 1 1 0 k cp,[oA 1 true k fun i=>[iv (o i)],oA 1 exx n1 fun i=>(AA c1 i)]))] []) (kO AN) (oL (decide ((c+1)*72<=70368744177664) && decide (Lt c)) (.cons ihE (.cons ihc (oI ((↑k:Int)==(↑k:Int)) .nil)))) 767 [0,1,2,3,4,5,6,7,8,17]
theorem Yi (ihE:sP 37 [Ak q,sl true 1 k fun i=>[iv (c1 (0+i))]] (tu [Bs q row,ag J7,bv true])):sF 58 [iv fr,DP k,CA k,pt 5 0,AX q,pt 6 0] [oV [fc (37) (AB q) []],oV cG,BH c,oV [bv false],Ab,AZ,eX k q,oA 1 true k fun i=>[iv (o i)],oA 3 false c fun i=>cr i] (bv false) [oV [fc (37) (AB q) []],oV [sl true 1 q.m fun i=>(AA row i)],CJ,oV [bv true],B3,Am,eY k q,oA 1 true k fun i=>[iv (o i)],oA 3 false c cr]:=
 kF [[]] (.mk (dS 26) [] [some (tu [sl true 1 q.m fun i=>(AA row i),ag Gr,bv true])] [some ((EV.ms 1 1 0 k cp,[oA 1 true k fun i=>[iv (o i)],oA 1 exx n1 fun i=>(AA c1 i)]))] []) (kO AN) (.cons ihE (.cons ihc (oI ((↑k:Int)==(↑k:Int)) .nil))) 511 [0,1,2,3,4,5,6,7,8]
theorem Yj (ihE:sP 38 [Ak q,sl true 1 k fun i=>[iv (c1 (0+i))]] (tu [Aq,ag [AW ba na av,AW bc nc cl,AW bx nx xs],bv false])):sF 58 [iv fr,DP k,CA k,pt 5 0,AX q,pt 6 0] [oV [fc (38) (AB q) []],oV cG,oV cG,oV [bv false],Ab,AZ,eX k q,oA 1 true k fun i=>[iv (o i)]] (bv true) [oV [fc (38) (AB q) []],oV cP,fE.var false false [EV.ms 8 3 0 1 none],oV [bv false],A3,Am,eY k q,oA 1 true k fun i=>[iv (o i)],oA 3 false 1 fun i=>[[AK ba na av,AK bc nc cl,AK bx nx xs]].getD (0+i) []]:=
 kF [[]] (.mk (dS 26) [] [some (tu [AT,ag [AK ba na av,AK bc nc cl,AK bx nx xs],bv false])] [some ((EV.ms 1 1 0 k cp,[oA 1 true k fun i=>[iv (o i)],oA 1 exx n1 fun i=>(AA c1 i)]))] []) (kO AN) (.cons ihE (.cons ihc (oI ((↑k:Int)==(↑k:Int)) .nil))) 511 [0,1,2,3,4,5,6,7,16]
theorem Yk (ihE:sP 38 [Ak q,sl true 1 k fun i=>[iv (c1 (0+i))]] (tu [Bs q row,ag J7,bv true])):sF 58 [iv fr,DP k,CA k,pt 5 0,AX q,pt 6 0] [oV [fc (38) (AB q) []],oV cG,oV cG,oV [bv false],Ab,AZ,eX k q,oA 1 true k fun i=>[iv (o i)]] (bv false) [oV [fc (38) (AB q) []],oV [sl true 1 q.m fun i=>(AA row i)],oV cP,oV [bv true],B3,Am,eY k q,oA 1 true k fun i=>[iv (o i)]]:=
 kF [[]] (.mk (dS 26) [] [some (tu [sl true 1 q.m fun i=>(AA row i),ag Gr,bv true])] [some ((EV.ms 1 1 0 k cp,[oA 1 true k fun i=>[iv (o i)],oA 1 exx n1 fun i=>(AA c1 i)]))] []) (kO AN) (.cons ihE (.cons ihc (oI ((↑k:Int)==(↑k:Int)) .nil))) 255 [0,1,2,3,4,5,6,7]
theorem Yl (ihE:sP 38 [Ak q,sl true 1 k fun i=>[iv (c1 (0+i))]] (tu [Aq,ag [AW ba na av,AW bc nc cl,AW bx nx xs],bv false])):sF 58 [iv fr,DP k,CA k,pt 5 0,AX q,pt 6 0] [oV [fc (38) (AB q) []],oV cG,BH c,oV [bv false],Ab,AZ,eX k q,oA 1 true k fun i=>[iv (o i)],oA 3 false c fun i=>cr i] (bv true) [oV [fc (38) (AB q) []],oV cP,fE.var false false [EV.ms 9 3 0 (c+1) none],oV [bv false],A3,Am,eY k q,oA 1 true k fun i=>[iv (o i)],oD,oA 3 false (c+1) (Ar c (fun i=>cr (0+i)) fun i=>[[AK ba na av,AK bc nc cl,AK bx nx xs]].getD (0+i) [])]:=
 kF [[]] (.mk (dS 1704366) [] [some (tu [AT,ag [AK ba na av,AK bc nc cl,AK bx nx xs],bv false])] [some ((EV.ms 1 1 0 k cp,[oA 1 true k fun i=>[iv (o i)],oA 1 exx n1 fun i=>(AA c1 i)]))] []) (kO AN) (oL (decide ((c+1)*72<=70368744177664) && decide (Lt c)) (.cons ihE (.cons ihc (oI ((↑k:Int)==(↑k:Int)) .nil)))) 767 [0,1,2,3,4,5,6,7,8,17]
theorem Ym (ihE:sP 38 [Ak q,sl true 1 k fun i=>[iv (c1 (0+i))]] (tu [Bs q row,ag J7,bv true])):sF 58 [iv fr,DP k,CA k,pt 5 0,AX q,pt 6 0] [oV [fc (38) (AB q) []],oV cG,BH c,oV [bv false],Ab,AZ,eX k q,oA 1 true k fun i=>[iv (o i)],oA 3 false c fun i=>cr i] (bv false) [oV [fc (38) (AB q) []],oV [sl true 1 q.m fun i=>(AA row i)],CJ,oV [bv true],B3,Am,eY k q,oA 1 true k fun i=>[iv (o i)],oA 3 false c cr]:=
 kF [[]] (.mk (dS 26) [] [some (tu [sl true 1 q.m fun i=>(AA row i),ag Gr,bv true])] [some ((EV.ms 1 1 0 k cp,[oA 1 true k fun i=>[iv (o i)],oA 1 exx n1 fun i=>(AA c1 i)]))] []) (kO AN) (.cons ihE (.cons ihc (oI ((↑k:Int)==(↑k:Int)) .nil))) 511 [0,1,2,3,4,5,6,7,8]
end
section
variable (q:fG)(xf:Nat)(k:Nat)(o:Nat->Int)(c:Nat)(cr:Nat->List EV)(l:Nat)(o2:Nat->Int)(c2:Nat)(cr2:Nat->List EV)(row:Nat->Int)(fr:Int)(hk:k<=8)(hl:l<k)
include q xf k o c cr l o2 c2 cr2 row fr hk hl
theorem vC (ih:sL (AIT) (Bc l k q fr) [oV (aL xf q),oV cG,oV cG,oV [bv false],Ab,AZ,eX k q,oA 1 true k fun j=>[iv (o j)]] ((xL 0,frame 43 [],[oV (aL xf q),oV cG,oV cG,oV [bv false],Ab,AZ,eX k q,oA 1 true k fun j=>(AA o2 j)]):RC)):sF 58 [iv fr,EV.ms 7 1 0 l (some k),CA k,pt 5 0,AX q,pt 6 0] [oV (aL xf q),oV cG,oV cG,oV [bv false],Ab,AZ,eX k q,oA 1 true k fun j=>[iv (o j)]] (bv true) [oV (aL xf q),oV cP,oV cP,oV [bv false],A3,Am,eY k q,oA 1 true k fun i=>(AA o2 i)]:=
 kF [[]] (.mk (dS 27) [(11,.is 562 255 (xL 0,(FD),[oV (aL xf q),oV cP,oV cP,oV [bv false],A3,Am,eY k q,oA 1 true k fun i=>(AA o2 i)]))] [] [] []) (kO AN) (.cons ih (oI (((↑l:Int)==(↑k:Int))=false) .nil)) 255 [0,1,2,3,4,5,6,7]
theorem vD (ih:sL (AIT) (Bc l k q fr) [oV (aL xf q),oV cG,oV cG,oV [bv false],Ab,AZ,eX k q,oA 1 true k fun j=>[iv (o j)]] ((xL 0,frame 43 [],[oV (aL xf q),oV cG,BH c2,oV [bv false],Ab,AZ,eX k q,oA 1 true k fun j=>(AA o2 j),oA 3 false c2 fun j=>cr2 j]):RC)):sF 58 [iv fr,EV.ms 7 1 0 l (some k),CA k,pt 5 0,AX q,pt 6 0] [oV (aL xf q),oV cG,oV cG,oV [bv false],Ab,AZ,eX k q,oA 1 true k fun j=>[iv (o j)]] (bv true) [oV (aL xf q),oV cP,DE c2,oV [bv false],A3,Am,eY k q,oA 1 true k fun i=>(AA o2 i),oA 3 false c2 cr2]:=
 kF [[]] (.mk (dS 27) [(11,.is 562 255 (xL 0,(FD),[oV (aL xf q),oV cP,DE c2,oV [bv false],A3,Am,eY k q,oA 1 true k fun i=>(AA o2 i),oA 3 false c2 cr2]))] [] [] []) (kO AN) (.cons ih (oI (((↑l:Int)==(↑k:Int))=false) .nil)) 511 [0,1,2,3,4,5,6,7,8]
theorem vE (ih:sL (AIT) (Bc l k q fr) [oV (aL xf q),oV cG,oV cG,oV [bv false],Ab,AZ,eX k q,oA 1 true k fun j=>[iv (o j)]] ((EX.ret,frame 43 [(8,bv false)],[oV (aL xf q),oV [Bs q row],AET,oV [bv true],Qy,AZ,eX k q,oA 1 true k fun j=>(AA o2 j)]):RC)):sF 58 [iv fr,EV.ms 7 1 0 l (some k),CA k,pt 5 0,AX q,pt 6 0] [oV (aL xf q),oV cG,oV cG,oV [bv false],Ab,AZ,eX k q,oA 1 true k fun j=>[iv (o j)]] (bv false) [oV (aL xf q),oV [sl true 1 q.m fun i=>(AA row i)],CJ,oV [bv true],B3,Am,eY k q,oA 1 true k fun i=>(AA o2 i)]:=
 kF [[]] (.mk (dS 27) [(11,.is 562 255 (EX.ret,(Gs),[oV (aL xf q),oV [sl true 1 q.m fun i=>(AA row i)],CJ,oV [bv true],B3,Am,eY k q,oA 1 true k fun i=>(AA o2 i)]))] [] [] []) (kO AN) (.cons ih (oI (((↑l:Int)==(↑k:Int))=false) .nil)) 255 [0,1,2,3,4,5,6,7]
theorem vF (ih:sL (AIT) (Bc l k q fr) [oV (aL xf q),oV cG,BH c,oV [bv false],Ab,AZ,eX k q,oA 1 true k fun j=>[iv (o j)],oA 3 false c fun j=>cr j] ((xL 0,frame 43 [],[oV (aL xf q),oV cG,BH c,oV [bv false],Ab,AZ,eX k q,oA 1 true k fun j=>(AA o2 j),oA 3 false c fun j=>cr j]):RC)):sF 58 [iv fr,EV.ms 7 1 0 l (some k),CA k,pt 5 0,AX q,pt 6 0] [oV (aL xf q),oV cG,BH c,oV [bv false],Ab,AZ,eX k q,oA 1 true k fun j=>[iv (o j)],oA 3 false c fun j=>cr j] (bv true) [oV (aL xf q),oV cP,DE c,oV [bv false],A3,Am,eY k q,oA 1 true k fun i=>(AA o2 i),oA 3 false c cr]:=
 kF [[]] (.mk (dS 27) [(11,.is 562 511 (xL 0,(FD),[oV (aL xf q),oV cP,DE c,oV [bv false],A3,Am,eY k q,oA 1 true k fun i=>(AA o2 i),oA 3 false c cr]))] [] [] []) (kO AN) (.cons ih (oI (((↑l:Int)==(↑k:Int))=false) .nil)) 511 [0,1,2,3,4,5,6,7,8]
theorem vG (ih:sL (AIT) (Bc l k q fr) [oV (aL xf q),oV cG,BH c,oV [bv false],Ab,AZ,eX k q,oA 1 true k fun j=>[iv (o j)],oA 3 false c fun j=>cr j] ((xL 0,frame 43 [],[oV (aL xf q),oV cG,EP c2,oV [bv false],Ab,AZ,eX k q,oA 1 true k fun j=>(AA o2 j),oD,oA 3 false c2 fun j=>cr2 j]):RC)):sF 58 [iv fr,EV.ms 7 1 0 l (some k),CA k,pt 5 0,AX q,pt 6 0] [oV (aL xf q),oV cG,BH c,oV [bv false],Ab,AZ,eX k q,oA 1 true k fun j=>[iv (o j)],oA 3 false c fun j=>cr j] (bv true) [oV (aL xf q),oV cP,Ft c2,oV [bv false],A3,Am,eY k q,oA 1 true k fun i=>(AA o2 i),oD,oA 3 false c2 cr2]:=
 kF [[]] (.mk (dS 27) [(11,.is 562 511 (xL 0,(FD),[oV (aL xf q),oV cP,Ft c2,oV [bv false],A3,Am,eY k q,oA 1 true k fun i=>(AA o2 i),oD,oA 3 false c2 cr2]))] [] [] []) (kO AN) (.cons ih (oI (((↑l:Int)==(↑k:Int))=false) .nil)) 767 [0,1,2,3,4,5,6,7,8,9]
theorem vH (ih:sL (AIT) (Bc l k q fr) [oV (aL xf q),oV cG,BH c,oV [bv false],Ab,AZ,eX k q,oA 1 true k fun j=>[iv (o j)],oA 3 false c fun j=>cr j] ((EX.ret,frame 43 [(8,bv false)],[oV (aL xf q),oV [Bs q row],AET,oV [bv true],Qy,AZ,eX k q,oA 1 true k fun j=>(AA o2 j),oD]):RC)):sF 58 [iv fr,EV.ms 7 1 0 l (some k),CA k,pt 5 0,AX q,pt 6 0] [oV (aL xf q),oV cG,BH c,oV [bv false],Ab,AZ,eX k q,oA 1 true k fun j=>[iv (o j)],oA 3 false c fun j=>cr j] (bv false) [oV (aL xf q),oV [sl true 1 q.m fun i=>(AA row i)],CJ,oV [bv true],B3,Am,eY k q,oA 1 true k fun i=>(AA o2 i),oD]:=
 kF [[]] (.mk (dS 27) [(11,.is 562 511 (EX.ret,(Gs),[oV (aL xf q),oV [sl true 1 q.m fun i=>(AA row i)],CJ,oV [bv true],B3,Am,eY k q,oA 1 true k fun i=>(AA o2 i),oD]))] [] [] []) (kO AN) (.cons ih (oI (((↑l:Int)==(↑k:Int))=false) .nil)) 255 [0,1,2,3,4,5,6,7,8]
end
theorem aA.via' {P:Program}{G:Nat->Option (List EV)}(L:List Nat){f:FuncId}{args as':List EV}{τ σ σ' s3:AL}{b:Bool}(hL:(decide L.Nodup && L.all fun r=>Nat.blt r τ.length)=true)(hr:FQ τ L L=some σ)(ha:as'=args.map (I0 L))(h:aA P G f as' σ (.bool b) σ')
  (hs:(I8 L τ.length σ').map (fun s=>MR L s 0 τ.length++s.drop L.length)=some s3):aA P G f args τ (.bool b) s3:=by
 cases hv:I8 L τ.length σ' with
 | none=>rw [hv] at hs; cases hs
 | some s=>
  rw [hv] at hs;simp only [Option.map_some,uB] at hs;subst hs;exact aA.via L hL hr ha h hv (bL.refl _) (eW.refl _)
section
variable (q:fG)(xf k:Nat)
abbrev vI:List EV:=[EV.ip [.int .i64 k] 0,EV.ptr 5 0,EV.ip [EV.ip (AD q) 0] 0,EV.ptr 6 0]
noncomputable abbrev cQ (cu:fE)(o:Nat->Int)(more:AL):AL:=fE.var false true [EV.func (.func xf) [EV.ip (AD q) 0] []] :: fE.var false true [Av] :: cu :: fE.var false true [.bool false] :: vB .ready :: fE.var false false [.it 4] :: fE.var false false [EV.func (.func 58) [] (vI q k)] :: (fE.arr false true 1 true k fun j=>[.int .i64 (o j)]) :: more
noncomputable abbrev wkD (o:Nat->Int)(row:Nat->Int)(more:AL):AL:=fE.var false true [EV.func (.func xf) [EV.ip (AD q) 0] []] :: fE.var false true [AW true q.m row] :: fE.var false false [Av] :: fE.var false true [.bool true] :: Qy :: fE.var false false [.it 4] :: fE.var false false [EV.func (.func 58) [] (vI q k)] :: (fE.arr false true 1 true k fun j=>[.int .i64 (o j)]) :: more
abbrev cuN:fE:=fE.var false true [Av]
abbrev eI (x c:Nat):fE:=fE.var false false [.ms x 3 0 c none]
abbrev eH (c:Nat)(cr:Nat->List EV):fE:=fE.arr false true 3 false c fun j=>cr j
abbrev d5 (more:AL):AL:=fE.dead :: fE.dead :: fE.dead :: fE.dead :: fE.dead :: more
abbrev GC (i:Int)(l:Nat):List EV:=.int .i64 i :: .ms 7 1 0 l (some k) :: vI q k
inductive Hd where
 | n8
 | u8 (c:Nat) (cr:Nat->List EV)
 | u9 (c:Nat) (cr:Nat->List EV)
 | v9 (c:Nat) (cr:Nat->List EV)
def Hd.m:Hd->Nat | n8=>8 | u8 ..=>8 | u9 ..=>9 | v9 ..=>9
def Hd.cM:Hd->Nat | n8=>0 | u8 c _=>c | u9 c _=>c | v9 c _=>c
def Hd.entry:Hd->Prop | n8=>True | u9 ..=>True | _=>False
noncomputable abbrev Hd.heap (h:Hd)(o:Nat->Int):AL:=match h with
 | n8=>cQ q xf k cuN o []
 | u8 c cr=>cQ q xf k (eI 8 c) o [eH c cr]
 | u9 c cr=>cQ q xf k (eI 8 c) o [eH c cr]
 | v9 c cr=>cQ q xf k (eI 9 c) o [.dead,eH c cr]
noncomputable abbrev Hd.heapD (h:Hd)(o row:Nat->Int):AL:=match h with
 | n8=>wkD q xf k o row []
 | u8 ..=>wkD q xf k o row []
 | u9 ..=>wkD q xf k o row [.dead]
 | v9 ..=>wkD q xf k o row [.dead]
end
inductive Tr (n:Nat):Hd->Hd->Prop where
 | nn:Tr n .n8 .n8
 | nu {c:Nat} {cr:Nat->List EV} (h:c<=n):Tr n .n8 (.u8 c cr)
 | uu {c c':Nat} {cr cr':Nat->List EV} (h:c'<=c+n):Tr n (.u8 c cr) (.u8 c' cr')
 | us {c:Nat} {cr:Nat->List EV}:Tr n (.u9 c cr) (.u9 c cr)
 | uv {c c':Nat} {cr cr':Nat->List EV} (h:c'<=c+n):Tr n (.u9 c cr) (.v9 c' cr')
 | vv {c c':Nat} {cr cr':Nat->List EV} (h:c'<=c+n):Tr n (.v9 c cr) (.v9 c' cr')
theorem Tr.refl (n:Nat):∀ h:Hd,Tr n h h
 | .n8=>.nn
 | .u8 c cr=>.uu (by omega)
 | .u9 c cr=>.us
 | .v9 c cr=>.vv (by omega)
theorem Tr.trans {n n':Nat}{a b c:Hd}(h:Tr n a b)(g:Tr n' b c):Tr (n+n') a c:=by
 cases h<;>cases g<;>constructor<;>omega
theorem Tr.m {n:Nat}{a b:Hd}(h:Tr n a b):b.m=a.m:=by cases h<;>rfl
theorem Tr.cM {n:Nat}{a b:Hd}(h:Tr n a b):b.cM<=a.cM+n:=by cases h<;>simp only [Hd.cM]<;>omega
theorem Tr.heapD {n:Nat}{a b:Hd}(h:Tr n a b){q:fG}{xf k:Nat}{o row:Nat->Int}:b.heapD q xf k o row=a.heapD q xf k o row:=by cases h<;>rfl
section
variable {q:fG}{xf k:Nat}{i:Int}{l:Nat}{o1 o2 row:Nat->Int}
theorem AB5 (h:aA prog fF 58 (GC q k i l) (cQ q xf k cuN o1 []) (.bool true) (cQ q xf k cuN o2 [])):aA prog fF 58 (GC q k i l) (cQ q xf k cuN o1 (d5 [])) (.bool true) (cQ q xf k cuN o2 (d5 [])):=
 aA.via' [0,1,2,3,4,5,6,7] (by kernel_rfl) (by kernel_rfl) (by kernel_rfl) h (by kernel_rfl)
theorem AB6 {c:Nat}{cr:Nat->List EV}(h:aA prog fF 58 (GC q k i l) (cQ q xf k cuN o1 []) (.bool true) (cQ q xf k (eI 8 c) o2 [eH c cr])):aA prog fF 58 (GC q k i l) (cQ q xf k cuN o1 (d5 [])) (.bool true) (cQ q xf k (eI 13 c) o2 (d5 [eH c cr])):=
 aA.via' [0,1,2,3,4,5,6,7] (by kernel_rfl) (by kernel_rfl) (by kernel_rfl) h (by kernel_rfl)
theorem AB7 (h:aA prog fF 58 (GC q k i l) (cQ q xf k cuN o1 []) (.bool false) (wkD q xf k o2 row [])):aA prog fF 58 (GC q k i l) (cQ q xf k cuN o1 (d5 [])) (.bool false) (wkD q xf k o2 row (d5 [])):=
 aA.via' [0,1,2,3,4,5,6,7] (by kernel_rfl) (by kernel_rfl) (by kernel_rfl) h (by kernel_rfl)
section
variable {c:Nat}{cr:Nat->List EV}{c2:Nat}{cr2:Nat->List EV}
theorem ZL (h:aA prog fF 58 (GC q k i l) (cQ q xf k (eI 8 c) o1 [eH c cr]) (.bool true) (cQ q xf k (eI 8 c) o2 [eH c cr])):aA prog fF 58 (GC q k i l) (cQ q xf k (eI 8 c) o1 (eH c cr :: d5 [])) (.bool true) (cQ q xf k (eI 8 c) o2 (eH c cr :: d5 [])):=
 aA.via' [0,1,2,3,4,5,6,7,8] (by kernel_rfl) (by kernel_rfl) (by kernel_rfl) h (by kernel_rfl)
theorem ZM (h:aA prog fF 58 (GC q k i l) (cQ q xf k (eI 8 c) o1 [eH c cr]) (.bool true) (cQ q xf k (eI 9 c2) o2 [.dead,eH c2 cr2])):aA prog fF 58 (GC q k i l) (cQ q xf k (eI 8 c) o1 (eH c cr :: d5 [])) (.bool true) (cQ q xf k (eI 14 c2) o2 (.dead :: d5 [eH c2 cr2])):=
 aA.via' [0,1,2,3,4,5,6,7,8] (by kernel_rfl) (by kernel_rfl) (by kernel_rfl) h (by kernel_rfl)
theorem ZN (h:aA prog fF 58 (GC q k i l) (cQ q xf k (eI 8 c) o1 [eH c cr]) (.bool false) (wkD q xf k o2 row [.dead])):aA prog fF 58 (GC q k i l) (cQ q xf k (eI 8 c) o1 (eH c cr :: d5 [])) (.bool false) (wkD q xf k o2 row (.dead :: d5 [])):=
 aA.via' [0,1,2,3,4,5,6,7,8] (by kernel_rfl) (by kernel_rfl) (by kernel_rfl) h (by kernel_rfl)
theorem AB8 (h:aA prog fF 58 (GC q k i l) (cQ q xf k (eI 8 c) o1 [eH c cr]) (.bool true) (cQ q xf k (eI 8 c) o2 [eH c cr])):aA prog fF 58 (GC q k i l) (cQ q xf k (eI 9 c) o1 (.dead :: eH c cr :: d5 [])) (.bool true) (cQ q xf k (eI 9 c) o2 (.dead :: eH c cr :: d5 [])):=
 aA.via' [0,1,2,3,4,5,6,7,9] (by kernel_rfl) (by kernel_rfl) (by kernel_rfl) h (by kernel_rfl)
theorem AB9 (h:aA prog fF 58 (GC q k i l) (cQ q xf k (eI 8 c) o1 [eH c cr]) (.bool true) (cQ q xf k (eI 9 c2) o2 [.dead,eH c2 cr2])):aA prog fF 58 (GC q k i l) (cQ q xf k (eI 9 c) o1 (.dead :: eH c cr :: d5 [])) (.bool true) (cQ q xf k (eI 15 c2) o2 (.dead :: .dead :: d5 [eH c2 cr2])):=
 aA.via' [0,1,2,3,4,5,6,7,9] (by kernel_rfl) (by kernel_rfl) (by kernel_rfl) h (by kernel_rfl)
theorem ACA (h:aA prog fF 58 (GC q k i l) (cQ q xf k (eI 8 c) o1 [eH c cr]) (.bool false) (wkD q xf k o2 row [.dead])):aA prog fF 58 (GC q k i l) (cQ q xf k (eI 9 c) o1 (.dead :: eH c cr :: d5 [])) (.bool false) (wkD q xf k o2 row (.dead :: .dead :: d5 [])):=
 aA.via' [0,1,2,3,4,5,6,7,9] (by kernel_rfl) (by kernel_rfl) (by kernel_rfl) h (by kernel_rfl)
end
end
theorem OX:∀ (k:Nat) (l:List Nat),(CL k l).length<=2 ^ l.length
 | 0,l=>by simp only [CL,List.length_singleton]; exact Nat.one_le_two_pow
 | k+1,[]=>by simp [CL]
 | k+1,x :: l=>by
  have h1:=OX k l;have h2:=OX (k+1) l;rw [CL,List.length_append,List.length_map,List.length_cons,Nat.pow_succ];omega
noncomputable abbrev wkc:Code:=cB (cB (cR (cL (cR (cR (AY prog 58))))))
abbrev wlT (q:fG)(k l:Nat)(i:Int):List EV:=frame 43 [(1,.ms 7 1 0 l (some k)),(4,EV.ip [EV.ip (AD q) 0] 0),(5,.ptr 6 0),(9,.int .i64 i)]
def Qz (o:Nat->Int)(l:Nat)(x:Int):Nat->Int:=fun j=>if j=l then x else o j
theorem Yn {o:Nat->Int}{l:Nat}{x:Int}(j:Nat):Aw (0+l) 1 (fun (i:Nat)=>[EV.int IntKind.i64 (o i)]) (fun (i_1:Nat)=>[[EV.int IntKind.i64 x]].getD (0+i_1) []) j=[EV.int .i64 (Qz o l x j)]:=by
 unfold Aw Qz;rw [uJ];by_cases h:j=l
 ·subst h;rw [if_neg (by omega),if_pos (by omega),if_pos rfl,Nat.sub_self]; rfl
 ·rw [if_neg h];by_cases h1:j<l
  ·rw [if_pos h1]
  ·rw [if_neg h1,if_neg (by omega)]
theorem XM {pre:List Nat}{x:Nat}{o:Nat->Int}(h:∀ p,p<pre.length->o p=cX pre p):∀ p,p<(pre++[x]).length->Qz o pre.length (x:Int) p=cX (pre++[x]) p:=fun p hp=>by
 rw [List.length_append,List.length_singleton] at hp;unfold Qz;by_cases e:p=pre.length
 ·subst e;rw [if_pos rfl];show (x:Int)=(((pre++[x]).getD pre.length 0:Nat):Int)
  rw [uA,List.getElem?_concat_length,Option.getD_some]
 ·rw [if_neg e,h p (by omega)];show (((pre.getD p 0:Nat)):Int)=(((pre++[x]).getD p 0:Nat):Int)
  rw [uA,uA,List.getElem?_append_left (by omega)]
theorem NR {pre:List Nat}{x:Nat}{o:Nat->Int}(h:∀ p,p<(pre++[x]).length->o p=cX (pre++[x]) p):∀ p,p<pre.length->o p=cX pre p:=fun p hp=>by
 rw [h p (by rw [List.length_append]; omega)];show (((pre++[x]).getD p 0:Nat):Int)=(((pre.getD p 0:Nat)):Int)
 rw [uA,uA,List.getElem?_append_left hp]
section
variable {q:fG}(hq:q.Ok){xf k:Nat}(hk:k<=8){good:List Nat->Bool}{rowOf:List Nat->Nat->Int}
def XN (q:fG)(xf k:Nat)(good:List Nat->Bool)(rowOf:List Nat->Nat->Int)(d i:Nat)(pre:List Nat):Prop:=∀ (hd:Hd) (o:Nat->Int),hd.entry->hd.cM+(CL d ((AH q.n q.own).drop i)).length<=1000->(∀ p,p<pre.length->o p=cX pre p)->
 ∃ o',(∃ t,t∈CL d ((AH q.n q.own).drop i)/\good (pre++t)=true/\aA prog fF 58 (GC q k i pre.length) (hd.heap q xf k o) (.bool false) (hd.heapD q xf k o' (rowOf (pre++t))))∨
  ((∀ t,t∈CL d ((AH q.n q.own).drop i)->good (pre++t)=false)/\(∀ p,p<pre.length->o' p=cX pre p)/\∃ hd',Tr (CL d ((AH q.n q.own).drop i)).length hd hd'/\aA prog fF 58 (GC q k i pre.length) (hd.heap q xf k o) (.bool true) (hd'.heap q xf k o'))
include hq hk
theorem Vh {d i:Nat}{pre:List Nat}(hl:pre.length<k)(hi:i<(AH q.n q.own).length)(hW:XN q xf k good rowOf d (i+1) (pre++[(AH q.n q.own)[i]]))
  (hd:Hd) (o:Nat->Int) (hc:hd.cM+(CL d ((AH q.n q.own).drop (i+1))).length<=1000) (ho:∀ p,p<pre.length->o p=cX pre p):
  ∃ o',(∃ t,t∈CL d ((AH q.n q.own).drop (i+1))/\good ((pre++[(AH q.n q.own)[i]])++t)=true/\uR prog fF false hd.m wkc (wlT q k pre.length i) (hd.heap q xf k o) (EX.ret,frame 43 [(8,.bool false)],hd.heapD q xf k o' (rowOf ((pre++[(AH q.n q.own)[i]])++t))))∨
   ((∀ t,t∈CL d ((AH q.n q.own).drop (i+1))->good ((pre++[(AH q.n q.own)[i]])++t)=false)/\(∀ p,p<pre.length->o' p=cX pre p)/\∃ hd',Tr (CL d ((AH q.n q.own).drop (i+1))).length hd hd'/\uR prog fF false hd.m wkc (wlT q k pre.length i) (hd.heap q xf k o) (EX.normal,wlT q k pre.length ((i:Int)+1),hd'.heap q xf k o')):=by
 have hR:=Dg hq;have e:=LU hi;have q0:(Decidable.decide ((i:Int)<((AH q.n q.own).length:Int)))=true:=uK (by omega);have ho1:=XM (x:=(AH q.n q.own)[i]) ho;have hlen:(pre++[(AH q.n q.own)[i]]).length=pre.length+1:=by simp
 have row:∀ j,Aw (0+pre.length) 1 (fun (i:Nat)=>[EV.int IntKind.i64 (o i)]) (fun (i_1:Nat)=>[[EV.int IntKind.i64 (Co q ((i:Nat):Int).toNat)]].getD (0+i_1) []) j=[EV.int .i64 (Qz o pre.length (((AH q.n q.own)[i]:Nat):Int) j)]:=fun j=>by rw [e]; exact Yn j
 have ei:((i+1:Nat):Int)=(i:Int)+1:=by omega
 cases hd with
 | n8=>
  have hpre:eW (cQ q xf k cuN o [] |>.set 7 (fE.arr false true 1 true k (Aw (0+pre.length) 1 (fun (i:Nat)=>[EV.int IntKind.i64 (o i)]) fun (i_1:Nat)=>[[EV.int IntKind.i64 (Co q ((i:Nat):Int).toNat)]].getD (0+i_1) [])) |>.append [fE.arr false true 1 true 1 fun (i_1:Nat)=>[[EV.int IntKind.i64 (Co q ((i:Nat):Int).toNat)]].getD i_1 [],fE.free,fE.free,fE.free,fE.free]) (cQ q xf k cuN (Qz o pre.length (((AH q.n q.own)[i]:Nat):Int)) (d5 [])):=
   .cons (uH _) (.cons (uH _) (.cons (uH _) (.cons (uH _) (.cons (uH _) (.cons (uH _) (.cons (uH _) (.cons (uU.arr fun j _=>row j) (.cons uU.dead (.cons uU.dead (.cons uU.dead (.cons uU.dead (.cons uU.dead .nil))))))))))))
  obtain ⟨o',h⟩:=hW .n8 _ trivial hc ho1;rw [hlen,ei] at h;rcases h with ⟨t,h1,h2,h3⟩ | ⟨h1,hp,hd',h2,h3⟩
  ·exact ⟨o',.inl ⟨t,h1,h2,YR q xf k o 0 (fun _=>[]) pre.length i o' 0 (fun _=>[]) (rowOf _) hk hl (by omega) hR (fun _=>(AB7 h3).pre hpre) q0⟩⟩
  ·refine ⟨o',.inr ⟨h1,NR (x:=(AH q.n q.own)[i]) (by rw [hlen]; exact hp),?_⟩⟩;cases h2 with
   | nn=>exact ⟨_,.nn,YP q xf k o 0 (fun _=>[]) pre.length i o' 0 (fun _=>[]) (fun _=>0) hk hl (by omega) hR (fun _=>(AB5 h3).pre hpre) q0⟩
   | nu hx=>exact ⟨_,.nu hx,YQ q xf k o 0 (fun _=>[]) pre.length i o' _ _ (fun _=>0) hk hl (by omega) hR (fun _=>(AB6 h3).pre hpre) q0⟩
 | u8 c cr=>
  have hpre:eW (cQ q xf k (eI 8 c) o [eH c cr] |>.set 7 (fE.arr false true 1 true k (Aw (0+pre.length) 1 (fun (i:Nat)=>[EV.int IntKind.i64 (o i)]) fun (i_1:Nat)=>[[EV.int IntKind.i64 (Co q ((i:Nat):Int).toNat)]].getD (0+i_1) [])) |>.append [fE.arr false true 1 true 1 fun (i_1:Nat)=>[[EV.int IntKind.i64 (Co q ((i:Nat):Int).toNat)]].getD i_1 [],fE.free,fE.free,fE.free,fE.free]) (cQ q xf k (eI 8 c) (Qz o pre.length (((AH q.n q.own)[i]:Nat):Int)) (eH c cr :: d5 [])):=
   .cons (uH _) (.cons (uH _) (.cons (uH _) (.cons (uH _) (.cons (uH _) (.cons (uH _) (.cons (uH _) (.cons (uU.arr fun j _=>row j) (.cons (uH _) (.cons uU.dead (.cons uU.dead (.cons uU.dead (.cons uU.dead (.cons uU.dead .nil)))))))))))))
  obtain ⟨o',h⟩:=hW (.u9 c cr) _ trivial hc ho1;rw [hlen,ei] at h;rcases h with ⟨t,h1,h2,h3⟩ | ⟨h1,hp,hd',h2,h3⟩
  ·exact ⟨o',.inl ⟨t,h1,h2,YV q xf k o c cr pre.length i o' 0 (fun _=>[]) (rowOf _) hk hl (by omega) hR (fun _=>(ZN h3).pre hpre) q0⟩⟩
  ·refine ⟨o',.inr ⟨h1,NR (x:=(AH q.n q.own)[i]) (by rw [hlen]; exact hp),?_⟩⟩;cases h2 with
   | us=>exact ⟨.u8 c cr,.uu (by omega),YT q xf k o c cr pre.length i o' 0 (fun _=>[]) (fun _=>0) hk hl (by omega) hR (fun _=>(ZL h3).pre hpre) q0⟩
   | uv hx=>exact ⟨_,.uu hx,YU q xf k o c cr pre.length i o' _ _ (fun _=>0) hk hl (by omega) hR (fun _=>(ZM h3).pre hpre) q0⟩
 | u9 c cr=>
  have hpre:eW (cQ q xf k (eI 8 c) o [eH c cr] |>.set 7 (fE.arr false true 1 true k (Aw (0+pre.length) 1 (fun (i:Nat)=>[EV.int IntKind.i64 (o i)]) fun (i_1:Nat)=>[[EV.int IntKind.i64 (Co q ((i:Nat):Int).toNat)]].getD (0+i_1) [])) |>.append [fE.arr false true 1 true 1 fun (i_1:Nat)=>[[EV.int IntKind.i64 (Co q ((i:Nat):Int).toNat)]].getD i_1 [],fE.free,fE.free,fE.free,fE.free]) (cQ q xf k (eI 8 c) (Qz o pre.length (((AH q.n q.own)[i]:Nat):Int)) (eH c cr :: d5 [])):=
   .cons (uH _) (.cons (uH _) (.cons (uH _) (.cons (uH _) (.cons (uH _) (.cons (uH _) (.cons (uH _) (.cons (uU.arr fun j _=>row j) (.cons (uH _) (.cons uU.dead (.cons uU.dead (.cons uU.dead (.cons uU.dead (.cons uU.dead .nil)))))))))))))
  obtain ⟨o',h⟩:=hW (.u9 c cr) _ trivial hc ho1;rw [hlen,ei] at h;rcases h with ⟨t,h1,h2,h3⟩ | ⟨h1,hp,hd',h2,h3⟩
  ·exact ⟨o',.inl ⟨t,h1,h2,YZ q xf k o c cr pre.length i o' 0 (fun _=>[]) (rowOf _) hk hl (by omega) hR (fun _=>(ZN h3).pre hpre) q0⟩⟩
  ·refine ⟨o',.inr ⟨h1,NR (x:=(AH q.n q.own)[i]) (by rw [hlen]; exact hp),?_⟩⟩;cases h2 with
   | us=>exact ⟨_,.us,YX q xf k o c cr pre.length i o' 0 (fun _=>[]) (fun _=>0) hk hl (by omega) hR (fun _=>(ZL h3).pre hpre) q0⟩
   | uv hx=>exact ⟨_,.uv hx,YY q xf k o c cr pre.length i o' _ _ (fun _=>0) hk hl (by omega) hR (fun _=>(ZM h3).pre hpre) q0⟩
 | v9 c cr=>
  have hpre:eW (cQ q xf k (eI 9 c) o [.dead,eH c cr] |>.set 7 (fE.arr false true 1 true k (Aw (0+pre.length) 1 (fun (i:Nat)=>[EV.int IntKind.i64 (o i)]) fun (i_1:Nat)=>[[EV.int IntKind.i64 (Co q ((i:Nat):Int).toNat)]].getD (0+i_1) [])) |>.append [fE.arr false true 1 true 1 fun (i_1:Nat)=>[[EV.int IntKind.i64 (Co q ((i:Nat):Int).toNat)]].getD i_1 [],fE.free,fE.free,fE.free,fE.free]) (cQ q xf k (eI 9 c) (Qz o pre.length (((AH q.n q.own)[i]:Nat):Int)) (.dead :: eH c cr :: d5 [])):=
   .cons (uH _) (.cons (uH _) (.cons (uH _) (.cons (uH _) (.cons (uH _) (.cons (uH _) (.cons (uH _) (.cons (uU.arr fun j _=>row j) (.cons (uH _) (.cons (uH _) (.cons uU.dead (.cons uU.dead (.cons uU.dead (.cons uU.dead (.cons uU.dead .nil))))))))))))))
  obtain ⟨o',h⟩:=hW (.u9 c cr) _ trivial hc ho1;rw [hlen,ei] at h;rcases h with ⟨t,h1,h2,h3⟩ | ⟨h1,hp,hd',h2,h3⟩
  ·exact ⟨o',.inl ⟨t,h1,h2,Yd q xf k o c cr pre.length i o' 0 (fun _=>[]) (rowOf _) hk hl (by omega) hR (fun _=>(ACA h3).pre hpre) q0⟩⟩
  ·refine ⟨o',.inr ⟨h1,NR (x:=(AH q.n q.own)[i]) (by rw [hlen]; exact hp),?_⟩⟩;cases h2 with
   | us=>exact ⟨.v9 c cr,.vv (by omega),Yb q xf k o c cr pre.length i o' 0 (fun _=>[]) (fun _=>0) hk hl (by omega) hR (fun _=>(AB8 h3).pre hpre) q0⟩
   | uv hx=>exact ⟨_,.vv hx,Yc q xf k o c cr pre.length i o' _ _ (fun _=>0) hk hl (by omega) hR (fun _=>(AB9 h3).pre hpre) q0⟩
theorem XO {pre:List Nat}(hl:pre.length<k)(hd:Hd)(o:Nat->Int):uR prog fF false hd.m wkc (wlT q k pre.length ((AH q.n q.own).length:Nat)) (hd.heap q xf k o) (EX.leave 0,frame 43 [],hd.heap q xf k o):=by
 have hR:=Dg hq;have q0:(Decidable.decide ((((AH q.n q.own).length:Nat):Int)<((AH q.n q.own).length:Int)))=false:=uL (by omega);cases hd with
 | n8=>exact YS q xf k o 0 (fun _=>[]) pre.length _ o 0 (fun _=>[]) (fun _=>0) hk hl (by omega) hR (fun h=>absurd h (Int.lt_irrefl _)) q0
 | u8 c cr=>exact YW q xf k o c cr pre.length _ o 0 (fun _=>[]) (fun _=>0) hk hl (by omega) hR (fun h=>absurd h (Int.lt_irrefl _)) q0
 | u9 c cr=>exact Ya q xf k o c cr pre.length _ o 0 (fun _=>[]) (fun _=>0) hk hl (by omega) hR (fun h=>absurd h (Int.lt_irrefl _)) q0
 | v9 c cr=>exact Ye q xf k o c cr pre.length _ o 0 (fun _=>[]) (fun _=>0) hk hl (by omega) hR (fun h=>absurd h (Int.lt_irrefl _)) q0
theorem P8 {d:Nat}{pre:List Nat}(hl:pre.length<k)(hW:∀ (i:Nat) (hi:i<(AH q.n q.own).length),(∀ t,t∈CL d ((AH q.n q.own).drop (i+1))->(pre++[(AH q.n q.own)[i]])++t∈CL k (AH q.n q.own))->XN q xf k good rowOf d (i+1) (pre++[(AH q.n q.own)[i]])):
  ∀ (j i:Nat) (hd:Hd) (o:Nat->Int),i+j=(AH q.n q.own).length->(∀ t,t∈CL (d+1) ((AH q.n q.own).drop i)->pre++t∈CL k (AH q.n q.own))->hd.cM+(CL (d+1) ((AH q.n q.own).drop i)).length<=1000->(∀ p,p<pre.length->o p=cX pre p)->
  ∃ o',(∃ t,t∈CL (d+1) ((AH q.n q.own).drop i)/\good (pre++t)=true/\uM prog fF false hd.m wkc (wlT q k pre.length i) (hd.heap q xf k o) (EX.ret,frame 43 [(8,.bool false)],hd.heapD q xf k o' (rowOf (pre++t))))∨
   ((∀ t,t∈CL (d+1) ((AH q.n q.own).drop i)->good (pre++t)=false)/\(∀ p,p<pre.length->o' p=cX pre p)/\∃ hd',Tr (CL (d+1) ((AH q.n q.own).drop i)).length hd hd'/\uM prog fF false hd.m wkc (wlT q k pre.length i) (hd.heap q xf k o) (EX.leave 0,frame 43 [],hd'.heap q xf k o'))
 | 0,i,hd,o,h,_,hc,ho=>by
  obtain rfl:i=(AH q.n q.own).length:=by omega
  refine ⟨o,.inr ⟨fun t ht=>?_,ho,hd,Tr.refl _ hd,uM.aC (XO hq hk hl hd o) (by simp)⟩⟩;rw [List.drop_length] at ht;simp [CL] at ht
 | j+1,i,hd,o,h,hs,hc,ho=>by
  have hi:i<(AH q.n q.own).length:=by omega
  have hdr:(AH q.n q.own).drop i=(AH q.n q.own)[i] :: (AH q.n q.own).drop (i+1):=List.drop_eq_getElem_cons hi;have hsub:CL (d+1) ((AH q.n q.own).drop i)=(CL d ((AH q.n q.own).drop (i+1))).map ((AH q.n q.own)[i] :: ·)++CL (d+1) ((AH q.n q.own).drop (i+1)):=by rw [hdr,CL]
  rw [hsub] at hs hc ⊢;rw [List.length_append,List.length_map] at hc;have hs1:∀ t,t∈CL d ((AH q.n q.own).drop (i+1))->(pre++[(AH q.n q.own)[i]])++t∈CL k (AH q.n q.own):=fun t ht=>by
   rw [List.append_assoc,List.singleton_append];exact hs _ (List.mem_append_left _ (List.mem_map.2 ⟨t,ht,rfl⟩))
  have hs2:∀ t,t∈CL (d+1) ((AH q.n q.own).drop (i+1))->pre++t∈CL k (AH q.n q.own):=fun t ht=>hs t (List.mem_append_right _ ht);obtain ⟨o1,h1⟩:=Vh hq hk hl hi (hW i hi hs1) hd o (by omega) ho;rcases h1 with ⟨t,a1,a2,a3⟩ | ⟨a1,a4,hd1,a2,a3⟩
  ·rw [List.append_assoc,List.singleton_append] at a2 a3;exact ⟨o1,.inl ⟨_,List.mem_append_left _ (List.mem_map.2 ⟨t,a1,rfl⟩),a2,uM.aC a3 (by simp)⟩⟩
  ·have hc1:=a2.cM;have hm1:=a2.m;obtain ⟨o2,h2⟩:=P8 hl hW j (i+1) hd1 o1 (by omega) hs2 (by omega) a4;have ei:((i+1:Nat):Int)=(i:Int)+1:=by omega
   rw [ei,hm1] at h2;refine ⟨o2,?_⟩;rcases h2 with ⟨t,b1,b2,b3⟩ | ⟨b1,b4,hd2,b2,b3⟩
   ·rw [a2.heapD] at b3;exact .inl ⟨t,List.mem_append_right _ b1,b2,uM.uQ a3 b3⟩
   ·refine .inr ⟨fun t ht=>?_,b4,hd2,?_,uM.uQ a3 b3⟩
    ·rcases List.mem_append.1 ht with ht | ht
     ·obtain ⟨t',ht',rfl⟩:=List.mem_map.1 ht;have:=a1 t' ht'
      rwa [List.append_assoc,List.singleton_append] at this
     ·exact b1 t ht
    ·rw [List.length_append,List.length_map];exact a2.trans b2
def Tf (q:fG)(xf k:Nat)(good:List Nat->Bool)(rowOf:List Nat->Nat->Int):Prop:=∀ (pre:List Nat) (hd:Hd) (o:Nat->Int) (fr:Int),pre∈CL k (AH q.n q.own)->hd.entry->hd.cM<=999->(∀ p,p<k->o p=cX pre p)->
 (good pre=true->aA prog fF 58 (GC q k fr k) (hd.heap q xf k o) (.bool false) (hd.heapD q xf k o (rowOf pre)))/\(good pre=false->∃ hd',Tr 1 hd hd'/\aA prog fF 58 (GC q k fr k) (hd.heap q xf k o) (.bool true) (hd'.heap q xf k o))
theorem Rr (hB:Tf q xf k good rowOf):∀ (d i:Nat) (pre:List Nat),pre.length+d=k->i<=(AH q.n q.own).length->(∀ t,t∈CL d ((AH q.n q.own).drop i)->pre++t∈CL k (AH q.n q.own))->XN q xf k good rowOf d i pre
 | 0,i,pre,hlen,hi,hs=>fun hd o he hc ho=>by
  have hk':pre.length=k:=by omega
  have h0:CL 0 ((AH q.n q.own).drop i)=[[]]:=by cases (AH q.n q.own).drop i<;>rfl
  rw [h0] at hs hc ⊢;have hm:=hs [] (by simp);rw [List.append_nil] at hm;obtain ⟨b1,b2⟩:=hB pre hd o i hm he (by simp at hc; omega) (by rw [<-hk']; exact ho);rw [<-hk'] at b1 b2;rcases hg:good pre with _ | _
  ·obtain ⟨hd',c1,c2⟩:=b2 hg;refine ⟨o,.inr ⟨fun t ht=>?_,ho,hd',c1,by rw [hk'] at c2 ⊢; exact c2⟩⟩;obtain rfl:=List.mem_singleton.1 ht;rw [List.append_nil]; exact hg
  ·refine ⟨o,.inl ⟨[],by simp,by rw [List.append_nil]; exact hg,?_⟩⟩;rw [List.append_nil];have:=b1 hg;rw [hk'] at this ⊢; exact this
 | d+1,i,pre,hlen,hi,hs=>fun hd o he hc ho=>by
  have hl:pre.length<k:=by omega
  obtain ⟨o',h⟩:=P8 hq hk hl (fun i hi hs'=>Rr hB d (i+1) (pre++[(AH q.n q.own)[i]]) (by simp; omega) (by omega) hs') ((AH q.n q.own).length - i) i hd o (by omega) hs hc ho;refine ⟨o',?_⟩;cases hd with
  | n8=>
   rcases h with ⟨t,h1,h2,h3⟩ | ⟨h1,h4,hd',h2,h3⟩
   ·exact .inl ⟨t,h1,h2,vE q xf k o 0 (fun _=>[]) pre.length o' 0 (fun _=>[]) _ i hk hl (h3.cl (by kernel_rfl) (by kernel_rfl))⟩
   ·refine .inr ⟨h1,h4,hd',h2,?_⟩;cases h2 with
    | nn=>exact vC q xf k o 0 (fun _=>[]) pre.length o' 0 (fun _=>[]) (fun _=>0) i hk hl (h3.cl (by kernel_rfl) (by kernel_rfl))
    | nu hx=>exact vD q xf k o 0 (fun _=>[]) pre.length o' _ _ (fun _=>0) i hk hl (h3.cl (by kernel_rfl) (by kernel_rfl))
  | u9 c cr=>
   rcases h with ⟨t,h1,h2,h3⟩ | ⟨h1,h4,hd',h2,h3⟩
   ·exact .inl ⟨t,h1,h2,vH q xf k o c cr pre.length o' 0 (fun _=>[]) _ i hk hl (h3.cl (by kernel_rfl) (by kernel_rfl))⟩
   ·refine .inr ⟨h1,h4,hd',h2,?_⟩;cases h2 with
    | us=>exact vF q xf k o c cr pre.length o' 0 (fun _=>[]) (fun _=>0) i hk hl (h3.cl (by kernel_rfl) (by kernel_rfl))
    | uv hx=>exact vG q xf k o c cr pre.length o' _ _ (fun _=>0) i hk hl (h3.cl (by kernel_rfl) (by kernel_rfl))
  | u8 c cr=>exact he.elim
  | v9 c cr=>exact he.elim
end
abbrev MS (a0:Nat):=true && decide (0<=(↑a0:Int)) && decide ((↑a0:Int)*8<=70368744177664) && decide ((↑a0:Int)<4611686018427387904)
section
variable (q:fG)(xf:Nat)(k:Nat)(o:Nat->Int)(c:Nat)(cr:Nat->List EV)(row:Nat->Int)(hk:k<=8)
include q xf k o c cr row hk
theorem ACB (ihw:sF 58 [iv 0,.ms 7 1 0 0 (some (k:Int).toNat),FE k,pt 5 0,AX q,pt 6 0] [oV (aL xf q),oV cG,oV cG,oV [bv false],Ab,AZ,eX k q,oA 1 true (k:Int).toNat fun _=>[iv 0],fE.free,fE.free,fE.free] (bv true) [oV (aL xf q),oV cG,oV cG,oV [bv false],Ab,AZ,eX k q,oA 1 true k fun j=>[iv (o j)],oD,oD,oD]):sF 57 [EV.it 4,CA k,AX q] [oV (aL xf q),oV cG,oV cG,oV [bv false],Ab] (tu []) [oV (aL xf q),oV cP,oV cP,oV [bv false],A3]:=
 kF [[]] (.mk (dS 26) [] [] [some ((bv true,[oV (aL xf q),oV cP,oV cP,oV [bv false],A3,Am,eY k q,oA 1 true k fun i=>[iv (o i)],oD,oD,oD]))] []) (kO AN) (.cons ihw (oL (MS k) .nil)) 31 [0,1,2,3,4]
theorem ACC (ihw:sF 58 [iv 0,.ms 7 1 0 0 (some (k:Int).toNat),FE k,pt 5 0,AX q,pt 6 0] [oV (aL xf q),oV cG,oV cG,oV [bv false],Ab,AZ,eX k q,oA 1 true (k:Int).toNat fun _=>[iv 0],fE.free,fE.free,fE.free] (bv true) [oV (aL xf q),oV cG,fE.var false false [.ms 11 3 0 c none],oV [bv false],Ab,AZ,eX k q,oA 1 true k fun j=>[iv (o j)],oD,oD,oD,oA 3 false c fun j=>cr j]):sF 57 [EV.it 4,CA k,AX q] [oV (aL xf q),oV cG,oV cG,oV [bv false],Ab] (tu []) [oV (aL xf q),oV cP,fE.var false false [EV.ms 5 3 0 c none],oV [bv false],A3,oA 3 false c cr]:=
 kF [[]] (.mk (dS 26) [] [] [some ((bv true,[oV (aL xf q),oV cP,fE.var false false [EV.ms 11 3 0 c none],oV [bv false],A3,Am,eY k q,oA 1 true k fun i=>[iv (o i)],oD,oD,oD,oA 3 false c cr]))] []) (kO AN) (.cons ihw (oL (MS k) .nil)) 63 [0,1,2,3,4,11]
theorem ACD (ihw:sF 58 [iv 0,.ms 7 1 0 0 (some (k:Int).toNat),FE k,pt 5 0,AX q,pt 6 0] [oV (aL xf q),oV cG,oV cG,oV [bv false],Ab,AZ,eX k q,oA 1 true (k:Int).toNat fun _=>[iv 0],fE.free,fE.free,fE.free] (bv false) [oV (aL xf q),oV [Bs q row],AET,oV [bv true],Qy,AZ,eX k q,oA 1 true k fun j=>[iv (o j)],oD,oD,oD]):sF 57 [EV.it 4,CA k,AX q] [oV (aL xf q),oV cG,oV cG,oV [bv false],Ab] (tu []) [oV (aL xf q),oV [sl true 1 q.m fun i=>(AA row i)],CJ,oV [bv true],B3]:=
 kF [[]] (.mk (dS 26) [] [] [some ((bv false,[oV (aL xf q),oV [sl true 1 q.m fun i=>(AA row i)],CJ,oV [bv true],B3,Am,eY k q,oA 1 true k fun i=>[iv (o i)],oD,oD,oD]))] []) (kO AN) (.cons ihw (oL (MS k) .nil)) 31 [0,1,2,3,4]
theorem ACE (ihw:sF 57 [.it 4,FE k,AX q] [oV (aL xf q),oV cG,oV cG,oV [bv false],fE.loop LoopState.ready (frame 30 [(0,iv (k:Int)),(1,fc (xf) (AB q) []),(2,pv (AB q) 0),(4,pt 0 0),(5,pt 1 0),(6,pt 2 0),(7,pt 3 0),(12,pv (AD q) 0),(13,iv (k:Int)),(14,fc (57) [] [pv [iv (k:Int)] 0,AX q])]) #[15] Mo Mp none] (tu []) [oV (aL xf q),oV cG,oV cG,oV [bv false],Ab]):sP 35 [iv ↑k,fc (xf) (AB q) [],AX q] (tu [AT,AT,bv false]):=
 kP [[]] (.mk [] [] [] [some ((tu [],[oV (aL xf q),oV cP,oV cP,oV [bv false],A3]))] []) (kO AN) (.cons ihw .nil)
theorem ACF (ihw:sF 57 [.it 4,FE k,AX q] [oV (aL xf q),oV cG,oV cG,oV [bv false],fE.loop LoopState.ready (frame 30 [(0,iv (k:Int)),(1,fc (xf) (AB q) []),(2,pv (AB q) 0),(4,pt 0 0),(5,pt 1 0),(6,pt 2 0),(7,pt 3 0),(12,pv (AD q) 0),(13,iv (k:Int)),(14,fc (57) [] [pv [iv (k:Int)] 0,AX q])]) #[15] Mo Mp none] (tu []) [oV (aL xf q),oV cG,fE.var false false [.ms 5 3 0 c none],oV [bv false],Ab,oA 3 false c fun j=>cr j]):sP 35 [iv ↑k,fc (xf) (AB q) [],AX q] (tu [AT,sl true 3 c fun i=>cr (0+i),bv false]):=
 kP [[]] (.mk [] [] [] [some ((tu [],[oV (aL xf q),oV cP,fE.var false false [EV.ms 5 3 0 c none],oV [bv false],A3,oA 3 false c cr]))] []) (kO AN) (.cons ihw .nil)
theorem ACG (ihw:sF 57 [.it 4,FE k,AX q] [oV (aL xf q),oV cG,oV cG,oV [bv false],fE.loop LoopState.ready (frame 30 [(0,iv (k:Int)),(1,fc (xf) (AB q) []),(2,pv (AB q) 0),(4,pt 0 0),(5,pt 1 0),(6,pt 2 0),(7,pt 3 0),(12,pv (AD q) 0),(13,iv (k:Int)),(14,fc (57) [] [pv [iv (k:Int)] 0,AX q])]) #[15] Mo Mp none] (tu []) [oV (aL xf q),oV [Bs q row],AET,oV [bv true],Qy]):sP 35 [iv ↑k,fc (xf) (AB q) [],AX q] (tu [sl true 1 q.m fun i=>(AA row i),AT,bv true]):=
 kP [[]] (.mk [] [] [] [some ((tu [],[oV (aL xf q),oV [sl true 1 q.m fun i=>(AA row i)],CJ,oV [bv true],B3]))] []) (kO AN) (.cons ihw .nil)
end
section
variable (q:fG)(mv:Nat->Int)(rv:Nat->Int)(cb:Bool)(cn:Nat)(cr:Nat->List EV)(hp:1<=q.place)(hp2:q.place<=100)
include q mv rv cb cn cr hp hp2
theorem ACH (ihT:sP 35 [iv q.place,fc (37) (AB q) [],AX q] (tu [Aq,sl cb 3 cn fun j=>cr j,bv false])):sP 19 (AB q) (ag [iv 1,AT,AT,sl cb 3 cn cr]):=
 kP [[]] (.mk [] [] [some (tu [AT,sl cb 3 cn cr,bv false])] [] []) (kO AN) (.cons ihT .nil)
theorem ACI (ihT:sP 35 [iv q.place,fc (37) (AB q) [],AX q] (tu [Bs q mv,Aq,bv true]))(ihS:sP 35 [iv (q.place - 1),fc (38) (AB q) [],AX q] (tu [Aq,sl cb 3 cn fun j=>cr j,bv false])):sP 19 (AB q) (ag [iv 2,AT,AT,sl cb 3 cn cr]):=
 kP [[]] (.mk (dS 65966) [] [some (tu [sl true 1 q.m fun i=>(AA mv i),AT,bv true]),some (tu [AT,sl cb 3 cn cr,bv false])] [] []) (kO AN) (.cons ihS (rI (q.place - 1) (.cons ihT .nil)))
theorem ACJ (ihT:sP 35 [iv q.place,fc (37) (AB q) [],AX q] (tu [Bs q mv,Aq,bv true]))(ihS:sP 35 [iv (q.place - 1),fc (38) (AB q) [],AX q] (tu [Bs q rv,Aq,bv true])):sP 19 (AB q) (ag [iv 3,sl true 1 q.m fun i=>(AA rv i),sl true 1 q.m fun i=>(AA mv i),AT]):=
 kP [[]] (.mk (dS 65966) [] [some (tu [sl true 1 q.m fun i=>(AA mv i),AT,bv true]),some (tu [sl true 1 q.m fun i=>(AA rv i),AT,bv true])] [] []) (kO AN) (.cons ihS (rI (q.place - 1) (.cons ihT .nil)))
end
theorem ACK (q:fG)(kd:Int)(rb:Bool)(rn:Nat)(rv:Nat->Int)(mb:Bool)(mn:Nat)(mv:Nat->Int)(cb:Bool)(cn:Nat)(cr:Nat->List EV)(ih12:sP 16 (Au q) (iv 0))(ih14:sP 17 (Au q) (bv true))(ih28:sP 18 (Au q) (Ak q))(ihv:sP 19 (AB q) (ag [iv kd,AW rb rn rv,AW mb mn mv,sl cb 3 cn fun j=>cr j])):sP 9 (Au q) (tu [ag [iv kd,AK rb rn rv,AK mb mn mv,sl cb 3 cn cr],iv 0]):=
 kP [[]] (.mk [] [] [some (iv 0),some (bv true),some (Ak q),some (ag [iv kd,AK rb rn rv,AK mb mn mv,sl cb 3 cn cr])] [] []) (kO AN) (.cons ihv (.cons ih28 (.cons ih14 (.cons ih12 .nil))))
section
variable (q:fG)(kd:Int)(rb:Bool)(rn:Nat)(rv:Nat->Int)(mb:Bool)(mn:Nat)(mv:Nat->Int)(cb:Bool)(cn:Nat)(cr:Nat->List EV)(ih12:sP 16 (Au q) (iv 0))(ih14:sP 17 (Au q) (bv false))
include q kd rb rn rv mb mn mv cb cn cr ih12 ih14
theorem ACL (ih15:sP 20 (Au q) (bv true))(ihv:sP 21 (Au q) (ag [iv kd,AW rb rn rv,AW mb mn mv,sl cb 3 cn fun j=>cr j])):sP 9 (Au q) (tu [ag [iv kd,AK rb rn rv,AK mb mn mv,sl cb 3 cn cr],iv 0]):=
 kP [[]] (.mk [] [] [some (iv 0),some (bv false),some (bv true),some (ag [iv kd,AK rb rn rv,AK mb mn mv,sl cb 3 cn cr])] [] []) (kO AN) (.cons ihv (.cons ih15 (.cons ih14 (.cons ih12 .nil))))
theorem ACN (ih15:sP 20 (Au q) (bv false)):sP 9 (Au q) (tu [ag [iv 4,AT,AT,AT],iv 0]):=
 kP [[]] (.mk [] [] [some (iv 0),some (bv false),some (bv false)] [] []) (kO AN) (.cons ih15 (.cons ih14 (.cons ih12 .nil)))
end
theorem ACO (q:fG):sP 20 (Au q) (bv (decide ((↑q.m:Int)<=8))):=
 kP [[]] (.mk [] [] [] [] []) (kO AN) .nil
theorem XP (q:fG)(kd:Int)(rb:Bool)(rn:Nat)(rv:Nat->Int)(mb:Bool)(mn:Nat)(mv:Nat->Int)(cb:Bool)(cn:Nat)(cr:Nat->List EV)(ih13:sP 9 (Au q) (tu [ag [iv kd,AW rb rn rv,AW mb mn mv,sl cb 3 cn fun j=>cr j],iv 0])):sP 8 (Au q) (iv kd):=
 kP [[]] (.mk [] [] [some (tu [ag [iv kd,AK rb rn rv,AK mb mn mv,sl cb 3 cn cr],iv 0])] [] []) (kO AN) (.cons ih13 .nil)
theorem P9 {k:Nat}(hk:k<=8)(o:Nat->Int):∃ (cp:Option Nat) (exx:Bool) (n1:Nat) (c1:Nat->Int),(∀ j,j<k->c1 j=o j)/\
  aA prog fF 25 [EV.ms 0 1 0 k (some k)] [fE.arr false true 1 true k fun i=>[.int .i64 (o i)]] (EV.ms 1 1 0 k cp) [fE.arr false true 1 true k fun i=>[.int .i64 (o i)],fE.arr false true 1 exx n1 fun i=>[.int .i64 (c1 i)]]:=by
 by_cases h:0+k<=0
 ·obtain rfl:k=0:=by omega
  exact ⟨some 0,true,0,fun _=>0,fun j hj=>by omega,(Wh 0 o (by omega) (by simp)).res (.cons (uH _) (.cons (uU.arr fun i hi=>absurd hi (by omega)) .nil))⟩
 ·have:=Wi k o (by omega) (uL h);rw [uJ] at this;refine ⟨none,false,k,o,fun j _=>rfl,this.res (.cons (uH _) (.cons (uU.arr fun i hi=>?_) .nil))⟩;simp only [Ar,uJ];rw [if_neg (by omega),Nat.sub_zero]
section
variable {q:fG}{k:Nat}(hk:k<=8){good:List Nat->Bool}{rowOf:List Nat->Nat->Int}
def XQ (q:fG)(xf k:Nat)(good:List Nat->Bool)(rowOf:List Nat->Nat->Int):Prop:=∀ s,s∈CL k (AH q.n q.own)->
 (good s=true->uY prog fF xf [EV.ip (AD q) 0,AW true k (cX s)] (.tuple [AW true q.m (rowOf s),.agg [Av,Av,Av],.bool true]))/\
 (good s=false->∃ (ba:Bool) (na:Nat) (av:Nat->Int) (bc:Bool) (nc:Nat) (cl:Nat->Int) (bx:Bool) (nx:Nat) (xs:Nat->Int),uY prog fF xf [EV.ip (AD q) 0,AW true k (cX s)] (.tuple [Av,.agg [AW ba na av,AW bc nc cl,AW bx nx xs],.bool false]))
include hk
theorem vJ (hE:XQ q 37 k good rowOf):Tf q 37 k good rowOf:=by
 intro pre hd o fr hp he hc ho;obtain ⟨cp,exx,n1,c1,h1,h2⟩:=P9 hk o;have arg:eJ [EV.ip (AD q) 0,EV.uS true 1 k fun i=>[.int .i64 (c1 (0+i))]] [EV.ip (AD q) 0,AW true k (cX pre)]:=.cons (aG.refl _) (.cons (aG.uS fun i hi=>by rw [uJ,h1 i hi,ho i hi]) .nil);obtain ⟨e1,e2⟩:=hE pre hp;cases hd with
 | n8=>
  refine ⟨fun hg=>?_,fun hg=>?_⟩
  ·exact (Yg q k o 0 (fun _=>[]) fr cp exx n1 c1 true 0 (fun _=>0) true 0 (fun _=>0) true 0 (fun _=>0) (rowOf pre) hk (by omega) h2 ((e1 hg).weaken arg (aG.refl _))).res (.cons (uH _) (.cons (uH _) (.cons uU.varf (.cons (uH _) (.cons (uH _) (.cons (uH _) (.cons (uH _) (.cons (uH _) .nil))))))))
  ·obtain ⟨ba,na,av,bc,nc,cl,bx,nx,xs,e⟩:=e2 hg;exact ⟨.u8 1 _,.nu (Nat.le_refl _),Yf q k o 0 (fun _=>[]) fr cp exx n1 c1 ba na av bc nc cl bx nx xs (fun _=>0) hk (by omega) h2 (e.weaken arg (aG.refl _))⟩
 | u9 c cr=>
  have hc':c<=999:=hc;refine ⟨fun hg=>?_,fun hg=>?_⟩
  ·exact (Yi q k o c cr fr cp exx n1 c1 true 0 (fun _=>0) true 0 (fun _=>0) true 0 (fun _=>0) (rowOf pre) hk (by omega) h2 ((e1 hg).weaken arg (aG.refl _))).res (.cons (uH _) (.cons (uH _) (.cons (uH _) (.cons (uH _) (.cons (uH _) (.cons (uH _) (.cons (uH _) (.cons (uH _) (.cons uU.dead .nil)))))))))
  ·obtain ⟨ba,na,av,bc,nc,cl,bx,nx,xs,e⟩:=e2 hg;exact ⟨.v9 (c+1) _,.uv (Nat.le_refl _),Yh q k o c cr fr cp exx n1 c1 ba na av bc nc cl bx nx xs (fun _=>0) hk (by omega) h2 (e.weaken arg (aG.refl _))⟩
 | u8 c cr=>exact he.elim
 | v9 c cr=>exact he.elim
theorem vK (hE:XQ q 38 k good rowOf):Tf q 38 k good rowOf:=by
 intro pre hd o fr hp he hc ho;obtain ⟨cp,exx,n1,c1,h1,h2⟩:=P9 hk o;have arg:eJ [EV.ip (AD q) 0,EV.uS true 1 k fun i=>[.int .i64 (c1 (0+i))]] [EV.ip (AD q) 0,AW true k (cX pre)]:=.cons (aG.refl _) (.cons (aG.uS fun i hi=>by rw [uJ,h1 i hi,ho i hi]) .nil);obtain ⟨e1,e2⟩:=hE pre hp;cases hd with
 | n8=>
  refine ⟨fun hg=>?_,fun hg=>?_⟩
  ·exact (Yk q k o 0 (fun _=>[]) fr cp exx n1 c1 true 0 (fun _=>0) true 0 (fun _=>0) true 0 (fun _=>0) (rowOf pre) hk (by omega) h2 ((e1 hg).weaken arg (aG.refl _))).res (.cons (uH _) (.cons (uH _) (.cons uU.varf (.cons (uH _) (.cons (uH _) (.cons (uH _) (.cons (uH _) (.cons (uH _) .nil))))))))
  ·obtain ⟨ba,na,av,bc,nc,cl,bx,nx,xs,e⟩:=e2 hg;exact ⟨.u8 1 _,.nu (Nat.le_refl _),Yj q k o 0 (fun _=>[]) fr cp exx n1 c1 ba na av bc nc cl bx nx xs (fun _=>0) hk (by omega) h2 (e.weaken arg (aG.refl _))⟩
 | u9 c cr=>
  have hc':c<=999:=hc;refine ⟨fun hg=>?_,fun hg=>?_⟩
  ·exact (Ym q k o c cr fr cp exx n1 c1 true 0 (fun _=>0) true 0 (fun _=>0) true 0 (fun _=>0) (rowOf pre) hk (by omega) h2 ((e1 hg).weaken arg (aG.refl _))).res (.cons (uH _) (.cons (uH _) (.cons (uH _) (.cons (uH _) (.cons (uH _) (.cons (uH _) (.cons (uH _) (.cons (uH _) (.cons uU.dead .nil)))))))))
  ·obtain ⟨ba,na,av,bc,nc,cl,bx,nx,xs,e⟩:=e2 hg;exact ⟨.v9 (c+1) _,.uv (Nat.le_refl _),Yl q k o c cr fr cp exx n1 c1 ba na av bc nc cl bx nx xs (fun _=>0) hk (by omega) h2 (e.weaken arg (aG.refl _))⟩
 | u8 c cr=>exact he.elim
 | v9 c cr=>exact he.elim
end
section
variable {q:fG}(hq:q.Ok){xf k:Nat}(hk:k<=8){good:List Nat->Bool}{rowOf:List Nat->Nat->Int}
include hq hk
theorem Tg (hB:Tf q xf k good rowOf):
  (∃ s,s∈CL k (AH q.n q.own)/\good s=true/\uY prog fF 35 [.int .i64 k,EV.func (.func xf) [EV.ip (AD q) 0] [],EV.ip [EV.ip (AD q) 0] 0] (.tuple [AW true q.m (rowOf s),Av,.bool true]))∨
  ((∀ s,s∈CL k (AH q.n q.own)->good s=false)/\∃ (cb:Bool) (cn:Nat) (cr:Nat->List EV),uY prog fF 35 [.int .i64 k,EV.func (.func xf) [EV.ip (AD q) 0] [],EV.ip [EV.ip (AD q) 0] 0] (.tuple [Av,EV.uS cb 3 cn fun j=>cr j,.bool false])):=by
 have hR:=Dg hq;have h8:=hq.n2;have hrl:(AH q.n q.own).length<=8:=by
  have h:=List.length_filter_le (fun x=>decide (x≠q.own)) (List.range q.n);rw [List.length_range] at h;have:(AH q.n q.own).length<=q.n:=h;omega
 have hsl:(CL k (AH q.n q.own)).length<=256:=by
  have h1:=OX k (AH q.n q.own);have h2:2 ^ (AH q.n q.own).length<=2 ^ 8:=Nat.pow_le_pow_right (by omega) hrl;omega
 have hW:=Rr hq hk hB k 0 [] (by simp) (by omega) (fun t ht=>by rw [List.drop_zero] at ht; simpa using ht);obtain ⟨o',h⟩:=hW .n8 (fun _=>0) trivial (by rw [List.drop_zero]; show 0+_<=1000; omega) (fun p hp=>by simp at hp);have hrec:∀ {tl tl':AL},eW tl tl'->eW (fE.var false true [EV.func (.func xf) [EV.ip (AD q) 0] []] :: fE.var false true [Av] :: cuN :: fE.var false true [.bool false] :: fE.loop LoopState.ready (frame 30 [(0,EV.int IntKind.i64 (k:Int)),(1,EV.func (.func xf) [EV.ip (AD q) 0] []),(2,EV.ip [EV.ip (AD q) 0] 0),(4,EV.ptr 0 0),(5,EV.ptr 1 0),(6,EV.ptr 2 0),(7,EV.ptr 3 0),(12,EV.ip (AD q) 0),(13,EV.int IntKind.i64 (k:Int)),(14,EV.func (Fn.func 57) [] [EV.ip [EV.int IntKind.i64 (k:Int)] 0,EV.ip [EV.ip (AD q) 0] 0])]) #[15] Mo Mp none :: tl) (fE.var false true [EV.func (.func xf) [EV.ip (AD q) 0] []] :: fE.var false true [Av] :: cuN :: fE.var false true [.bool false] :: vB .ready :: tl'):=fun h=>
  .cons (uH _) (.cons (uH _) (.cons (uH _) (.cons (uH _) (.cons (uU.loop (FLe.vles (by rfl) (.drop (.drop (.drop (.uX (bL.refl _) (.uX (bL.refl _) (.uX (bL.refl _) (.uX (bL.refl _) (.drop (.drop (.drop .nil)))))))))))) h))))
 rcases h with ⟨t,h1,h2,h3⟩ | ⟨h1,_,hd',h2,h3⟩
 ·rw [List.drop_zero] at h1;have hv:=aA.via' (args:=GC q k 0 0) (τ:=cQ q xf k cuN (fun _=>0) [.free,.free,.free]) (s3:=wkD q xf k o' (rowOf ([]++t)) [.dead,.dead,.dead]) [0,1,2,3,4,5,6,7] (by kernel_rfl) (by kernel_rfl) (by kernel_rfl) h3 (by kernel_rfl);have hs:=ACD q xf k o' 0 (fun _=>[]) (rowOf ([]++t)) hk hv;exact .inl ⟨t,h1,h2,ACG q xf k o' 0 (fun _=>[]) (rowOf ([]++t)) hk (hs.pre (hrec .nil))⟩
 ·rw [List.drop_zero] at h1;refine .inr ⟨fun s hs=>h1 s hs,?_⟩;cases h2 with
  | nn=>
   have hv:=aA.via' (args:=GC q k 0 0) (τ:=cQ q xf k cuN (fun _=>0) [.free,.free,.free]) (s3:=cQ q xf k cuN o' [.dead,.dead,.dead]) [0,1,2,3,4,5,6,7] (by kernel_rfl) (by kernel_rfl) (by kernel_rfl) h3 (by kernel_rfl);have hs:=ACB q xf k o' 0 (fun _=>[]) (fun _=>0) hk hv;exact ⟨false,0,fun _=>[],(ACE q xf k o' 0 (fun _=>[]) (fun _=>0) hk (hs.pre (hrec .nil))).res (aG.tups (.cons (aG.refl _) (.cons aG.bB (.cons (aG.refl _) .nil))))⟩
  | @nu c cr hx=>
   have hv:=aA.via' (args:=GC q k 0 0) (τ:=cQ q xf k cuN (fun _=>0) [.free,.free,.free]) (s3:=cQ q xf k (eI 11 c) o' [.dead,.dead,.dead,eH c cr]) [0,1,2,3,4,5,6,7] (by kernel_rfl) (by kernel_rfl) (by kernel_rfl) h3 (by kernel_rfl);have hs:=ACC q xf k o' c cr (fun _=>0) hk hv;exact ⟨true,c,fun i=>cr (0+i),ACF q xf k o' c cr (fun _=>0) hk (hs.pre (hrec .nil))⟩
end
theorem Th {q:fG}{xf k:Nat}{P Z:List Nat->(Nat->Int)->Prop}(h:∀ s,s∈CL k (AH q.n q.own)->∃ v,uY prog fF xf [EV.ip (AD q) 0,AW true k (cX s)] v/\So q (P s) (Z s) v):
  ∃ (good:List Nat->Bool) (rowOf:List Nat->Nat->Int),XQ q xf k good rowOf/\∀ s,s∈CL k (AH q.n q.own)->(good s=true->Bw q (rowOf s)/\P s (rowOf s))/\(good s=false->∀ row,Bw q row->¬ Z s row):=by
 have all:∀ s:List Nat,∃ (b:Bool) (row:Nat->Int),s∈CL k (AH q.n q.own)->
   ((b=true->uY prog fF xf [EV.ip (AD q) 0,AW true k (cX s)] (.tuple [AW true q.m row,.agg [Av,Av,Av],.bool true]))/\
    (b=false->∃ (ba:Bool) (na:Nat) (av:Nat->Int) (bc:Bool) (nc:Nat) (cl:Nat->Int) (bx:Bool) (nx:Nat) (xs:Nat->Int),uY prog fF xf [EV.ip (AD q) 0,AW true k (cX s)] (.tuple [Av,.agg [AW ba na av,AW bc nc cl,AW bx nx xs],.bool false])))/\
   ((b=true->Bw q row/\P s row)/\(b=false->∀ row,Bw q row->¬ Z s row)):=fun s=>by
  by_cases hs:s∈CL k (AH q.n q.own)
  ·obtain ⟨v,h1,h2⟩:=h s hs;rcases h2 with ⟨row,rfl,a,b⟩ | ⟨ba,na,av,bc,nc,cl,bx,nx,xs,rfl,a⟩
   ·exact ⟨true,row,fun _=>⟨⟨fun _=>h1,(fun x=>by cases x)⟩,fun _=>⟨a,b⟩,(fun x=>by cases x)⟩⟩
   ·exact ⟨false,fun _=>0,fun _=>⟨⟨(fun x=>by cases x),fun _=>⟨ba,na,av,bc,nc,cl,bx,nx,xs,h1⟩⟩,(fun x=>by cases x),fun _=>a⟩⟩
  ·exact ⟨true,fun _=>0,fun x=>absurd x hs⟩
 obtain ⟨good,hg⟩:=Classical.axiomOfChoice all;obtain ⟨rowOf,hr⟩:=Classical.axiomOfChoice hg;exact ⟨good,rowOf,fun s hs=>(hr s hs).1,fun s hs=>(hr s hs).2⟩
section
variable {q:fG}(hq:q.Ok)
include hq
theorem QA {k:Nat}{s:List Nat}(hs:s∈CL k (AH q.n q.own)):s.length=k/\q.own ∉ s/\∀ c,c∈s->c<q.n:=by
 obtain ⟨h1,h2⟩:=DQ.1 hs;exact ⟨h2,fun h=>(Cy.1 (h1.subset h)).2 rfl,fun c h=>(Cy.1 (h1.subset h)).1⟩
theorem St (hd:0<q.draw)(hw:q.aI=2*q.draw):∃ v,uY prog fF 19 [EV.ip (AD q) 0] v/\zJ q v:=by
 have h8:=hq.n2;have hp:=hq.place;have e1:((q.place.toNat:Nat):Int)=q.place:=by omega
 have e2:(((q.place - 1).toNat:Nat):Int)=q.place - 1:=by omega
 obtain ⟨gT,rT,eT,fT⟩:=Th (q:=q) (xf:=37) (k:=q.place.toNat) (P:=fun s=>AB1 q s) (Z:=fun s=>AB2 q s) fun s hs=>by
  obtain ⟨a,b,c⟩:=QA hq hs;have:=Sp hq hd (s:=s) (by omega) b c;rw [a] at this;exact this
 obtain ⟨gS,rS,eS,fS⟩:=Th (q:=q) (xf:=38) (k:=(q.place - 1).toNat) (P:=fun s=>AB3 q s) (Z:=fun s=>AB4 q s) fun s hs=>by
  obtain ⟨a,b,c⟩:=QA hq hs;have:=Sr hq hd (s:=s) (by omega);rw [a] at this;exact this
 have hT:=Tg hq (by omega) (vJ (by omega) eT);have hS:=Tg hq (by omega) (vK (by omega) eS);rw [e1] at hT;rw [e2] at hS;rcases hT with ⟨s,s1,s2,s3⟩ | ⟨s1,cb,cn,cr,s2⟩
 ·obtain ⟨m1,m2⟩:=(fT s s1).1 s2;have hM:=Rm hq hd hw s1 m1 m2;rcases hS with ⟨t,t1,t2,t3⟩ | ⟨t1,cb,cn,cr,t2⟩
  ·obtain ⟨r1,r2⟩:=(fS t t1).1 t2;exact ⟨_,ACJ q (rT s) (rS t) false 0 (fun _=>[]) (by omega) (by omega) s3 t3,.inr (.inr ⟨true,rS t,true,rT s,rfl,r1,Ro hq hd hw t1 r1 r2,m1,hM⟩)⟩
  ·exact ⟨_,ACI q (rT s) (fun _=>0) cb cn cr (by omega) (by omega) s3 t2,.inr (.inl ⟨cb,cn,cr,rfl,⟨rT s,m1,hM⟩,fun c hc=>Rp hq hd hw (fun t ht=>(fS t ht).2 (t1 t ht)) hc⟩)⟩
 ·exact ⟨_,ACH q (fun _=>0) (fun _=>0) cb cn cr (by omega) (by omega) s2,.inl ⟨cb,cn,cr,rfl,fun c hc=>Rn hq hd hw (fun t ht=>(fT t ht).2 (s1 t ht)) hc⟩⟩
def Su (kd:Int)(rb:Bool)(rn:Nat)(rv:Nat->Int)(mb:Bool)(mn:Nat)(mv:Nat->Int)(cb:Bool)(cn:Nat)(cr:Nat->List EV):EV:=.agg [.int .i64 kd,AW rb rn rv,AW mb mn mv,EV.uS cb 3 cn cr]
inductive DecOk (q:fG):Int->EV->Prop where
 | sure (cb cn cr) (h:∀ c,Bw q c->¬ D1 q c):DecOk q 1 (Su 1 false 0 (fun _=>0) false 0 (fun _=>0) cb cn cr)
 | out (cb cn cr) (h:∃ c,Bw q c/\D1 q c) (g:∀ c,Bw q c->¬ ET q c):DecOk q 2 (Su 2 false 0 (fun _=>0) false 0 (fun _=>0) cb cn cr)
 | open' (rb rv mb mv) (h1:Bw q rv) (h2:ET q rv) (h3:Bw q mv) (h4:D1 q mv):DecOk q 3 (Su 3 rb q.m rv mb q.m mv false 0 fun _=>[])
 | unk (h1:q.flow=false) (h2:8<q.m):DecOk q 4 (Su 4 false 0 (fun _=>0) false 0 (fun _=>0) false 0 fun _=>[])
omit hq in
theorem XR {v:EV}(h:zJ q v):∃ (kd:Int) (rb:Bool) (rn:Nat) (rv:Nat->Int) (mb:Bool) (mn:Nat) (mv:Nat->Int) (cb:Bool) (cn:Nat) (cr:Nat->List EV),DecOk q kd (Su kd rb rn rv mb mn mv cb cn cr)/\aG v (Su kd rb rn rv mb mn mv cb cn cr):=by
 rcases h with ⟨cb,cn,cr,rfl,h⟩ | ⟨cb,cn,cr,rfl,h,g⟩ | ⟨rb,rv,mb,mv,rfl,h1,h2,h3,h4⟩
 ·exact ⟨_,_,_,_,_,_,_,_,_,_,.sure cb cn cr h,aG.aggs (.cons (aG.refl _) (.cons aG.bB (.cons aG.bB (.cons (aG.refl _) .nil))))⟩
 ·exact ⟨_,_,_,_,_,_,_,_,_,_,.out cb cn cr h g,aG.aggs (.cons (aG.refl _) (.cons aG.bB (.cons aG.bB (.cons (aG.refl _) .nil))))⟩
 ·exact ⟨_,_,_,_,_,_,_,_,_,_,.open' rb rv mb mv h1 h2 h3 h4,aG.aggs (.cons (aG.refl _) (.cons (aG.refl _) (.cons (aG.refl _) (.cons aG.bB .nil))))⟩
theorem Yo (h12:uY prog fF 16 [.agg q.cells] (.int .i64 0)):∃ (kd:Int) (v:EV),uY prog fF 9 [.agg q.cells] (.tuple [v,.int .i64 0])/\uY prog fF 8 [.agg q.cells] (.int .i64 kd)/\DecOk q kd v/\(q.flow=true∨q.m<=8∨kd=4):=by
 have h14:=Se hq;have h15:=ACO q;rcases hf:q.flow with _ | _
 ·rw [hf] at h14;by_cases hm:q.m<=8
  ·rw [uK (by omega)] at h15;obtain ⟨v,h1,h2⟩:=Sf hq hm;obtain ⟨kd,rb,rn,rv,mb,mn,mv,cb,cn,cr,a,b⟩:=XR h2;have h13:=ACL q kd rb rn rv mb mn mv cb cn cr h12 h14 h15 (h1.res b);exact ⟨kd,_,h13,XP q kd rb rn rv mb mn mv cb cn cr h13,a,.inr (.inl hm)⟩
  ·rw [uL (by omega)] at h15;have h13:=(ACN q 0 false 0 (fun _=>0) false 0 (fun _=>0) false 0 (fun _=>[]) h12 h14 h15).res (aG.tups (.cons (v':=Su 4 false 0 (fun _=>0) false 0 (fun _=>0) false 0 fun _=>[]) (aG.aggs (.cons (aG.refl _) (.cons aG.bB (.cons aG.bB (.cons aG.bB .nil))))) (.cons (aG.refl _) .nil)));exact ⟨4,_,h13,XP q 4 false 0 (fun _=>0) false 0 (fun _=>0) false 0 (fun _=>[]) h13,.unk hf (by omega),.inr (.inr rfl)⟩
 ·rw [hf] at h14;have hfl:0<q.draw/\q.aI=2*q.draw:=by
   unfold fG.flow at hf;rw [uF,decide_eq_true_iff,beq_iff_eq] at hf;exact ⟨hf.1,hf.2⟩
  obtain ⟨v,h1,h2⟩:=St hq hfl.1 hfl.2;obtain ⟨kd,rb,rn,rv,mb,mn,mv,cb,cn,cr,a,b⟩:=XR h2;have h28:uY prog fF 18 [.agg q.cells] (.ip (AD q) 0):=OL hq;have h13:=ACK q kd rb rn rv mb mn mv cb cn cr h12 h14 h28 (h1.res b);exact ⟨kd,_,h13,XP q kd rb rn rv mb mn mv cb cn cr h13,a,.inl rfl⟩
end
noncomputable abbrev HT:Code:=(cB (cR (cL (cR (cR (cR (AY prog 6)))))))
noncomputable abbrev ACP:Code:=(cB (cB (cR (cL (cR (cR (cR (AY prog 6))))))))
abbrev J8 (a0:fG)(a1:Int):=decide (a0.uZ (a1 - 1).toNat>=a0.uZ a1.toNat)
abbrev J9 (a0:fG)(a1:Int):=(decide (a0.uZ a1.toNat<0))=false
noncomputable abbrev AEQ (a0:fG):RC:=(EX.ret,(frame 158 [(1,pt 0 0),(2,iv 280),(3,iv ↑a0.n)]),[oV a0.cells])
noncomputable abbrev Dw (a0:fG)(a1:Int):=frame 158 [(1,pt 0 0),(3,iv a0.n),(4,iv a1)]
noncomputable abbrev AE2:=cB (cB (cR (cL (cR (cR (cR (AY prog 6)))))))
section
variable (q:fG)(i:Int)(h0:0<=i)(hm:q.m'=q.n)(hn:q.n<=24)(q0:DK i q)
include q i h0 hm hn q0
theorem ACQ (q1:(decide (q.uZ i.toNat<0))=true):sR 1 (AE2) (Dw q i) ([oV q.cells]) (AEQ q):=
 kR _ (.mk (dS 71421726993) [] [] [] []) (kO (kz q0 (kz q1 AN))) (rB i q.n .nil) 14 1 [0] 1
theorem ACR (q1:J9 q i)(q2:(decide (q.uZ i.toNat>=192))=true):sR 1 (AE2) (Dw q i) ([oV q.cells]) (AEQ q):=
 kR _ (.mk (dS 0x10a1111a11122222) [] [] [] []) (kO (kz q0 (kz q1 (kz q2 AN)))) (rB i q.n (rB i q.n .nil)) 14 1 [0] 1
theorem ACS (q1:J9 q i)(q2:(decide (q.uZ i.toNat>=192))=false)(q3:CH i)(q4:(J8 q i)=true):sR 1 (AE2) (Dw q i) ([oV q.cells]) (AEQ q):=
 kR _ (.mk (dS 0x10a1111a1112223333a3a33333a332324444444) [] [] [] []) (kO (kz q0 (kz q1 (kz q2 (kz q3 (kz q4 AN)))))) (rB i q.n (rB (i - 1) q.n (rI (i - 1) (rB i q.n (rB i q.n .nil))))) 14 1 [0] 1
end
abbrev Gt (a0:fG)(a1:Int):=decide (a0.uV a1.toNat< -99999)
section
variable (q:fG)(i:Int)(h0:0<=i)(hm:q.m'=q.n)(hn:q.n<=24)(q0:DK i q)(q1:J9 q i)(q2:(decide (q.uZ i.toNat>=192))=false)(q3:CH i)(q4:(J8 q i)=false)
include q i h0 hm hn q0 q1 q2 q3 q4
theorem ACT (q5:(Gt q i)=true):sR 1 (AE2) (Dw q i) ([oV q.cells]) (AEQ q):=
 kR _ (.mk (dS 0x10a1111a1112223333a3a33333a332324444a4445555555) [] [] [] []) (kO (kz q0 (kz q1 (kz q2 (kz q3 (kz q4 (kz q5 AN))))))) (rB i q.m' (rB i q.n (rB (i - 1) q.n (rI (i - 1) (rB i q.n (rB i q.n .nil)))))) 14 1 [0] 1
theorem ACU (q5:(Gt q i)=false)(q6:(decide (q.uV i.toNat>99999))=true):sR 1 (AE2) (Dw q i) ([oV q.cells]) (AEQ q):=
 kR _ (.mk (dS 0x10a1111a1112223333a3a33333a332324444a4445555a5556) [] [] [] []) (kO (kz q0 (kz q1 (kz q2 (kz q3 (kz q4 (kz q5 (kz q6 AN)))))))) (rB i q.m' (rB i q.m' (rB i q.n (rB (i - 1) q.n (rI (i - 1) (rB i q.n (rB i q.n .nil))))))) 14 1 [0] 1
theorem ACV (q5:(Gt q i)=false)(q6:(decide (q.uV i.toNat>99999))=false):sR 1 (AE2) (Dw q i) ([oV q.cells]) (xN,(frame 158 [(1,pt 0 0),(3,iv ↑q.n),(4,iv (i+1))]),[oV q.cells]):=
 kR _ (.mk (dS 0x10a1111a1112223333a3a33333a332324444a4445555a5556a) [] [] [] []) (kO (kz q0 (kz q1 (kz q2 (kz q3 (kz q4 (kz q5 (kz q6 AN)))))))) (rI (i+1) (rB i q.m' (rB i q.m' (rB i q.n (rB (i - 1) q.n (rI (i - 1) (rB i q.n (rB i q.n .nil)))))))) 26 1 [0] 1
end
section
variable (q:fG)(i:Int)(h0:0<=i)(hm:q.m'=q.n)(hn:q.n<=24)(q0:DK i q)(q1:J9 q i)(q2:(decide (q.uZ i.toNat>=192))=false)(q3:FV i)
include q i h0 hm hn q0 q1 q2 q3
theorem ACW (q4:(Gt q i)=true):sR 1 (AE2) (Dw q i) ([oV q.cells]) (AEQ q):=
 kR _ (.mk (dS 0x10a1111a11122233333333333323204ae034e444444) [] [] [] []) (kO (kz q0 (kz q1 (kz q2 (kz q3 (kz q4 AN)))))) (rB i q.m' (rB i q.n (rB i q.n .nil))) 14 1 [0] 1
theorem ACX (q4:(Gt q i)=false)(q5:(decide (q.uV i.toNat>99999))=true):sR 1 (AE2) (Dw q i) ([oV q.cells]) (AEQ q):=
 kR _ (.mk (dS 0x10a1111a11122233333333333323204ae034e444a4445) [] [] [] []) (kO (kz q0 (kz q1 (kz q2 (kz q3 (kz q4 (kz q5 AN))))))) (rB i q.m' (rB i q.m' (rB i q.n (rB i q.n .nil)))) 14 1 [0] 1
theorem ACY (q4:(Gt q i)=false)(q5:(decide (q.uV i.toNat>99999))=false):sR 1 (AE2) (Dw q i) ([oV q.cells]) (xN,(frame 158 [(1,pt 0 0),(3,iv ↑q.n),(4,iv (i+1))]),[oV q.cells]):=
 kR _ (.mk (dS 0x10a1111a11122233333333333323204ae034e444a4445a) [] [] [] []) (kO (kz q0 (kz q1 (kz q2 (kz q3 (kz q4 (kz q5 AN))))))) (rI (i+1) (rB i q.m' (rB i q.m' (rB i q.n (rB i q.n .nil))))) 26 1 [0] 1
end
noncomputable abbrev Cv (a0:fG):=frame 158 [(1,pt 0 0),(3,iv ↑a0.n)]
noncomputable abbrev AEU (a0:fG):RC:=(xL 0,(Cv a0),[oV a0.cells])
theorem ACZ (q:fG)(i:Int)(h0:0<=i)(hm:q.m'=q.n)(hn:q.n<=24)(q0:(decide (i<↑q.n))=false):sR 1 (AE2) (Dw q i) ([oV q.cells]) (AEU q):=
 kR _ (.mk (dS 16) [] [] [] []) (kO (kz q0 AN)) .nil 10 1 [0] 1
theorem rcA (q:fG)(i:Int)(h0:0<=i)(hm:q.m'=q.n)(hn:q.n<=24):∃ r_:RC,sR 1 (cB (cB (cR (cL (cR (cR (cR (AY prog 6)))))))) (frame 158 [(1,pt 0 0),(3,iv q.n),(4,iv i)]) ([oV q.cells]) r_/\((r_=(xN,frame 158 [(1,pt 0 0),(3,iv q.n),(4,iv (i+1))],[oV q.cells])/\i<q.n/\(0<=q.uZ i.toNat/\q.uZ i.toNat<192/\(0<i->q.uZ (i - 1).toNat<q.uZ i.toNat)/\-99999<=q.uV i.toNat/\q.uV i.toNat<=99999))∨(r_=(EX.ret,frame 158 [(1,pt 0 0),(2,iv 280),(3,iv q.n)],[oV q.cells])/\i<q.n/\¬ (0<=q.uZ i.toNat/\q.uZ i.toNat<192/\(0<i->q.uZ (i - 1).toNat<q.uZ i.toNat)/\-99999<=q.uV i.toNat/\q.uV i.toNat<=99999))∨(r_=(xL 0,frame 158 [(1,pt 0 0),(3,iv q.n)],[oV q.cells])/\q.n<=i)):=by
 rcases bT (decide (i<↑q.n)) with q0 | q0
 ·rcases bT (decide (q.uZ i.toNat<0)) with q1 | q1
  ·exact e1 (ACQ q i h0 hm hn q0 q1)
  ·rcases bT (decide (q.uZ i.toNat>=192)) with q2 | q2
   ·exact e1 (ACR q i h0 hm hn q0 q1 q2)
   ·rcases bT (decide (i>0)) with q3 | q3
    ·rcases bT (decide (q.uZ (i - 1).toNat>=q.uZ i.toNat)) with q4 | q4
     ·exact e1 (ACS q i h0 hm hn q0 q1 q2 q3 q4)
     ·rcases bT (decide (q.uV i.toNat< -99999)) with q5 | q5
      ·exact e1 (ACT q i h0 hm hn q0 q1 q2 q3 q4 q5)
      ·rcases bT (decide (q.uV i.toNat>99999)) with q6 | q6
       ·exact e1 (ACU q i h0 hm hn q0 q1 q2 q3 q4 q5 q6)
       ·exact e1 (ACV q i h0 hm hn q0 q1 q2 q3 q4 q5 q6)
    ·rcases bT (decide (q.uV i.toNat< -99999)) with q4 | q4
     ·exact e1 (ACW q i h0 hm hn q0 q1 q2 q3 q4)
     ·rcases bT (decide (q.uV i.toNat>99999)) with q5 | q5
      ·exact e1 (ACX q i h0 hm hn q0 q1 q2 q3 q4 q5)
      ·exact e1 (ACY q i h0 hm hn q0 q1 q2 q3 q4 q5)
 ·exact e1 (ACZ q i h0 hm hn q0)
noncomputable abbrev HU:Code:=(cB (cR (cL (cR (cR (cR (cR (AY prog 6))))))))
noncomputable abbrev ACa:Code:=(cB (cB (cR (cL (cR (cR (cR (cR (AY prog 6)))))))))
abbrev KA (a0:fG)(a1:Int):=decide ((a0.op a1.toNat).left>=(↑a0.n:Int))
abbrev KB (a0:fG)(a1:Int):=(decide ((a0.op a1.toNat).left<0))=false
noncomputable abbrev AGB:=cR (cR (cR (AY prog 6)))
noncomputable abbrev Fu (a0:fG)(a1:Int):=frame 158 [(1,pt 0 0),(3,iv a0.n),(5,iv a1)]
noncomputable abbrev AFJ:=cB (cB (cR (cL (cR (AGB)))))
section
variable (q:fG)(i:Int)(h0:0<=i)(hn:q.n<=24)(hn0:2<=q.n)(hM:q.m<=552)(q0:FG i q)
include q i h0 hn hn0 hM q0
theorem ACb (q1:(decide ((q.op i.toNat).left<0))=true):sR 1 (AFJ) (Fu q i) ([oV q.cells]) (AEQ q):=
 kR _ (.mk (dS 278991121) [] [] [] []) (kO (kz q0 (kz q1 AN))) (rB i q.m .nil) 14 1 [0] 1
theorem ACc (q1:KB q i)(q2:(KA q i)=true):sR 1 (AFJ) (Fu q i) ([oV q.cells]) (AEQ q):=
 kR _ (.mk (dS 18283962114594) [] [] [] []) (kO (kz q0 (kz q1 (kz q2 AN)))) (rB i q.m .nil) 14 1 [0] 1
theorem ACd (q1:KB q i)(q2:(KA q i)=false)(q3:(decide ((q.op i.toNat).right<0))=true):sR 1 (AFJ) (Fu q i) ([oV q.cells]) (AEQ q):=
 kR _ (.mk (dS 0x10a11111222233333) [] [] [] []) (kO (kz q0 (kz q1 (kz q2 (kz q3 AN))))) (rB i q.m .nil) 14 1 [0] 1
theorem ACe (q1:KB q i)(q2:(KA q i)=false)(q3:(decide ((q.op i.toNat).right<0))=false)(q4:(decide ((q.op i.toNat).right>=(↑q.n:Int)))=true):sR 1 (AFJ) (Fu q i) ([oV q.cells]) (AEQ q):=
 kR _ (.mk (dS 0x10a11111222233333444444) [] [] [] []) (kO (kz q0 (kz q1 (kz q2 (kz q3 (kz q4 AN)))))) (rB i q.m .nil) 14 1 [0] 1
end
abbrev KC (a0:fG)(a1:Int):=(a0.op a1.toNat).left==(a0.op a1.toNat).right
section
variable (q:fG)(i:Int)(h0:0<=i)(hn:q.n<=24)(hn0:2<=q.n)(hM:q.m<=552)(q0:FG i q)(q1:KB q i)(q2:(KA q i)=false)(q3:(decide ((q.op i.toNat).right<0))=false)(q4:(decide ((q.op i.toNat).right>=(↑q.n:Int)))=false)
include q i h0 hn hn0 hM q0 q1 q2 q3 q4
theorem ACf (q5:(KC q i)=true):sR 1 (AFJ) (Fu q i) ([oV q.cells]) (AEQ q):=
 kR _ (.mk (dS 0x10a111112222333334444445) [] [] [] []) (kO (kz q0 (kz q1 (kz q2 (kz q3 (kz q4 (kz q5 AN))))))) (rB i q.m .nil) 14 1 [0] 1
theorem ACg (q5:(KC q i)=false):sR 1 (AFJ) (Fu q i) ([oV q.cells]) (xN,(frame 158 [(1,pt 0 0),(3,iv ↑q.n),(5,iv (i+1))]),[oV q.cells]):=
 kR _ (.mk (dS 0x10a111112222333334444445a) [] [] [] []) (kO (kz q0 (kz q1 (kz q2 (kz q3 (kz q4 (kz q5 AN))))))) (rI (i+1) (rB i q.m .nil)) 42 1 [0] 1
end
noncomputable abbrev AEX (a0:fG):RC:=(xL 2,(Cv a0),[oV a0.cells])
section
variable (q:fG)(i:Int)(h0:0<=i)(hn:q.n<=24)(hn0:2<=q.n)(hM:q.m<=552)
include q i h0 hn hn0 hM
theorem ACh (q0:(BN i q)=false):sR 1 (AFJ) (Fu q i) ([oV q.cells]) (AEX q):=
 kR _ (.mk (dS 16) [] [] [] []) (kO (kz q0 AN)) .nil 10 1 [0] 1
theorem rcB:∃ r_:RC,sR 1 (cB (cB (cR (cL (cR (cR (cR (cR (AY prog 6))))))))) (frame 158 [(1,pt 0 0),(3,iv q.n),(5,iv i)]) ([oV q.cells]) r_/\((r_=(xN,frame 158 [(1,pt 0 0),(3,iv q.n),(5,iv (i+1))],[oV q.cells])/\i<q.m/\(0<=(q.op i.toNat).left/\(q.op i.toNat).left<q.n/\0<=(q.op i.toNat).right/\(q.op i.toNat).right<q.n/\(q.op i.toNat).left≠(q.op i.toNat).right))∨(r_=(EX.ret,frame 158 [(1,pt 0 0),(2,iv 280),(3,iv q.n)],[oV q.cells])/\i<q.m/\¬ (0<=(q.op i.toNat).left/\(q.op i.toNat).left<q.n/\0<=(q.op i.toNat).right/\(q.op i.toNat).right<q.n/\(q.op i.toNat).left≠(q.op i.toNat).right))∨(r_=(xL 2,frame 158 [(1,pt 0 0),(3,iv q.n)],[oV q.cells])/\q.m<=i)):=by
 rcases bT (decide (i<↑q.m)) with q0 | q0
 ·rcases bT (decide ((q.op i.toNat).left<0)) with q1 | q1
  ·exact e1 (ACb q i h0 hn hn0 hM q0 q1)
  ·rcases bT (decide ((q.op i.toNat).left>=(↑q.n:Int))) with q2 | q2
   ·exact e1 (ACc q i h0 hn hn0 hM q0 q1 q2)
   ·rcases bT (decide ((q.op i.toNat).right<0)) with q3 | q3
    ·exact e1 (ACd q i h0 hn hn0 hM q0 q1 q2 q3)
    ·rcases bT (decide ((q.op i.toNat).right>=(↑q.n:Int))) with q4 | q4
     ·exact e1 (ACe q i h0 hn hn0 hM q0 q1 q2 q3 q4)
     ·rcases bT ((q.op i.toNat).left==(q.op i.toNat).right) with q5 | q5
      ·exact e1 (ACf q i h0 hn hn0 hM q0 q1 q2 q3 q4 q5)
      ·exact e1 (ACg q i h0 hn hn0 hM q0 q1 q2 q3 q4 q5)
 ·exact e1 (ACh q i h0 hn hn0 hM q0)
end
noncomputable abbrev ACi:Code:=(cB (cR (cL (cR (cR (cR (AY prog 16)))))))
noncomputable abbrev ACj:Code:=(cB (cB (cR (cL (cR (cR (cR (AY prog 16))))))))
noncomputable abbrev Dy (a0:fG)(a1:Int):=frame 117 [(1,pt 0 0),(3,iv a0.n),(41,AW a0.nc a0.n a0.uZ),(42,iv a0.n),(43,iv a1)]
noncomputable abbrev AES (a0:fG):RC:=(EX.ret,(frame 117 [(1,pt 0 0),(2,iv 280),(3,iv ↑a0.n)]),[oV a0.cells])
noncomputable abbrev AIH:=cB (cB (cR (cL (cR (cR (cR (AY prog 16)))))))
section
variable (q:fG)(i:Int)(h0:0<=i)(hm:q.m'=q.n)(hn:q.n<=24)(q0:DK i q)(q1:(decide (q.uZ i.toNat>=0))=true)
include q i h0 hm hn q0 q1
theorem ACk (q2:(!decide (q.uZ i.toNat<=191))=true):sR 1 (AIH) (Dy q i) ([oV q.cells]) (AES q):=
 kR _ (.mk (dS 18283962180130) [] [] [] []) (kO (kz q0 (kz q1 (kz q2 AN)))) (rB i q.n .nil) 14 1 [0] 1
theorem ACl (q2:(!decide (q.uZ i.toNat<=191))=false)(q3:CH i)(q4:(J8 q i)=true):sR 1 (AIH) (Dy q i) ([oV q.cells]) (AES q):=
 kR _ (.mk (dS 0x10a11112223333a3a33323244444444) [] [] [] []) (kO (kz q0 (kz q1 (kz q2 (kz q3 (kz q4 AN)))))) (rB (i - 1) q.n (rI (i - 1) (rB i q.n .nil))) 14 1 [0] 1
end
abbrev Gu (a0:fG)(a1:Int):=decide (a0.uV a1.toNat>=-99999)
section
variable (q:fG)(i:Int)(h0:0<=i)(hm:q.m'=q.n)(hn:q.n<=24)(q0:DK i q)(q1:(decide (q.uZ i.toNat>=0))=true)(q2:(!decide (q.uZ i.toNat<=191))=false)(q3:CH i)(q4:(J8 q i)=false)
include q i h0 hm hn q0 q1 q2 q3 q4
theorem ACm (q5:(Gu q i)=true)(q6:(!decide (q.uV i.toNat<=99999))=true):sR 1 (AIH) (Dy q i) ([oV q.cells]) (AES q):=
 kR _ (.mk (dS 0x10a11112223333a3a3332324444a445555446) [] [] [] []) (kO (kz q0 (kz q1 (kz q2 (kz q3 (kz q4 (kz q5 (kz q6 AN)))))))) (rB i q.m' (rB (i - 1) q.n (rI (i - 1) (rB i q.n .nil)))) 14 1 [0] 1
theorem ACn (q5:(Gu q i)=true)(q6:(!decide (q.uV i.toNat<=99999))=false):sR 1 (AIH) (Dy q i) ([oV q.cells]) (xN,(frame 117 [(1,pt 0 0),(3,iv ↑q.n),(41,sl q.nc 1 q.n fun i=>[iv (q.uZ i)]),(42,iv ↑q.n),(43,iv (i+1))]),[oV q.cells]):=
 kR _ (.mk (dS 0x10a11112223333a3a3332324444a445555446a) [] [] [] []) (kO (kz q0 (kz q1 (kz q2 (kz q3 (kz q4 (kz q5 (kz q6 AN)))))))) (rI (i+1) (rB i q.m' (rB (i - 1) q.n (rI (i - 1) (rB i q.n .nil))))) 15393162788874 1 [0] 1
theorem ACo (q5:(Gu q i)=false):sR 1 (AIH) (Dy q i) ([oV q.cells]) (AES q):=
 kR _ (.mk (dS 0x10a11112223333a3a3332324444a44555544) [] [] [] []) (kO (kz q0 (kz q1 (kz q2 (kz q3 (kz q4 (kz q5 AN))))))) (rB i q.m' (rB (i - 1) q.n (rI (i - 1) (rB i q.n .nil)))) 14 1 [0] 1
end
section
variable (q:fG)(i:Int)(h0:0<=i)(hm:q.m'=q.n)(hn:q.n<=24)(q0:DK i q)(q1:(decide (q.uZ i.toNat>=0))=true)(q2:(!decide (q.uZ i.toNat<=191))=false)(q3:FV i)
include q i h0 hm hn q0 q1 q2 q3
theorem ACp (q4:(Gu q i)=true)(q5:(!decide (q.uV i.toNat<=99999))=true):sR 1 (AIH) (Dy q i) ([oV q.cells]) (AES q):=
 kR _ (.mk (dS 0x10a11112223333333323204ae024e444025e) [] [] [] []) (kO (kz q0 (kz q1 (kz q2 (kz q3 (kz q4 (kz q5 AN))))))) (rB i q.m' (rB i q.n .nil)) 14 1 [0] 1
theorem ACq (q4:(Gu q i)=true)(q5:(!decide (q.uV i.toNat<=99999))=false):sR 1 (AIH) (Dy q i) ([oV q.cells]) (xN,(frame 117 [(1,pt 0 0),(3,iv ↑q.n),(41,sl q.nc 1 q.n fun i=>[iv (q.uZ i)]),(42,iv ↑q.n),(43,iv (i+1))]),[oV q.cells]):=
 kR _ (.mk (dS 0x10a11112223333333323204ae024e444025ea) [] [] [] []) (kO (kz q0 (kz q1 (kz q2 (kz q3 (kz q4 (kz q5 AN))))))) (rI (i+1) (rB i q.m' (rB i q.n .nil))) 15393162788874 1 [0] 1
theorem ACr (q4:(Gu q i)=false):sR 1 (AIH) (Dy q i) ([oV q.cells]) (AES q):=
 kR _ (.mk (dS 0x10a11112223333333323204ae024e444) [] [] [] []) (kO (kz q0 (kz q1 (kz q2 (kz q3 (kz q4 AN)))))) (rB i q.m' (rB i q.n .nil)) 14 1 [0] 1
end
theorem ACs (q:fG)(i:Int)(h0:0<=i)(hm:q.m'=q.n)(hn:q.n<=24)(q0:DK i q)(q1:(decide (q.uZ i.toNat>=0))=false):sR 1 (AIH) (Dy q i) ([oV q.cells]) (AES q):=
 kR _ (.mk (dS 17436945) [] [] [] []) (kO (kz q0 (kz q1 AN))) (rB i q.n .nil) 14 1 [0] 1
noncomputable abbrev KD (a0:fG):=frame 117 [(1,pt 0 0),(3,iv ↑a0.n)]
theorem ACt (q:fG)(i:Int)(h0:0<=i)(hm:q.m'=q.n)(hn:q.n<=24)(q0:(decide (i<↑q.n))=false):sR 1 (AIH) (Dy q i) ([oV q.cells]) (xL 0,(KD q),[oV q.cells]):=
 kR _ (.mk (dS 16) [] [] [] []) (kO (kz q0 AN)) .nil 10 1 [0] 1
theorem ckA (q:fG)(i:Int)(h0:0<=i)(hm:q.m'=q.n)(hn:q.n<=24):∃ r_:RC,sR 1 (cB (cB (cR (cL (cR (cR (cR (AY prog 16)))))))) (frame 117 [(1,pt 0 0),(3,iv q.n),(41,AW q.nc q.n q.uZ),(42,iv q.n),(43,iv i)]) ([oV q.cells]) r_/\((r_=(xN,frame 117 [(1,pt 0 0),(3,iv q.n),(41,AW q.nc q.n q.uZ),(42,iv q.n),(43,iv (i+1))],[oV q.cells])/\i<q.n/\(0<=q.uZ i.toNat/\q.uZ i.toNat<192/\(0<i->q.uZ (i - 1).toNat<q.uZ i.toNat)/\-99999<=q.uV i.toNat/\q.uV i.toNat<=99999))∨(r_=(EX.ret,frame 117 [(1,pt 0 0),(2,iv 280),(3,iv q.n)],[oV q.cells])/\i<q.n/\¬ (0<=q.uZ i.toNat/\q.uZ i.toNat<192/\(0<i->q.uZ (i - 1).toNat<q.uZ i.toNat)/\-99999<=q.uV i.toNat/\q.uV i.toNat<=99999))∨(r_=(xL 0,frame 117 [(1,pt 0 0),(3,iv q.n)],[oV q.cells])/\q.n<=i)):=by
 rcases bT (decide (i<↑q.n)) with q0 | q0
 ·rcases bT (decide (q.uZ i.toNat>=0)) with q1 | q1
  ·rcases bT (!decide (q.uZ i.toNat<=191)) with q2 | q2
   ·exact e1 (ACk q i h0 hm hn q0 q1 q2)
   ·rcases bT (decide (i>0)) with q3 | q3
    ·rcases bT (decide (q.uZ (i - 1).toNat>=q.uZ i.toNat)) with q4 | q4
     ·exact e1 (ACl q i h0 hm hn q0 q1 q2 q3 q4)
     ·rcases bT (decide (q.uV i.toNat>=-99999)) with q5 | q5
      ·rcases bT (!decide (q.uV i.toNat<=99999)) with q6 | q6
       ·exact e1 (ACm q i h0 hm hn q0 q1 q2 q3 q4 q5 q6)
       ·exact e1 (ACn q i h0 hm hn q0 q1 q2 q3 q4 q5 q6)
      ·exact e1 (ACo q i h0 hm hn q0 q1 q2 q3 q4 q5)
    ·rcases bT (decide (q.uV i.toNat>=-99999)) with q4 | q4
     ·rcases bT (!decide (q.uV i.toNat<=99999)) with q5 | q5
      ·exact e1 (ACp q i h0 hm hn q0 q1 q2 q3 q4 q5)
      ·exact e1 (ACq q i h0 hm hn q0 q1 q2 q3 q4 q5)
     ·exact e1 (ACr q i h0 hm hn q0 q1 q2 q3 q4)
  ·exact e1 (ACs q i h0 hm hn q0 q1)
 ·exact e1 (ACt q i h0 hm hn q0)
noncomputable abbrev ACu:Code:=(cB (cR (cL (cR (cR (cR (cR (AY prog 16))))))))
noncomputable abbrev ACv:Code:=(cB (cB (cR (cL (cR (cR (cR (cR (AY prog 16)))))))))
abbrev MT (a0:fG)(a1:Int):=!decide ((a0.op a1.toNat).right<=(↑a0.n:Int) - 1)
noncomputable abbrev AJm:=cR (cR (cR (AY prog 16)))
abbrev IE (a0:fG)(a1:Int):=!decide ((a0.op a1.toNat).left<=(↑a0.n:Int) - 1)
abbrev IF (a0:fG)(a1:Int):=(decide ((a0.op a1.toNat).left>=0))=true
noncomputable abbrev AIU:=cB (cB (cR (cL (cR (AJm)))))
section
variable (q:fG)(i:Int)(h0:0<=i)(hn:q.n<=24)(hn0:2<=q.n)(hM:q.m<=552)
include q i h0 hn hn0 hM
theorem ACw (q0:FG i q)(q1:IF q i)(q2:(IE q i)=true):sR 1 (AIU) (frame 117 [(1,pt 0 0),(3,iv q.n),(76,sl q.no 2 q.m fun i=>(q.op i).cells),(77,iv q.m),(78,iv i)]) ([oV q.cells]) (AES q):=
 kR _ (.mk (dS 75049438495777314) [] [] [] []) (kO (kz q0 (kz q1 (kz q2 AN)))) (rI ((↑q.n:Int) - 1) (rB i q.m .nil)) 14 1 [0] 1
theorem ACx (q0:FG i q)(q1:IF q i)(q2:(IE q i)=false)(q3:(decide ((q.op i.toNat).right>=0))=true)(q4:(MT q i)=true):sR 1 (AIU) (frame 117 [(1,pt 0 0),(3,iv q.n),(76,sl q.no 2 q.m fun i=>(q.op i).cells),(77,iv q.m),(78,iv i)]) ([oV q.cells]) (AES q):=
 kR _ (.mk (dS 0x10aa11112222a2333322444444) [] [] [] []) (kO (kz q0 (kz q1 (kz q2 (kz q3 (kz q4 AN)))))) (rI ((↑q.n:Int) - 1) (rI ((↑q.n:Int) - 1) (rB i q.m .nil))) 14 1 [0] 1
theorem ACy (q0:FG i q)(q1:IF q i)(q2:(IE q i)=false)(q3:(decide ((q.op i.toNat).right>=0))=true)(q4:(MT q i)=false)(q5:(KC q i)=true):sR 1 (AIU) (frame 117 [(1,pt 0 0),(3,iv q.n),(76,sl q.no 2 q.m fun i=>(q.op i).cells),(77,iv q.m),(78,iv i)]) ([oV q.cells]) (AES q):=
 kR _ (.mk (dS 0x10aa11112222a23333224444445) [] [] [] []) (kO (kz q0 (kz q1 (kz q2 (kz q3 (kz q4 (kz q5 AN))))))) (rI ((↑q.n:Int) - 1) (rI ((↑q.n:Int) - 1) (rB i q.m .nil))) 14 1 [0] 1
theorem ACz (q0:FG i q)(q1:IF q i)(q2:(IE q i)=false)(q3:(decide ((q.op i.toNat).right>=0))=true)(q4:(MT q i)=false)(q5:(KC q i)=false):sR 1 (AIU) (frame 117 [(1,pt 0 0),(3,iv q.n),(76,sl q.no 2 q.m fun i=>(q.op i).cells),(77,iv q.m),(78,iv i)]) ([oV q.cells]) (xN,(frame 117 [(1,pt 0 0),(3,iv ↑q.n),(76,sl q.no 2 q.m fun i=>(q.op i).cells),(77,iv ↑q.m),(78,iv (i+1))]),[oV q.cells]):=
 kR _ (.mk (dS 0x10aa11112222a23333224444445a) [] [] [] []) (kO (kz q0 (kz q1 (kz q2 (kz q3 (kz q4 (kz q5 AN))))))) (rI (i+1) (rI ((↑q.n:Int) - 1) (rI ((↑q.n:Int) - 1) (rB i q.m .nil)))) 528905046081400263933962 1 [0] 1
theorem AC0 (q0:FG i q)(q1:IF q i)(q2:(IE q i)=false)(q3:(decide ((q.op i.toNat).right>=0))=false):sR 1 (AIU) (frame 117 [(1,pt 0 0),(3,iv q.n),(76,sl q.no 2 q.m fun i=>(q.op i).cells),(77,iv q.m),(78,iv i)]) ([oV q.cells]) (AES q):=
 kR _ (.mk (dS 0x10aa11112222a2333322) [] [] [] []) (kO (kz q0 (kz q1 (kz q2 (kz q3 AN))))) (rI ((↑q.n:Int) - 1) (rI ((↑q.n:Int) - 1) (rB i q.m .nil))) 14 1 [0] 1
theorem AC1 (q0:FG i q)(q1:(decide ((q.op i.toNat).left>=0))=false):sR 1 (AIU) (frame 117 [(1,pt 0 0),(3,iv q.n),(76,sl q.no 2 q.m fun i=>(q.op i).cells),(77,iv q.m),(78,iv i)]) ([oV q.cells]) (AES q):=
 kR _ (.mk (dS 279580945) [] [] [] []) (kO (kz q0 (kz q1 AN))) (rI ((↑q.n:Int) - 1) (rB i q.m .nil)) 14 1 [0] 1
theorem AC2 (q0:(BN i q)=false):sR 1 (AIU) (frame 117 [(1,pt 0 0),(3,iv q.n),(76,sl q.no 2 q.m fun i=>(q.op i).cells),(77,iv q.m),(78,iv i)]) ([oV q.cells]) (xL 2,(KD q),[oV q.cells]):=
 kR _ (.mk (dS 16) [] [] [] []) (kO (kz q0 AN)) .nil 10 1 [0] 1
theorem ckB:∃ r_:RC,sR 1 (cB (cB (cR (cL (cR (cR (cR (cR (AY prog 16))))))))) (frame 117 [(1,pt 0 0),(3,iv q.n),(76,sl q.no 2 q.m fun i=>(q.op i).cells),(77,iv q.m),(78,iv i)]) ([oV q.cells]) r_/\((r_=(xN,frame 117 [(1,pt 0 0),(3,iv q.n),(76,sl q.no 2 q.m fun i=>(q.op i).cells),(77,iv q.m),(78,iv (i+1))],[oV q.cells])/\i<q.m/\(0<=(q.op i.toNat).left/\(q.op i.toNat).left<q.n/\0<=(q.op i.toNat).right/\(q.op i.toNat).right<q.n/\(q.op i.toNat).left≠(q.op i.toNat).right))∨(r_=(EX.ret,frame 117 [(1,pt 0 0),(2,iv 280),(3,iv q.n)],[oV q.cells])/\i<q.m/\¬ (0<=(q.op i.toNat).left/\(q.op i.toNat).left<q.n/\0<=(q.op i.toNat).right/\(q.op i.toNat).right<q.n/\(q.op i.toNat).left≠(q.op i.toNat).right))∨(r_=(xL 2,frame 117 [(1,pt 0 0),(3,iv q.n)],[oV q.cells])/\q.m<=i)):=by
 rcases bT (decide (i<↑q.m)) with q0 | q0
 ·rcases bT (decide ((q.op i.toNat).left>=0)) with q1 | q1
  ·rcases bT (!decide ((q.op i.toNat).left<=(↑q.n:Int) - 1)) with q2 | q2
   ·exact e1 (ACw q i h0 hn hn0 hM q0 q1 q2)
   ·rcases bT (decide ((q.op i.toNat).right>=0)) with q3 | q3
    ·rcases bT (!decide ((q.op i.toNat).right<=(↑q.n:Int) - 1)) with q4 | q4
     ·exact e1 (ACx q i h0 hn hn0 hM q0 q1 q2 q3 q4)
     ·rcases bT ((q.op i.toNat).left==(q.op i.toNat).right) with q5 | q5
      ·exact e1 (ACy q i h0 hn hn0 hM q0 q1 q2 q3 q4 q5)
      ·exact e1 (ACz q i h0 hn hn0 hM q0 q1 q2 q3 q4 q5)
    ·exact e1 (AC0 q i h0 hn hn0 hM q0 q1 q2 q3)
  ·exact e1 (AC1 q i h0 hn hn0 hM q0 q1)
 ·exact e1 (AC2 q i h0 hn hn0 hM q0)
end
abbrev ER (a0:fG):=decide (a0.aI>999)
abbrev IG (a0:fG):=(decide (a0.aI<a0.draw))=false
abbrev Gv (a0:fG):=(decide (a0.draw<0))=false
section
variable (q:fG)(b1:Bool)(b2:Bool)(ihA1:2<=q.n->q.n<=24->q.m'=q.n->q.m<=552->b1=true->sL HT (frame 158 [(1,pt 0 0),(3,iv q.n),(4,iv 0)]) [oV q.cells] ((xL 0,frame 158 [(1,pt 0 0),(3,iv q.n)],[oV q.cells]):RC))(ihA2:2<=q.n->q.n<=24->q.m'=q.n->q.m<=552->b1=false->sL HT (frame 158 [(1,pt 0 0),(3,iv q.n),(4,iv 0)]) [oV q.cells] ((EX.ret,frame 158 [(1,pt 0 0),(2,iv 280),(3,iv q.n)],[oV q.cells]):RC))(ihB1:2<=q.n->q.n<=24->q.m'=q.n->q.m<=552->b2=true->sL HU (frame 158 [(1,pt 0 0),(3,iv q.n),(5,iv 0)]) [oV q.cells] ((xL 2,frame 158 [(1,pt 0 0),(3,iv q.n)],[oV q.cells]):RC))(ihB2:2<=q.n->q.n<=24->q.m'=q.n->q.m<=552->b2=false->sL HU (frame 158 [(1,pt 0 0),(3,iv q.n),(5,iv 0)]) [oV q.cells] ((EX.ret,frame 158 [(1,pt 0 0),(2,iv 280),(3,iv q.n)],[oV q.cells]):RC))
include q b1 b2 ihA1 ihA2 ihB1 ihB2
theorem AC3 (q0:(decide (q.draw<0))=true):sP 6 (Au q) (iv 280):=
 kP _ (.mk (dS 16777216) [] [] [] []) (kO (kz q0 AN)) .nil
theorem AC4 (q0:Gv q)(q1:(decide (q.aI<q.draw))=true):sP 6 (Au q) (iv 280):=
 kP _ (.mk (dS 1099511632145) [] [] [] []) (kO (kz q0 (kz q1 AN))) .nil
theorem AC5 (q0:Gv q)(q1:IG q)(q2:(ER q)=true):sP 6 (Au q) (iv 280):=
 kP _ (.mk (dS 4503599645266466) [] [] [] []) (kO (kz q0 (kz q1 (kz q2 AN)))) .nil
theorem AC6 (q0:Gv q)(q1:IG q)(q2:(ER q)=false)(q3:(decide ((↑q.n:Int)<2))=true):sP 6 (Au q) (iv 280):=
 kP _ (.mk (dS 0x10000001111222333) [] [] [] []) (kO (kz q0 (kz q1 (kz q2 (kz q3 AN))))) .nil
end
abbrev Gw (a0:fG):=decide ((↑a0.m:Int)>552)
abbrev Gx (a0:fG):=(decide ((↑a0.n:Int)>24))=false
section
variable (q:fG)(b1:Bool)(b2:Bool)(ihA1:2<=q.n->q.n<=24->q.m'=q.n->q.m<=552->b1=true->sL HT (frame 158 [(1,pt 0 0),(3,iv q.n),(4,iv 0)]) [oV q.cells] ((xL 0,frame 158 [(1,pt 0 0),(3,iv q.n)],[oV q.cells]):RC))(ihA2:2<=q.n->q.n<=24->q.m'=q.n->q.m<=552->b1=false->sL HT (frame 158 [(1,pt 0 0),(3,iv q.n),(4,iv 0)]) [oV q.cells] ((EX.ret,frame 158 [(1,pt 0 0),(2,iv 280),(3,iv q.n)],[oV q.cells]):RC))(ihB1:2<=q.n->q.n<=24->q.m'=q.n->q.m<=552->b2=true->sL HU (frame 158 [(1,pt 0 0),(3,iv q.n),(5,iv 0)]) [oV q.cells] ((xL 2,frame 158 [(1,pt 0 0),(3,iv q.n)],[oV q.cells]):RC))(ihB2:2<=q.n->q.n<=24->q.m'=q.n->q.m<=552->b2=false->sL HU (frame 158 [(1,pt 0 0),(3,iv q.n),(5,iv 0)]) [oV q.cells] ((EX.ret,frame 158 [(1,pt 0 0),(2,iv 280),(3,iv q.n)],[oV q.cells]):RC))(q0:Gv q)(q1:IG q)(q2:(ER q)=false)(q3:(decide ((↑q.n:Int)<2))=false)
include q b1 b2 ihA1 ihA2 ihB1 ihB2 q0 q1 q2 q3
theorem AC7 (q4:(decide ((↑q.n:Int)>24))=true):sP 6 (Au q) (iv 280):=
 kP _ (.mk (dS 0x10000001111222333444444) [] [] [] []) (kO (kz q0 (kz q1 (kz q2 (kz q3 (kz q4 AN)))))) .nil
theorem AC8 (q4:Gx q)(q5:((↑q.m':Int) != (↑q.n:Int))=true):sP 6 (Au q) (iv 280):=
 kP _ (.mk (dS 0x1000000111122233344444455555) [] [] [] []) (kO (kz q0 (kz q1 (kz q2 (kz q3 (kz q4 (kz q5 AN))))))) .nil
theorem AC9 (q4:Gx q)(q5:((↑q.m':Int) != (↑q.n:Int))=false)(q6:(Gw q)=true):sP 6 (Au q) (iv 280):=
 kP _ (.mk (dS 0x10000001111222333444444555556) [] [] [] []) (kO (kz q0 (kz q1 (kz q2 (kz q3 (kz q4 (kz q5 (kz q6 AN)))))))) .nil
theorem ADA (q4:Gx q)(q5:((↑q.m':Int) != (↑q.n:Int))=false)(q6:(Gw q)=false)(q7:(b1)=true)(q8:(b2)=true)(q9:(decide (q.uO<0))=true):sP 6 (Au q) (iv 280):=
 kP _ (.mk (dS 0x1000000111122233344444455555699999) [(13,.is 26 1 (AEU q)),(4,.is 42 1 (AEX q))] [] [] []) (kO (kz q0 (kz q1 (kz q2 (kz q3 (kz q4 (kz q5 (kz q6 (kz q7 (kz q8 (kz q9 AN))))))))))) (.cons (ihB1 iP iP iP iP (by assumption)) (.cons (ihA1 iP iP iP iP (by assumption)) .nil))
theorem ADB (q4:Gx q)(q5:((↑q.m':Int) != (↑q.n:Int))=false)(q6:(Gw q)=false)(q7:(b1)=true)(q8:(b2)=true)(q9:(decide (q.uO<0))=false)(q10:(decide (q.uO>=(↑q.n:Int)))=true):sP 6 (Au q) (iv 280):=
 kP _ (.mk (dS 0x10000001111222333444444555556999990d0d0d0d) [(13,.is 26 1 (AEU q)),(4,.is 42 1 (AEX q))] [] [] []) (kO (kz q0 (kz q1 (kz q2 (kz q3 (kz q4 (kz q5 (kz q6 (kz q7 (kz q8 (kz q9 (kz q10 AN)))))))))))) (.cons (ihB1 iP iP iP iP (by assumption)) (.cons (ihA1 iP iP iP iP (by assumption)) .nil))
end
section
variable (q:fG)(b1:Bool)(b2:Bool)(ihA1:2<=q.n->q.n<=24->q.m'=q.n->q.m<=552->b1=true->sL HT (frame 158 [(1,pt 0 0),(3,iv q.n),(4,iv 0)]) [oV q.cells] ((xL 0,frame 158 [(1,pt 0 0),(3,iv q.n)],[oV q.cells]):RC))(ihA2:2<=q.n->q.n<=24->q.m'=q.n->q.m<=552->b1=false->sL HT (frame 158 [(1,pt 0 0),(3,iv q.n),(4,iv 0)]) [oV q.cells] ((EX.ret,frame 158 [(1,pt 0 0),(2,iv 280),(3,iv q.n)],[oV q.cells]):RC))(ihB1:2<=q.n->q.n<=24->q.m'=q.n->q.m<=552->b2=true->sL HU (frame 158 [(1,pt 0 0),(3,iv q.n),(5,iv 0)]) [oV q.cells] ((xL 2,frame 158 [(1,pt 0 0),(3,iv q.n)],[oV q.cells]):RC))(ihB2:2<=q.n->q.n<=24->q.m'=q.n->q.m<=552->b2=false->sL HU (frame 158 [(1,pt 0 0),(3,iv q.n),(5,iv 0)]) [oV q.cells] ((EX.ret,frame 158 [(1,pt 0 0),(2,iv 280),(3,iv q.n)],[oV q.cells]):RC))(q0:Gv q)(q1:IG q)(q2:(ER q)=false)(q3:(decide ((↑q.n:Int)<2))=false)(q4:Gx q)(q5:((↑q.m':Int) != (↑q.n:Int))=false)(q6:(Gw q)=false)(q7:(b1)=true)(q8:(b2)=true)(q9:(decide (q.uO<0))=false)(q10:(decide (q.uO>=(↑q.n:Int)))=false)
include q b1 b2 ihA1 ihA2 ihB1 ihB2 q0 q1 q2 q3 q4 q5 q6 q7 q8 q9 q10
theorem ADC (q11:(decide (q.place<1))=true):sP 6 (Au q) (iv 280):=
 kP _ (.mk (dS 0x10000001111222333444444555556999990d0d0d0d1d1d1d1d1d) [(13,.is 26 1 (AEU q)),(4,.is 42 1 (AEX q))] [] [] []) (kO (kz q0 (kz q1 (kz q2 (kz q3 (kz q4 (kz q5 (kz q6 (kz q7 (kz q8 (kz q9 (kz q10 (kz q11 AN))))))))))))) (.cons (ihB1 iP iP iP iP (by assumption)) (.cons (ihA1 iP iP iP iP (by assumption)) .nil))
theorem vL (q11:(decide (q.place<1))=false)(q12:(decide (q.place>(↑q.n:Int)))=true):sP 6 (Au q) (iv 280):=
 kP _ (.mk (dS 0x10000001111222333444444555556999990d0d0d0d1d1d1d1d1d2d) [(13,.is 26 1 (AEU q)),(4,.is 42 1 (AEX q))] [] [] []) (kO (kz q0 (kz q1 (kz q2 (kz q3 (kz q4 (kz q5 (kz q6 (kz q7 (kz q8 (kz q9 (kz q10 (kz q11 (kz q12 AN)))))))))))))) (.cons (ihB1 iP iP iP iP (by assumption)) (.cons (ihA1 iP iP iP iP (by assumption)) .nil))
theorem vM (q11:(decide (q.place<1))=false)(q12:(decide (q.place>(↑q.n:Int)))=false):sP 6 (Au q) (iv 0):=
 kP _ (.mk (dS 0x10000001111222333444444555556999990d0d0d0d1d1d1d1d1d2d) [(13,.is 26 1 (AEU q)),(4,.is 42 1 (AEX q))] [] [] []) (kO (kz q0 (kz q1 (kz q2 (kz q3 (kz q4 (kz q5 (kz q6 (kz q7 (kz q8 (kz q9 (kz q10 (kz q11 (kz q12 AN)))))))))))))) (.cons (ihB1 iP iP iP iP (by assumption)) (.cons (ihA1 iP iP iP iP (by assumption)) .nil))
end
section
variable (q:fG)(b1:Bool)(b2:Bool)(ihA1:2<=q.n->q.n<=24->q.m'=q.n->q.m<=552->b1=true->sL HT (frame 158 [(1,pt 0 0),(3,iv q.n),(4,iv 0)]) [oV q.cells] ((xL 0,frame 158 [(1,pt 0 0),(3,iv q.n)],[oV q.cells]):RC))(ihA2:2<=q.n->q.n<=24->q.m'=q.n->q.m<=552->b1=false->sL HT (frame 158 [(1,pt 0 0),(3,iv q.n),(4,iv 0)]) [oV q.cells] ((EX.ret,frame 158 [(1,pt 0 0),(2,iv 280),(3,iv q.n)],[oV q.cells]):RC))(ihB1:2<=q.n->q.n<=24->q.m'=q.n->q.m<=552->b2=true->sL HU (frame 158 [(1,pt 0 0),(3,iv q.n),(5,iv 0)]) [oV q.cells] ((xL 2,frame 158 [(1,pt 0 0),(3,iv q.n)],[oV q.cells]):RC))(ihB2:2<=q.n->q.n<=24->q.m'=q.n->q.m<=552->b2=false->sL HU (frame 158 [(1,pt 0 0),(3,iv q.n),(5,iv 0)]) [oV q.cells] ((EX.ret,frame 158 [(1,pt 0 0),(2,iv 280),(3,iv q.n)],[oV q.cells]):RC))(q0:Gv q)(q1:IG q)(q2:(ER q)=false)(q3:(decide ((↑q.n:Int)<2))=false)(q4:Gx q)(q5:((↑q.m':Int) != (↑q.n:Int))=false)(q6:(Gw q)=false)
include q b1 b2 ihA1 ihA2 ihB1 ihB2 q0 q1 q2 q3 q4 q5 q6
theorem vN (q7:(b1)=true)(q8:(b2)=false):sP 6 (Au q) (iv 280):=
 kP _ (.mk (dS 0x10000001111222333444444555556) [(13,.is 26 1 (AEU q)),(4,.is 42 1 (AEQ q))] [] [] []) (kO (kz q0 (kz q1 (kz q2 (kz q3 (kz q4 (kz q5 (kz q6 (kz q7 (kz q8 AN)))))))))) (.cons (ihB2 iP iP iP iP (by assumption)) (.cons (ihA1 iP iP iP iP (by assumption)) .nil))
theorem vO (q7:(b1)=false):sP 6 (Au q) (iv 280):=
 kP _ (.mk (dS 0x10000001111222333444444555556) [(13,.is 26 1 (AEQ q))] [] [] []) (kO (kz q0 (kz q1 (kz q2 (kz q3 (kz q4 (kz q5 (kz q6 (kz q7 AN))))))))) (.cons (ihA2 iP iP iP iP (by assumption)) .nil)
end
theorem rck (q:fG)(b1:Bool)(b2:Bool)(ihA1:2<=q.n->q.n<=24->q.m'=q.n->q.m<=552->b1=true->sL HT (frame 158 [(1,pt 0 0),(3,iv q.n),(4,iv 0)]) [oV q.cells] ((xL 0,frame 158 [(1,pt 0 0),(3,iv q.n)],[oV q.cells]):RC))(ihA2:2<=q.n->q.n<=24->q.m'=q.n->q.m<=552->b1=false->sL HT (frame 158 [(1,pt 0 0),(3,iv q.n),(4,iv 0)]) [oV q.cells] ((EX.ret,frame 158 [(1,pt 0 0),(2,iv 280),(3,iv q.n)],[oV q.cells]):RC))(ihB1:2<=q.n->q.n<=24->q.m'=q.n->q.m<=552->b2=true->sL HU (frame 158 [(1,pt 0 0),(3,iv q.n),(5,iv 0)]) [oV q.cells] ((xL 2,frame 158 [(1,pt 0 0),(3,iv q.n)],[oV q.cells]):RC))(ihB2:2<=q.n->q.n<=24->q.m'=q.n->q.m<=552->b2=false->sL HU (frame 158 [(1,pt 0 0),(3,iv q.n),(5,iv 0)]) [oV q.cells] ((EX.ret,frame 158 [(1,pt 0 0),(2,iv 280),(3,iv q.n)],[oV q.cells]):RC)):∃ e:Int,sP 6 [ag q.cells] (iv e)/\(e=0->b1=true/\b2=true/\0<=q.draw/\q.draw<=q.aI/\q.aI<=999/\2<=q.n/\q.n<=24/\q.m'=q.n/\q.m<=552/\0<=q.uO/\q.uO<q.n/\1<=q.place/\q.place<=q.n):=by
 rcases bT (decide (q.draw<0)) with q0 | q0
 ·exact e12 (AC3 q b1 b2 ihA1 ihA2 ihB1 ihB2 q0)
 ·rcases bT (decide (q.aI<q.draw)) with q1 | q1
  ·exact e12 (AC4 q b1 b2 ihA1 ihA2 ihB1 ihB2 q0 q1)
  ·rcases bT (decide (q.aI>999)) with q2 | q2
   ·exact e12 (AC5 q b1 b2 ihA1 ihA2 ihB1 ihB2 q0 q1 q2)
   ·rcases bT (decide ((↑q.n:Int)<2)) with q3 | q3
    ·exact e12 (AC6 q b1 b2 ihA1 ihA2 ihB1 ihB2 q0 q1 q2 q3)
    ·rcases bT (decide ((↑q.n:Int)>24)) with q4 | q4
     ·exact e12 (AC7 q b1 b2 ihA1 ihA2 ihB1 ihB2 q0 q1 q2 q3 q4)
     ·rcases bT ((↑q.m':Int) != (↑q.n:Int)) with q5 | q5
      ·exact e12 (AC8 q b1 b2 ihA1 ihA2 ihB1 ihB2 q0 q1 q2 q3 q4 q5)
      ·rcases bT (decide ((↑q.m:Int)>552)) with q6 | q6
       ·exact e12 (AC9 q b1 b2 ihA1 ihA2 ihB1 ihB2 q0 q1 q2 q3 q4 q5 q6)
       ·rcases bT (b1) with q7 | q7
        ·rcases bT (b2) with q8 | q8
         ·rcases bT (decide (q.uO<0)) with q9 | q9
          ·exact e12 (ADA q b1 b2 ihA1 ihA2 ihB1 ihB2 q0 q1 q2 q3 q4 q5 q6 q7 q8 q9)
          ·rcases bT (decide (q.uO>=(↑q.n:Int))) with q10 | q10
           ·exact e12 (ADB q b1 b2 ihA1 ihA2 ihB1 ihB2 q0 q1 q2 q3 q4 q5 q6 q7 q8 q9 q10)
           ·rcases bT (decide (q.place<1)) with q11 | q11
            ·exact e12 (ADC q b1 b2 ihA1 ihA2 ihB1 ihB2 q0 q1 q2 q3 q4 q5 q6 q7 q8 q9 q10 q11)
            ·rcases bT (decide (q.place>(↑q.n:Int))) with q12 | q12
             ·exact e12 (vL q b1 b2 ihA1 ihA2 ihB1 ihB2 q0 q1 q2 q3 q4 q5 q6 q7 q8 q9 q10 q11 q12)
             ·exact e12 (vM q b1 b2 ihA1 ihA2 ihB1 ihB2 q0 q1 q2 q3 q4 q5 q6 q7 q8 q9 q10 q11 q12)
         ·exact e12 (vN q b1 b2 ihA1 ihA2 ihB1 ihB2 q0 q1 q2 q3 q4 q5 q6 q7 q8)
        ·exact e12 (vO q b1 b2 ihA1 ihA2 ihB1 ihB2 q0 q1 q2 q3 q4 q5 q6 q7)
abbrev Gy (a0:fG):=!decide (a0.uO<=(↑a0.n:Int) - 1)
abbrev Gz (a0:fG):=!decide ((↑a0.n:Int)<=24)
abbrev KE (a0:fG):=!decide (a0.draw<=a0.aI)
abbrev KF (a0:fG):=decide ((↑a0.n:Int)>=2)
abbrev KG (a0:fG):=decide (a0.draw>=0)
section
variable (q:fG)(h1:0<=q.draw)(h2:q.draw<=q.aI)(h3:q.aI<=999)(h4:2<=q.n)(h5:q.n<=24)(h6:q.m'=q.n)(h7:q.m<=552)(h8:0<=q.uO)(h9:q.uO<q.n)(h10:1<=q.place)(h11:q.place<=q.n)(ihA:sL ACi (frame 117 [(1,pt 0 0),(3,iv q.n),(41,AW q.nc q.n q.uZ),(42,iv q.n),(43,iv 0)]) [oV q.cells] ((xL 0,frame 117 [(1,pt 0 0),(3,iv q.n)],[oV q.cells]):RC))(ihB:sL ACu (frame 117 [(1,pt 0 0),(3,iv q.n),(76,sl q.no 2 q.m fun i=>(q.op i).cells),(77,iv q.m),(78,iv 0)]) [oV q.cells] ((xL 2,frame 117 [(1,pt 0 0),(3,iv q.n)],[oV q.cells]):RC))
include q h1 h2 h3 h4 h5 h6 h7 h8 h9 h10 h11 ihA ihB
theorem ADD (q0:((↑q.m':Int) != (↑q.n:Int))=false):sP 16 (Au q) (iv 0):=
 kP _ (.mk (dS 0x1aaaabbbbbbaaaabbbbbbbb00000baaaaabbbbaaaabbb) [(23,.is 15393162788874 1 (xL 0,(KD q),[oV q.cells])),(4,.is 528905046081400263933962 1 (xL 2,(KD q),[oV q.cells]))] [] [] []) (kO (kz q0 AN)) (oI ((!decide (q.place<=(↑q.n:Int)))=false) (oI (Gy q=false) (oI (Gy q=false) (oI (decide (q.place>=1)) (oI (decide (q.place>=1)) (oI (decide (q.place>=1)) (oI (decide (q.place>=1)) (oI (Gy q=false) (oI (Gy q=false) (oI (Gy q=false) (oI (Gy q=false) (oI (decide (q.uO>=0)) (oI (decide (q.uO>=0)) (oI (decide (q.uO>=0)) (oI (decide (q.uO>=0)) (rI ((↑q.n:Int) - 1) (.cons ihB (.cons ihA (oI (Gw q=false) (oI (Gz q=false) (oI (Gz q=false) (oI (Gz q=false) (oI (Gz q=false) (oI (Gz q=false) (oI (Gz q=false) (oI (ER q=false) (oI (ER q=false) (oI (KF q) (oI (KF q) (oI (KF q) (oI (KF q) (oI (ER q=false) (oI (ER q=false) (oI (KE q=false) (oI (KE q=false) (oI (KE q=false) (oI (KE q=false) (oI (KG q) (oI (KG q) (oI (KG q) (oI (KG q) .nil)))))))))))))))))))))))))))))))))))))))))
end
end Go.Ev
