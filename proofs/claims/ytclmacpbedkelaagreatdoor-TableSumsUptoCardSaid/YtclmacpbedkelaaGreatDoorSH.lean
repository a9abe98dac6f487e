/- A part of the proof. -/
import Derived.Test.YtclmacpbedkelaaGreatDoorSC
import Derived.Test.YtclmacpbedkelaaGreatDoorSF
import Derived.Test.YtclmacpbedkelaaGreatDoorSG
import Derived.Test.YtclmacpbedkelaaGreatDoorSB
import Derived.ChangeArms
import Derived.ChangeShapes
import Derived.WideShapes
import Derived.OpenShut
import Derived.FnData
import GoSem.ClaimJoined
set_option linter.unusedSimpArgs false
set_option linter.unusedVariables false
set_option linter.unusedSectionVars false
namespace Go.Ev
open Go.Proofs.Tryz (prog)
set_option maxRecDepth 100000
set_option maxHeartbeats 0
def IU (ps:Nat->PlaceD)(x:Int):Nat->Int
 | 0=>0
 | k+1=>IU ps x k+if (ps k).row.club=x then 1 else 0
theorem KB (ps:Nat->PlaceD)(x:Int):∀ k,0<=IU ps x k/\IU ps x k<=k
 | 0=>by simp [IU]
 | k+1=>by
  have:=KB ps x k
  rw [IU]
  split<;>omega
theorem QR (ps:Nat->PlaceD)(len i:Nat)(hi:i<len)(hd:∀ a b,a<b->b<len->(ps a).row.club≠(ps b).row.club):∀ k,k<=len->IU ps (ps i).row.club k=if i<k then 1 else 0
 | 0,_=>by simp [IU]
 | k+1,hk=>by
  rw [IU,QR ps len i hi hd k (by omega)]
  rcases Nat.lt_trichotomy i k with h | h | h
  ·rw [if_pos h,if_pos (show i<k+1 by omega),if_neg (Ne.symm (hd i k h (by omega)))]
   omega
  ·subst h
   simp
  ·rw [if_neg (show ¬ i<k by omega),if_neg (show ¬ i<k+1 by omega),if_neg (hd k i h hi)]
   omega
noncomputable abbrev ACa:Code:=cB (cB (cR (cL (cR (cR (cB (cL (cR (cR (cB (cB (cR (cL (cR (cR (cR (cR (cR (cR (AB prog 3))))))))))))))))))))
noncomputable abbrev YI:Code:=cB (cB (cR (cL (cR (cR (cR (cR (cR (cR (AB prog 3))))))))))
section
variable (n0:Bool)(N:Nat)(rs:Nat->ResD)(n1:Bool)(m:Nat)(w:Nat->Int)(t:TableD)
def s3L (a b c d:Int):List (Nat×EV):=[(0,EV.isl n0 13 N fun j=>(rs j).cells),(1,nums n1 m w),(13,.ptr 1 0),(15,.int .i64 a),(16,.int .i64 b),(17,.int .i64 c),(18,.int .i64 d)]
noncomputable def s3I (a b c d i n j:Int):List EV:=frame 150 (s3L n0 N rs n1 m w a b c d++[(20,.ptr 2 0),(21,.int .i64 n),(56,.isl t.nn 14 t.len fun j=>(t.ps j).cells),(57,.int .i64 t.len),(58,.int .i64 i),(63,.isl t.nn 14 t.len fun j=>(t.ps j).cells),(64,.int .i64 t.len),(65,.int .i64 j)])
noncomputable def s3T (a b c d i:Int):List EV:=frame 150 (s3L n0 N rs n1 m w a b c d++[(56,.isl t.nn 14 t.len fun j=>(t.ps j).cells),(57,.int .i64 t.len),(58,.int .i64 i)])
abbrev s3H (p:PlaceD):AL:=[EObj.dead,EObj.var false true [.int .i64 t.season,.int .i64 t.comp,.isl t.nn 14 t.len fun j=>(t.ps j).cells],.var false true p.cells]
abbrev s3G:AL:=[EObj.dead,EObj.var false true [.int .i64 t.season,.int .i64 t.comp,.isl t.nn 14 t.len fun j=>(t.ps j).cells]]
theorem ACb (a b c d i:Int)(p:PlaceD)(hl:t.len<=1000):∀ (k j:Nat),j+k=t.len->
  sLR 3 ACa (s3I n0 N rs n1 m w t a b c d i (IU t.ps p.row.club j) j) (s3H t p) (EX.leave 2,frame 150 (s3L n0 N rs n1 m w a b c d++[(20,.ptr 2 0),(21,.int .i64 (IU t.ps p.row.club t.len)),(56,.isl t.nn 14 t.len fun j=>(t.ps j).cells),(57,.int .i64 t.len),(58,.int .i64 i)]),s3H t p)
 | 0,j,h=>by
  obtain rfl:j=t.len:=by omega
  have hb:=KB t.ps p.row.club t.len
  exact SemLR.lastR (ACW n0 N rs n1 m w t a b c d i p _ _ (by omega) hb.1 (by omega) (by omega) (by simp)) (by simp)
 | k+1,j,h=>by
  have hb:=KB t.ps p.row.club j
  have q0:(decide ((j:Int)<(t.len:Int)))=true:=decide_eq_true (by omega)
  have ih:=ACb a b c d i p hl k (j+1) (by omega)
  rw [show (((j+1:Nat):Int))=(j:Int)+1 from rfl] at ih
  by_cases hc:(t.ps j).row.club=p.row.club
  ·rw [show IU t.ps p.row.club (j+1)=IU t.ps p.row.club j+1 by rw [IU,if_pos hc]] at ih
   exact SemLR.stepR (ACU n0 N rs n1 m w t a b c d i p (IU t.ps p.row.club j) j (by omega) hb.1 (by omega) (by omega) q0 (by simpa using hc)) ih
  ·rw [show IU t.ps p.row.club (j+1)=IU t.ps p.row.club j by rw [IU,if_neg hc]; omega] at ih
   exact SemLR.stepR (ACV n0 N rs n1 m w t a b c d i p (IU t.ps p.row.club j) j (by omega) hb.1 (by omega) (by omega) q0 (by simpa using hc)) ih
structure S3Ok:Prop where
 len:t.len<=1000
 dist:∀ a b,a<b->b<t.len->(t.ps a).row.club≠(t.ps b).row.club
 row:∀ j,(0<=(t.ps j).row.played/\(t.ps j).row.played<=100000)/\(0<=(t.ps j).row.won/\(t.ps j).row.won<=100000)/\(0<=(t.ps j).row.drawn/\(t.ps j).row.drawn<=100000)/\(0<=(t.ps j).row.lost/\(t.ps j).row.lost<=100000)/\
  (0<=(t.ps j).row.for'/\(t.ps j).row.for'<=100000)/\(0<=(t.ps j).row.against/\(t.ps j).row.against<=100000)/\(t.ps j).row.won+(t.ps j).row.drawn+(t.ps j).row.lost=(t.ps j).row.played
def s3S (f:RowD->Int)(k:Nat):Int:=EK (fun j=>f (t.ps j).row) k
theorem ADR (ho:S3Ok t):∀ (k i:Nat),i+k=t.len->
  sLR 2 YI (s3T n0 N rs n1 m w t (s3S t RowD.played i) (s3S t RowD.won i) (s3S t RowD.lost i) (s3S t (fun r=>r.for' - r.against) i) i) (s3G t)
   (EX.leave 0,frame 150 (s3L n0 N rs n1 m w (s3S t RowD.played t.len) (s3S t RowD.won t.len) (s3S t RowD.lost t.len) (s3S t (fun r=>r.for' - r.against) t.len)),s3G t):=by
 have hl:=ho.len
 have bnd:∀ (f:RowD->Int) (i:Nat),i<=t.len->(∀ j,-100000<=f (t.ps j).row/\f (t.ps j).row<=100000)->-1000000000<=s3S t f i/\s3S t f i<=1000000000:=fun f i hi hf=>by
  have:=NJ i (F:=fun j=>f (t.ps j).row) fun j hj=>hf j
  unfold s3S
  omega
 have b1:=fun i hi=>bnd RowD.played i hi fun j=>by have:=(ho.row j).1; omega
 have b2:=fun i hi=>bnd RowD.won i hi fun j=>by have:=(ho.row j).2.1; omega
 have b3:=fun i hi=>bnd RowD.lost i hi fun j=>by have:=(ho.row j).2.2.2.1; omega
 have b4:=fun i hi=>bnd (fun r=>r.for' - r.against) i hi fun j=>by
  have h1:=(ho.row j).2.2.2.2.1
  have h2:=(ho.row j).2.2.2.2.2.1
  omega
 intro k
 induction k with
 | zero=>
  intro i h
  obtain rfl:i=t.len:=by omega
  obtain ⟨r1,r2,r3,r4,r5,r6,r7⟩:=ho.row t.len
  have c1:=b1 t.len (by omega)
  have c2:=b2 t.len (by omega)
  have c3:=b3 t.len (by omega)
  have c4:=b4 t.len (by omega)
  exact SemLR.lastR (ACY n0 N rs n1 m w t _ _ _ _ t.len (by omega) (by omega) r7 r1.1 r1.2 r2.1 r2.2 r3.1 r3.2 r4.1 r4.2 r5.1 r5.2 r6.1 r6.2 c1.1 c1.2 c2.1 c2.2 c3.1 c3.2 c4.1 c4.2 (fun h=>by omega) (by simp)) (by simp)
 | succ k ih=>
  intro i h
  have hi:i<t.len:=by omega
  obtain ⟨r1,r2,r3,r4,r5,r6,r7⟩:=ho.row i
  have c1:=b1 i (by omega)
  have c2:=b2 i (by omega)
  have c3:=b3 i (by omega)
  have c4:=b4 i (by omega)
  have hin:=SemLR.cl (path:=cB (cR (cL (cR (cR (cB (cL (cR (cR (cB (cB (cR (cL (cR (cR (cR (cR (cR (cR (AB prog 3)))))))))))))))))))) (ACb n0 N rs n1 m w t (s3S t RowD.played i) (s3S t RowD.won i) (s3S t RowD.lost i) (s3S t (fun r=>r.for' - r.against) i) i (t.ps i) hl t.len 0 (by omega)) rfl (by kernel_rfl)
  rw [QR t.ps t.len i hi ho.dist t.len (Nat.le_refl _),if_pos hi] at hin
  have hs:=ACX n0 N rs n1 m w t (s3S t RowD.played i) (s3S t RowD.won i) (s3S t RowD.lost i) (s3S t (fun r=>r.for' - r.against) i) i (by omega) (by omega) r7 r1.1 r1.2 r2.1 r2.2 r3.1 r3.2 r4.1 r4.2 r5.1 r5.2 r6.1 r6.2 c1.1 c1.2 c2.1 c2.2 c3.1 c3.2 c4.1 c4.2 (fun _=>hin) (decide_eq_true (by omega)) (by simpa using r7)
  have ih':=ih (i+1) (by omega)
  have hs':sR 2 YI (s3T n0 N rs n1 m w t (s3S t RowD.played i) (s3S t RowD.won i) (s3S t RowD.lost i) (s3S t (fun r=>r.for' - r.against) i) i) (s3G t)
    (EX.normal,s3T n0 N rs n1 m w t (s3S t RowD.played i+(t.ps i).row.played) (s3S t RowD.won i+(t.ps i).row.won) (s3S t RowD.lost i+(t.ps i).row.lost) (s3S t (fun r=>r.for' - r.against) i+(t.ps i).row.for' - (t.ps i).row.against) ((i+1:Nat):Int),s3G t):=hs
  rw [Int.add_sub_assoc] at hs'
  exact SemLR.stepR hs' ih'
end
theorem QS (F G:Nat->Int):∀ n,EK (fun j=>F j - G j) n=EK F n - EK G n
 | 0=>rfl
 | n+1=>by rw [EK,EK,EK,QS F G n]; omega
theorem law3 {kk:Nat}(n0:Bool)(n:Nat)(rs:Nat->ResD)(n1:Bool)(m:Nat)(w:Nat->Int)(n2:Bool)(m2:Nat)(o:Nat->Int)(n3:Bool)(ln:Nat)(lw:Nat->Int)(R:RulesV)(fin:Bool)(ht:R.Tree kk)(hn0:n0=true∨n=0)(hn1:n1=true∨m=0):
  sP 3 (Jn n0 n rs n1 m w n2 m2 o n3 ln lw R fin) (EV.bool true):=by
 obtain ⟨few,hfew,hf⟩:=yA n0 n rs n1 m w n2 m2 o n3 ln lw R ht
 cases few with
 | false=>exact s3F n0 n rs n1 m w n2 m2 o R fin n3 ln lw Xt.1 hfew
 | true=>
  obtain ⟨f1,f2,f3,f4⟩:=hf rfl
  by_cases hz:(R.zn:Int)>20
  ·exact s3Z n0 n rs n1 m w n2 m2 o R fin n3 ln lw hz Xt.1 hfew
  ·rcases ACI kk n0 n rs n1 m w n2 m2 o n3 ln lw R fin (by omega) f2 (by omega) (by omega) ht hn0 hn1 with ⟨e,he,_,ho⟩ | ⟨e1,e3,S,Cr,Z,hT,_,ho⟩
   ·exact s3E n0 n rs n1 m w n2 m2 o R fin n3 ln lw e (by omega) he Xt.1 hfew ho
   ·have hlen:=Rq hT f1 f2
    have hnd:=Om hT f1 f2
    have hrows:=Ip hT f1 f2
    have hpl:∀ j,j<m->DC (Dd n rs m w o R Z (vis S Cr 8 (AT m w) 0)) j∈Dd n rs m w o R Z (vis S Cr 8 (AT m w) 0):=fun j hj=>by
     unfold DC
     rw [List.getD_eq_getElem?_getD,List.getElem?_eq_getElem (by omega),Option.getD_some]
     exact List.getElem_mem _
    have hok:S3Ok (Cs n rs m w o R Z (vis S Cr 8 (AT m w) 0)):=by
     refine ⟨?_,fun a b hab hb=>?_,fun j=>?_⟩
     ·show (Dd n rs m w o R Z (vis S Cr 8 (AT m w) 0)).length<=1000
      omega
     ·have hb':b<(Dd n rs m w o R Z (vis S Cr 8 (AT m w) 0)).length:=hb
      have:=List.pairwise_iff_getElem.1 hnd a b (by rw [List.length_map]; omega) (by rw [List.length_map]; omega) hab
      simp only [List.getElem_map] at this
      show (DC (Dd n rs m w o R Z (vis S Cr 8 (AT m w) 0)) a).row.club≠(DC (Dd n rs m w o R Z (vis S Cr 8 (AT m w) 0)) b).row.club
      unfold DC
      rw [List.getD_eq_getElem?_getD,List.getElem?_eq_getElem (show a<_ by omega),Option.getD_some,List.getD_eq_getElem?_getD,List.getElem?_eq_getElem hb',Option.getD_some]
      exact this
     ·by_cases hj:j<m
      ·obtain ⟨i,hi,e,_⟩:=Oj hT f1 f2 (hpl j hj)
       obtain ⟨r1,r2,r3,r4,r5,r6,r7,r8,r9,r10,r11⟩:=(hrows.row i hi).1
       show (0<=(DC (Dd n rs m w o R Z (vis S Cr 8 (AT m w) 0)) j).row.played/\(DC (Dd n rs m w o R Z (vis S Cr 8 (AT m w) 0)) j).row.played<=100000)/\_
       show _/\(0<=(DC (Dd n rs m w o R Z (vis S Cr 8 (AT m w) 0)) j).row.won/\(DC (Dd n rs m w o R Z (vis S Cr 8 (AT m w) 0)) j).row.won<=100000)/\(0<=(DC (Dd n rs m w o R Z (vis S Cr 8 (AT m w) 0)) j).row.drawn/\(DC (Dd n rs m w o R Z (vis S Cr 8 (AT m w) 0)) j).row.drawn<=100000)/\(0<=(DC (Dd n rs m w o R Z (vis S Cr 8 (AT m w) 0)) j).row.lost/\(DC (Dd n rs m w o R Z (vis S Cr 8 (AT m w) 0)) j).row.lost<=100000)/\(0<=(DC (Dd n rs m w o R Z (vis S Cr 8 (AT m w) 0)) j).row.for'/\(DC (Dd n rs m w o R Z (vis S Cr 8 (AT m w) 0)) j).row.for'<=100000)/\(0<=(DC (Dd n rs m w o R Z (vis S Cr 8 (AT m w) 0)) j).row.against/\(DC (Dd n rs m w o R Z (vis S Cr 8 (AT m w) 0)) j).row.against<=100000)/\(DC (Dd n rs m w o R Z (vis S Cr 8 (AT m w) 0)) j).row.won+(DC (Dd n rs m w o R Z (vis S Cr 8 (AT m w) 0)) j).row.drawn+(DC (Dd n rs m w o R Z (vis S Cr 8 (AT m w) 0)) j).row.lost=(DC (Dd n rs m w o R Z (vis S Cr 8 (AT m w) 0)) j).row.played
       rw [e]
       simp only
       omega
      ·have e:(Cs n rs m w o R Z (vis S Cr 8 (AT m w) 0)).ps j=⟨0,0,default,⟨0,0,0,0,0,0,0,0,0,0,0⟩⟩:=by
        show DC (Dd n rs m w o R Z (vis S Cr 8 (AT m w) 0)) j=_
        unfold DC
        rw [List.getD_eq_getElem?_getD,List.getElem?_eq_none (by omega)]
        rfl
       rw [e]
       simp only
       omega
    have hL:=SemLR.cl (path:=cB (cR (cL (cR (cR (cR (cR (cR (cR (AB prog 3)))))))))) (ADR n0 n rs n1 m w _ hok (Cs n rs m w o R Z (vis S Cr 8 (AT m w) 0)).len 0 (by omega)) rfl (by kernel_rfl)
    have hs1:s3S (Cs n rs m w o R Z (vis S Cr 8 (AT m w) 0)) RowD.played (Cs n rs m w o R Z (vis S Cr 8 (AT m w) 0)).len=2*(n:Int):=(MU hT f1 f2 RowD.played fun _ _=>rfl).trans hrows.played
    have hs2:s3S (Cs n rs m w o R Z (vis S Cr 8 (AT m w) 0)) RowD.won (Cs n rs m w o R Z (vis S Cr 8 (AT m w) 0)).len<=s3S (Cs n rs m w o R Z (vis S Cr 8 (AT m w) 0)) RowD.lost (Cs n rs m w o R Z (vis S Cr 8 (AT m w) 0)).len:=by
     have a1:s3S (Cs n rs m w o R Z (vis S Cr 8 (AT m w) 0)) RowD.won (Cs n rs m w o R Z (vis S Cr 8 (AT m w) 0)).len=_:=MU hT f1 f2 RowD.won fun _ _=>rfl
     have a2:s3S (Cs n rs m w o R Z (vis S Cr 8 (AT m w) 0)) RowD.lost (Cs n rs m w o R Z (vis S Cr 8 (AT m w) 0)).len=_:=MU hT f1 f2 RowD.lost fun _ _=>rfl
     rw [a1,a2]
     exact hrows.won
    have hs3:s3S (Cs n rs m w o R Z (vis S Cr 8 (AT m w) 0)) (fun r=>r.for' - r.against) (Cs n rs m w o R Z (vis S Cr 8 (AT m w) 0)).len=0:=by
     have a1:s3S (Cs n rs m w o R Z (vis S Cr 8 (AT m w) 0)) (fun r=>r.for' - r.against) (Cs n rs m w o R Z (vis S Cr 8 (AT m w) 0)).len=_:=MU hT f1 f2 (fun r=>r.for' - r.against) fun _ _=>rfl
     rw [a1,QS,hrows.goals]
     omega
    have hlm:((Cs n rs m w o R Z (vis S Cr 8 (AT m w) 0)).len:Int)=m:=by
     show ((Dd n rs m w o R Z (vis S Cr 8 (AT m w) 0)).length:Int)=m
     omega
    exact s3O n0 n rs n1 m w n2 m2 o R fin n3 ln lw _ _ _ _ _ (by omega) (by omega) hlm hs1 hs2 hs3 Xt.1 hfew ho (Tp hT f1 f2) hL
end Go.Ev
namespace Go.Ev
def MV (T:Go.TypeId->List EV->Prop):List Field->List EV->Prop
 | [],vs=>vs=[]
 | f :: fs,vs=>∃ a b,vs=a++b/\T f.type a/\MV T fs b
def Iq (P:Program)(ok:Go.TypeId->Bool):List Field->Nat->Nat->Bool
 | [],o,tot=>Nat.beq o tot
 | f :: fs,o,tot=>Nat.beq f.offset o && ok f.type && Iq P ok fs (o+P.cellsOf f.type) tot
def okT (P:Program):Nat->Go.TypeId->Bool
 | 0,_=>false
 | n+1,t=>match P.underlying t with
  | some .bool=>true
  | some (.int _)=>true
  | some .string=>true
  | some (.slice e)=>!Nat.beq (P.cellsOf e) 0 && okT P n e
  | some (.struct fs)=>Iq P (okT P n) fs.toList 0 (P.cellsOf t)
  | _=>false
def CellsP (F:Nat->Prop)(w:World)(vs:List EV)(cs:List Value):Prop:=
 vs.length=cs.length/\∀ i (h1:i<vs.length) (h2:i<cs.length),(cs[i]).oneCell'=true/\PR F w vs[i] cs[i]
theorem CellsP.one {F:Nat->Prop}{w:World}{v:EV}{m:Value}(h1:m.oneCell'=true)(h:PR F w v m):CellsP F w [v] [m]:=by
 refine ⟨rfl,fun i a b=>?_⟩
 have:i=0:=by simpa using a
 subst this
 exact ⟨h1,h⟩
theorem CellsP.app {F:Nat->Prop}{w:World}{a b:List EV}{c d:List Value}(h:CellsP F w a c)(g:CellsP F w b d):CellsP F w (a++b) (c++d):=by
 obtain ⟨h1,h2⟩:=h
 obtain ⟨g1,g2⟩:=g
 refine ⟨by simp [h1,g1],fun i x y=>?_⟩
 by_cases hi:i<a.length
 ·have hi':i<c.length:=by omega
  rw [List.getElem_append_left hi,List.getElem_append_left hi']
  exact h2 i hi hi'
 ·have hi':¬ i<c.length:=by omega
  rw [List.getElem_append_right (by omega),List.getElem_append_right (by omega)]
  simp only [List.length_append] at x y
  have:=g2 (i - a.length) (by omega) (by omega)
  simpa [h1] using this
section
variable {H:Type}{enc:TypeId×Value->H}{P:Program}{w:World}{spare:Nat->Bool}{held:Bool}{F:Nat->Prop}
end
end Go.Ev
namespace Go.Ev
def okL (P:Program)(ok:Go.TypeId->Bool)(t:Go.TypeId):Bool:=
 match P.underlying t with
  | some .bool=>true
  | some (.int _)=>true
  | some .string=>true
  | some (.slice e)=>!Nat.beq (P.cellsOf e) 0 && ok e
  | some (.struct fs)=>Iq P ok fs.toList 0 (P.cellsOf t)
  | _=>false
section
variable {H:Type}{enc:TypeId×Value->H}{P:Program}{w:World}{spare:Nat->Bool}{held:Bool}{F:Nat->Prop}
end
end Go.Ev
namespace Go.Ev
def wT (P:Program)(t:Go.TypeId):Nat:=match P.underlying t with | some (.struct fs)=>fs.size+1 | _=>1
def B6 (P:Program)(B:Nat):Nat->Go.TypeId->List EV->Prop
 | 0,_,_=>False
 | n+1,t,vs=>match P.underlying t with
  | some .bool=>∃ b,vs=[.bool b]
  | some (.int k)=>∃ i,vs=[.int k i]
  | some .string=>∃ s:ByteArray,vs=[.str s]
  | some (.slice e)=>vs=[.isl false (P.cellsOf e) 0 fun _=>[]]∨∃ len row,vs=[.isl true (P.cellsOf e) len row]/\len*wT P e<=B/\∀ i,i<len->B6 P B n e (row i)
  | some (.struct fs)=>MV (B6 P B n) fs.toList vs
  | _=>False
section
variable {H:Type}{enc:TypeId×Value->H}{P:Program}{w:World}{spare:Nat->Bool}{held:Bool}{F:Nat->Prop}{bulk:DataW H->Nat}{B:Nat}
theorem On {T:Go.TypeId->List EV->Prop}{ok:Go.TypeId->Bool}{n:Nat}{cs:List Value}{tot:Nat}{Q:DataW H->Prop}(hl:cs.length=tot)
  (ih:∀ t cs' x,Q x.1->ok t=true->DataW.trod enc P w 0 spare held n t cs'=some x->∃ vs,CellsP F w vs cs'/\T t vs):
  ∀ (fs:List Field) (o:Nat) (xs:List (DataW H×List MemPlace)),(∀ x∈xs,Q x.1)->Iq P ok fs o tot=true->xs.length=fs.length->
   (∀ (i:Nat) (f:Field),fs[i]? =some f->DataW.trod enc P w 0 spare held n f.type ((cs.drop f.offset).take (P.cellsOf f.type))=xs[i]?)->
   ∃ vs,CellsP F w vs (cs.drop o)/\MV T fs vs
 | [],o,xs,_,hc,_,_=>by
  have:o=tot:=Nat.eq_of_beq_eq_true hc
  refine ⟨[],⟨by simp; omega,fun i h=>by simp at h⟩,rfl⟩
 | f :: fs,o,xs,hQ,hc,hx,h=>by
  simp only [Iq,Bool.and_eq_true] at hc
  obtain ⟨⟨ho,hk⟩,hr⟩:=hc
  have ho:f.offset=o:=Nat.eq_of_beq_eq_true ho
  match xs,hx,hQ with
  | x :: xs,hx,hQ=>
   have h0:=h 0 f rfl
   obtain ⟨a,ha,hta⟩:=ih _ _ x (hQ x List.mem_cons_self) hk h0
   obtain ⟨b,hb,htb⟩:=On hl ih fs (o+P.cellsOf f.type) xs (fun y hy=>hQ y (List.mem_cons_of_mem _ hy)) hr (by simpa using hx) (fun i g hg=>by simpa using h (i+1) g (by simpa using hg))
   refine ⟨a++b,?_,a,b,rfl,hta,htb⟩
   have:=ha.app hb
   rw [ho,<-List.drop_drop,List.take_append_drop] at this
   exact this
theorem FR (ok:Go.TypeId->Bool)(hok:∀ t,ok t=true->okL P ok t=true)(hF:∀ b,b<w.heap.size->F b)
  (hone:∀ d:DataW H,1<=bulk d) (hsl:∀ (es sp:List (DataW H)),(∀ k,(∀ e∈es,k<=bulk e)->es.length*k<=bulk (.slice es sp))/\∀ e∈es,bulk e<=bulk (.slice es sp)) (hag:∀ (ps:List (DataW H)),ps.length+1<=bulk (.agg ps)/\∀ e∈ps,bulk e<=bulk (.agg ps)):∀ (n:Nat) (t:Go.TypeId) (cs:List Value) (x:DataW H×List MemPlace),bulk x.1<=B->ok t=true->
  DataW.trod enc P w 0 spare held n t cs=some x->∃ vs,CellsP F w vs cs/\B6 P B n t vs
 | 0,_,_,_,_,_,h=>by simp [DataW.trod] at h
 | n+1,t,cs,x,hB,hk,h=>by
  replace hk:=hok t hk
  unfold okL at hk
  unfold B6
  split at hk
  ·rename_i hu
   try simp only [hu]
   obtain ⟨b,rfl,_⟩:=DataW.trod_bool hu h
   exact ⟨[.bool b],.one rfl (.bool b),b,rfl⟩
  ·rename_i k hu
   try simp only [hu]
   obtain ⟨i,rfl,_,hw⟩:=DataW.trod_int hu h
   exact ⟨[.int k i],.one rfl (.int k i),i,rfl⟩
  ·rename_i hu
   try simp only [hu]
   obtain ⟨s,rfl,_,hs⟩:=DataW.trod_string hu h
   exact ⟨[.str s],.one rfl (.str s),s,rfl⟩
  ·rename_i e hu
   try simp only [hu]
   simp only [Bool.and_eq_true,Bool.not_eq_true'] at hk
   obtain ⟨hz,hk⟩:=hk
   have hz:0<P.cellsOf e:=Nat.pos_of_ne_zero fun hz'=>by rw [hz'] at hz; cases hz
   rcases DataW.trod_slice hu h with ⟨rfl,_⟩ | ⟨a,len,cap,elems,rest,m,hm,rfl,hx,_,hlc,hcm,hlen,hel,_,_⟩
   ·exact ⟨[.isl false (P.cellsOf e) 0 fun _=>[]],.one rfl (.isln _ _),.inl rfl⟩
   ·obtain rfl:n=m:=by omega
    rw [hx] at hB
    obtain ⟨hb1,hb2⟩:=hsl (elems.map (·.1)) (rest.map (·.1))
    have hw:∀ d∈elems.map (·.1),wT P e<=bulk d:=by
     intro d hd
     obtain ⟨q,hq,rfl⟩:=List.mem_map.1 hd
     obtain ⟨i,hi,rfl⟩:=List.getElem_of_mem hq
     have h1:=hel i (by omega)
     rw [List.getElem?_eq_getElem hi,Option.bind_eq_some_iff] at h1
     obtain ⟨ci,_,h2⟩:=h1
     unfold wT
     split
     ·rename_i fs hfs
      obtain ⟨xs,m',_,hxx,_,hxl,_⟩:=DataW.trod_struct hfs h2
      rw [hxx]
      have:=(hag (xs.map (·.1))).1
      rw [List.length_map,hxl] at this
      exact this
     ·exact hone _
    have hlB:len*wT P e<=B:=by
     have:=hb1 _ hw
     rw [List.length_map,hlen] at this
     exact Nat.le_trans this hB
    have hi:∀ i,∃ p:List EV×List Value,i<len->w.cells? 0 (a.add (i*P.cellsOf e)) (P.cellsOf e)=some p.2/\CellsP F w p.1 p.2/\B6 P B n e p.1:=by
     intro i
     by_cases hi:i<len
     ·have h1:=hel i hi
      rw [List.getElem?_eq_getElem (by omega),Option.bind_eq_some_iff] at h1
      obtain ⟨ci,h1,h2⟩:=h1
      have hbi:=hb2 elems[i].1 (List.mem_map_of_mem (List.getElem_mem _))
      obtain ⟨vs,h3,h4⟩:=FR ok hok hF hone hsl hag n e ci _ (Nat.le_trans hbi hB) hk h2
      exact ⟨(vs,ci),fun _=>⟨h1,h3,h4⟩⟩
     ·exact ⟨([],[]),fun h=>absurd h hi⟩
    obtain ⟨f,hf⟩:=Classical.axiomOfChoice hi
    obtain ⟨b,o,sp⟩:=a
    have hsp:0<len->sp=none:=by
     intro h0
     obtain ⟨_,h2,h3⟩:=World.cells?_some (hf 0 h0).1
     have h3:=h3 0 hz
     rw [List.getElem?_eq_getElem (by omega),Nat.zero_mul] at h3
     simp only [Addr.add,if_true] at h3
     unfold World.cell? at h3
     split at h3
     ·cases sp with
      | none=>rfl
      | some _=>simp at h3
     ·cases h3
    have hc:∀ i,i<len->∀ j,j<P.cellsOf e->cellAt w b (o+i*P.cellsOf e+j)=(f i).2[j]? :=by
     intro i hi j hj
     obtain ⟨_,h2,h3⟩:=World.cells?_some (hf i hi).1
     have:=h3 j hj
     rw [hsp (by omega),D3,D3,cell?_eq] at this
     exact this
    refine ⟨[.isl true (P.cellsOf e) len fun i=>(f i).1],.one rfl (.isl _ _ _ b o cap (fun i j=>(f i).2.getD j default) ?_ hlc sp hsp ?_ ?_ ?_),.inr ⟨len,_,rfl,hlB,fun i hi=>(hf i hi).2.2⟩⟩
    ·intro h0
     refine hF b ?_
     have:=hc 0 h0 0 hz
     obtain ⟨_,h2,_⟩:=World.cells?_some (hf 0 h0).1
     rw [List.getElem?_eq_getElem (by omega)] at this
     unfold cellAt at this
     split at this
     ·rename_i hb; exact (Array.getElem?_eq_some_iff.1 hb).1
     ·cases this
    ·intro i hi
     obtain ⟨_,h2,_⟩:=World.cells?_some (hf i hi).1
     have:=(hf i hi).2.1.1
     omega
    ·intro i hi j hj
     obtain ⟨_,h2,_⟩:=World.cells?_some (hf i hi).1
     have h1:=(hf i hi).2.1.1
     have hj':j<(f i).2.length:=by omega
     have h3:=(hf i hi).2.1.2 j (by omega) hj'
     rw [hc i hi j hj,List.getElem?_eq_getElem hj']
     simp only [List.getD_eq_getElem?_getD,List.getElem?_eq_getElem hj',Option.getD_some]
     exact ⟨trivial,h3.1⟩
    ·intro i hi j hj
     have h1:=(hf i hi).2.1.1
     have hj':j<(f i).2.length:=by omega
     have h3:=(hf i hi).2.1.2 j hj hj'
     simp only [List.getD_eq_getElem?_getD,List.getElem?_eq_getElem hj',Option.getD_some]
     exact h3.2
  ·rename_i fs hu
   try simp only [hu]
   obtain ⟨xs,m,hm,hx,hl,hxl,hf⟩:=DataW.trod_struct hu h
   obtain rfl:n=m:=by omega
   rw [hx] at hB
   obtain ⟨vs,h1,h2⟩:=On (T:=B6 P B n) (ok:=ok) (Q:=fun d=>bulk d<=B) hl (fun t' cs' x' q a b=>FR ok hok hF hone hsl hag n t' cs' x' q a b) fs.toList 0 xs (fun y hy=>Nat.le_trans ((hag _).2 y.1 (List.mem_map_of_mem hy)) hB) hk (by simpa using hxl) (fun i f hf'=>hf i f (by simpa using hf'))
   exact ⟨vs,by simpa using h1,h2⟩
  ·cases hk
variable (ok:Go.TypeId->Bool)(hok:∀ t,ok t=true->okL P ok t=true)(hF:∀ b,b<w.heap.size->F b)
  (hone:∀ d:DataW H,1<=bulk d) (hsl:∀ (es sp:List (DataW H)),(∀ k,(∀ e∈es,k<=bulk e)->es.length*k<=bulk (.slice es sp))/\∀ e∈es,bulk e<=bulk (.slice es sp)) (hag:∀ (ps:List (DataW H)),ps.length+1<=bulk (.agg ps)/\∀ e∈ps,bulk e<=bulk (.agg ps))
include hok hF hone hsl hag
theorem arg_structB {r:Reach}{b0:Nat}{t:Go.TypeId}{fs:Array Field}{v:Value}{d:DataW H}{ps:List MemPlace}(hu:P.underlying t=some (.struct fs))(hval:Value.okWide P w r b0 t v)(hk:ok t=true)(hd:DataW.Trod enc P w 0 spare held t v d ps)(hB:bulk d<=B):
  ∃ vs,PR F w (.agg vs) v/\∃ n,B6 P B n t vs:=by
 obtain ⟨cs,rfl,_⟩:=Go.WideShapes.okWide_struct hu hval
 obtain ⟨fuel,hf⟩:=hd
 obtain ⟨vs,⟨h1,h2⟩,h3⟩:=FR ok hok hF hone hsl hag fuel t _ _ hB hk hf
 refine ⟨vs,.agg vs cs (by simpa [Value.cells] using h1) (fun i h=>?_) (fun i a b=>?_),_,h3⟩
 ·have:=(h2 i (by rw [h1]; simpa [Value.cells] using h) (by simpa [Value.cells] using h)).1
  simpa [Value.cells] using this
 ·have:=(h2 i a (by simpa [Value.cells] using b)).2
  simpa [Value.cells] using this
theorem arg_sliceB {r:Reach}{b0:Nat}{t e:Go.TypeId}{v:Value}{d:DataW H}{ps:List MemPlace}(hu:P.underlying t=some (.slice e))(hval:Value.okWide P w r b0 t v)(hk:ok t=true)(hd:DataW.Trod enc P w 0 spare held t v d ps)(hB:bulk d<=B):
  ∃ x,PR F w x v/\∃ n,B6 P B n t [x]:=by
 obtain ⟨a,len,cap,rfl⟩:=Go.WideShapes.okWide_slice hu hval
 obtain ⟨fuel,hf⟩:=hd
 obtain ⟨vs,⟨h1,h2⟩,h3⟩:=FR ok hok hF hone hsl hag fuel t _ _ hB hk hf
 have h1':vs.length=1:=by simpa [Value.cells] using h1
 match vs,h1',h2,h3 with
 | [x],_,h2,h3=>exact ⟨x,by simpa [Value.cells] using (h2 0 (by simp) (by simp [Value.cells])).2,_,h3⟩
end
end Go.Ev
namespace Go.Ev
open Go.Proofs.Tryz (prog)
set_option maxRecDepth 100000
set_option maxHeartbeats 0
def Rr (P:Program)(t:Go.TypeId):Option (List Go.TypeId):=match P.underlying t with | some (.struct fs)=>some (fs.toList.map (·.type)) | _=>none
def Pf (T:Go.TypeId->List EV->Prop):List Go.TypeId->List EV->Prop
 | [],vs=>vs=[]
 | t :: ts,vs=>∃ a b,vs=a++b/\T t a/\Pf T ts b
theorem NM {T:Go.TypeId->List EV->Prop}:∀ (fs:List Field) (vs:List EV),MV T fs vs->Pf T (fs.map (·.type)) vs
 | [],_,h=>h
 | f :: fs,vs,h=>by
  obtain ⟨a,b,h1,h2,h3⟩:=h
  exact ⟨a,b,h1,h2,NM fs b h3⟩
theorem G8 {P:Program}{B n:Nat}{t:Go.TypeId}{ts:List Go.TypeId}{vs:List EV}(hu:Rr P t=some ts)(h:B6 P B n t vs):∃ k,n=k+1/\Pf (B6 P B k) ts vs:=by
 unfold Rr at hu
 split at hu
 ·rename_i fs hfs
  obtain rfl:=Option.some.inj hu
  cases n with
  | zero=>exact h.elim
  | succ n=>
   unfold B6 at h
   rw [hfs] at h
   exact ⟨n,rfl,NM _ _ h⟩
 ·cases hu
theorem HN {P:Program}{B n:Nat}{t e:Go.TypeId}{vs:List EV}(hu:P.underlying t=some (.slice e))(h:B6 P B n t vs):
  ∃ k,n=k+1/\(vs=[.isl false (P.cellsOf e) 0 fun _=>[]]∨∃ len row,vs=[.isl true (P.cellsOf e) len row]/\len*wT P e<=B/\∀ i,i<len->B6 P B k e (row i)):=by
 cases n with
 | zero=>exact h.elim
 | succ n=>unfold B6 at h; rw [hu] at h; exact ⟨n,rfl,h⟩
section
variable {B n:Nat}{vs:List EV}
theorem DE (h:B6 prog B n 3 vs):∃ i,vs=[.int .i64 i]:=by
 cases n with
 | zero=>exact h.elim
 | succ n=>unfold B6 at h; rw [show prog.underlying 3=some (.int .i64) by kernel_rfl] at h; exact h
theorem Rs (h:B6 prog B n 4 vs):∃ b,vs=[.bool b]:=by
 cases n with
 | zero=>exact h.elim
 | succ n=>unfold B6 at h; rw [show prog.underlying 4=some .bool by kernel_rfl] at h; exact h
theorem VD (h:B6 prog B n 9 vs):∃ s,vs=[.str s]:=by
 cases n with
 | zero=>exact h.elim
 | succ n=>unfold B6 at h; rw [show prog.underlying 9=some .string by kernel_rfl] at h; exact h
theorem Xu (h:B6 prog B n 50 vs):∃ a b c d,vs=[.int .i64 a,.int .i64 b,.int .i64 c,.int .i64 d]:=by
 obtain ⟨k,_,h⟩:=G8 (ts:=[3,3,3,3]) (by kernel_rfl) h
 obtain ⟨a1,b1,rfl,h1,a2,b2,rfl,h2,a3,b3,rfl,h3,a4,b4,rfl,h4,rfl⟩:=h
 obtain ⟨i1,rfl⟩:=DE h1
 obtain ⟨i2,rfl⟩:=DE h2
 obtain ⟨i3,rfl⟩:=DE h3
 obtain ⟨i4,rfl⟩:=DE h4
 exact ⟨i1,i2,i3,i4,rfl⟩
theorem yB (h:B6 prog B n 78 vs):∃ r:ResD,vs=r.cells:=by
 obtain ⟨k,_,h⟩:=G8 (ts:=[50,3,3,3,3,3,3,3,4,4]) (by kernel_rfl) h
 obtain ⟨a1,b1,rfl,h1,a2,b2,rfl,h2,a3,b3,rfl,h3,a4,b4,rfl,h4,a5,b5,rfl,h5,a6,b6,rfl,h6,a7,b7,rfl,h7,a8,b8,rfl,h8,a9,b9,rfl,h9,a10,b10,rfl,h10,rfl⟩:=h
 obtain ⟨j1,j2,j3,j4,rfl⟩:=Xu h1
 obtain ⟨i2,rfl⟩:=DE h2
 obtain ⟨i3,rfl⟩:=DE h3
 obtain ⟨i4,rfl⟩:=DE h4
 obtain ⟨i5,rfl⟩:=DE h5
 obtain ⟨i6,rfl⟩:=DE h6
 obtain ⟨i7,rfl⟩:=DE h7
 obtain ⟨i8,rfl⟩:=DE h8
 obtain ⟨i9,rfl⟩:=Rs h9
 obtain ⟨i10,rfl⟩:=Rs h10
 exact ⟨⟨j1,j2,j3,j4,i2,i3,i4,i5,i6,i7,i8,i9,i10⟩,rfl⟩
theorem Xv (h:B6 prog B n 134 vs):∃ z:ZoneD,vs=z.cells:=by
 obtain ⟨k,_,h⟩:=G8 (ts:=[9,3,3]) (by kernel_rfl) h
 obtain ⟨a1,b1,rfl,h1,a2,b2,rfl,h2,a3,b3,rfl,h3,rfl⟩:=h
 obtain ⟨i1,rfl⟩:=VD h1
 obtain ⟨i2,rfl⟩:=DE h2
 obtain ⟨i3,rfl⟩:=DE h3
 exact ⟨⟨i1,i2,i3⟩,rfl⟩
end
theorem KC {X:Type}[Inhabited X]{B k e esz:Nat}{cells:X->List EV}{vs:List EV}{Q:X->Prop}(hc:prog.cellsOf e=esz)(hX:∀ v,B6 prog B k e v->∃ x,v=cells x/\Q x)
  (h:vs=[.isl false (prog.cellsOf e) 0 fun _=>[]]∨∃ len row,vs=[.isl true (prog.cellsOf e) len row]/\len*wT prog e<=B/\∀ i,i<len->B6 prog B k e (row i)):
  ∃ nn len row,vs=[.isl nn esz len row]/\(nn=true∨len=0)/\len*wT prog e<=B/\∃ xs:Nat->X,∀ i,i<len->row i=cells (xs i)/\Q (xs i):=by
 subst hc
 rcases h with rfl | ⟨len,row,rfl,hl,hr⟩
 ·exact ⟨false,0,_,rfl,.inr rfl,by simp,fun _=>default,fun i hi=>by omega⟩
 ·have hx:∀ i,∃ x:X,i<len->row i=cells x/\Q x:=fun i=>by
   by_cases hi:i<len
   ·obtain ⟨x,h1,h2⟩:=hX _ (hr i hi)
    exact ⟨x,fun _=>⟨h1,h2⟩⟩
   ·exact ⟨default,fun h=>absurd h hi⟩
  obtain ⟨xs,hxs⟩:=Classical.axiomOfChoice hx
  exact ⟨true,len,row,rfl,.inl rfl,hl,xs,hxs⟩
theorem TreeC.mono:∀ {k:Nat} {c:CondV},TreeC k c->TreeC (k+1) c
 | 0,c,h=>h.elim
 | k+1,c,h=>by
  obtain ⟨h1,ps,h2⟩:=h
  exact ⟨h1,ps,fun i hi=>⟨(h2 i hi).1,(h2 i hi).2.mono⟩⟩
theorem TreeS.mono:∀ {k:Nat} {s:StepV},TreeS k s->TreeS (k+1) s
 | 0,c,h=>h.elim
 | k+1,c,h=>by
  obtain ⟨h1,h2,h3,⟨p1,h4⟩,⟨p2,h5⟩⟩:=h
  exact ⟨h1.mono,h2,h3,⟨p1,fun i hi=>⟨(h4 i hi).1,(h4 i hi).2.mono⟩⟩,⟨p2,fun i hi=>⟨(h5 i hi).1,(h5 i hi).2.mono⟩⟩⟩
theorem ADS:wT prog 139=5:=by kernel_rfl
theorem ACc:wT prog 141=6:=by kernel_rfl
theorem ADT:wT prog 134=4:=by kernel_rfl
theorem w3:wT prog 3=1:=by kernel_rfl
theorem w78:wT prog 78=11:=by kernel_rfl
theorem Rt:∀ (n:Nat) (vs:List EV),B6 prog 1048576 n 139 vs->∃ c:CondV,vs=c.cells/\TreeC n c
 | 0,_,h=>h.elim
 | n+1,vs,h=>by
  obtain ⟨k,hk,h⟩:=G8 (ts:=[3,3,3,137]) (by kernel_rfl) h
  obtain rfl:n=k:=by omega
  obtain ⟨a1,b1,rfl,h1,a2,b2,rfl,h2,a3,b3,rfl,h3,a4,b4,rfl,h4,rfl⟩:=h
  obtain ⟨i1,rfl⟩:=DE h1
  obtain ⟨i2,rfl⟩:=DE h2
  obtain ⟨i3,rfl⟩:=DE h3
  obtain ⟨j,rfl,h4⟩:=HN (e:=139) (by kernel_rfl) h4
  obtain ⟨nn,len,row,rfl,_,hl,ps,hps⟩:=KC (esz:=4) (by kernel_rfl) (Rt j) h4
  rw [ADS] at hl
  exact ⟨⟨i1,i2,i3,nn,len,row⟩,rfl,by show len<=1048576; omega,ps,fun i hi=>⟨(hps i hi).1,(hps i hi).2.mono⟩⟩
theorem Pg:∀ (n:Nat) (vs:List EV),B6 prog 1048576 n 141 vs->∃ s:StepV,vs=s.cells/\TreeS n s
 | 0,_,h=>h.elim
 | n+1,vs,h=>by
  obtain ⟨k,hk,h⟩:=G8 (ts:=[3,3,139,24,24]) (by kernel_rfl) h
  obtain rfl:n=k:=by omega
  obtain ⟨a1,b1,rfl,h1,a2,b2,rfl,h2,a3,b3,rfl,h3,a4,b4,rfl,h4,a5,b5,rfl,h5,rfl⟩:=h
  obtain ⟨i1,rfl⟩:=DE h1
  obtain ⟨i2,rfl⟩:=DE h2
  obtain ⟨c,rfl,hc⟩:=Rt n _ h3
  obtain ⟨j,rfl,h4⟩:=HN (e:=141) (by kernel_rfl) h4
  obtain ⟨j',hj',h5⟩:=HN (e:=141) (by kernel_rfl) h5
  obtain rfl:j=j':=by omega
  obtain ⟨n1,l1,r1,rfl,_,hl1,ps,hps⟩:=KC (esz:=8) (by kernel_rfl) (Pg j) h4
  obtain ⟨n2,l2,r2,rfl,_,hl2,qs,hqs⟩:=KC (esz:=8) (by kernel_rfl) (Pg j) h5
  rw [ACc] at hl1 hl2
  exact ⟨⟨i1,i2,c,n1,l1,r1,n2,l2,r2⟩,rfl,hc.mono,by show l1<=500000; omega,by show l2<=500000; omega,⟨ps,fun i hi=>⟨(hps i hi).1,(hps i hi).2.mono⟩⟩,⟨qs,fun i hi=>⟨(hqs i hi).1,(hqs i hi).2.mono⟩⟩⟩
theorem tb_rules {n:Nat}{vs:List EV}(h:B6 prog 1048576 n 27 vs):∃ (R:RulesV) (k:Nat),PLe (.agg vs) (.agg R.cells)/\R.Tree k:=by
 obtain ⟨k,_,h⟩:=G8 (ts:=[9,3,3,3,24,25]) (by kernel_rfl) h
 obtain ⟨a1,b1,rfl,h1,a2,b2,rfl,h2,a3,b3,rfl,h3,a4,b4,rfl,h4,a5,b5,rfl,h5,a6,b6,rfl,h6,rfl⟩:=h
 obtain ⟨i1,rfl⟩:=VD h1
 obtain ⟨i2,rfl⟩:=DE h2
 obtain ⟨i3,rfl⟩:=DE h3
 obtain ⟨i4,rfl⟩:=DE h4
 obtain ⟨j,rfl,h5⟩:=HN (e:=141) (by kernel_rfl) h5
 obtain ⟨j',_,h6⟩:=HN (e:=134) (by kernel_rfl) h6
 obtain ⟨n1,l1,r1,rfl,_,hl1,ps,hps⟩:=KC (esz:=8) (by kernel_rfl) (Pg j) h5
 obtain ⟨n2,l2,r2,rfl,_,hl2,zs,hzs⟩:=KC (esz:=3) (Q:=fun _:ZoneD=>True) (cells:=ZoneD.cells) (by kernel_rfl) (fun v hv=>by obtain ⟨z,hz⟩:=Xv hv; exact ⟨z,hz,trivial⟩) h6
 rw [ACc] at hl1
 rw [ADT] at hl2
 refine ⟨⟨i1,i2,i3,i4,n1,l1,r1,n2,l2,zs⟩,j,?_,by show l1<=1048576; omega,by show l2<=1048576; omega,ps,hps⟩
 exact (BLs.agg (.cons (BLe.refl _) (.cons (BLe.refl _) (.cons (BLe.refl _) (.cons (BLe.refl _) (.cons (BLe.refl _) (.cons (BLe.isl fun i hi=>(hzs i hi).1) .nil))))))).p
theorem tb_nums {n:Nat}{x:EV}(h:B6 prog 1048576 n 23 [x]):∃ nn len w,PLe x (nums nn len w)/\(nn=true∨len=0)/\len<=1048576:=by
 obtain ⟨j,_,h⟩:=HN (e:=3) (by kernel_rfl) h
 obtain ⟨nn,len,row,e,hnn,hl,w,hw⟩:=KC (esz:=1) (Q:=fun _:Int=>True) (cells:=fun i=>[.int .i64 i]) (by kernel_rfl) (fun v hv=>by obtain ⟨i,hi⟩:=DE hv; exact ⟨i,hi,trivial⟩) h
 rw [w3] at hl
 obtain rfl:x=_:=by simpa using e
 exact ⟨nn,len,w,PLe.isl fun i hi=>(hw i hi).1,hnn,by omega⟩
theorem tb_results {n:Nat}{x:EV}(h:B6 prog 1048576 n 22 [x]):∃ nn len,∃ rs:Nat->ResD,PLe x (.isl nn 13 len fun i=>(rs i).cells)/\(nn=true∨len=0)/\len<=1048576:=by
 obtain ⟨j,_,h⟩:=HN (e:=78) (by kernel_rfl) h
 obtain ⟨nn,len,row,e,hnn,hl,rs,hrs⟩:=KC (esz:=13) (Q:=fun _:ResD=>True) (cells:=ResD.cells) (by kernel_rfl) (fun v hv=>by obtain ⟨i,hi⟩:=yB hv; exact ⟨i,hi,trivial⟩) h
 rw [w78] at hl
 obtain rfl:x=_:=by simpa using e
 exact ⟨nn,len,rs,PLe.isl fun i hi=>(hrs i hi).1,hnn,by omega⟩
def okA (t:Go.TypeId):Bool:=[3,4,9,22,23,24,25,27,50,78,134,137,139,141].contains t
theorem Xw:([3,4,9,22,23,24,25,27,50,78,134,137,139,141]:List Nat).all (fun t=>okL prog okA t)=true:=by kernel_rfl
theorem okA_ok (t:Go.TypeId)(h:okA t=true):okL prog okA t=true:=List.all_eq_true.1 Xw t (by simpa [okA] using h)
end Go.Ev
namespace Go.Ev
def QT:List (Option (List EV))->Option (List EV)
 | []=>some []
 | x :: xs=>match x,QT xs with | some a,some b=>some (a++b) | _,_=>none
def dE {H:Type}:Nat->DataW H->Option (List EV)
 | 0,_=>none
 | n+1,d=>match d with
  | .lit (.int k i)=>some [.int k i]
  | .lit (.string b)=>some [.str ⟨b.toArray⟩]
  | .lit (.bool b)=>some [.bool b]
  | .agg ds=>QT (ds.map (dE n))
  | _=>none
def okD (P:Program):Nat->Go.TypeId->Bool
 | 0,_=>false
 | n+1,t=>match P.underlying t with
  | some .bool=>true
  | some (.int _)=>true
  | some .string=>true
  | some (.array m e)=>Nat.beq (P.cellsOf t) (m*P.cellsOf e) && okD P n e
  | some (.struct fs)=>Iq P (okD P n) fs.toList 0 (P.cellsOf t)
  | _=>false
section
variable {H:Type}{enc:TypeId×Value->H}{P:Program}{w:World}{base:Nat}{spare:Nat->Bool}{held:Bool}{F:Nat->Prop}
theorem QU {f m k:Nat}{e:Go.TypeId}(ih:∀ cs' x l,DataW.trod enc P w base spare held f e cs'=some x->dE m x.1=some l->CellsP F w l cs'):
  ∀ (xs:List (DataW H×List MemPlace)) (cs:List Value) (l:List EV),cs.length=xs.length*k->
   (∀ i x,xs[i]? =some x->DataW.trod enc P w base spare held f e ((cs.drop (i*k)).take k)=some x)->QT ((xs.map (·.1)).map (dE m))=some l->CellsP F w l cs
 | [],cs,l,hl,_,hd=>by
  obtain rfl:cs=[]:=List.eq_nil_of_length_eq_zero (by simpa using hl)
  simp only [List.map_nil,QT,Option.some.injEq] at hd
  subst hd
  exact ⟨rfl,fun i h=>by simp at h⟩
 | x :: xs,cs,l,hl,h,hd=>by
  simp only [List.map_cons,QT] at hd
  split at hd
  ·rename_i a b ha hb
   simp only [Option.some.injEq] at hd
   subst hd
   have h0:=h 0 x rfl
   rw [Nat.zero_mul,List.drop_zero] at h0
   have h1:=ih _ x a h0 ha
   have h2:=QU (k:=k) ih xs (cs.drop k) b (by rw [List.length_drop,hl,List.length_cons,Nat.add_mul]; omega) (fun i y hy=>by
    rw [List.drop_drop,show k+i*k=(i+1)*k from by rw [Nat.add_mul]; omega]
    exact h (i+1) y (by simpa using hy)) hb
   have:=h1.app h2
   rwa [List.take_append_drop] at this
  ·cases hd
theorem Ru {f m tot:Nat}{ok:Go.TypeId->Bool}{cs:List Value}(hl:cs.length=tot)
  (ih:∀ t cs' x l,ok t=true->DataW.trod enc P w base spare held f t cs'=some x->dE m x.1=some l->CellsP F w l cs'):
  ∀ (fs:List Field) (o:Nat) (xs:List (DataW H×List MemPlace)) (l:List EV),Iq P ok fs o tot=true->xs.length=fs.length->
   (∀ (i:Nat) (g:Field),fs[i]? =some g->DataW.trod enc P w base spare held f g.type ((cs.drop g.offset).take (P.cellsOf g.type))=xs[i]?)->
   QT ((xs.map (·.1)).map (dE m))=some l->CellsP F w l (cs.drop o)
 | [],o,xs,l,hc,hx,_,hd=>by
  have:o=tot:=Nat.eq_of_beq_eq_true hc
  obtain rfl:xs=[]:=List.eq_nil_of_length_eq_zero (by simpa using hx)
  simp only [List.map_nil,QT,Option.some.injEq] at hd
  subst hd
  exact ⟨by simp; omega,fun i h=>by simp at h⟩
 | g :: fs,o,xs,l,hc,hx,h,hd=>by
  simp only [Iq,Bool.and_eq_true] at hc
  obtain ⟨⟨ho,hk⟩,hr⟩:=hc
  have ho:g.offset=o:=Nat.eq_of_beq_eq_true ho
  match xs,hx with
  | x :: xs,hx=>
   simp only [List.map_cons,QT] at hd
   split at hd
   ·rename_i a b ha hb
    simp only [Option.some.injEq] at hd
    subst hd
    have h0:=h 0 g rfl
    have h1:=ih _ _ x a hk h0 ha
    have h2:=Ru hl ih fs (o+P.cellsOf g.type) xs b hr (by simpa using hx) (fun i y hy=>by simpa using h (i+1) y (by simpa using hy)) hb
    have:=h1.app h2
    rwa [ho,<-List.drop_drop,List.take_append_drop] at this
   ·cases hd
theorem KD:∀ (n m fuel:Nat) (t:Go.TypeId) (cs:List Value) (x:DataW H×List MemPlace) (l:List EV),okD P n t=true->
  DataW.trod enc P w base spare held fuel t cs=some x->dE m x.1=some l->CellsP F w l cs
 | 0,_,_,_,_,_,_,hk,_,_=>by cases hk
 | _,0,_,_,_,_,_,_,_,hd=>by cases hd
 | n+1,m+1,fuel,t,cs,x,l,hk,h,hd=>by
  unfold okD at hk
  split at hk
  ·rename_i hu
   obtain ⟨b,rfl,rfl⟩:=DataW.trod_bool hu h
   simp only [dE,Option.some.injEq] at hd
   subst hd
   exact .one rfl (.bool b)
  ·rename_i k hu
   obtain ⟨i,rfl,rfl,_⟩:=DataW.trod_int hu h
   simp only [dE,Option.some.injEq] at hd
   subst hd
   exact .one rfl (.int k i)
  ·rename_i hu
   obtain ⟨s,rfl,rfl,_⟩:=DataW.trod_string hu h
   simp only [dE,Option.some.injEq] at hd
   subst hd
   exact .one rfl (.str s)
  ·rename_i z e hu
   simp only [Bool.and_eq_true] at hk
   obtain ⟨xs,f,rfl,rfl,hl,hx,hf⟩:=DataW.trod_array hu h
   have hz:=Nat.eq_of_beq_eq_true hk.1
   exact QU (k:=P.cellsOf e) (fun cs' x' l' a b=>KD n m f e cs' x' l' hk.2 a b) xs cs l (by rw [hl,hz,hx]) (fun i y hy=>by
    have hi:i<xs.length:=(List.getElem?_eq_some_iff.1 hy).1
    rw [hf i (by omega),hy]) hd
  ·rename_i fs hu
   obtain ⟨xs,f,rfl,rfl,hl,hx,hf⟩:=DataW.trod_struct hu h
   have:=Ru (ok:=okD P n) hl (fun t' cs' x' l' a b c=>KD n m f t' cs' x' l' a b c) fs.toList 0 xs l hk (by simpa using hx) (fun i g hg=>hf i g (by simpa using hg)) hd
   simpa using this
  ·cases hk
end
theorem QV {P:Program}{w:World}:∀ {laid:List (String×DataW Unit)} {ps:List MemPlace},DataW.LaidVars P w laid ps->∀ x∈laid,
  ∃ g t cs fuel p,P.globalNamed x.1=some g/\(P.globals[g]?).map (·.type)=some t/\w.var? P x.1=some cs/\DataW.trod (fun _=>()) P w 0 (fun _=>true) false fuel t cs.toList=some (x.2,p)
 | [],_,_=>fun x hx=>by cases hx
 | (n,d) :: r,ps,h=>by
  obtain ⟨g,t,cs,fuel,p,q,h1,h2,h3,h4,h5,_⟩:=h
  intro x hx
  rcases List.mem_cons.1 hx with rfl | hx
  ·exact ⟨g,t,cs,fuel,p,h1,h2,h3,h4⟩
  ·exact QV h5 x hx
theorem laid_gok {P:Program}{w:World}{laid:List (String×DataW Unit)}{F:Nat->Prop}(hF:∀ b,b<w.heap.size->F b)(h:laidMet P laid w){n:String}{d:DataW Unit}(hx:(n,d)∈laid){g:Nat}{t:Go.TypeId}{l:List EV}{k:Nat}
  (hg:P.globalNamed n=some g) (ht:(P.globals[g]?).map (·.type)=some t) (hk:okD P k t=true) (hd:dE k d=some l) (hne:l≠[]):
  F g/\l≠[]/\∃ mv:Nat->Value,∀ j (h:j<l.length),cellAt w g j=some (mv j)/\(mv j).oneCell'=true/\PR F w l[j] (mv j):=by
 obtain ⟨ps,hv,_⟩:=h
 obtain ⟨g',t',cs,fuel,p,h1,h2,h3,h4⟩:=QV hv _ hx
 obtain rfl:g=g':=Option.some.inj (hg.symm.trans h1)
 obtain rfl:t=t':=Option.some.inj (ht.symm.trans h2)
 obtain ⟨c1,c2⟩:=KD (F:=F) k k fuel t _ _ l hk h4 hd
 have hc:∀ j,cellAt w g j=cs[j]? :=fun j=>by rw [<-cell?_eq]; exact World.var?_cell h1 h3 j
 have hl:0<l.length:=Nat.pos_of_ne_zero fun e=>hne (List.eq_nil_of_length_eq_zero e)
 refine ⟨hF g ?_,hne,fun j=>cs.toList.getD j default,fun j hj=>?_⟩
 ·have:=hc 0
  have h0:0<cs.size:=by rw [<-Array.length_toList,<-c1]; exact hl
  rw [Array.getElem?_eq_getElem h0] at this
  unfold cellAt at this
  split at this
  ·rename_i hb; exact (Array.getElem?_eq_some_iff.1 hb).1
  ·cases this
 ·have hj':j<cs.toList.length:=by omega
  have hj2:j<cs.size:=by simpa using hj'
  have:=c2 j hj hj'
  have e:cs.toList.getD j default=cs.toList[j]:=by rw [List.getD_eq_getElem?_getD,List.getElem?_eq_getElem hj',Option.getD_some]
  show cellAt w g j=some (cs.toList.getD j default)/\_
  rw [e,hc j,Array.getElem?_eq_getElem hj2]
  refine ⟨by simp,?_⟩
  show (cs.toList.getD j default).oneCell'=true/\PR F w l[j] (cs.toList.getD j default)
  rw [e]
  exact this
end Go.Ev
