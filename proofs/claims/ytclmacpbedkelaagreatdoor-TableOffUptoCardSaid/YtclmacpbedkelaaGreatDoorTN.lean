/- A part of the proof. -/
import Derived.Test.YtclmacpbedkelaaGreatDoorTD
import Derived.Test.YtclmacpbedkelaaGreatDoorTH
import Derived.Test.YtclmacpbedkelaaGreatDoorTG
import Derived.Test.YtclmacpbedkelaaGreatDoorTM
set_option linter.unusedSimpArgs false
set_option linter.unusedVariables false
set_option linter.unusedSectionVars false
namespace Go.Ev
open Go.Proofs.Tryz (prog)
set_option maxRecDepth 100000
set_option maxHeartbeats 0
theorem sane_ok:sP 7 [] (EV.bool true):=Xt.1
abbrev AHE (pts:Int):Int:=IntKind.i64.wrap (↑(BitVec.ofInt 64 pts &&& BitVec.ofInt 64 127).toNat:Int)
abbrev AHH (wh:Int)(m2:Nat):Int:=(IntKind.i64.wrap (↑(BitVec.ofInt 64 wh &&& BitVec.ofInt 64 1023).toNat:Int)).tmod (↑m2:Int)
abbrev ADz (m2:Nat)(o:Nat->Int)(wh pts:Int):EV:=EV.isl true 1 (0+m2) fun (i:Nat)=>A4 (AU 0 (fun (i:Nat)=>[]) fun (i:Nat)=>[EV.int IntKind.i64 (o i)]) (0+(AHH wh m2).toNat) [EV.int IntKind.i64 (IntKind.i64.wrap (o (0+(AHH wh m2).toNat - 0)+AHE pts))] (0+i)
theorem AD0 (x:Int)(n:Nat)(hn:n<18446744073709551616):(BitVec.ofInt 64 x &&& BitVec.ofInt 64 (n:Int)).toNat<=n:=by
 rw [BitVec.toNat_and]
 refine Nat.le_trans Nat.and_le_right ?_
 rw [BitVec.toNat_ofInt]
 omega
theorem AD3 {n:Nat}(h:n<=9223372036854775807):IntKind.i64.wrap (n:Int)=n:=KT (by rw [Ke]; simp; omega)
theorem AHI (pts:Int):0<=AHE pts/\AHE pts<=127:=by
 have h:=AD0 pts 127 (by decide)
 unfold AHE
 rw [show ((127:Nat):Int)=127 from rfl] at h
 rw [AD3 (by omega)]
 omega
theorem AD4 (wh:Int){m2:Nat}(h:0<m2):0<=AHH wh m2/\AHH wh m2<m2:=by
 have hk:=AD0 wh 1023 (by decide)
 unfold AHH
 rw [show ((1023:Nat):Int)=1023 from rfl] at hk
 rw [AD3 (by omega)]
 exact ⟨Int.tmod_nonneg _ (by omega),Int.tmod_lt_of_pos _ (by omega)⟩
noncomputable abbrev ADr:=cB (cR (cL (cR (cR (cR (cR (cR (cR (cR (cR (cR (AB prog 5))))))))))))
noncomputable abbrev ADs:=cB (cB (cR (cL (cR (cR (cB (cL (cR (cR (cB (ADr)))))))))))
section
variable (n1:Bool)(m:Nat)(w:Nat->Int)(pts:Int)(kx:Int)(t:TableD)(u:TableD)(p:PlaceD)(i:Int)(met:Bool)(j:Int)(h0:0<=j)(h4:u.len<=100000)(hk:0<=kx)(hkm:kx<m)(hm:m<=100000)(hd:0<=AHE pts/\AHE pts<=127)
include n1 m w pts kx t u p i met j h0 h4 hk hkm hm hd
theorem AEM (q0:H4 j u)(q1:((u.ps j.toNat).row.club != p.row.club)=true):sR 6 (ADs) (frame 150 [(1,nums n1 m w),(7,.int .i64 pts),(17,.int .i64 kx),(19,.ptr 3 0),(21,.ptr 4 0),(24,.ptr 5 0),(25,.bool met),(94,sl t.nn 14 t.len fun i=>(t.ps i).cells),(95,.int .i64 t.len),(96,.int .i64 i),(101,sl u.nn 14 u.len fun i=>(u.ps i).cells),(102,.int .i64 u.len),(103,.int .i64 j)]) ([oD,oD,oD,Gr t,Gr u,ov p.cells]) (xN,(frame 150 [(1,sl n1 1 m fun i=>[iv (w i)]),(7,iv pts),(17,iv kx),(19,pt 3 0),(21,pt 4 0),(24,pt 5 0),(25,bv met),(94,sl t.nn 14 t.len fun i=>(t.ps i).cells),(95,iv ↑t.len),(96,iv i),(101,sl u.nn 14 u.len fun i=>(u.ps i).cells),(102,iv ↑u.len),(103,iv (j+1))]),[oD,oD,oD,Gr t,Gr u,ov p.cells]):=
 kR [[(H5 j u),((Ac u j).row.club != p.row.club,true)]] (.mk (dS 68122) [] [] [] []) (kO (kz q0 (kz q1 AD))) (oI ((inR IntKind.i64 (j+1))=true) (oJ ((inB j u.len)=true) .nil)) 17885757687595174211742599872642 56 [0,1,2,3,4,5] 6
theorem AEN (q0:H4 j u)(q1:((u.ps j.toNat).row.club != p.row.club)=false)(q2:((u.ps j.toNat).row.club==w kx.toNat)=true):sR 6 (ADs) (frame 150 [(1,nums n1 m w),(7,.int .i64 pts),(17,.int .i64 kx),(19,.ptr 3 0),(21,.ptr 4 0),(24,.ptr 5 0),(25,.bool met),(94,sl t.nn 14 t.len fun i=>(t.ps i).cells),(95,.int .i64 t.len),(96,.int .i64 i),(101,sl u.nn 14 u.len fun i=>(u.ps i).cells),(102,.int .i64 u.len),(103,.int .i64 j)]) ([oD,oD,oD,Gr t,Gr u,ov p.cells]) (xN,(frame 150 [(1,sl n1 1 m fun i=>[iv (w i)]),(7,iv pts),(17,iv kx),(19,pt 3 0),(21,pt 4 0),(24,pt 5 0),(25,bv ((Ac u j).row.club==p.row.club && ((Ac u j).row.played==p.row.played && ((Ac u j).row.won==p.row.won && ((Ac u j).row.drawn==p.row.drawn && ((Ac u j).row.lost==p.row.lost && ((Ac u j).row.for'==p.row.for' && ((Ac u j).row.against==p.row.against && ((Ac u j).row.awayFor==p.row.awayFor && ((Ac u j).row.awayWon==p.row.awayWon && ((Ac u j).row.cards==p.row.cards && (IntKind.i64.wrap ((Ac u j).row.points+IntKind.i64.wrap (↑(BitVec.ofInt 64 pts &&& BitVec.ofInt 64 127).toNat:Int))==p.row.points && true)))))))))))),(94,sl t.nn 14 t.len fun i=>(t.ps i).cells),(95,iv ↑t.len),(96,iv i),(101,sl u.nn 14 u.len fun i=>(u.ps i).cells),(102,iv ↑u.len),(103,iv (j+1))]),[oD,oD,oD,Gr t,Gr u,ov p.cells]):=
 kR [[(H5 j u),((Ac u j).row.club != p.row.club,false),((Ac u j).row.club==w kx.toNat,true)]] (.mk (dS 0x10a1aaaaaaaaa2ca) [] [] [] []) (kO (kz q0 (kz q1 (kz q2 AD)))) (oI ((inR IntKind.i64 (j+1))=true) (oI ((DQ kx m)=true) (oI ((DQ kx m)=true) (oI ((DQ kx m)=true) (oJ ((inB kx m)=true) (oI ((DQ kx m)=true) (oI ((DQ kx m)=true) (oI ((DQ kx m)=true) (oI ((DQ kx m)=true) (oI ((DQ kx m)=true) (oJ ((inB j u.len)=true) .nil))))))))))) 17885757687595174211742599872642 56 [0,1,2,3,4,5] 6
theorem AEO (q0:H4 j u)(q1:((u.ps j.toNat).row.club != p.row.club)=false)(q2:((u.ps j.toNat).row.club==w kx.toNat)=false):sR 6 (ADs) (frame 150 [(1,nums n1 m w),(7,.int .i64 pts),(17,.int .i64 kx),(19,.ptr 3 0),(21,.ptr 4 0),(24,.ptr 5 0),(25,.bool met),(94,sl t.nn 14 t.len fun i=>(t.ps i).cells),(95,.int .i64 t.len),(96,.int .i64 i),(101,sl u.nn 14 u.len fun i=>(u.ps i).cells),(102,.int .i64 u.len),(103,.int .i64 j)]) ([oD,oD,oD,Gr t,Gr u,ov p.cells]) (xN,(frame 150 [(1,sl n1 1 m fun i=>[iv (w i)]),(7,iv pts),(17,iv kx),(19,pt 3 0),(21,pt 4 0),(24,pt 5 0),(25,bv ((Ac u j).row.club==p.row.club && ((Ac u j).row.played==p.row.played && ((Ac u j).row.won==p.row.won && ((Ac u j).row.drawn==p.row.drawn && ((Ac u j).row.lost==p.row.lost && ((Ac u j).row.for'==p.row.for' && ((Ac u j).row.against==p.row.against && ((Ac u j).row.awayFor==p.row.awayFor && ((Ac u j).row.awayWon==p.row.awayWon && ((Ac u j).row.cards==p.row.cards && ((Ac u j).row.points==p.row.points && true)))))))))))),(94,sl t.nn 14 t.len fun i=>(t.ps i).cells),(95,iv ↑t.len),(96,iv i),(101,sl u.nn 14 u.len fun i=>(u.ps i).cells),(102,iv ↑u.len),(103,iv (j+1))]),[oD,oD,oD,Gr t,Gr u,ov p.cells]):=
 kR [[(H5 j u),((Ac u j).row.club != p.row.club,false),((Ac u j).row.club==w kx.toNat,false)]] (.mk (dS 74901664115108394) [] [] [] []) (kO (kz q0 (kz q1 (kz q2 AD)))) (oI ((inR IntKind.i64 (j+1))=true) (oI ((DQ kx m)=true) (oI ((DQ kx m)=true) (oI ((DQ kx m)=true) (oJ ((inB kx m)=true) (oI ((DQ kx m)=true) (oI ((DQ kx m)=true) (oI ((DQ kx m)=true) (oI ((DQ kx m)=true) (oI ((DQ kx m)=true) (oJ ((inB j u.len)=true) .nil))))))))))) 17885757687595174211742599872642 56 [0,1,2,3,4,5] 6
theorem AEP (q0:(decide (j<↑u.len))=false):sR 6 (ADs) (frame 150 [(1,nums n1 m w),(7,.int .i64 pts),(17,.int .i64 kx),(19,.ptr 3 0),(21,.ptr 4 0),(24,.ptr 5 0),(25,.bool met),(94,sl t.nn 14 t.len fun i=>(t.ps i).cells),(95,.int .i64 t.len),(96,.int .i64 i),(101,sl u.nn 14 u.len fun i=>(u.ps i).cells),(102,.int .i64 u.len),(103,.int .i64 j)]) ([oD,oD,oD,Gr t,Gr u,ov p.cells]) (xL 2,(frame 150 [(1,sl n1 1 m fun i=>[iv (w i)]),(7,iv pts),(17,iv kx),(19,pt 3 0),(21,pt 4 0),(24,pt 5 0),(25,bv met),(94,sl t.nn 14 t.len fun i=>(t.ps i).cells),(95,iv ↑t.len),(96,iv i)]),[oD,oD,oD,Gr t,Gr u,ov p.cells]):=
 kR [[(decide (j<↑u.len),false)]] (.mk (dS 16) [] [] [] []) (kO (kz q0 AD)) .nil 138649284399962590788754997378 56 [0,1,2,3,4,5] 6
end
section
variable (n1:Bool)(m:Nat)(w:Nat->Int)(pts:Int)(kx:Int)(t:TableD)(u:TableD)(i:Int)(h0:0<=i)(h3:t.len<=100000)(ih:i<t.len->sL (cB (cR (cL (cR (cR (cB (cL (cR (cR (cB (cB (cR (cL (cR (cR (cR (cR (cR (cR (cR (cR (cR (AB prog 5))))))))))))))))))))))) (frame 150 [(1,nums n1 m w),(7,.int .i64 pts),(17,.int .i64 kx),(19,.ptr 3 0),(21,.ptr 4 0),(24,.ptr 5 0),(25,.bool false),(94,sl t.nn 14 t.len fun i=>(t.ps i).cells),(95,.int .i64 t.len),(96,.int .i64 i),(101,sl u.nn 14 u.len fun i=>(u.ps i).cells),(102,.int .i64 u.len),(103,.int .i64 0)]) [oD,oD,oD,ov [iv t.season,iv t.comp,sl t.nn 14 t.len fun i=>(t.ps i).cells],ov [iv u.season,iv u.comp,sl u.nn 14 u.len fun i=>(u.ps i).cells],ov (t.ps i.toNat).cells] ((xL 2,frame 150 [(1,nums n1 m w),(7,.int .i64 pts),(17,.int .i64 kx),(19,.ptr 3 0),(21,.ptr 4 0),(24,.ptr 5 0),(25,.bool true),(94,sl t.nn 14 t.len fun i=>(t.ps i).cells),(95,.int .i64 t.len),(96,.int .i64 i)],[oD,oD,oD,ov [iv t.season,iv t.comp,sl t.nn 14 t.len fun i=>(t.ps i).cells],ov [iv u.season,iv u.comp,sl u.nn 14 u.len fun i=>(u.ps i).cells],ov (t.ps i.toNat).cells]):RC))
include n1 m w pts kx t u i h0 h3 ih
theorem AEQ (q0:H4 i t):sR 5 (cB (ADr)) (frame 150 [(1,nums n1 m w),(7,.int .i64 pts),(17,.int .i64 kx),(19,.ptr 3 0),(21,.ptr 4 0),(94,sl t.nn 14 t.len fun i=>(t.ps i).cells),(95,.int .i64 t.len),(96,.int .i64 i)]) ([oD,oD,oD,Gr t,Gr u]) (xN,(frame 150 [(1,sl n1 1 m fun i=>[iv (w i)]),(7,iv pts),(17,iv kx),(19,pt 3 0),(21,pt 4 0),(94,sl t.nn 14 t.len fun i=>(t.ps i).cells),(95,iv ↑t.len),(96,iv (i+1))]),[oD,oD,oD,Gr t,Gr u]):=
 kR [[(H5 i t)]] (.mk (dS 17433006) [(15,.is 17885757687595174211742599872642 63 (xL 2,(frame 150 [(1,sl n1 1 m fun i=>[iv (w i)]),(7,iv pts),(17,iv kx),(19,pt 3 0),(21,pt 4 0),(24,pt 5 0),(25,bv true),(94,sl t.nn 14 t.len fun i=>(t.ps i).cells),(95,iv ↑t.len),(96,iv i)]),[oD,oD,oD,Gr t,Gr u,ov (Ac t i).cells]))] [] [] []) (kO (kz q0 AD)) (oI ((inR IntKind.i64 (i+1))=true) (.cons (ih (by simp_all)) (oJ ((inB i t.len)=true) .nil))) 138649284399962590788704665730 24 [0,1,2,3,4] 5
theorem AER (q0:(decide (i<↑t.len))=false):sR 5 (cB (ADr)) (frame 150 [(1,nums n1 m w),(7,.int .i64 pts),(17,.int .i64 kx),(19,.ptr 3 0),(21,.ptr 4 0),(94,sl t.nn 14 t.len fun i=>(t.ps i).cells),(95,.int .i64 t.len),(96,.int .i64 i)]) ([oD,oD,oD,Gr t,Gr u]) (xL 0,(frame 150 [(19,pt 3 0),(21,pt 4 0)]),[oD,oD,oD,Gr t,Gr u]):=
 kR [[(decide (i<↑t.len),false)]] (.mk (dS 16) [] [] [] []) (kO (kz q0 AD)) .nil 2621440 24 [0,1,2,3,4] 5
end
abbrev zL (a0:RulesV):=decide ((↑a0.zn:Int)>20)
abbrev AHD:=sP 7 [] (bv true)
section
variable (n0:Bool)(N:Nat)(rs:Nat->ResD)(n1:Bool)(m:Nat)(w:Nat->Int)(n2:Bool)(m2:Nat)(o:Nat->Int)(R:RulesV)(fin:Bool)(n3:Bool)(ln:Nat)(lw:Nat->Int)(wh:Int)(pts:Int)
include n0 N rs n1 m w n2 m2 o R fin n3 ln lw wh pts
theorem t5F (ihs:AHD)(ihf:sP 8 [AK n0 N rs,AM n1 m w,AM n2 m2 o,AM n3 ln lw,ag R.cells] (bv false)):sP 5 [AK n0 N rs,AA n1 m w,AA n2 m2 o,ag R.cells,bv fin,AA n3 ln lw,iv wh,iv pts] (bv true):=
 kP [] (.mk [] [] [some (bv true),some (bv false)] [] []) KOk.nil (.cons ihf (.cons ihs .nil))
theorem t5Z (hz:(R.zn:Int)>20)(ihs:AHD)(ihf:sP 8 [AK n0 N rs,AM n1 m w,AM n2 m2 o,AM n3 ln lw,ag R.cells] (bv true)):sP 5 [AK n0 N rs,AA n1 m w,AA n2 m2 o,ag R.cells,bv fin,AA n3 ln lw,iv wh,iv pts] (bv true):=
 kP [] (.mk (dS 275442346) [] [some (bv true),some (bv true)] [] []) KOk.nil (oI ((zL R)=true) (oI ((zL R)=true) (oI ((zL R)=true) (oI ((zL R)=true) (.cons ihf (.cons ihs .nil))))))
theorem t5N (hz:(R.zn:Int)<=20)(hm2:m2=0)(ihs:AHD)(ihf:sP 8 [AK n0 N rs,AM n1 m w,AM n2 m2 o,AM n3 ln lw,ag R.cells] (bv true)):sP 5 [AK n0 N rs,AA n1 m w,AA n2 m2 o,ag R.cells,bv fin,AA n3 ln lw,iv wh,iv pts] (bv true):=
 kP [] (.mk (dS 4408130490) [] [some (bv true),some (bv true)] [] []) KOk.nil (oI (((↑m2:Int)==0)=true) (oI ((zL R)=false) (oI ((zL R)=false) (oI ((zL R)=false) (oI ((zL R)=false) (.cons ihf (.cons ihs .nil)))))))
end
abbrev ADt (a0:Int):=tu [ag [iv 0,iv 0,AHF],iv a0]
abbrev ADu (a0:Nat):=decide ((0+a0)*8<=70368744177664) && decide (0+a0<4611686018427387904)
theorem t5A (n0:Bool)(N:Nat)(rs:Nat->ResD)(n1:Bool)(m:Nat)(w:Nat->Int)(n2:Bool)(m2:Nat)(o:Nat->Int)(R:RulesV)(fin:Bool)(n3:Bool)(ln:Nat)(lw:Nat->Int)(wh:Int)(pts:Int)(e:Int)(u:TableD)(hz:(R.zn:Int)<=20)(hm2:0<m2)(hm3:m2<=100000)(hI:inB (AHH wh m2) (0+m2)=true)(he:e≠0)(ihs:AHD)(ihf:sP 8 [AK n0 N rs,AM n1 m w,AHC m2 o,AM n3 ln lw,ag R.cells] (bv true))(iha:sP 9 [AK n0 N rs,AM n1 m w,AHC m2 o,ag R.cells,bv fin,AM n3 ln lw] (ADt e))(ihb:sP 9 [AK n0 N rs,AM n1 m w,ADz m2 o wh pts,ag R.cells,bv fin,AM n3 ln lw] (tu [u.ev,iv 0])):sP 5 [AK n0 N rs,AA n1 m w,Bm m2 o,ag R.cells,bv fin,AA n3 ln lw,iv wh,iv pts] (bv true):=
 kP [] (.mk (dS 0x106bebbbbaabacaaaa) [] [some (bv true),some (bv true),some (AHG e),some (tu [ag (JX u),iv 0])] [] []) KOk.nil (oI ((e != 0)=true) (oI ((e != 0)=true) (oI ((e != 0)=true) (.cons ihb (.cons iha (oM ((inB ((IntKind.i64.wrap (↑(BitVec.ofInt 64 wh &&& BitVec.ofInt 64 1023).toNat:Int)).tmod (↑m2:Int)) (0+m2))=true) (oM ((inB ((IntKind.i64.wrap (↑(BitVec.ofInt 64 wh &&& BitVec.ofInt 64 1023).toNat:Int)).tmod (↑m2:Int)) (0+m2))=true) (oI ((decide (0+m2<=0))=false) (oJ ((ADu m2)=true) (oJ (((↑m2:Int) != 0)=true) (oI (((↑m2:Int)==0)=false) (oI ((zL R)=false) (oI ((zL R)=false) (oI ((zL R)=false) (oI ((zL R)=false) (.cons ihf (.cons ihs .nil)))))))))))))))))
theorem t5B (n0:Bool)(N:Nat)(rs:Nat->ResD)(n1:Bool)(m:Nat)(w:Nat->Int)(n2:Bool)(m2:Nat)(o:Nat->Int)(R:RulesV)(fin:Bool)(n3:Bool)(ln:Nat)(lw:Nat->Int)(wh:Int)(pts:Int)(e:Int)(f:Int)(hz:(R.zn:Int)<=20)(hm2:0<m2)(hm3:m2<=100000)(hI:inB (AHH wh m2) (0+m2)=true)(he:e≠0)(ihs:AHD)(ihf:sP 8 [AK n0 N rs,AM n1 m w,AHC m2 o,AM n3 ln lw,ag R.cells] (bv true))(iha:sP 9 [AK n0 N rs,AM n1 m w,AHC m2 o,ag R.cells,bv fin,AM n3 ln lw] (ADt e))(ihb:sP 9 [AK n0 N rs,AM n1 m w,ADz m2 o wh pts,ag R.cells,bv fin,AM n3 ln lw] (ADt f)):sP 5 [AK n0 N rs,AA n1 m w,Bm m2 o,ag R.cells,bv fin,AA n3 ln lw,iv wh,iv pts] (bv true):=
 kP [] (.mk (dS 0x106bebbbbaabacaaaa) [] [some (bv true),some (bv true),some (AHG e),some (AHG f)] [] []) KOk.nil (oI ((e != 0)=true) (oI ((e != 0)=true) (oI ((e != 0)=true) (.cons ihb (.cons iha (oM ((inB ((IntKind.i64.wrap (↑(BitVec.ofInt 64 wh &&& BitVec.ofInt 64 1023).toNat:Int)).tmod (↑m2:Int)) (0+m2))=true) (oM ((inB ((IntKind.i64.wrap (↑(BitVec.ofInt 64 wh &&& BitVec.ofInt 64 1023).toNat:Int)).tmod (↑m2:Int)) (0+m2))=true) (oI ((decide (0+m2<=0))=false) (oJ ((ADu m2)=true) (oJ (((↑m2:Int) != 0)=true) (oI (((↑m2:Int)==0)=false) (oI ((zL R)=false) (oI ((zL R)=false) (oI ((zL R)=false) (oI ((zL R)=false) (.cons ihf (.cons ihs .nil)))))))))))))))))
theorem t5C (n0:Bool)(N:Nat)(rs:Nat->ResD)(n1:Bool)(m:Nat)(w:Nat->Int)(n2:Bool)(m2:Nat)(o:Nat->Int)(R:RulesV)(fin:Bool)(n3:Bool)(ln:Nat)(lw:Nat->Int)(wh:Int)(pts:Int)(t:TableD)(f:Int)(hz:(R.zn:Int)<=20)(hm2:0<m2)(hm3:m2<=100000)(hI:inB (AHH wh m2) (0+m2)=true)(hf:f≠0)(ihs:AHD)(ihf:sP 8 [AK n0 N rs,AM n1 m w,AHC m2 o,AM n3 ln lw,ag R.cells] (bv true))(iha:sP 9 [AK n0 N rs,AM n1 m w,AHC m2 o,ag R.cells,bv fin,AM n3 ln lw] (tu [t.ev,iv 0]))(ihb:sP 9 [AK n0 N rs,AM n1 m w,ADz m2 o wh pts,ag R.cells,bv fin,AM n3 ln lw] (ADt f)):sP 5 [AK n0 N rs,AA n1 m w,Bm m2 o,ag R.cells,bv fin,AA n3 ln lw,iv wh,iv pts] (bv true):=
 kP [] (.mk (dS 0x106bebbbbaabaca03ae) [] [some (bv true),some (bv true),some (tu [ag (JX t),iv 0]),some (AHG f)] [] []) KOk.nil (oI ((f != 0)=true) (.cons ihb (.cons iha (oM ((inB ((IntKind.i64.wrap (↑(BitVec.ofInt 64 wh &&& BitVec.ofInt 64 1023).toNat:Int)).tmod (↑m2:Int)) (0+m2))=true) (oM ((inB ((IntKind.i64.wrap (↑(BitVec.ofInt 64 wh &&& BitVec.ofInt 64 1023).toNat:Int)).tmod (↑m2:Int)) (0+m2))=true) (oI ((decide (0+m2<=0))=false) (oJ ((ADu m2)=true) (oJ (((↑m2:Int) != 0)=true) (oI (((↑m2:Int)==0)=false) (oI ((zL R)=false) (oI ((zL R)=false) (oI ((zL R)=false) (oI ((zL R)=false) (.cons ihf (.cons ihs .nil)))))))))))))))
theorem t5O (n0:Bool)(N:Nat)(rs:Nat->ResD)(n1:Bool)(m:Nat)(w:Nat->Int)(n2:Bool)(m2:Nat)(o:Nat->Int)(R:RulesV)(fin:Bool)(n3:Bool)(ln:Nat)(lw:Nat->Int)(wh:Int)(pts:Int)(t:TableD)(u:TableD)(hz:(R.zn:Int)<=20)(hm2:0<m2)(hm3:m2<=100000)(hI:inB (AHH wh m2) (0+m2)=true)(hl:t.len=u.len)(ihs:AHD)(ihf:sP 8 [AK n0 N rs,AM n1 m w,AHC m2 o,AM n3 ln lw,ag R.cells] (bv true))(iha:sP 9 [AK n0 N rs,AM n1 m w,AHC m2 o,ag R.cells,bv fin,AM n3 ln lw] (tu [t.ev,iv 0]))(ihb:sP 9 [AK n0 N rs,AM n1 m w,ADz m2 o wh pts,ag R.cells,bv fin,AM n3 ln lw] (tu [u.ev,iv 0]))(ihl:sL (ADr) (frame 150 [(1,nums n1 m w),(7,.int .i64 pts),(17,.int .i64 (AHH wh m2)),(19,.ptr 3 0),(21,.ptr 4 0),(94,sl t.nn 14 t.len fun i=>(t.ps i).cells),(95,.int .i64 t.len),(96,.int .i64 0)]) [oD,oD,oD,Gr t,Gr u] ((xL 0,frame 150 [(19,.ptr 3 0),(21,.ptr 4 0)],[oD,oD,oD,Gr t,Gr u]):RC)):sP 5 [AK n0 N rs,AA n1 m w,Bm m2 o,ag R.cells,bv fin,AA n3 ln lw,iv wh,iv pts] (bv ((↑t.len:Int)==(↑u.len:Int))):=
 kP [] (.mk (dS 73956157414881994) [(31,.is 138649284399962590788704665730 24 (xL 0,(frame 150 [(19,pt 3 0),(21,pt 4 0)]),[oD,oD,oD,Gr t,Gr u]))] [some (bv true),some (bv true),some (tu [ag (JX t),iv 0]),some (tu [ag (JX u),iv 0])] [] []) KOk.nil (.cons ihl (.cons ihb (.cons iha (oM ((inB ((IntKind.i64.wrap (↑(BitVec.ofInt 64 wh &&& BitVec.ofInt 64 1023).toNat:Int)).tmod (↑m2:Int)) (0+m2))=true) (oM ((inB ((IntKind.i64.wrap (↑(BitVec.ofInt 64 wh &&& BitVec.ofInt 64 1023).toNat:Int)).tmod (↑m2:Int)) (0+m2))=true) (oI ((decide (0+m2<=0))=false) (oJ ((ADu m2)=true) (oJ (((↑m2:Int) != 0)=true) (oI (((↑m2:Int)==0)=false) (oI ((zL R)=false) (oI ((zL R)=false) (oI ((zL R)=false) (oI ((zL R)=false) (.cons ihf (.cons ihs .nil)))))))))))))))
section
variable {kk:Nat}{n0:Bool}{n:Nat}{rs:Nat->ResD}{n1:Bool}{m:Nat}{w:Nat->Int}{n2:Bool}{m2:Nat}{o:Nat->Int}{n3:Bool}{ln:Nat}{lw:Nat->Int}{R:RulesV}{fin:Bool}{e1 e3:List (EV×EV)}{S:List Int->Int->List (List Int)}{Cr:Nat->List Int}{Z:Int->Int->ByteArray}
 (h:TabBy kk n0 n rs n1 m w n2 m2 o n3 ln lw R fin e1 e3 S Cr Z) (hn:n<=40) (hm:m<=8)
include h hn hm
theorem Jd:VisOk (AT m w) 0 (vis S Cr 8 (AT m w) 0):=by
 have hlen:(AT m w).length=m:=by simp [AT]
 have h2:=h.ok.two
 exact Pc h.by_.split h.by_.rng 8 (AT m w) 0 (fun e=>by rw [e] at hlen; simp at hlen; omega) (IL h.ok.inc) (by omega) (by omega)
theorem Ip:RowsOk m w n (Az m w R.win R.draw R.loss rs n):=
 QM ⟨h.ok.good.2.1,h.ok.good.2.2.1,h.ok.good.2.2.2.1,h.ok.good.2.2.2.2.1⟩ (by omega) (fun i hi=>⟨LH (h.ok.res i hi).err,(h.ok.res i hi).home,(h.ok.res i hi).away⟩) n (Nat.le_refl _)
theorem Xs {j:Nat}(hj:j<m):Bk m w (w j)=j:=by
 have hin:inW m w (w j)=true:=by
  unfold inW
  rw [List.any_eq_true]
  exact ⟨j,by simpa using hj,by simp⟩
 obtain ⟨h1,h2⟩:=Cv hin
 exact h.ok.inc.inj h1 hj h2
theorem NK {j:Nat}(hj:j<m):Cq m w (Az m w R.win R.draw R.loss rs n) o (w j)={ Az m w R.win R.draw R.loss rs n j with points:=(Az m w R.win R.draw R.loss rs n j).points - o j }:=by
 unfold Cq
 rw [Xs h hn hm hj]
 have hr:=((Ip h hn hm).row j hj).1.points
 have ho:=h.ok.offs j hj
 rw [H6 (by omega) (by omega)]
theorem Rp {x:List Int×Int}(hx:x∈vis S Cr 8 (AT m w) 0){c:Int}(hc:c∈x.1):∃ j,j<m/\c=w j:=by
 have:=(Jd h hn hm).all.mem_iff.1 (List.mem_flatten.2 ⟨x.1,List.mem_map_of_mem hx,hc⟩)
 obtain ⟨j,hj,e⟩:=List.mem_map.1 this
 exact ⟨j,by simpa using hj,e.symm⟩
def Dd (n:Nat)(rs:Nat->ResD)(m:Nat)(w:Nat->Int)(o:Nat->Int)(R:RulesV)(Z:Int->Int->ByteArray)(L:List (List Int×Int)):List PlaceD:=placesOf (Z m) (Cq m w (Az m w R.win R.draw R.loss rs n) o) 0 L
theorem Oj {p:PlaceD}(hp:p∈Dd n rs m w o R Z (vis S Cr 8 (AT m w) 0)):∃ j,j<m/\p.row={ Az m w R.win R.draw R.loss rs n j with points:=(Az m w R.win R.draw R.loss rs n j).points - o j }/\p.row.club=w j:=by
 have h1:p.row∈(Dd n rs m w o R Z (vis S Cr 8 (AT m w) 0)).map PlaceD.row:=List.mem_map_of_mem hp
 unfold Dd at h1
 rw [Hb] at h1
 obtain ⟨c,hc,e⟩:=List.mem_map.1 h1
 obtain ⟨l,hl,hc⟩:=List.mem_flatten.1 hc
 obtain ⟨x,hx,rfl⟩:=List.mem_map.1 hl
 obtain ⟨j,hj,rfl⟩:=Rp h hn hm hx hc
 rw [NK h hn hm hj] at e
 refine ⟨j,hj,e.symm,?_⟩
 rw [<-e]
 exact ((Ip h hn hm).row j hj).2
theorem NL {x:List Int×Int}(hx:x∈vis S Cr 8 (AT m w) 0){c:Int}(hc:c∈x.1):(Cq m w (Az m w R.win R.draw R.loss rs n) o c).club=c:=by
 obtain ⟨j,hj,rfl⟩:=Rp h hn hm hx hc
 rw [NK h hn hm hj]
 exact ((Ip h hn hm).row j hj).2
theorem Ol:(Dd n rs m w o R Z (vis S Cr 8 (AT m w) 0)).map (fun p=>p.row.club)=((vis S Cr 8 (AT m w) 0).map Prod.fst).flatten:=by
 have e:(Dd n rs m w o R Z (vis S Cr 8 (AT m w) 0)).map (fun p=>p.row.club)=((Dd n rs m w o R Z (vis S Cr 8 (AT m w) 0)).map PlaceD.row).map RowD.club:=by rw [List.map_map]; rfl
 rw [e]
 unfold Dd
 rw [Hb,List.map_map]
 refine (List.map_congr_left fun c hc=>?_).trans (List.map_id _)
 obtain ⟨l,hl,hc⟩:=List.mem_flatten.1 hc
 obtain ⟨x,hx,rfl⟩:=List.mem_map.1 hl
 exact NL h hn hm hx hc
theorem Om:((Dd n rs m w o R Z (vis S Cr 8 (AT m w) 0)).map (fun p=>p.row.club)).Nodup:=by
 rw [Ol h hn hm]
 exact (Jd h hn hm).all.nodup_iff.2 ((IL h.ok.inc).imp fun h=>Int.ne_of_lt h)
theorem Rq:(Dd n rs m w o R Z (vis S Cr 8 (AT m w) 0)).length=m:=by
 have:=congrArg List.length (Ol h hn hm)
 rw [List.length_map,(Jd h hn hm).all.length_eq] at this
 rw [this]
 simp [AT]
end
def AD5 (a b:RowD):Bool:=a.club==b.club && (a.played==b.played && (a.won==b.won && (a.drawn==b.drawn && (a.lost==b.lost && (a.for'==b.for' && (a.against==b.against && (a.awayFor==b.awayFor && (a.awayWon==b.awayWon && (a.cards==b.cards && (a.points==b.points && true))))))))))
theorem AD6 (a:RowD):AD5 a a=true:=by simp [AD5]
def upR (kc d:Int)(a:RowD):RowD:=if a.club=kc then { a with points:=IntKind.i64.wrap (a.points+d) } else a
def ADw (ps:Nat->PlaceD)(kc d:Int)(r:RowD):Nat->Bool
 | 0=>false
 | j+1=>if (ps j).row.club=r.club then AD5 (upR kc d (ps j).row) r else ADw ps kc d r j
theorem AD1 {ps:Nat->PlaceD}{kc d:Int}{r:RowD}{len i:Nat}(hi:i<len)(hc:(ps i).row.club=r.club)(he:upR kc d (ps i).row=r)(hd:∀ a b,a<b->b<len->(ps a).row.club≠(ps b).row.club):∀ k,i<k->k<=len->ADw ps kc d r k=true
 | 0,h,_=>by omega
 | k+1,h,hk=>by
  rw [ADw]
  rcases Nat.lt_or_ge i k with h1 | h1
  ·rw [if_neg (fun e=>hd i k h1 (by omega) (hc.trans e.symm))]
   exact AD1 hi hc he hd k h1 (by omega)
  ·obtain rfl:i=k:=by omega
   rw [if_pos hc,he]
   exact AD6 r
noncomputable abbrev AES:Code:=cB (cB (cR (cL (cR (cR (cB (cL (cR (cR (cB (cB (cR (cL (cR (cR (cR (cR (cR (cR (cR (cR (cR (AB prog 5)))))))))))))))))))))))
noncomputable abbrev AET:Code:=cB (cB (cR (cL (cR (cR (cR (cR (cR (cR (cR (cR (cR (AB prog 5)))))))))))))
section
variable (n1:Bool)(m:Nat)(w:Nat->Int)(pts kx:Int)(t u:TableD)
def t5L:List (Nat×EV):=[(1,nums n1 m w),(7,.int .i64 pts),(17,.int .i64 kx),(19,.ptr 3 0),(21,.ptr 4 0)]
noncomputable def t5M (met:Bool)(i:Int):List EV:=frame 150 (t5L n1 m w pts kx++[(24,.ptr 5 0),(25,.bool met),(94,EV.isl t.nn 14 t.len fun i=>(t.ps i).cells),(95,.int .i64 t.len),(96,.int .i64 i)])
noncomputable def t5I (met:Bool)(i j:Int):List EV:=frame 150 (t5L n1 m w pts kx++[(24,.ptr 5 0),(25,.bool met),(94,EV.isl t.nn 14 t.len fun i=>(t.ps i).cells),(95,.int .i64 t.len),(96,.int .i64 i),(101,EV.isl u.nn 14 u.len fun i=>(u.ps i).cells),(102,.int .i64 u.len),(103,.int .i64 j)])
noncomputable def t5T (i:Int):List EV:=frame 150 (t5L n1 m w pts kx++[(94,EV.isl t.nn 14 t.len fun i=>(t.ps i).cells),(95,.int .i64 t.len),(96,.int .i64 i)])
abbrev t5G:AL:=[EObj.dead,EObj.dead,EObj.dead,EObj.var false true [EV.int .i64 t.season,EV.int .i64 t.comp,EV.isl t.nn 14 t.len fun i=>(t.ps i).cells],EObj.var false true [EV.int .i64 u.season,EV.int .i64 u.comp,EV.isl u.nn 14 u.len fun i=>(u.ps i).cells]]
abbrev t5H (p:PlaceD):AL:=[EObj.dead,EObj.dead,EObj.dead,EObj.var false true [EV.int .i64 t.season,EV.int .i64 t.comp,EV.isl t.nn 14 t.len fun i=>(t.ps i).cells],EObj.var false true [EV.int .i64 u.season,EV.int .i64 u.comp,EV.isl u.nn 14 u.len fun i=>(u.ps i).cells],EObj.var false true p.cells]
variable {n1 m w pts kx t u}(hl:u.len<=1000)(hk:0<=kx)(hkm:kx<m)(hm:m<=1000)
include hl hk hkm hm
theorem AEU (p:PlaceD)(i:Int):∀ (k j:Nat),j+k=u.len->
  sLR 6 AES (t5I n1 m w pts kx t u (ADw u.ps (w kx.toNat) (AHE pts) p.row j) i j) (t5H t u p) (EX.leave 2,t5M n1 m w pts kx t (ADw u.ps (w kx.toNat) (AHE pts) p.row u.len) i,t5H t u p)
 | 0,j,h=>by
  obtain rfl:j=u.len:=by omega
  exact SemLR.lastR (AEP n1 m w pts kx t u p i _ u.len (by omega) (by omega) hk hkm (by omega) (AHI pts) (by simp)) (by simp)
 | k+1,j,h=>by
  have q0:(decide ((j:Int)<(u.len:Int)))=true:=decide_eq_true (by omega)
  have ih:=AEU p i k (j+1) (by omega)
  rw [show (((j+1:Nat):Int))=(j:Int)+1 from rfl] at ih
  by_cases hc:(u.ps j).row.club=p.row.club
  ·by_cases hw:(u.ps j).row.club=w kx.toNat
   ·rw [show ADw u.ps (w kx.toNat) (AHE pts) p.row (j+1)=AD5 { (u.ps j).row with points:=IntKind.i64.wrap ((u.ps j).row.points+AHE pts) } p.row by rw [ADw,if_pos hc,upR,if_pos hw]] at ih
    exact SemLR.stepR (AEN n1 m w pts kx t u p i _ j (by omega) (by omega) hk hkm (by omega) (AHI pts) q0 (by simpa using hc) (by simpa using hw)) ih
   ·rw [show ADw u.ps (w kx.toNat) (AHE pts) p.row (j+1)=AD5 (u.ps j).row p.row by rw [ADw,if_pos hc,upR,if_neg hw]] at ih
    exact SemLR.stepR (AEO n1 m w pts kx t u p i _ j (by omega) (by omega) hk hkm (by omega) (AHI pts) q0 (by simpa using hc) (by simpa using hw)) ih
  ·rw [show ADw u.ps (w kx.toNat) (AHE pts) p.row (j+1)=ADw u.ps (w kx.toNat) (AHE pts) p.row j by rw [ADw,if_neg hc]] at ih
   exact SemLR.stepR (AEM n1 m w pts kx t u p i _ j (by omega) (by omega) hk hkm (by omega) (AHI pts) q0 (by simpa using hc)) ih
theorem AEV (hl2:t.len<=1000)(hmet:∀ i,i<t.len->ADw u.ps (w kx.toNat) (AHE pts) (t.ps i).row u.len=true):∀ (k i:Nat),i+k=t.len->
  sLR 5 AET (t5T n1 m w pts kx t i) (t5G t u) (EX.leave 0,frame 150 [(19,.ptr 3 0),(21,.ptr 4 0)],t5G t u)
 | 0,i,h=>by
  obtain rfl:i=t.len:=by omega
  exact SemLR.lastR (AER n1 m w pts kx t u t.len (by omega) (by omega) (fun h=>by omega) (by simp)) (by simp)
 | k+1,i,h=>by
  have hi:i<t.len:=by omega
  have hin:=SemLR.cl (path:=(cB (cR (cL (cR (cR (cB (cL (cR (cR (cB (cB (cR (cL (cR (cR (cR (cR (cR (cR (cR (cR (cR (AB prog 5)))))))))))))))))))))))) (AEU (n1:=n1) (w:=w) (pts:=pts) (t:=t) hl hk hkm hm (t.ps i) i u.len 0 (by omega)) rfl (by kernel_rfl)
  rw [hmet i hi] at hin
  exact SemLR.stepR (AEQ n1 m w pts kx t u i (by omega) (by omega) (fun _=>hin) (decide_eq_true (by omega))) (AEV hl2 hmet k (i+1) (by omega))
end
def ADy (m2:Nat)(o:Nat->Int)(wh pts:Int)(j:Nat):Int:=if j=(AHH wh m2).toNat then IntKind.i64.wrap (o j+AHE pts) else o j
theorem AEC (m2:Nat)(o:Nat->Int)(wh pts:Int)(i:Nat):A4 (AU 0 (fun (i:Nat)=>[]) fun (i:Nat)=>[EV.int IntKind.i64 (o i)]) (0+(AHH wh m2).toNat) [EV.int IntKind.i64 (IntKind.i64.wrap (o (0+(AHH wh m2).toNat - 0)+AHE pts))] (0+i)=[EV.int .i64 (ADy m2 o wh pts i)]:=by
 unfold A4 AU ADy
 simp only [Nat.zero_add,Nat.sub_zero,Nat.not_lt_zero,if_false]
 by_cases h:i=(AHH wh m2).toNat
 ·rw [if_pos h,if_pos h,h]
 ·rw [if_neg h,if_neg h]
theorem ADx {n0:Bool}{n:Nat}{rs:Nat->ResD}{n1:Bool}{m:Nat}{w:Nat->Int}{m2:Nat}{o:Nat->Int}{n3:Bool}{ln:Nat}{lw:Nat->Int}{R:RulesV}{fin:Bool}{wh pts:Int}{v:EV}
  (h:sP 9 (Jn n0 n rs n1 m w true m2 (ADy m2 o wh pts) n3 ln lw R fin) v):sP 9 [EV.isl n0 13 n fun i=>(rs i).cells,nums n1 m w,ADz m2 o wh pts,EV.agg R.cells,EV.bool fin,nums n3 ln lw] v:=by
 have e:ADz m2 o wh pts=EV.isl true 1 m2 fun (i:Nat)=>A4 (AU 0 (fun (i:Nat)=>[]) fun (i:Nat)=>[EV.int IntKind.i64 (o i)]) (0+(AHH wh m2).toNat) [EV.int IntKind.i64 (IntKind.i64.wrap (o (0+(AHH wh m2).toNat - 0)+AHE pts))] (0+i):=by
  unfold ADz
  rw [Nat.zero_add m2]
 rw [e]
 exact h.weaken (.cons (PLe.refl _) (.cons (PLe.refl _) (.cons (PLe.isl fun i _=>AEC m2 o wh pts i) (PLes.refl _)))) (PLe.refl _)
section
variable {kk:Nat}{n0:Bool}{n:Nat}{rs:Nat->ResD}{n1:Bool}{m:Nat}{w:Nat->Int}{n2:Bool}{m2:Nat}{o:Nat->Int}{n3:Bool}{ln:Nat}{lw:Nat->Int}{R:RulesV}{fin:Bool}{wh pts:Int}{e1 e3:List (EV×EV)}{S:List Int->Int->List (List Int)}{Cr:Nat->List Int}{Z:Int->Int->ByteArray}
 {e1' e3':List (EV×EV)} {S':List Int->Int->List (List Int)} {Cr':Nat->List Int} {Z':Int->Int->ByteArray}
 (h:TabBy kk n0 n rs n1 m w n2 m2 o n3 ln lw R fin e1 e3 S Cr Z) (h':TabBy kk n0 n rs n1 m w n2 m2 (ADy m2 o wh pts) n3 ln lw R fin e1' e3' S' Cr' Z') (hn:n<=40) (hm:m<=8)
include h h' hn hm
theorem AEF (i:Nat)(hi:i<m):ADw (DC (Dd n rs m w (ADy m2 o wh pts) R Z' (vis S' Cr' 8 (AT m w) 0))) (w (AHH wh m2).toNat) (AHE pts) (DC (Dd n rs m w o R Z (vis S Cr 8 (AT m w) 0)) i).row (Dd n rs m w (ADy m2 o wh pts) R Z' (vis S' Cr' 8 (AT m w) 0)).length=true:=by
 have hlen:=Rq h hn hm
 have hlen':=Rq h' hn hm
 have hnd:=Om h' hn hm
 have hD:=AHI pts
 have hmm:=h.ok.off
 have hK:=AD4 wh (m2:=m2) (by have:=h.ok.two; omega)
 have hat:∀ {P:List PlaceD} {k:Nat} (hk:k<P.length),DC P k=P[k]:=fun hk=>by
  unfold DC
  rw [List.getD_eq_getElem?_getD,List.getElem?_eq_getElem hk,Option.getD_some]
 have hp:DC (Dd n rs m w o R Z (vis S Cr 8 (AT m w) 0)) i∈Dd n rs m w o R Z (vis S Cr 8 (AT m w) 0):=by
  rw [hat (by omega)]
  exact List.getElem_mem _
 obtain ⟨j,hj,ep,cp⟩:=Oj h hn hm hp
 have hmem:w j∈(Dd n rs m w (ADy m2 o wh pts) R Z' (vis S' Cr' 8 (AT m w) 0)).map (fun p=>p.row.club):=by
  rw [Ol h' hn hm]
  exact (Jd h' hn hm).all.mem_iff.2 (List.mem_map.2 ⟨j,by simpa using hj,rfl⟩)
 obtain ⟨q,hq,cq⟩:=List.mem_map.1 hmem
 obtain ⟨i',hi',rfl⟩:=List.getElem_of_mem hq
 obtain ⟨j',hj',eq',cq'⟩:=Oj h' hn hm hq
 obtain rfl:j'=j:=h.ok.inc.inj hj' hj (cq'.symm.trans cq)
 have hr:=((Ip h hn hm).row j' hj).1.points
 have ho:=h.ok.offs j' hj
 refine AD1 (i:=i') hi' (by rw [hat hi',cp]; exact cq) ?_ (fun a b hab hb=>?_) _ hi' (Nat.le_refl _)
 ·rw [hat hi',upR,cq',eq',ep]
  by_cases hjk:j'=(AHH wh m2).toNat
  ·rw [if_pos (by rw [<-hjk])]
   simp only [ADy,if_pos hjk]
   have e1:IntKind.i64.wrap (o j'+AHE pts)=o j'+AHE pts:=H6 (by omega) (by omega)
   rw [e1]
   have e2:IntKind.i64.wrap ((Az m w R.win R.draw R.loss rs n j').points - (o j'+AHE pts)+AHE pts)=(Az m w R.win R.draw R.loss rs n j').points - o j':=by
    rw [show (Az m w R.win R.draw R.loss rs n j').points - (o j'+AHE pts)+AHE pts=(Az m w R.win R.draw R.loss rs n j').points - o j' by omega]
    exact H6 (by omega) (by omega)
   rw [e2,((Ip h hn hm).row j' hj).2]
  ·rw [if_neg (fun e=>hjk (h.ok.inc.inj hj (by omega) e))]
   simp only [ADy,if_neg hjk]
 ·have:=List.pairwise_iff_getElem.1 hnd a b (by rw [List.length_map]; omega) (by rw [List.length_map]; omega) hab
  simp only [List.getElem_map] at this
  rw [hat (by omega),hat hb]
  exact this
end
theorem law5 (hs:sP 7 [] (EV.bool true)){kk:Nat}(n0:Bool)(n:Nat)(rs:Nat->ResD)(n1:Bool)(m:Nat)(w:Nat->Int)(n2:Bool)(m2:Nat)(o:Nat->Int)(n3:Bool)(ln:Nat)(lw:Nat->Int)(R:RulesV)(fin:Bool)(wh pts:Int)(ht:R.Tree kk)(hn0:n0=true∨n=0)(hn1:n1=true∨m=0)(hn2:n2=true∨m2=0):
  sP 5 [EV.isl n0 13 n fun i=>(rs i).cells,nums n1 m w,nums n2 m2 o,EV.agg R.cells,EV.bool fin,nums n3 ln lw,EV.int .i64 wh,EV.int .i64 pts] (EV.bool true):=by
 obtain ⟨few,hfew,hf⟩:=yA n0 n rs n1 m w n2 m2 o n3 ln lw R ht
 cases few with
 | false=>exact t5F n0 n rs n1 m w n2 m2 o R fin n3 ln lw wh pts hs hfew
 | true=>
  obtain ⟨f1,f2,f3,f4⟩:=hf rfl
  by_cases hz:(R.zn:Int)>20
  ·exact t5Z n0 n rs n1 m w n2 m2 o R fin n3 ln lw wh pts hz hs hfew
  ·by_cases h0:m2=0
   ·exact t5N n0 n rs n1 m w n2 m2 o R fin n3 ln lw wh pts (by omega) h0 hs hfew
   ·obtain rfl:n2=true:=by
     rcases hn2 with e | e
     ·exact e
     ·exact absurd e h0
    have hK:=AD4 wh (m2:=m2) (by omega)
    have hI:inB (AHH wh m2) (0+m2)=true:=Bool.and_eq_true_iff.2 ⟨decide_eq_true hK.1,decide_eq_true (by rw [Nat.zero_add]; exact hK.2)⟩
    rcases ACI kk n0 n rs n1 m w true m2 o n3 ln lw R fin (by omega) f2 (by omega) (by omega) ht hn0 hn1 with ⟨e,he,_,hoA⟩ | ⟨e1,e3,S,Cr,Z,hT,_,hoA⟩
    ·rcases ACI kk n0 n rs n1 m w true m2 (ADy m2 o wh pts) n3 ln lw R fin (by omega) f2 (by omega) (by omega) ht hn0 hn1 with ⟨f,hf,_,hoB⟩ | ⟨e1,e3,S,Cr,Z,hT,_,hoB⟩
     ·exact t5B n0 n rs n1 m w true m2 o R fin n3 ln lw wh pts e f (by omega) (by omega) (by omega) hI he hs hfew hoA (ADx hoB)
     ·exact t5A n0 n rs n1 m w true m2 o R fin n3 ln lw wh pts e _ (by omega) (by omega) (by omega) hI he hs hfew hoA (ADx hoB)
    ·rcases ACI kk n0 n rs n1 m w true m2 (ADy m2 o wh pts) n3 ln lw R fin (by omega) f2 (by omega) (by omega) ht hn0 hn1 with ⟨f,hf,_,hoB⟩ | ⟨e1',e3',S',Cr',Z',hT',_,hoB⟩
     ·exact t5C n0 n rs n1 m w true m2 o R fin n3 ln lw wh pts _ f (by omega) (by omega) (by omega) hI hf hs hfew hoA (ADx hoB)
     ·have hlen:=Rq hT f1 f2
      have hlen':=Rq hT' f1 f2
      have hmm:=hT.ok.off
      have e1:(Cs n rs m w o R Z (vis S Cr 8 (AT m w) 0)).len=m:=hlen
      have e2:(Cs n rs m w (ADy m2 o wh pts) R Z' (vis S' Cr' 8 (AT m w) 0)).len=m:=hlen'
      have hL:=SemLR.cl (path:=cB (cR (cL (cR (cR (cR (cR (cR (cR (cR (cR (cR (AB prog 5))))))))))))) (AEV (n1:=n1) (m:=m) (w:=w) (pts:=pts) (kx:=AHH wh m2) (t:=Cs n rs m w o R Z (vis S Cr 8 (AT m w) 0)) (u:=Cs n rs m w (ADy m2 o wh pts) R Z' (vis S' Cr' 8 (AT m w) 0)) (by omega) hK.1 (by omega) (by omega) (by omega)
       (fun i hi=>AEF hT hT' f1 f2 i (by omega)) m 0 (by omega)) rfl (by kernel_rfl)
      have hx:=t5O n0 n rs n1 m w true m2 o R fin n3 ln lw wh pts _ _ (by omega) (by omega) (by omega) hI (e1.trans e2.symm) hs hfew hoA (ADx hoB) hL
      rw [e1,e2,beq_self_eq_true] at hx
      exact hx
end Go.Ev
