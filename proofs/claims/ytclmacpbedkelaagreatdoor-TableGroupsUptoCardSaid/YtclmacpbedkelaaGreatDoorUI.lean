/- A part of the proof. -/
import Derived.Test.YtclmacpbedkelaaGreatDoorUB
import Derived.Test.YtclmacpbedkelaaGreatDoorUD
import Derived.OpenShut
import Derived.FnData
import GoSem.ClaimJoined
import Derived.Test.YtclmacpbedkelaaGreatDoorUH
set_option linter.unusedSimpArgs false
set_option linter.unusedVariables false
set_option linter.unusedSectionVars false
namespace Go.Ev
def QT:List (Option (List EV))->Option (List EV)
 | []=>some []
 | x :: xs=>match x,QT xs with | some a,some b=>some (a++b) | _,_=>none
def dE {H:Type}:Nat->DataW H->Option (List EV)
 | 0,_=>none
 | n+1,d=>match d with
  | .lit (.int k i)=>some [.int k i]
  | .lit (.string b)=>some [.str ⟨b.toArray⟩]
  | .lit (.bool b)=>some [.bool b]
  | .agg ds=>QT (ds.map (dE n))
  | _=>none
def okD (P:Program):Nat->Go.TypeId->Bool
 | 0,_=>false
 | n+1,t=>match P.underlying t with
  | some .bool=>true
  | some (.int _)=>true
  | some .string=>true
  | some (.array m e)=>Nat.beq (P.cellsOf t) (m*P.cellsOf e) && okD P n e
  | some (.struct fs)=>Iq P (okD P n) fs.toList 0 (P.cellsOf t)
  | _=>false
section
variable {H:Type}{enc:TypeId×Value->H}{P:Program}{w:World}{base:Nat}{spare:Nat->Bool}{held:Bool}{F:Nat->Prop}
theorem QU {f m k:Nat}{e:Go.TypeId}(ih:∀ cs' x l,DataW.trod enc P w base spare held f e cs'=some x->dE m x.1=some l->CellsP F w l cs'):
  ∀ (xs:List (DataW H×List MemPlace)) (cs:List Value) (l:List EV),cs.length=xs.length*k->
   (∀ i x,xs[i]? =some x->DataW.trod enc P w base spare held f e ((cs.drop (i*k)).take k)=some x)->QT ((xs.map (·.1)).map (dE m))=some l->CellsP F w l cs
 | [],cs,l,hl,_,hd=>by
  obtain rfl:cs=[]:=List.eq_nil_of_length_eq_zero (by simpa using hl)
  simp only [List.map_nil,QT,Option.some.injEq] at hd
  subst hd
  exact ⟨rfl,fun i h=>by simp at h⟩
 | x :: xs,cs,l,hl,h,hd=>by
  simp only [List.map_cons,QT] at hd
  split at hd
  ·rename_i a b ha hb
   simp only [Option.some.injEq] at hd
   subst hd
   have h0:=h 0 x rfl
   rw [Nat.zero_mul,List.drop_zero] at h0
   have h1:=ih _ x a h0 ha
   have h2:=QU (k:=k) ih xs (cs.drop k) b (by rw [List.length_drop,hl,List.length_cons,Nat.add_mul]; omega) (fun i y hy=>by
    rw [List.drop_drop,show k+i*k=(i+1)*k from by rw [Nat.add_mul]; omega]
    exact h (i+1) y (by simpa using hy)) hb
   have:=h1.app h2
   rwa [List.take_append_drop] at this
  ·cases hd
theorem Ru {f m tot:Nat}{ok:Go.TypeId->Bool}{cs:List Value}(hl:cs.length=tot)
  (ih:∀ t cs' x l,ok t=true->DataW.trod enc P w base spare held f t cs'=some x->dE m x.1=some l->CellsP F w l cs'):
  ∀ (fs:List Field) (o:Nat) (xs:List (DataW H×List MemPlace)) (l:List EV),Iq P ok fs o tot=true->xs.length=fs.length->
   (∀ (i:Nat) (g:Field),fs[i]? =some g->DataW.trod enc P w base spare held f g.type ((cs.drop g.offset).take (P.cellsOf g.type))=xs[i]?)->
   QT ((xs.map (·.1)).map (dE m))=some l->CellsP F w l (cs.drop o)
 | [],o,xs,l,hc,hx,_,hd=>by
  have:o=tot:=Nat.eq_of_beq_eq_true hc
  obtain rfl:xs=[]:=List.eq_nil_of_length_eq_zero (by simpa using hx)
  simp only [List.map_nil,QT,Option.some.injEq] at hd
  subst hd
  exact ⟨by simp; omega,fun i h=>by simp at h⟩
 | g :: fs,o,xs,l,hc,hx,h,hd=>by
  simp only [Iq,Bool.and_eq_true] at hc
  obtain ⟨⟨ho,hk⟩,hr⟩:=hc
  have ho:g.offset=o:=Nat.eq_of_beq_eq_true ho
  match xs,hx with
  | x :: xs,hx=>
   simp only [List.map_cons,QT] at hd
   split at hd
   ·rename_i a b ha hb
    simp only [Option.some.injEq] at hd
    subst hd
    have h0:=h 0 g rfl
    have h1:=ih _ _ x a hk h0 ha
    have h2:=Ru hl ih fs (o+P.cellsOf g.type) xs b hr (by simpa using hx) (fun i y hy=>by simpa using h (i+1) y (by simpa using hy)) hb
    have:=h1.app h2
    rwa [ho,<-List.drop_drop,List.take_append_drop] at this
   ·cases hd
theorem KD:∀ (n m fuel:Nat) (t:Go.TypeId) (cs:List Value) (x:DataW H×List MemPlace) (l:List EV),okD P n t=true->
  DataW.trod enc P w base spare held fuel t cs=some x->dE m x.1=some l->CellsP F w l cs
 | 0,_,_,_,_,_,_,hk,_,_=>by cases hk
 | _,0,_,_,_,_,_,_,_,hd=>by cases hd
 | n+1,m+1,fuel,t,cs,x,l,hk,h,hd=>by
  unfold okD at hk
  split at hk
  ·rename_i hu
   obtain ⟨b,rfl,rfl⟩:=DataW.trod_bool hu h
   simp only [dE,Option.some.injEq] at hd
   subst hd
   exact .one rfl (.bool b)
  ·rename_i k hu
   obtain ⟨i,rfl,rfl,_⟩:=DataW.trod_int hu h
   simp only [dE,Option.some.injEq] at hd
   subst hd
   exact .one rfl (.int k i)
  ·rename_i hu
   obtain ⟨s,rfl,rfl,_⟩:=DataW.trod_string hu h
   simp only [dE,Option.some.injEq] at hd
   subst hd
   exact .one rfl (.str s)
  ·rename_i z e hu
   simp only [Bool.and_eq_true] at hk
   obtain ⟨xs,f,rfl,rfl,hl,hx,hf⟩:=DataW.trod_array hu h
   have hz:=Nat.eq_of_beq_eq_true hk.1
   exact QU (k:=P.cellsOf e) (fun cs' x' l' a b=>KD n m f e cs' x' l' hk.2 a b) xs cs l (by rw [hl,hz,hx]) (fun i y hy=>by
    have hi:i<xs.length:=(List.getElem?_eq_some_iff.1 hy).1
    rw [hf i (by omega),hy]) hd
  ·rename_i fs hu
   obtain ⟨xs,f,rfl,rfl,hl,hx,hf⟩:=DataW.trod_struct hu h
   have:=Ru (ok:=okD P n) hl (fun t' cs' x' l' a b c=>KD n m f t' cs' x' l' a b c) fs.toList 0 xs l hk (by simpa using hx) (fun i g hg=>hf i g (by simpa using hg)) hd
   simpa using this
  ·cases hk
end
theorem QV {P:Program}{w:World}:∀ {laid:List (String×DataW Unit)} {ps:List MemPlace},DataW.LaidVars P w laid ps->∀ x∈laid,
  ∃ g t cs fuel p,P.globalNamed x.1=some g/\(P.globals[g]?).map (·.type)=some t/\w.var? P x.1=some cs/\DataW.trod (fun _=>()) P w 0 (fun _=>true) false fuel t cs.toList=some (x.2,p)
 | [],_,_=>fun x hx=>by cases hx
 | (n,d) :: r,ps,h=>by
  obtain ⟨g,t,cs,fuel,p,q,h1,h2,h3,h4,h5,_⟩:=h
  intro x hx
  rcases List.mem_cons.1 hx with rfl | hx
  ·exact ⟨g,t,cs,fuel,p,h1,h2,h3,h4⟩
  ·exact QV h5 x hx
theorem laid_gok {P:Program}{w:World}{laid:List (String×DataW Unit)}{F:Nat->Prop}(hF:∀ b,b<w.heap.size->F b)(h:laidMet P laid w){n:String}{d:DataW Unit}(hx:(n,d)∈laid){g:Nat}{t:Go.TypeId}{l:List EV}{k:Nat}
  (hg:P.globalNamed n=some g) (ht:(P.globals[g]?).map (·.type)=some t) (hk:okD P k t=true) (hd:dE k d=some l) (hne:l≠[]):
  F g/\l≠[]/\∃ mv:Nat->Value,∀ j (h:j<l.length),cellAt w g j=some (mv j)/\(mv j).oneCell'=true/\PR F w l[j] (mv j):=by
 obtain ⟨ps,hv,_⟩:=h
 obtain ⟨g',t',cs,fuel,p,h1,h2,h3,h4⟩:=QV hv _ hx
 obtain rfl:g=g':=Option.some.inj (hg.symm.trans h1)
 obtain rfl:t=t':=Option.some.inj (ht.symm.trans h2)
 obtain ⟨c1,c2⟩:=KD (F:=F) k k fuel t _ _ l hk h4 hd
 have hc:∀ j,cellAt w g j=cs[j]? :=fun j=>by rw [<-cell?_eq]; exact World.var?_cell h1 h3 j
 have hl:0<l.length:=Nat.pos_of_ne_zero fun e=>hne (List.eq_nil_of_length_eq_zero e)
 refine ⟨hF g ?_,hne,fun j=>cs.toList.getD j default,fun j hj=>?_⟩
 ·have:=hc 0
  have h0:0<cs.size:=by rw [<-Array.length_toList,<-c1]; exact hl
  rw [Array.getElem?_eq_getElem h0] at this
  unfold cellAt at this
  split at this
  ·rename_i hb; exact (Array.getElem?_eq_some_iff.1 hb).1
  ·cases this
 ·have hj':j<cs.toList.length:=by omega
  have hj2:j<cs.size:=by simpa using hj'
  have:=c2 j hj hj'
  have e:cs.toList.getD j default=cs.toList[j]:=by rw [List.getD_eq_getElem?_getD,List.getElem?_eq_getElem hj',Option.getD_some]
  show cellAt w g j=some (cs.toList.getD j default)/\_
  rw [e,hc j,Array.getElem?_eq_getElem hj2]
  refine ⟨by simp,?_⟩
  show (cs.toList.getD j default).oneCell'=true/\PR F w l[j] (cs.toList.getD j default)
  rw [e]
  exact this
end Go.Ev
