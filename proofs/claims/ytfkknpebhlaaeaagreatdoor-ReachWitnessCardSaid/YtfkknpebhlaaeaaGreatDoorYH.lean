/- A part of the proof. -/
import Derived.Test.YtfkknpebhlaaeaaGreatDoorYG
import Derived.Test.YtfkknpebhlaaeaaGreatDoorYD
import Derived.Test.YtfkknpebhlaaeaaGreatDoorYE
import Derived.Test.YtfkknpebhlaaeaaGreatDoorYB
import Derived.ChangeArms
import Derived.ChangeShapes
import Derived.OpenShut
import Derived.FnData
import GoSem.ClaimJoined
set_option linter.unusedSimpArgs false
set_option linter.unusedVariables false
set_option linter.unusedSectionVars false
namespace Go.Ev
open Go.Proofs.Tryz (prog)
set_option maxRecDepth 100000
set_option linter.unusedVariables false
set_option linter.unusedSectionVars false
theorem AKa {b:Bool}{m:Nat}{o:Nat->Int}(hm:m<=1000)(ho:∀ i,i<m->1<=o i/\o i<=3):uY prog fF 22 [AW b m o,EV.func (.func 23) [] []] (.bool false):=by
 have key:∀ (k i:Nat),i+k=m->aB prog fF false AKj (frame 19 [(0,AW b m o),(1,EV.func (.func 23) [] []),(4,.int .i64 0),(7,.int .i64 m),(8,.int .i64 (i:Nat))]) [] (EX.leave 0,frame 19 [],[]):=by
  intro k;induction k with
  | zero=>intro i h; exact aB.last (AKl b m o i false (by omega) hm (fun x=>absurd x (by omega)) (uL (by omega))) (by simp)
  | succ k ih=>
   intro i h;have h25:uY prog fF 23 [.int .i64 (o (i:Int).toNat)] (.bool false):=by
    have:=AKC (o i) (ho i (by omega)).1 (ho i (by omega)).2;rw [uK (ho i (by omega)).2] at this;exact this
   exact aB.step (AKk b m o i false (by omega) hm (fun _=>h25) (uK (by omega)) rfl) (ih (i+1) (by omega))
 exact AKn b m o (-1) (AKm b m o hm (aB.eO (key m 0 (by omega)) (by kernel_rfl)))
theorem AKb {q:fG}(h:q.Valid)(hn:q.n<=8)(hp:q.np=true):uY prog fF 10 [EV.agg q.cells] (.tuple [.bool (q.aO || Decidable.decide (q.m<=8)),.int .i64 0]):=by
 have h14:=Se (h.ok hn hp);have h12:=Vk h;have h15:uY prog fF 20 [EV.agg q.cells] (.bool (Decidable.decide (q.m<=8))):=by
  have:=ACO q;rw [show Decidable.decide ((q.m:Int)<=8)=Decidable.decide (q.m<=8) from decide_eq_decide.2 (by omega)] at this;exact this
 rcases hf:q.aO with _ | _
 ·exact AKt q q.aO _ h12 h14 h15 hf
 ·exact AKs q q.aO _ h12 h14 h15 hf
theorem AKW {q:fG}(h:q.Valid)(hn:q.n<=8)(hp:q.np=true)(hm:q.m<=100){b:Bool}{o:Nat->Int}(ho:Bw q o):uY prog fF 11 [EV.agg q.cells,AW b q.m o] (.tuple [AW true q.n (CS q o q.m),.int .i64 0]):=by
 have hO:=h.ok hn hp;have n1:=h.n1;have h26:aA prog fF 25 [AW q.np q.m' q.uV] [] (.ms 0 1 0 q.n none) [fE.arr false true 1 false q.n fun i=>[.int .i64 (q.uV i)]]:=by
  have:=AKD q.n q.uV (by omega) (by omega);rw [uJ] at this;rw [hp,h.m'];refine this.res (.cons (uU.arr fun i hi=>?_) .nil);simp only [Ar,uJ];rw [if_neg (by omega),Nat.sub_zero]
 have key:∀ (k i:Nat),i+k=q.m->aB prog fF false AKo (frame 41 [(2,.ptr 0 0),(4,.ms 1 1 0 q.n none),(5,.int .i64 0),(27,AW b q.m o),(28,.int .i64 q.m),(29,.int .i64 (i:Nat))]) [fE.var false true q.cells,fE.arr false true 1 false q.n fun j=>[.int .i64 (CS q o i j)]]
   (EX.leave 0,frame 41 [(4,.ms 1 1 0 q.n none),(5,.int .i64 0)],[fE.var false true q.cells,fE.arr false true 1 false q.n fun j=>[.int .i64 (CS q o q.m j)]]):=by
  intro k;induction k with
  | zero=>
   intro i hi;obtain rfl:i=q.m:=by omega
   exact aB.last (AKq q b o _ (fun _=>0) q.m (by omega) (by omega) (fun x=>absurd x (by omega)) (uL (by omega))) (by simp)
  | succ k ih=>
   intro i hi;have hbd:=OG hO (c:=o) i;have hp27:=Wj (q:=q) (n:=q.n) (p:=CS q o i) (g:=i) (x:=o i) hO.aI (by omega) (hO.op i (by omega)) (fun j hj=>by have:=hbd j hj; omega);exact aB.step (AKp q b o _ (CS q o (i+1)) i (by omega) (by omega) (fun _=>hp27) (uK (by omega))) (ih (i+1) (by omega))
 have:=AKr q b o (CS q o q.m) hp h.m' (by omega) (by omega) (Vk h) (AKa (by omega) ho) (fcp q b o h26) (aB.eO (key q.m 0 (by omega)) (by kernel_rfl)) (by simp);simp only [uJ] at this;exact this
end Go.Ev
namespace Go.Ev
open Go.Proofs.Tryz (prog)
set_option maxRecDepth 100000
set_option maxHeartbeats 0
def T0:Ia:=(37,[.ip [iv 2,iv 1,.uS true 1 2 (fun i=>[[iv 3],[iv 5]].getD i []),.uS true 1 2 (fun i=>[[iv 0],[iv 0]].getD i []),.uS true 2 1 (fun i=>[[iv 0,iv 1]].getD i []),iv 0,iv 1,.uS true 1 1 (fun i=>[[iv 1]].getD i []),.uS true 2 1 (fun i=>[[iv 0,iv 1]].getD i []),.im [(.agg [iv 0,iv 1],.uS true 1 1 (fun i=>[[iv 0]].getD i []))],iv 2] 0,.uS true 1 1 (fun i=>[[iv 1]].getD i [])],.tuple [.uS true 1 1 (fun i=>[[iv 3]].getD i []),.agg [s0,s0,s0],.bool true]) :: []
theorem hT0:Om prog fF T0:=⟨Eg (T:=[]) trivial (pures:=pures) (news:=news) (n:=40) (fuel:=100000) C1 (by kernel_rfl) (by kernel_rfl),trivial⟩
def T1:Ia:=(19,[.ip [iv 2,iv 1,.uS true 1 2 (fun i=>[[iv 3],[iv 5]].getD i []),.uS true 1 2 (fun i=>[[iv 0],[iv 0]].getD i []),.uS true 2 1 (fun i=>[[iv 0,iv 1]].getD i []),iv 0,iv 1,.uS true 1 1 (fun i=>[[iv 1]].getD i []),.uS true 2 1 (fun i=>[[iv 0,iv 1]].getD i []),.im [(.agg [iv 0,iv 1],.uS true 1 1 (fun i=>[[iv 0]].getD i []))],iv 2] 0],.agg [iv 3,.uS true 1 1 (fun i=>[[iv 1]].getD i []),.uS true 1 1 (fun i=>[[iv 3]].getD i []),s0]) :: T0
theorem hT1:Om prog fF T1:=⟨Eg (T:=T0) hT0 (pures:=pures) (news:=news) (n:=40) (fuel:=100000) C1 (by kernel_rfl) (by kernel_rfl),hT0⟩
def T2:Ia:=(62,[.agg [iv 5,.uS true 3 3 (fun i=>[[iv 0,iv 1,iv 2],[iv 1,iv 3,iv 2],[iv 3,iv 4,iv 5]].getD i [])]],.tuple [.uS true 1 3 (fun i=>[[iv 2],[iv 2],[iv 2]].getD i []),iv 2,.uS true 1 1 (fun i=>[[iv 0]].getD i []),iv 0]) :: T1
theorem hT2:Om prog fF T2:=⟨Eg (T:=T1) hT1 (pures:=pures) (news:=news) (n:=40) (fuel:=100000) C1 (by kernel_rfl) (by kernel_rfl),hT1⟩
def T3:Ia:=(9,[.agg [iv 2,iv 1,.uS true 1 2 (fun i=>[[iv 3],[iv 5]].getD i []),.uS true 1 2 (fun i=>[[iv 5],[iv 0]].getD i []),.uS true 2 1 (fun i=>[[iv 0,iv 1]].getD i []),iv 0,iv 1]],.tuple [.agg [iv 1,s0,s0,.uS true 3 1 (fun i=>[[.uS true 1 1 (fun i=>[[iv 1]].getD i []),.uS true 1 1 (fun i=>[[iv 1]].getD i []),.uS true 1 1 (fun i=>[[iv 0]].getD i [])]].getD i [])],iv 0]) :: T2
theorem hT3:Om prog fF T3:=⟨Eg (T:=T2) hT2 (pures:=pures) (news:=news) (n:=40) (fuel:=100000) C1 (by kernel_rfl) (by kernel_rfl),hT2⟩
def T4:Ia:=(37,[.ip [iv 2,iv 1,.uS true 1 2 (fun i=>[[iv 3],[iv 5]].getD i []),.uS true 1 2 (fun i=>[[iv 5],[iv 0]].getD i []),.uS true 2 1 (fun i=>[[iv 0,iv 1]].getD i []),iv 1,iv 1,.uS true 1 1 (fun i=>[[iv 0]].getD i []),.uS true 2 1 (fun i=>[[iv 0,iv 1]].getD i []),.im [(.agg [iv 0,iv 1],.uS true 1 1 (fun i=>[[iv 0]].getD i []))],iv 2] 0,.uS true 1 1 (fun i=>[[iv 0]].getD i [])],.tuple [.uS true 1 1 (fun i=>[[iv 1]].getD i []),.agg [s0,s0,s0],.bool true]) :: T3
theorem hT4:Om prog fF T4:=⟨Eg (T:=T3) hT3 (pures:=pures) (news:=news) (n:=40) (fuel:=100000) C1 (by kernel_rfl) (by kernel_rfl),hT3⟩
def T5:Ia:=(5,[],.bool true) :: T4
theorem hT5:Om prog fF T5:=⟨Eg (T:=T4) hT4 (pures:=pures) (news:=news) (n:=40) (fuel:=100000) C1 (by kernel_rfl) (by kernel_rfl),hT4⟩
end Go.Ev
namespace Go.Ev
open Go.Proofs.Tryz (prog)
set_option maxRecDepth 100000
set_option linter.unusedVariables false
set_option linter.unusedSectionVars false
theorem witness_sem (q:fG)(hnp:q.m'≠0->q.np=true)(hno:q.m≠0->q.no=true):uY prog fF 4 [EV.agg q.cells] (.bool true):=by
 obtain ⟨e,h6,hV⟩:=Sv q;by_cases hO:8<q.n∨14<q.m∨e≠0
 ·exact wiT q e hO hT5.1 h6
 ·obtain rfl:e=0:=by omega
  have h:=hV rfl;have n1:=h.n1;have c1:=h.c1;have c2:=h.c2;have hn:q.n<=8:=by omega
  have hm:q.m<=14:=by omega
  have hp:q.np=true:=hnp (by rw [h.m']; omega);have ho:q.uO=((q.own:Nat):Int):=by show q.uO=((q.uO.toNat:Nat):Int); omega
  have ho2:q.own<q.n:=by show q.uO.toNat<q.n; omega
  obtain ⟨kd,v,h13,_,hd,hk⟩:=Yo (h.ok hn hp) (Vk h);have hx:=AKb h hn hp;have hx1:kd≠4->(q.aO || Decidable.decide (q.m<=8))=true:=fun hne=>by
   rcases hk with g | g | g
   ·rw [g]; rfl
   ·rw [uK g,Bool.or_true]
   ·exact absurd g hne
  cases hd with
  | sure cb cn cr g=>
   rw [hx1 (by omega)] at hx;exact wiA q cb cn cr hn hm hT5.1 h6 h13 hx
  | out cb cn cr g1 g2=>
   rw [hx1 (by omega)] at hx;exact wiB q cb cn cr hn hm hT5.1 h6 h13 hx
  | open' rb rv mb mv g1 g2 g3 g4=>
   rw [hx1 (by omega)] at hx;exact wiO q rb rv mb mv (CS q rv q.m) (CS q mv q.m) _ _ _ _ hn hm g2 g4 (by rw [bne_eq_false_iff_eq]) hT5.1 h6 h13 hx (AKW h hn hp (by omega) g1) (AKW h hn hp (by omega) g3)
    (AJU ho ho2 (by omega)) (AJU ho ho2 (by omega))
  | unk g1 g2=>
   rw [g1,uL (by omega)] at hx;exact wiU q false 0 (fun _=>[]) hn hm hT5.1 h6 h13 hx
end Go.Ev
namespace Go.Ev
def LZ (T:Go.TypeId->List EV->Prop):List Field->List EV->Prop
 | [],vs=>vs=[]
 | f :: fs,vs=>∃ a b,vs=a++b/\T f.type a/\LZ T fs b
def Typed (P:Program):Nat->Go.TypeId->List EV->Prop
 | 0,_,_=>False
 | n+1,t,vs=>match P.underlying t with
  | some .bool=>∃ b,vs=[.bool b]
  | some (.int k)=>∃ i,vs=[.int k i]/\k.min<=i/\i<=k.max
  | some .string=>∃ s:ByteArray,vs=[.str s]/\s.size<=maxLen
  | some (.slice e)=>vs=[.uS false (P.cellsOf e) 0 fun _=>[]]∨∃ len row,vs=[.uS true (P.cellsOf e) len row]/\len<=maxLen/\∀ i,i<len->Typed P n e (row i)
  | some (.struct fs)=>LZ (Typed P n) fs.toList vs
  | _=>False
def Kh (P:Program)(ok:Go.TypeId->Bool):List Field->Nat->Nat->Bool
 | [],o,tot=>Nat.beq o tot
 | f :: fs,o,tot=>Nat.beq f.offset o && ok f.type && Kh P ok fs (o+P.cellsOf f.type) tot
def okT (P:Program):Nat->Go.TypeId->Bool
 | 0,_=>false
 | n+1,t=>match P.underlying t with
  | some .bool=>true
  | some (.int _)=>true
  | some .string=>true
  | some (.slice e)=>!Nat.beq (P.cellsOf e) 0 && okT P n e
  | some (.struct fs)=>Kh P (okT P n) fs.toList 0 (P.cellsOf t)
  | _=>false
def bR (F:Nat->Prop)(w:World)(vs:List EV)(cs:List Value):Prop:=
 vs.length=cs.length/\∀ i (h1:i<vs.length) (h2:i<cs.length),(cs[i]).oneCell'=true/\PR F w vs[i] cs[i]
theorem bR.one {F:Nat->Prop}{w:World}{v:EV}{m:Value}(h1:m.oneCell'=true)(h:PR F w v m):bR F w [v] [m]:=by
 refine ⟨rfl,fun i a b=>?_⟩;have:i=0:=by simpa using a
 subst this;exact ⟨h1,h⟩
theorem bR.app {F:Nat->Prop}{w:World}{a b:List EV}{c d:List Value}(h:bR F w a c)(g:bR F w b d):bR F w (a++b) (c++d):=by
 obtain ⟨h1,h2⟩:=h;obtain ⟨g1,g2⟩:=g;refine ⟨by simp [h1,g1],fun i x y=>?_⟩;by_cases hi:i<a.length
 ·have hi':i<c.length:=by omega
  rw [List.getElem_append_left hi,List.getElem_append_left hi'];exact h2 i hi hi'
 ·have hi':¬ i<c.length:=by omega
  rw [List.getElem_append_right (by omega),List.getElem_append_right (by omega)];simp only [List.length_append] at x y;have:=g2 (i - a.length) (by omega) (by omega);simpa [h1] using this
section
variable {H:Type}{enc:TypeId×Value->H}{P:Program}{w:World}{spare:Nat->Bool}{held:Bool}{F:Nat->Prop}
theorem Rs {T:Go.TypeId->List EV->Prop}{ok:Go.TypeId->Bool}{n:Nat}{cs:List Value}{tot:Nat}(hl:cs.length=tot)
  (ih:∀ t cs' x,ok t=true->DataW.trod enc P w 0 spare held n t cs'=some x->∃ vs,bR F w vs cs'/\T t vs):
  ∀ (fs:List Field) (o:Nat) (xs:List (DataW H×List MemPlace)),Kh P ok fs o tot=true->xs.length=fs.length->
   (∀ (i:Nat) (f:Field),fs[i]? =some f->DataW.trod enc P w 0 spare held n f.type ((cs.drop f.offset).take (P.cellsOf f.type))=xs[i]?)->
   ∃ vs,bR F w vs (cs.drop o)/\LZ T fs vs
 | [],o,xs,hc,_,_=>by
  have:o=tot:=Nat.eq_of_beq_eq_true hc;refine ⟨[],⟨by simp; omega,fun i h=>by simp at h⟩,rfl⟩
 | f :: fs,o,xs,hc,hx,h=>by
  simp only [Kh,uF] at hc;obtain ⟨⟨ho,hk⟩,hr⟩:=hc;have ho:f.offset=o:=Nat.eq_of_beq_eq_true ho
  match xs,hx with
  | x :: xs,hx=>
   have h0:=h 0 f rfl;obtain ⟨a,ha,hta⟩:=ih _ _ x hk h0;obtain ⟨b,hb,htb⟩:=Rs hl ih fs (o+P.cellsOf f.type) xs hr (by simpa using hx) (fun i g hg=>by simpa using h (i+1) g (by simpa using hg));refine ⟨a++b,?_,a,b,rfl,hta,htb⟩;have:=ha.app hb;rw [ho,<-List.drop_drop,List.take_append_drop] at this;exact this
theorem Ha (hF:∀ b,b<w.heap.size->F b):∀ (n fuel:Nat) (t:Go.TypeId) (cs:List Value) (x:DataW H×List MemPlace),okT P n t=true->
  DataW.trod enc P w 0 spare held fuel t cs=some x->∃ vs,bR F w vs cs/\Typed P n t vs
 | 0,_,_,_,_,hk,_=>by cases hk
 | n+1,fuel,t,cs,x,hk,h=>by
  unfold okT at hk;unfold Typed;split at hk
  ·rename_i hu;obtain ⟨b,rfl,_⟩:=DataW.trod_bool hu h;exact ⟨[.bool b],.one rfl (.bool b),b,rfl⟩
  ·rename_i k hu;obtain ⟨i,rfl,_,hw⟩:=DataW.trod_int hu h;simp only [Lit.wf,uF,decide_eq_true_eq] at hw;exact ⟨[.int k i],.one rfl (.int k i),i,rfl,hw⟩
  ·rename_i hu;obtain ⟨s,rfl,_,hs⟩:=DataW.trod_string hu h;exact ⟨[.str s],.one rfl (.str s),s,rfl,hs⟩
  ·rename_i e hu;simp only [uF,Bool.not_eq_true'] at hk;obtain ⟨hz,hk⟩:=hk;have hz:0<P.cellsOf e:=Nat.pos_of_ne_zero fun hz'=>by rw [hz'] at hz; cases hz
   rcases DataW.trod_slice hu h with ⟨rfl,_⟩ | ⟨a,len,cap,elems,rest,m,_,rfl,_,_,hlc,hcm,hlen,hel,_,_⟩
   ·exact ⟨[.uS false (P.cellsOf e) 0 fun _=>[]],.one rfl (.bB _ _),.inl rfl⟩
   ·have hi:∀ i,∃ p:List EV×List Value,i<len->w.cells? 0 (a.add (i*P.cellsOf e)) (P.cellsOf e)=some p.2/\bR F w p.1 p.2/\Typed P n e p.1:=by
     intro i;by_cases hi:i<len
     ·have h1:=hel i hi;rw [uD (by omega),Option.bind_eq_some_iff] at h1;obtain ⟨ci,h1,h2⟩:=h1;obtain ⟨vs,h3,h4⟩:=Ha hF n m e ci _ hk h2;exact ⟨(vs,ci),fun _=>⟨h1,h3,h4⟩⟩
     ·exact ⟨([],[]),fun h=>absurd h hi⟩
    obtain ⟨f,hf⟩:=Classical.axiomOfChoice hi;obtain ⟨b,o,sp⟩:=a;have hsp:0<len->sp=none:=by
     intro h0;obtain ⟨_,h2,h3⟩:=World.cells?_some (hf 0 h0).1;have h3:=h3 0 hz;rw [uD (by omega),Nat.zero_mul] at h3;simp only [Addr.add,if_true] at h3;unfold World.cell? at h3;split at h3
     ·cases sp with
      | none=>rfl
      | some _=>simp at h3
     ·cases h3
    have hc:∀ i,i<len->∀ j,j<P.cellsOf e->cellAt w b (o+i*P.cellsOf e+j)=(f i).2[j]? :=by
     intro i hi j hj;obtain ⟨_,h2,h3⟩:=World.cells?_some (hf i hi).1;have:=h3 j hj;rw [hsp (by omega),D4,D4,cell?_eq] at this;exact this
    refine ⟨[.uS true (P.cellsOf e) len fun i=>(f i).1],.one rfl (.uS _ _ _ b o cap (fun i j=>(f i).2.getD j default) ?_ hlc sp hsp ?_ ?_ ?_),.inr ⟨len,_,rfl,by omega,fun i hi=>(hf i hi).2.2⟩⟩
    ·intro h0;refine hF b ?_;have:=hc 0 h0 0 hz;obtain ⟨_,h2,_⟩:=World.cells?_some (hf 0 h0).1;rw [uD (by omega)] at this;unfold cellAt at this;split at this
     ·rename_i hb; exact (Array.getElem?_eq_some_iff.1 hb).1
     ·cases this
    ·intro i hi;obtain ⟨_,h2,_⟩:=World.cells?_some (hf i hi).1;have:=(hf i hi).2.1.1;omega
    ·intro i hi j hj;obtain ⟨_,h2,_⟩:=World.cells?_some (hf i hi).1;have h1:=(hf i hi).2.1.1;have hj':j<(f i).2.length:=by omega
     have h3:=(hf i hi).2.1.2 j (by omega) hj';rw [hc i hi j hj,uD hj'];simp only [uA,uD hj',Option.getD_some];exact ⟨trivial,h3.1⟩
    ·intro i hi j hj;have h1:=(hf i hi).2.1.1;have hj':j<(f i).2.length:=by omega
     have h3:=(hf i hi).2.1.2 j hj hj';simp only [uA,uD hj',Option.getD_some];exact h3.2
  ·rename_i fs hu;obtain ⟨xs,m,rfl,_,hl,hx,hf⟩:=DataW.trod_struct hu h;obtain ⟨vs,h1,h2⟩:=Rs (T:=Typed P n) (ok:=okT P n) hl (fun t' cs' x' a b=>Ha hF n m t' cs' x' a b) fs.toList 0 xs hk (by simpa using hx) (fun i f hf'=>hf i f (by simpa using hf'));exact ⟨vs,by simpa using h1,h2⟩
  ·cases hk
theorem arg_pure {r:Reach}{b0 n:Nat}{t:Go.TypeId}{fs:Array Field}{v:Value}{d:DataW H}{ps:List MemPlace}(hF:∀ b,b<w.heap.size->F b)(hu:P.underlying t=some (.struct fs))
  (hval:Value.okWide P w r b0 t v) (hk:okT P n t=true) (hd:DataW.Trod enc P w 0 spare held t v d ps):∃ vs,PR F w (.agg vs) v/\Typed P n t vs:=by
 obtain ⟨cs,rfl,_⟩:=Go.WideShapes.okWide_struct hu hval;obtain ⟨fuel,hf⟩:=hd;obtain ⟨vs,⟨h1,h2⟩,h3⟩:=Ha hF n fuel t _ _ hk hf;refine ⟨vs,.agg vs cs (by simpa [Value.cells] using h1) (fun i h=>?_) (fun i a b=>?_),h3⟩
 ·have:=(h2 i (by rw [h1]; simpa [Value.cells] using h) (by simpa [Value.cells] using h)).1;simpa [Value.cells] using this
 ·have:=(h2 i a (by simpa [Value.cells] using b)).2;simpa [Value.cells] using this
end
end Go.Ev
namespace Go.Ev
inductive BLs:List EV->List EV->Prop where
 | nil:BLs [] []
 | cons {x y:EV} {xs ys:List EV} (h:dR x y) (t:BLs xs ys):BLs (x :: xs) (y :: ys)
theorem BLs.refl:∀ xs,BLs xs xs
 | []=>.nil
 | x :: xs=>.cons (dR.refl x) (BLs.refl xs)
theorem BLs.len {xs ys:List EV}(h:BLs xs ys):ys.length=xs.length:=by
 induction h with
 | nil=>rfl
 | cons _ _ ih=>simp [ih]
theorem BLs.get {xs ys:List EV}(h:BLs xs ys):∀ i (h1:i<xs.length) (h2:i<ys.length),dR xs[i] ys[i]:=by
 induction h with
 | nil=>intro i h; simp at h
 | cons h _ ih=>
  intro i h1 h2;cases i with
  | zero=>exact h
  | succ i=>exact ih i (by simpa using h1) (by simpa using h2)
theorem BLs.agg {xs ys:List EV}(h:BLs xs ys):dR (.agg xs) (.agg ys):=dR.agg h.len h.get
theorem dR.uS {nn:Bool}{esz len:Nat}{row row':Nat->List EV}(h:∀ i,i<len->row i=row' i):dR (.uS nn esz len row) (.uS nn esz len row'):=⟨aG.uS h,bL.uS h⟩
end Go.Ev
namespace Go.Ev
open Go.Proofs.Tryz (prog)
set_option maxRecDepth 100000
theorem Fx {P:Program}{n:Nat}{t:Go.TypeId}{k:IntKind}{vs:List EV}(hu:P.underlying t=some (.int k))(h:Typed P n t vs):∃ i,vs=[.int k i]/\k.min<=i/\i<=k.max:=by
 cases n with
 | zero=>exact h.elim
 | succ n=>unfold Typed at h; rw [hu] at h; exact h
theorem Mt {P:Program}{n:Nat}{t e:Go.TypeId}{vs:List EV}(hu:P.underlying t=some (.slice e))(h:Typed P (n+1) t vs):
  vs=[.uS false (P.cellsOf e) 0 fun _=>[]]∨∃ len row,vs=[.uS true (P.cellsOf e) len row]/\len<=maxLen/\∀ i,i<len->Typed P n e (row i):=by
 unfold Typed at h; rw [hu] at h; exact h
theorem Q0 {P:Program}{n:Nat}{t:Go.TypeId}{fs:Array Field}{vs:List EV}(hu:P.underlying t=some (.struct fs))(h:Typed P (n+1) t vs):LZ (Typed P n) fs.toList vs:=by
 unfold Typed at h; rw [hu] at h; exact h
def Tj (P:Program)(t:Go.TypeId):Option (List Go.TypeId):=match P.underlying t with | some (.struct fs)=>some (fs.toList.map (·.type)) | _=>none
def Q1 (T:Go.TypeId->List EV->Prop):List Go.TypeId->List EV->Prop
 | [],vs=>vs=[]
 | t :: ts,vs=>∃ a b,vs=a++b/\T t a/\Q1 T ts b
theorem OY {T:Go.TypeId->List EV->Prop}:∀ (fs:List Field) (vs:List EV),LZ T fs vs->Q1 T (fs.map (·.type)) vs
 | [],_,h=>h
 | f :: fs,vs,h=>by
  obtain ⟨a,b,h1,h2,h3⟩:=h;exact ⟨a,b,h1,h2,OY fs b h3⟩
theorem La {P:Program}{n:Nat}{t:Go.TypeId}{ts:List Go.TypeId}{vs:List EV}(hu:Tj P t=some ts)(h:Typed P (n+1) t vs):Q1 (Typed P n) ts vs:=by
 unfold Tj at hu;split at hu
 ·rename_i fs hfs;obtain rfl:=uC hu;exact OY _ _ (Q0 hfs h)
 ·cases hu
theorem OZ:prog.underlying 3=some (.int .i64):=by kernel_rfl
theorem Oa {n:Nat}{vs:List EV}(h:Typed prog (n+2) 22 vs):∃ (nn:Bool) (len:Nat) (w:Nat->Int) (x:EV),vs=[x]/\dR x (AW nn len w)/\(len≠0->nn=true):=by
 have hc:prog.cellsOf 3=1:=by kernel_rfl
 rcases Mt (e:=3) (by kernel_rfl) h with rfl | ⟨len,row,rfl,_,hr⟩
 ·rw [hc];exact ⟨false,0,fun _=>0,_,rfl,dR.uS fun i hi=>by omega,fun h=>absurd rfl h⟩
 ·rw [hc];have hp:∀ i,∃ x:Int,i<len->row i=[.int .i64 x]:=by
   intro i;by_cases hi:i<len
   ·obtain ⟨x,hx,_⟩:=Fx OZ (hr i hi);exact ⟨x,fun _=>hx⟩
   ·exact ⟨0,fun h=>absurd h hi⟩
  obtain ⟨w,hw⟩:=Classical.axiomOfChoice hp;exact ⟨true,len,w,_,rfl,dR.uS fun i hi=>hw i hi,fun _=>rfl⟩
theorem Rt {n:Nat}{vs:List EV}(h:Typed prog (n+3) 23 vs):∃ (nn:Bool) (len:Nat) (w:Nat->aF) (x:EV),vs=[x]/\dR x (.uS nn 2 len fun i=>(w i).cells)/\(len≠0->nn=true):=by
 have hc:prog.cellsOf 49=2:=by kernel_rfl
 rcases Mt (e:=49) (by kernel_rfl) h with rfl | ⟨len,row,rfl,_,hr⟩
 ·rw [hc];exact ⟨false,0,fun _=>default,_,rfl,dR.uS fun i hi=>by omega,fun h=>absurd rfl h⟩
 ·rw [hc];have hp:∀ i,∃ x:aF,i<len->row i=x.cells:=by
   intro i;by_cases hi:i<len
   ·have h:=La (ts:=[3,3]) (by kernel_rfl) (hr i hi);obtain ⟨a1,b1,h0,h1,a2,b2,rfl,h2,rfl⟩:=h;obtain ⟨i1,rfl,_⟩:=Fx OZ h1;obtain ⟨i2,rfl,_⟩:=Fx OZ h2;exact ⟨⟨i1,i2⟩,fun _=>h0⟩
   ·exact ⟨default,fun h=>absurd h hi⟩
  obtain ⟨w,hw⟩:=Classical.axiomOfChoice hp;exact ⟨true,len,w,_,rfl,dR.uS fun i hi=>hw i hi,fun _=>rfl⟩
theorem typed_race {vs:List EV}(h:Typed prog 6 25 vs):∃ q:fG,aG (.agg vs) (.agg q.cells)/\(q.m'≠0->q.np=true)/\(q.m≠0->q.no=true):=by
 have h:=La (ts:=[3,3,22,22,23,3,3]) (by kernel_rfl) h;obtain ⟨a1,b1,rfl,h1,a2,b2,rfl,h2,a3,b3,rfl,h3,a4,b4,rfl,h4,a5,b5,rfl,h5,a6,b6,rfl,h6,a7,b7,rfl,h7,rfl⟩:=h;obtain ⟨i1,rfl,_⟩:=Fx OZ h1;obtain ⟨i2,rfl,_⟩:=Fx OZ h2;obtain ⟨nc,n,cl,x3,rfl,e3,_⟩:=Oa h3;obtain ⟨np,m',pt,x4,rfl,e4,f4⟩:=Oa h4;obtain ⟨no,m,op,x5,rfl,e5,f5⟩:=Rt h5;obtain ⟨i6,rfl,_⟩:=Fx OZ h6;obtain ⟨i7,rfl,_⟩:=Fx OZ h7;exact ⟨⟨i1,i2,nc,n,cl,np,m',pt,no,m,op,i6,i7⟩,(BLs.agg (.cons (dR.refl _) (.cons (dR.refl _) (.cons e3 (.cons e4 (.cons e5 (.cons (dR.refl _) (.cons (dR.refl _) .nil)))))))).p,f4,f5⟩
end Go.Ev
namespace Go.Ev
def Ru:List (Option (List EV))->Option (List EV)
 | []=>some []
 | x :: xs=>match x,Ru xs with | some a,some b=>some (a++b) | _,_=>none
def dE {H:Type}:Nat->DataW H->Option (List EV)
 | 0,_=>none
 | n+1,d=>match d with
  | .lit (.int k i)=>some [.int k i]
  | .lit (.string b)=>some [.str ⟨b.toArray⟩]
  | .lit (.bool b)=>some [.bool b]
  | .agg ds=>Ru (ds.map (dE n))
  | _=>none
def okD (P:Program):Nat->Go.TypeId->Bool
 | 0,_=>false
 | n+1,t=>match P.underlying t with
  | some .bool=>true
  | some (.int _)=>true
  | some .string=>true
  | some (.array m e)=>Nat.beq (P.cellsOf t) (m*P.cellsOf e) && okD P n e
  | some (.struct fs)=>Kh P (okD P n) fs.toList 0 (P.cellsOf t)
  | _=>false
section
variable {H:Type}{enc:TypeId×Value->H}{P:Program}{w:World}{base:Nat}{spare:Nat->Bool}{held:Bool}{F:Nat->Prop}
theorem Rv {f m k:Nat}{e:Go.TypeId}(ih:∀ cs' x l,DataW.trod enc P w base spare held f e cs'=some x->dE m x.1=some l->bR F w l cs'):
  ∀ (xs:List (DataW H×List MemPlace)) (cs:List Value) (l:List EV),cs.length=xs.length*k->
   (∀ i x,xs[i]? =some x->DataW.trod enc P w base spare held f e ((cs.drop (i*k)).take k)=some x)->Ru ((xs.map (·.1)).map (dE m))=some l->bR F w l cs
 | [],cs,l,hl,_,hd=>by
  obtain rfl:cs=[]:=List.eq_nil_of_length_eq_zero (by simpa using hl);simp only [List.map_nil,Ru,uB] at hd;subst hd;exact ⟨rfl,fun i h=>by simp at h⟩
 | x :: xs,cs,l,hl,h,hd=>by
  simp only [List.map_cons,Ru] at hd;split at hd
  ·rename_i a b ha hb;simp only [uB] at hd;subst hd;have h0:=h 0 x rfl;rw [Nat.zero_mul,List.drop_zero] at h0;have h1:=ih _ x a h0 ha;have h2:=Rv (k:=k) ih xs (cs.drop k) b (by rw [List.length_drop,hl,List.length_cons,Nat.add_mul]; omega) (fun i y hy=>by
    rw [List.drop_drop,show k+i*k=(i+1)*k from by rw [Nat.add_mul]; omega];exact h (i+1) y (by simpa using hy)) hb
   have:=h1.app h2
   rwa [List.take_append_drop] at this
  ·cases hd
theorem Tk {f m tot:Nat}{ok:Go.TypeId->Bool}{cs:List Value}(hl:cs.length=tot)
  (ih:∀ t cs' x l,ok t=true->DataW.trod enc P w base spare held f t cs'=some x->dE m x.1=some l->bR F w l cs'):
  ∀ (fs:List Field) (o:Nat) (xs:List (DataW H×List MemPlace)) (l:List EV),Kh P ok fs o tot=true->xs.length=fs.length->
   (∀ (i:Nat) (g:Field),fs[i]? =some g->DataW.trod enc P w base spare held f g.type ((cs.drop g.offset).take (P.cellsOf g.type))=xs[i]?)->
   Ru ((xs.map (·.1)).map (dE m))=some l->bR F w l (cs.drop o)
 | [],o,xs,l,hc,hx,_,hd=>by
  have:o=tot:=Nat.eq_of_beq_eq_true hc;obtain rfl:xs=[]:=List.eq_nil_of_length_eq_zero (by simpa using hx);simp only [List.map_nil,Ru,uB] at hd;subst hd;exact ⟨by simp; omega,fun i h=>by simp at h⟩
 | g :: fs,o,xs,l,hc,hx,h,hd=>by
  simp only [Kh,uF] at hc;obtain ⟨⟨ho,hk⟩,hr⟩:=hc;have ho:g.offset=o:=Nat.eq_of_beq_eq_true ho
  match xs,hx with
  | x :: xs,hx=>
   simp only [List.map_cons,Ru] at hd;split at hd
   ·rename_i a b ha hb;simp only [uB] at hd;subst hd;have h0:=h 0 g rfl;have h1:=ih _ _ x a hk h0 ha;have h2:=Tk hl ih fs (o+P.cellsOf g.type) xs b hr (by simpa using hx) (fun i y hy=>by simpa using h (i+1) y (by simpa using hy)) hb;have:=h1.app h2
    rwa [ho,<-List.drop_drop,List.take_append_drop] at this
   ·cases hd
theorem Ki:∀ (n m fuel:Nat) (t:Go.TypeId) (cs:List Value) (x:DataW H×List MemPlace) (l:List EV),okD P n t=true->
  DataW.trod enc P w base spare held fuel t cs=some x->dE m x.1=some l->bR F w l cs
 | 0,_,_,_,_,_,_,hk,_,_=>by cases hk
 | _,0,_,_,_,_,_,_,_,hd=>by cases hd
 | n+1,m+1,fuel,t,cs,x,l,hk,h,hd=>by
  unfold okD at hk;split at hk
  ·rename_i hu;obtain ⟨b,rfl,rfl⟩:=DataW.trod_bool hu h;simp only [dE,uB] at hd;subst hd;exact .one rfl (.bool b)
  ·rename_i k hu;obtain ⟨i,rfl,rfl,_⟩:=DataW.trod_int hu h;simp only [dE,uB] at hd;subst hd;exact .one rfl (.int k i)
  ·rename_i hu;obtain ⟨s,rfl,rfl,_⟩:=DataW.trod_string hu h;simp only [dE,uB] at hd;subst hd;exact .one rfl (.str s)
  ·rename_i z e hu;simp only [uF] at hk;obtain ⟨xs,f,rfl,rfl,hl,hx,hf⟩:=DataW.trod_array hu h;have hz:=Nat.eq_of_beq_eq_true hk.1;exact Rv (k:=P.cellsOf e) (fun cs' x' l' a b=>Ki n m f e cs' x' l' hk.2 a b) xs cs l (by rw [hl,hz,hx]) (fun i y hy=>by
    have hi:i<xs.length:=(List.getElem?_eq_some_iff.1 hy).1;rw [hf i (by omega),hy]) hd
  ·rename_i fs hu;obtain ⟨xs,f,rfl,rfl,hl,hx,hf⟩:=DataW.trod_struct hu h;have:=Tk (ok:=okD P n) hl (fun t' cs' x' l' a b c=>Ki n m f t' cs' x' l' a b c) fs.toList 0 xs l hk (by simpa using hx) (fun i g hg=>hf i g (by simpa using hg)) hd;simpa using this
  ·cases hk
end
theorem Rw {P:Program}{w:World}:∀ {laid:List (String×DataW Unit)} {ps:List MemPlace},DataW.LaidVars P w laid ps->∀ x∈laid,
  ∃ g t cs fuel p,P.globalNamed x.1=some g/\(P.globals[g]?).map (·.type)=some t/\w.var? P x.1=some cs/\DataW.trod (fun _=>()) P w 0 (fun _=>true) false fuel t cs.toList=some (x.2,p)
 | [],_,_=>fun x hx=>by cases hx
 | (n,d) :: r,ps,h=>by
  obtain ⟨g,t,cs,fuel,p,q,h1,h2,h3,h4,h5,_⟩:=h;intro x hx;rcases List.mem_cons.1 hx with rfl | hx
  ·exact ⟨g,t,cs,fuel,p,h1,h2,h3,h4⟩
  ·exact Rw h5 x hx
theorem eQ {P:Program}{w:World}{laid:List (String×DataW Unit)}{F:Nat->Prop}(hF:∀ b,b<w.heap.size->F b)(h:laidMet P laid w){n:String}{d:DataW Unit}(hx:(n,d)∈laid){g:Nat}{t:Go.TypeId}{l:List EV}{k:Nat}
  (hg:P.globalNamed n=some g) (ht:(P.globals[g]?).map (·.type)=some t) (hk:okD P k t=true) (hd:dE k d=some l) (hne:l≠[]):
  F g/\l≠[]/\∃ mv:Nat->Value,∀ j (h:j<l.length),cellAt w g j=some (mv j)/\(mv j).oneCell'=true/\PR F w l[j] (mv j):=by
 obtain ⟨ps,hv,_⟩:=h;obtain ⟨g',t',cs,fuel,p,h1,h2,h3,h4⟩:=Rw hv _ hx;obtain rfl:g=g':=uC (hg.symm.trans h1);obtain rfl:t=t':=uC (ht.symm.trans h2);obtain ⟨c1,c2⟩:=Ki (F:=F) k k fuel t _ _ l hk h4 hd;have hc:∀ j,cellAt w g j=cs[j]? :=fun j=>by rw [<-cell?_eq]; exact World.var?_cell h1 h3 j
 have hl:0<l.length:=Nat.pos_of_ne_zero fun e=>hne (List.eq_nil_of_length_eq_zero e);refine ⟨hF g ?_,hne,fun j=>cs.toList.getD j default,fun j hj=>?_⟩
 ·have:=hc 0;have h0:0<cs.size:=by rw [<-Array.length_toList,<-c1]; exact hl
  rw [Array.getElem?_eq_getElem h0] at this;unfold cellAt at this;split at this
  ·rename_i hb; exact (Array.getElem?_eq_some_iff.1 hb).1
  ·cases this
 ·have hj':j<cs.toList.length:=by omega
  have hj2:j<cs.size:=by simpa using hj'
  have:=c2 j hj hj';have e:cs.toList.getD j default=cs.toList[j]:=by rw [uA,uD hj',Option.getD_some]
  show cellAt w g j=some (cs.toList.getD j default)/\_;rw [e,hc j,Array.getElem?_eq_getElem hj2];refine ⟨by simp,?_⟩;show (cs.toList.getD j default).oneCell'=true/\PR F w l[j] (cs.toList.getD j default);rw [e];exact this
end Go.Ev
