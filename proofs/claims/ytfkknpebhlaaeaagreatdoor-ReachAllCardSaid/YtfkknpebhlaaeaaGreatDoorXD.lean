/- A part of the proof. -/
import Derived.Test.YtfkknpebhlaaeaaGreatDoorProg
import Derived.Test.YtfkknpebhlaaeaaGreatDoorXC
import Derived.KernelRfl
set_option linter.unusedSimpArgs false
set_option linter.unusedVariables false
set_option linter.unusedSectionVars false
namespace Go.Ev
open Go.Proofs.Tryz (prog)
def fF:Nat->Option (List EV)
 | 1=>some HI
 | 2=>some Eb
 | 3=>some F1
 | 4=>some F2
 | _=>none
def nons:List Nat:=[288,315,345,105,302,322,219,168,305,26,39,57,58,64,88,94,92,93]
def newsL:List Nat:=[204,262,260,259,261,263,264,90,25,148,91]
def pures (f:FuncId):Bool:=!nons.contains f && !newsL.contains f
def news (f:FuncId):Bool:=newsL.contains f
theorem C1:prog.follows .mixedOrders=true:=by kernel_rfl
end Go.Ev
namespace Go.Ev
structure dR (x y:EV):Prop where
 p:aG x y
 v:bL x y
theorem dR.refl (x:EV):dR x x:=⟨aG.refl x,bL.refl x⟩
theorem dR.undef {x:EV}:dR x .undef:=⟨aG.undef,bL.undef⟩
def LH (f:EV->EV->EV):List EV->List EV->List EV
 | x :: xs,y :: ys=>f x y :: LH f xs ys
 | _,_=>[]
def FP (b:Bool):Nat->EV->EV->EV
 | 0,_,_=>.undef
 | n+1,x,y=>
  match x with
  | .int k a=>match y with
   | .int k' a'=>if k=k' then .int k (bif b then a else a') else .undef
   | _=>.undef
  | .bool a=>match y with
   | .bool a'=>.bool (bif b then a else a')
   | _=>.undef
  | .str a=>match y with
   | .str a'=>.str (bif b then a else a')
   | _=>.undef
  | .uS nn esz len row=>match y with
   | .uS nn' esz' len' row'=>if esz=esz' then .uS (bif b then nn else nn') esz (bif b then len else len') (fun i=>bif b then row i else row' i) else .undef
   | _=>.undef
  | .agg xs=>match y with
   | .agg ys=>if xs.length=ys.length then .agg (LH (FP b n) xs ys) else .undef
   | _=>.undef
  | .tuple xs=>match y with
   | .tuple ys=>if xs.length=ys.length then .tuple (LH (FP b n) xs ys) else .undef
   | _=>.undef
  | .ptr r k=>match y with
   | .ptr r' k'=>if r=r'/\k=k' then .ptr r k else .undef
   | _=>.undef
  | .pe r esz i k=>match y with
   | .pe r' esz' i' k'=>if r=r'/\esz=esz'/\k=k' then .pe r esz (bif b then i else i') k else .undef
   | _=>.undef
  | .ms r esz off len none=>match y with
   | .ms r' esz' off' len' none=>if r=r'/\esz=esz' then .ms r esz (bif b then off else off') (bif b then len else len') none else .undef
   | _=>.undef
  | .ms r esz off len (some c)=>match y with
   | .ms r' esz' off' len' (some c')=>if r=r'/\esz=esz' then .ms r esz (bif b then off else off') (bif b then len else len') (some (bif b then c else c')) else .undef
   | _=>.undef
  | .mm r=>match y with
   | .mm r'=>if r=r' then .mm r else .undef
   | _=>.undef
  | .it r=>match y with
   | .it r'=>if r=r' then .it r else .undef
   | _=>.undef
  | .aH=>match y with
   | .aH=>.aH
   | _=>.undef
  | .cU=>match y with
   | .cU=>.cU
   | _=>.undef
  | .dL=>match y with
   | .dL=>.dL
   | _=>.undef
  | .dA=>match y with
   | .dA=>.dA
   | _=>.undef
  | .im es=>match y with
   | .im es'=>.im (bif b then es else es')
   | _=>.undef
  | .iface t v=>match y with
   | .iface t' v'=>if t=t' then .iface t (FP b n v v') else .undef
   | _=>.undef
  | .ip xs k=>match y with
   | .ip ys k'=>if k=k'/\xs.length=ys.length then .ip (LH (FP b n) xs ys) k else .undef
   | _=>.undef
  | _=>.undef
theorem Nv {f:EV->EV->EV}:∀ {xs ys:List EV},xs.length=ys.length->(LH f xs ys).length=xs.length/\∀ i (h:i<(LH f xs ys).length) (h1:i<xs.length) (h2:i<ys.length),(LH f xs ys)[i]=f xs[i] ys[i]
 | [],[],_=>⟨rfl,fun i h=>by simp [LH] at h⟩
 | x :: xs,y :: ys,h=>by
  obtain ⟨a,b⟩:=Nv (f:=f) (xs:=xs) (ys:=ys) (by simpa using h);refine ⟨by simp [LH,a],fun i h h1 h2=>?_⟩;cases i with
  | zero=>rfl
  | succ i=>exact b i (by simpa [LH] using h) (by simpa using h1) (by simpa using h2)
 | [],_ :: _,h=>by simp at h
 | _ :: _,[],h=>by simp at h
theorem dR.agg {xs ys:List EV}(hl:ys.length=xs.length)(h:∀ i (h1:i<xs.length) (h2:i<ys.length),dR xs[i] ys[i]):dR (.agg xs) (.agg ys):=by
 have hp:∀ (F:Nat->Prop) (w:World) mv,PR F w (.agg xs) mv->PR F w (.agg ys) mv:=by
  intro F w mv hp;cases hp with
  | agg _ mcs g1 g2 g3=>exact .agg ys mcs (hl.trans g1) g2 fun i a b=>(h i (by omega) a).p F w _ (g3 i (by omega) b)
 refine ⟨hp,fun K w mv hv=>?_⟩;cases hv with
 | pure _ _ q=>exact .pure _ _ (hp _ _ _ q)
 | agg _ mcs g1 g2 g3=>exact .agg ys mcs (hl.trans g1) g2 fun i a b=>(h i (by omega) a).v K w _ (g3 i (by omega) b)
theorem dR.tuple {xs ys:List EV}(hl:ys.length=xs.length)(h:∀ i (h1:i<xs.length) (h2:i<ys.length),dR xs[i] ys[i]):dR (.tuple xs) (.tuple ys):=by
 have hp:∀ (F:Nat->Prop) (w:World) mv,PR F w (.tuple xs) mv->PR F w (.tuple ys) mv:=by
  intro F w mv hp;cases hp with
  | tuple _ mcs g1 g3=>exact .tuple ys mcs (hl.trans g1) fun i a b=>(h i (by omega) a).p F w _ (g3 i (by omega) b)
 refine ⟨hp,fun K w mv hv=>?_⟩;cases hv with
 | pure _ _ q=>exact .pure _ _ (hp _ _ _ q)
 | tuple _ mcs g1 g3=>exact .tuple ys mcs (hl.trans g1) fun i a b=>(h i (by omega) a).v K w _ (g3 i (by omega) b)
theorem dR.iface {t:TypeId}{x y:EV}(h:dR x y):dR (.iface t x) (.iface t y):=by
 have hp:∀ (F:Nat->Prop) (w:World) mv,PR F w (.iface t x) mv->PR F w (.iface t y) mv:=by
  intro F w mv hp;cases hp with
  | iface _ _ mv g=>exact .iface t _ mv (h.p F w mv g)
 refine ⟨hp,fun K w mv hv=>?_⟩;cases hv with
 | pure _ _ q=>exact .pure _ _ (hp _ _ _ q)
 | iface _ _ mv g=>exact .iface t _ mv (h.v K w mv g)
theorem dR.ip {xs ys:List EV}{k:Nat}(hl:ys.length=xs.length)(h:∀ i (h1:i<xs.length) (h2:i<ys.length),dR xs[i] ys[i]):dR (.ip xs k) (.ip ys k):=by
 have hp:∀ (F:Nat->Prop) (w:World) mv,PR F w (.ip xs k) mv->PR F w (.ip ys k) mv:=by
  intro F w mv hp;cases hp with
  | ip _ _ b o mv hF hk hc hv=>exact .ip ys k b o mv hF (by omega) (fun j hj=>hc j (by omega)) fun j hj=>(h j (by omega) hj).p F w _ (hv j (by omega))
 refine ⟨hp,fun K w mv hv=>?_⟩;cases hv with
 | pure _ _ q=>exact .pure _ _ (hp _ _ _ q)
theorem JK (b:Bool):∀ (n:Nat) (x y:EV),dR (bif b then x else y) (FP b n x y):=by
 intro n;induction n with
 | zero=>intro x y; exact .undef
 | succ n ih=>
  have lst:∀ xs ys:List EV,xs.length=ys.length->(LH (FP b n) xs ys).length=(bif b then xs else ys).length/\∀ i (h1:i<(bif b then xs else ys).length) (h2:i<(LH (FP b n) xs ys).length),dR (bif b then xs else ys)[i] (LH (FP b n) xs ys)[i]:=by
   intro xs ys h;obtain ⟨a,g⟩:=Nv (f:=FP b n) h;cases b with
   | true=>
    refine ⟨a,fun i h1 h2=>?_⟩;have h1':i<xs.length:=h1;rw [g i h2 h1' (by omega)];exact ih xs[i] _
   | false=>
    refine ⟨a.trans h,fun i h1 h2=>?_⟩;have h1':i<ys.length:=h1;rw [g i h2 (by omega) h1'];exact ih _ ys[i]
  intro x y;unfold FP;split
  ·split
   ·split
    ·rename_i h; subst h; cases b<;>exact .refl _
    ·exact .undef
   ·exact .undef
  ·split
   ·cases b<;>exact .refl _
   ·exact .undef
  ·split
   ·cases b<;>exact .refl _
   ·exact .undef
  ·split
   ·split
    ·rename_i h; subst h; cases b<;>exact .refl _
    ·exact .undef
   ·exact .undef
  ·split
   ·split
    ·rename_i xs _ ys h;obtain ⟨h1,h2⟩:=lst xs ys h;have e:(bif b then EV.agg xs else EV.agg ys)=.agg (bif b then xs else ys):=by cases b<;>rfl
     rw [e];exact .agg h1 h2
    ·exact .undef
   ·exact .undef
  ·split
   ·split
    ·rename_i xs _ ys h;obtain ⟨h1,h2⟩:=lst xs ys h;have e:(bif b then EV.tuple xs else EV.tuple ys)=.tuple (bif b then xs else ys):=by cases b<;>rfl
     rw [e];exact .tuple h1 h2
    ·exact .undef
   ·exact .undef
  ·split
   ·split
    ·rename_i h; obtain ⟨rfl,rfl⟩:=h; cases b<;>exact .refl _
    ·exact .undef
   ·exact .undef
  ·split
   ·split
    ·rename_i h; obtain ⟨rfl,rfl,rfl⟩:=h; cases b<;>exact .refl _
    ·exact .undef
   ·exact .undef
  ·split
   ·split
    ·rename_i h; obtain ⟨rfl,rfl⟩:=h; cases b<;>exact .refl _
    ·exact .undef
   ·exact .undef
  ·split
   ·split
    ·rename_i h; obtain ⟨rfl,rfl⟩:=h; cases b<;>exact .refl _
    ·exact .undef
   ·exact .undef
  ·split
   ·split
    ·rename_i h; subst h; cases b<;>exact .refl _
    ·exact .undef
   ·exact .undef
  ·split
   ·split
    ·rename_i h; subst h; cases b<;>exact .refl _
    ·exact .undef
   ·exact .undef
  ·split
   ·cases b<;>exact .refl _
   ·exact .undef
  ·split
   ·cases b<;>exact .refl _
   ·exact .undef
  ·split
   ·cases b<;>exact .refl _
   ·exact .undef
  ·split
   ·cases b<;>exact .refl _
   ·exact .undef
  ·split
   ·cases b<;>exact .refl _
   ·exact .undef
  ·split
   ·split
    ·rename_i t v _ t' v' h;subst h;have e:(bif b then EV.iface t v else EV.iface t v')=.iface t (bif b then v else v'):=by cases b<;>rfl
     rw [e];exact .iface (ih v v')
    ·exact .undef
   ·exact .undef
  ·split
   ·split
    ·rename_i xs k _ ys k' h;obtain ⟨rfl,h⟩:=h;obtain ⟨h1,h2⟩:=lst xs ys h;have e:(bif b then EV.ip xs k else EV.ip ys k)=.ip (bif b then xs else ys) k:=by cases b<;>rfl
     rw [e];exact .ip h1 h2
    ·exact .undef
   ·exact .undef
  ·exact .undef
def SQ (b:Bool)(o o':fE):fE:=
 match o with
 | .var fr pf cells=>match o' with
  | .var fr' pf' cells'=>if fr=fr'/\cells.length=cells'.length then .var fr (pf && pf') (LH (FP b 20) cells cells') else .dead
  | _=>.dead
 | .arr fr pf esz ex len row=>match o' with
  | .arr fr' pf' esz' ex' len' row'=>if fr=fr'/\esz=esz'/\ex=ex' then .arr fr (pf && pf') esz ex (bif b then len else len') (fun i=>bif b then row i else row' i) else .dead
  | _=>.dead
 | .map fr pf es=>match o' with
  | .map fr' pf' es'=>if fr=fr' then .map fr (pf && pf') (bif b then es else es') else .dead
  | _=>.dead
 | _=>.dead
theorem uU.var2 {fr pf pf':Bool}{cells cells':List EV}(hl:cells'.length=cells.length)(hpf:pf'=true->pf=true)(h:∀ i (h1:i<cells.length) (h2:i<cells'.length),dR cells[i] cells'[i]):uU (.var fr pf cells) (.var fr pf' cells'):=by
 refine ⟨fun K w r ho=>?_,id,id⟩;obtain ⟨h1,h2,c,e,q1,q2,q3,q4,q5,q6,q7⟩:=ho;exact ⟨h1,h2,c,e,q1,by rw [q2,hl],q3,q4,q5,fun i a b=>(h i (by omega) a).v K w _ (q6 i (by omega) b),fun hp i a b=>(h i (by omega) a).p K.F w _ (q7 (hpf hp) i (by omega) b)⟩
theorem uU.arr2 {fr pf pf' ex:Bool}{esz len:Nat}{row:Nat->List EV}(hpf:pf'=true->pf=true):uU (.arr fr pf esz ex len row) (.arr fr pf' esz ex len row):=by
 refine ⟨fun K w r ho=>?_,id,id⟩;obtain ⟨h1,h2,c,e,fz,q2,q3,q4,q5,q6,q7,q8,q9,q10,q11⟩:=ho;exact ⟨h1,h2,c,e,fz,q2,q3,q4,q5,q6,q7,q8,q9,q10,fun hp=>q11 (hpf hp)⟩
theorem uU.map2 {fr pf pf':Bool}{es:List (EV×EV)}(hpf:pf'=true->pf=true):uU (.map fr pf es) (.map fr pf' es):=by
 refine ⟨fun K w r ho=>?_,id,id⟩;obtain ⟨h1,mes,clock,q2,q3,q4,q5,q6,q7,q8⟩:=ho;exact ⟨h1,mes,clock,q2,q3,q4,q5,q6,fun hp=>q7 (hpf hp),q8⟩
theorem O0 (b:Bool)(o o':fE):uU (bif b then o else o') (SQ b o o'):=by
 unfold SQ;split
 ·split
  ·split
   ·rename_i fr pf cells _ fr' pf' cells' h;obtain ⟨rfl,h⟩:=h;obtain ⟨a,g⟩:=Nv (f:=FP b 20) h;cases b with
    | true=>exact .var2 a (fun h=>by simp at h; exact h.1) fun i h1 h2=>by rw [g i h2 h1 (by omega)]; exact JK true 20 cells[i] _
    | false=>exact .var2 (a.trans h) (fun h=>by simp at h; exact h.2) fun i h1 h2=>by rw [g i h2 (by omega) h1]; exact JK false 20 _ cells'[i]
   ·exact .dead
  ·exact .dead
 ·split
  ·split
   ·rename_i h;obtain ⟨rfl,rfl,rfl⟩:=h;cases b with
    | true=>exact .arr2 fun h=>by simp at h; exact h.1
    | false=>exact .arr2 fun h=>by simp at h; exact h.2
   ·exact .dead
  ·exact .dead
 ·split
  ·split
   ·rename_i h;subst h;cases b with
    | true=>exact .map2 fun h=>by simp at h; exact h.1
    | false=>exact .map2 fun h=>by simp at h; exact h.2
   ·exact .dead
  ·exact .dead
 ·exact .dead
inductive It where
 | b (x:Bool)
 | i (x:Int)
 | n (x:Nat)
 | s (x:ByteArray)
 | r (x:Nat->List EV)
 | e (x:List (EV×EV))
abbrev Eqs:=List (It×It)
def SR:Option Eqs->Option Eqs->Option Eqs
 | some a,some b=>some (a++b)
 | _,_=>none
def Qc (f:EV->EV->Option Eqs):List EV->List EV->Option Eqs
 | [],[]=>some []
 | x :: xs,y :: ys=>SR (f x y) (Qc f xs ys)
 | _,_=>none
def eqV:Nat->EV->EV->Option Eqs
 | 0,_,_=>none
 | n+1,x,y=>
  match x with
  | .undef=>match y with
   | .undef=>some []
   | _=>none
  | .int k a=>match y with
   | .int k' a'=>if k=k' then some [(.i a,.i a')] else none
   | _=>none
  | .bool a=>match y with
   | .bool a'=>some [(.b a,.b a')]
   | _=>none
  | .str a=>match y with
   | .str a'=>some [(.s a,.s a')]
   | _=>none
  | .uS nn esz len row=>match y with
   | .uS nn' esz' len' row'=>if esz=esz' then some [(.b nn,.b nn'),(.n len,.n len'),(.r row,.r row')] else none
   | _=>none
  | .agg xs=>match y with
   | .agg ys=>Qc (eqV n) xs ys
   | _=>none
  | .tuple xs=>match y with
   | .tuple ys=>Qc (eqV n) xs ys
   | _=>none
  | .ptr r k=>match y with
   | .ptr r' k'=>if r=r'/\k=k' then some [] else none
   | _=>none
  | .pe r esz i k=>match y with
   | .pe r' esz' i' k'=>if r=r'/\esz=esz'/\k=k' then some [(.n i,.n i')] else none
   | _=>none
  | .ms r esz off len none=>match y with
   | .ms r' esz' off' len' none=>if r=r'/\esz=esz' then some [(.n off,.n off'),(.n len,.n len')] else none
   | _=>none
  | .ms r esz off len (some c)=>match y with
   | .ms r' esz' off' len' (some c')=>if r=r'/\esz=esz' then some [(.n off,.n off'),(.n len,.n len'),(.n c,.n c')] else none
   | _=>none
  | .mm r=>match y with
   | .mm r'=>if r=r' then some [] else none
   | _=>none
  | .it r=>match y with
   | .it r'=>if r=r' then some [] else none
   | _=>none
  | .aH=>match y with
   | .aH=>some []
   | _=>none
  | .cU=>match y with
   | .cU=>some []
   | _=>none
  | .dL=>match y with
   | .dL=>some []
   | _=>none
  | .dA=>match y with
   | .dA=>some []
   | _=>none
  | .im es=>match y with
   | .im es'=>some [(.e es,.e es')]
   | _=>none
  | .iface t v=>match y with
   | .iface t' v'=>if t=t' then eqV n v v' else none
   | _=>none
  | .ip xs k=>match y with
   | .ip ys k'=>if k=k' then Qc (eqV n) xs ys else none
   | _=>none
  | .func (.func f) xs zs=>match y with
   | .func (.func f') ys us=>if f=f' then SR (Qc (eqV n) xs ys) (Qc (eqV n) zs us) else none
   | _=>none
  | _=>none
def dU (q:Eqs):Prop:=∀ p∈q,p.1=p.2
theorem LI {x y:Option Eqs}{q:Eqs}(h:SR x y=some q)(hq:dU q):∃ a b,x=some a/\y=some b/\dU a/\dU b:=by
 unfold SR at h;split at h
 ·rename_i a b;obtain rfl:=uC h;exact ⟨a,b,rfl,rfl,fun p hp=>hq p (List.mem_append_left _ hp),fun p hp=>hq p (List.mem_append_right _ hp)⟩
 ·cases h
theorem IP {f:EV->EV->Option Eqs}(hf:∀ x y q,f x y=some q->dU q->x=y):∀ {xs ys:List EV} {q:Eqs},Qc f xs ys=some q->dU q->xs=ys
 | [],[],_,_,_=>rfl
 | x :: xs,y :: ys,q,h,hq=>by
  unfold Qc at h;obtain ⟨a,b,h1,h2,h3,h4⟩:=LI h hq;rw [hf x y a h1 h3,IP hf h2 h4]
 | [],_ :: _,_,h,_=>by cases h
 | _ :: _,[],_,h,_=>by cases h
theorem dU.at {q:Eqs}(h:dU q){x y:It}(hm:(x,y)∈q):x=y:=h _ hm
theorem WI:∀ (n:Nat) (x y:EV) (q:Eqs),eqV n x y=some q->dU q->x=y:=by
 intro n;induction n with
 | zero=>intro x y q h; cases h
 | succ n ih=>
  intro x y q h hq;unfold eqV at h;have one:∀ {a b:It},some [(a,b)]=some q->a=b:=fun h=>by
   obtain rfl:=uC h;exact hq.at (List.mem_cons_self ..)
  split at h
  ·split at h
   ·rfl
   ·cases h
  ·split at h
   ·split at h
    ·rename_i hk; subst hk; rw [It.i.inj (one h)]
    ·cases h
   ·cases h
  ·split at h
   ·rw [It.b.inj (one h)]
   ·cases h
  ·split at h
   ·rw [It.s.inj (one h)]
   ·cases h
  ·split at h
   ·split at h
    ·rename_i nn esz len row _ nn' esz' len' row' hk;subst hk;obtain rfl:=uC h;rw [It.b.inj (hq.at (x:=.b nn) (y:=.b nn') (List.mem_cons_self ..)),It.n.inj (hq.at (x:=.n len) (y:=.n len') (List.mem_cons_of_mem _ (List.mem_cons_self ..))),It.r.inj (hq.at (x:=.r row) (y:=.r row') (List.mem_cons_of_mem _ (List.mem_cons_of_mem _ (List.mem_cons_self ..))))]
    ·cases h
   ·cases h
  ·split at h
   ·rw [IP ih h hq]
   ·cases h
  ·split at h
   ·rw [IP ih h hq]
   ·cases h
  ·split at h
   ·split at h
    ·rename_i hk; obtain ⟨rfl,rfl⟩:=hk; rfl
    ·cases h
   ·cases h
  ·split at h
   ·split at h
    ·rename_i hk; obtain ⟨rfl,rfl,rfl⟩:=hk; rw [It.n.inj (one h)]
    ·cases h
   ·cases h
  ·split at h
   ·split at h
    ·rename_i r esz off len _ r' esz' off' len' hk;obtain ⟨rfl,rfl⟩:=hk;obtain rfl:=uC h;rw [It.n.inj (hq.at (x:=.n off) (y:=.n off') (List.mem_cons_self ..)),It.n.inj (hq.at (x:=.n len) (y:=.n len') (List.mem_cons_of_mem _ (List.mem_cons_self ..)))]
    ·cases h
   ·cases h
  ·split at h
   ·split at h
    ·rename_i r esz off len c _ r' esz' off' len' c' hk;obtain ⟨rfl,rfl⟩:=hk;obtain rfl:=uC h;rw [It.n.inj (hq.at (x:=.n off) (y:=.n off') (List.mem_cons_self ..)),It.n.inj (hq.at (x:=.n len) (y:=.n len') (List.mem_cons_of_mem _ (List.mem_cons_self ..))),It.n.inj (hq.at (x:=.n c) (y:=.n c') (List.mem_cons_of_mem _ (List.mem_cons_of_mem _ (List.mem_cons_self ..))))]
    ·cases h
   ·cases h
  ·split at h
   ·split at h
    ·rename_i hk; rw [hk]
    ·cases h
   ·cases h
  ·split at h
   ·split at h
    ·rename_i hk; rw [hk]
    ·cases h
   ·cases h
  ·split at h
   ·rfl
   ·cases h
  ·split at h
   ·rfl
   ·cases h
  ·split at h
   ·rfl
   ·cases h
  ·split at h
   ·rfl
   ·cases h
  ·split at h
   ·rw [It.e.inj (one h)]
   ·cases h
  ·split at h
   ·split at h
    ·rename_i hk; rw [hk,ih _ _ _ h hq]
    ·cases h
   ·cases h
  ·split at h
   ·split at h
    ·rename_i hk; rw [hk,IP ih h hq]
    ·cases h
   ·cases h
  ·split at h
   ·split at h
    ·rename_i hk;obtain ⟨a,b,h1,h2,h3,h4⟩:=LI h hq;rw [hk,IP ih h1 h3,IP ih h2 h4]
    ·cases h
   ·cases h
  ·cases h
def eqO (o o':fE):Option Eqs:=
 match o with
 | .var fr pf cells=>match o' with
  | .var fr' pf' cells'=>if fr=fr'/\pf=pf' then Qc (eqV 20) cells cells' else none
  | _=>none
 | .arr fr pf esz ex len row=>match o' with
  | .arr fr' pf' esz' ex' len' row'=>if fr=fr'/\pf=pf'/\esz=esz'/\ex=ex' then some [(.n len,.n len'),(.r row,.r row')] else none
  | _=>none
 | .map fr pf es=>match o' with
  | .map fr' pf' es'=>if fr=fr'/\pf=pf' then some [(.e es,.e es')] else none
  | _=>none
 | .free=>match o' with
  | .free=>some []
  | _=>none
 | .dead=>match o' with
  | .dead=>some []
  | _=>none
 | _=>none
theorem Zd {o o':fE}{q:Eqs}(h:eqO o o'=some q)(hq:dU q):o=o':=by
 unfold eqO at h;split at h
 ·split at h
  ·split at h
   ·rename_i hk; obtain ⟨rfl,rfl⟩:=hk; rw [IP (WI 20) h hq]
   ·cases h
  ·cases h
 ·split at h
  ·split at h
   ·rename_i hk;obtain ⟨rfl,rfl,rfl,rfl⟩:=hk;rename_i len row _ len' row';obtain rfl:=uC h;rw [It.n.inj (hq.at (x:=.n len) (y:=.n len') (List.mem_cons_self ..)),It.r.inj (hq.at (x:=.r row) (y:=.r row') (List.mem_cons_of_mem _ (List.mem_cons_self ..)))]
   ·cases h
  ·cases h
 ·split at h
  ·split at h
   ·rename_i es _ _ _ es' hk;obtain ⟨rfl,rfl⟩:=hk;obtain rfl:=uC h;rw [It.e.inj (hq.at (x:=.e es) (y:=.e es') (List.mem_cons_self ..))]
   ·cases h
  ·cases h
 ·split at h
  ·rfl
  ·cases h
 ·split at h
  ·rfl
  ·cases h
 ·cases h
def Qd (b:Bool)(mt st:Nat):Nat->List EV->List EV->List EV
 | i,x :: xs,y :: ys=>(bif mt.testBit i then FP b 20 x y else bif st.testBit i then x else .undef) :: Qd b mt st (i+1) xs ys
 | _,_,_=>[]
def RJ (st:Nat):Nat->List EV->List EV->Option Eqs
 | i,x :: xs,y :: ys=>bif st.testBit i then SR (eqV 20 x y) (RJ st (i+1) xs ys) else RJ st (i+1) xs ys
 | _,_,_=>some []
def Qe (b:Bool)(mt st:Nat):Nat->AL->AL->AL
 | i,x :: xs,y :: ys=>(bif mt.testBit i then SQ b x y else bif st.testBit i then x else .dead) :: Qe b mt st (i+1) xs ys
 | _,_,_=>[]
def RK (st:Nat):Nat->AL->AL->Option Eqs
 | i,x :: xs,y :: ys=>bif st.testBit i then SR (eqO x y) (RK st (i+1) xs ys) else RK st (i+1) xs ys
 | _,_,_=>some []
theorem Lo (b:Bool)(mt st:Nat):∀ (i:Nat) (xs ys:List EV) (q:Eqs),xs.length=ys.length->RJ st i xs ys=some q->dU q->aT (bif b then xs else ys) (Qd b mt st i xs ys)
 | i,[],[],_,_,_,_=>by cases b<;>exact .nil
 | i,x :: xs,y :: ys,q,hl,h,hq=>by
  have hl':xs.length=ys.length:=by simpa using hl
  have e:(bif b then x :: xs else y :: ys)=(bif b then x else y) :: (bif b then xs else ys):=by cases b<;>rfl
  rw [e];unfold Qd;unfold RJ at h;cases hs:st.testBit i with
  | true=>
   rw [hs] at h;obtain ⟨q1,q2,h1,h2,h3,h4⟩:=LI h hq;refine .cons ?_ (Lo b mt st (i+1) xs ys q2 hl' h2 h4);cases hm:mt.testBit i with
   | true=>exact (JK b 20 x y).v
   | false=>
    obtain rfl:=WI 20 x y q1 h1 h3;cases b<;>exact bL.refl _
  | false=>
   rw [hs] at h;refine .cons ?_ (Lo b mt st (i+1) xs ys q hl' h hq);cases hm:mt.testBit i with
   | true=>exact (JK b 20 x y).v
   | false=>exact bL.undef
 | i,[],_ :: _,_,hl,_,_=>by simp at hl
 | i,_ :: _,[],_,hl,_,_=>by simp at hl
theorem Lp (b:Bool)(mt st:Nat):∀ (i:Nat) (xs ys:AL) (q:Eqs),xs.length=ys.length->RK st i xs ys=some q->dU q->eW (bif b then xs else ys) (Qe b mt st i xs ys)
 | i,[],[],_,_,_,_=>by cases b<;>exact .nil
 | i,x :: xs,y :: ys,q,hl,h,hq=>by
  have hl':xs.length=ys.length:=by simpa using hl
  have e:(bif b then x :: xs else y :: ys)=(bif b then x else y) :: (bif b then xs else ys):=by cases b<;>rfl
  rw [e];unfold Qe;unfold RK at h;cases hs:st.testBit i with
  | true=>
   rw [hs] at h;obtain ⟨q1,q2,h1,h2,h3,h4⟩:=LI h hq;refine .cons ?_ (Lp b mt st (i+1) xs ys q2 hl' h2 h4);cases hm:mt.testBit i with
   | true=>exact O0 b x y
   | false=>
    obtain rfl:=Zd h1 h3;cases b<;>exact uH _
  | false=>
   rw [hs] at h;refine .cons ?_ (Lp b mt st (i+1) xs ys q hl' h hq);cases hm:mt.testBit i with
   | true=>exact O0 b x y
   | false=>exact uU.dead
 | i,[],_ :: _,_,hl,_,_=>by simp at hl
 | i,_ :: _,[],_,hl,_,_=>by simp at hl
def dN (h:AL)(n:Nat):AL:=h++List.replicate (n - h.length) .dead
theorem Iz {h:AL}{n r:Nat}{o:fE}(hg:(dN h n)[r]? =some o):h[r]? =some o∨o=.dead:=by
 unfold dN at hg;by_cases hr:r<h.length
 ·rw [List.getElem?_append_left hr] at hg; exact .inl hg
 ·rw [List.getElem?_append_right (by omega)] at hg;exact .inr (List.eq_of_mem_replicate (List.mem_of_getElem? hg))
theorem Kd {K:KM}{h:AL}{n b:Nat}(ho:aD K (dN h n) b):aD K h b:=by
 obtain ⟨r,o,h1,h2,h3⟩:=ho;rcases Iz h1 with h1 | rfl
 ·exact ⟨r,o,h1,h2,h3⟩
 ·cases h2
theorem LJ (h:AL)(n:Nat):(dN h n).length=max h.length n:=by
 simp [dN]; omega
theorem Rel.dN {K:KM}{σ:AL}{w:World}(n:Nat)(h:Rel K σ w):Rel K (dN σ n) w:=by
 refine ⟨fun r o hg=>?_,fun r r' o o' h1 h2 l1 l2 hb=>?_,fun b ho=>h.cD b (Kd ho),fun r o hg ht=>?_,h.Flt,fun r ha=>?_⟩
 ·rcases Iz hg with hg | rfl
  ·exact h.obj r o hg
  ·trivial
 ·rcases Iz h1 with h1 | rfl
  ·rcases Iz h2 with h2 | rfl
   ·exact h.inj r r' o o' h1 h2 l1 l2 hb
   ·cases l2
  ·cases l1
 ·rcases Iz hg with hg | rfl
  ·exact h.lt r o hg ht
  ·cases ht
 ·have:=h.alt r ha;rw [LJ];omega
theorem aJ.pad {K:KM}{σ:AL}{w:World}{ds:List Deferred}{ex:EX}{t:List EV}{σ2:AL}(n:Nat){e:Exit}{a:Act}{w':World}
  (h:aJ K σ w ds (ex,t,σ2) e a w'):aJ K σ w ds (ex,t,dN σ2 n) e a w':=by
 have main:(∃ K' bs,Ext K σ w K' σ2 w'/\Rel K' σ2 w'/\aU K' w' t a.tmps/\Marks K' σ2 w w' ds a.defers bs)->∃ K' bs,Ext K σ w K' (dN σ2 n) w'/\Rel K' (dN σ2 n) w'/\aU K' w' t a.tmps/\Marks K' (dN σ2 n) w w' ds a.defers bs:=by
  rintro ⟨K',bs,h3,h4,h5,h6,h7,h8⟩
  exact ⟨K',bs,⟨by rw [LJ]; have:=h3.len; omega,h3.al,h3.vP,h3.F,h3.F',fun b hb=>h3.own b (Kd hb),h3.stay,h3.size,h3.os,h3.tape,h3.output⟩,h4.dN n,h5,h6,h7,fun b hb=>let ⟨x,y,z,u⟩:=h8 b hb; ⟨x,y,fun ho=>z (Kd ho),u⟩⟩
 cases e with
 | outgrown=>exact h.elim
 | normal=>exact ⟨h.1,main h.2⟩
 | exit i=>exact ⟨h.1,main h.2⟩
 | goto l=>exact ⟨h.1,main h.2⟩
 | ret=>exact ⟨h.1,main h.2⟩
 | panic c=>exact ⟨h.1,main h.2⟩
theorem uT.pad {P:Program}{G:Nat->Option (List EV)}{rnd:Bool}{c:Code}{t t':List EV}{σ σ':AL}{ex:EX}(n:Nat)(h:uT P G rnd c t σ (ex,t',σ')):uT P G rnd c t σ (ex,t',dN σ' n):=
 ⟨fun ro K w a hro hR hG hv=>wpIn_mono (h.1 ro K w a hro hR hG hv) fun _ _ _ hp=>hp.pad n,
 fun b hb ro K w a hro hR hG hv=>Hh (h.2 b hb ro K w a hro hR hG hv) fun _ _ _ hp=>hp.pad n⟩
def Qf:EX->EX->Bool
 | .normal,.normal=>true
 | .leave i,.leave j=>Nat.beq i j
 | .ret,.ret=>true
 | _,_=>false
theorem UJ {a b:EX}(h:Qf a b=true):a=b:=by
 unfold Qf at h;split at h
 ·rfl
 ·rw [Nat.eq_of_beq_eq_true h]
 ·rfl
 ·cases h
abbrev RC:=EX×List EV×AL
def SS (b:Bool)(mt st mh sh:Nat)(r1 r2:RC):Option (RC×Eqs):=
 match r1,r2 with
 | (e1,t1,h1),(e2,t2,h2)=>
  bif Qf e1 e2 && Nat.beq t1.length t2.length then
   match SR (RJ st 0 t1 t2) (RK sh 0 (dN h1 h2.length) (dN h2 h1.length)) with
   | some q=>some ((e1,Qd b mt st 0 t1 t2,Qe b mh sh 0 (dN h1 h2.length) (dN h2 h1.length)),q)
   | none=>none
  else none
theorem UK {P:Program}{G:Nat->Option (List EV)}{rnd:Bool}{c:Code}{t:List EV}{σ:AL}{b:Bool}{mt st mh sh:Nat}{r1 r2 r:RC}{q:Eqs}(hm:SS b mt st mh sh r1 r2=some (r,q))(hq:∀ p∈q,p.1=p.2)
  (h1:b=true->uT P G rnd c t σ r1) (h2:b=false->uT P G rnd c t σ r2):uT P G rnd c t σ r:=by
 obtain ⟨e1,t1,s1⟩:=r1;obtain ⟨e2,t2,s2⟩:=r2;dsimp only [SS] at hm;cases hc:(Qf e1 e2 && Nat.beq t1.length t2.length) with
 | false=>rw [hc] at hm; cases hm
 | true=>
  rw [hc] at hm;simp only [cond_true] at hm;split at hm
  rotate_left
  ·cases hm
  rename_i q' hcq;simp only [uB,Prod.mk.injEq] at hm;obtain ⟨rfl,rfl⟩:=hm;obtain ⟨q1,q2,g1,g2,g3,g4⟩:=LI hcq hq;simp only [uF] at hc;obtain ⟨hc1,hc2⟩:=hc;obtain rfl:=UJ hc1;have hlt:=Lo b mt st 0 t1 t2 q1 (Nat.eq_of_beq_eq_true hc2) g1 g3;have hlh:=Lp b mh sh 0 (dN s1 s2.length) (dN s2 s1.length) q2 (by rw [LJ,LJ]; omega) g2 g4;cases b with
  | true=>exact ((h1 rfl).pad s2.length).weaken (uI _) (eW.refl _) hlt hlh
  | false=>exact ((h2 rfl).pad s1.length).weaken (uI _) (eW.refl _) hlt hlh
def Nw (m:Nat):Nat->AL->AL
 | _,[]=>[]
 | i,o :: l=>(bif m.testBit i then o else .dead) :: Nw m (i+1) l
theorem G8 (m:Nat):∀ (i:Nat) (l:AL),eW l (Nw m i l)
 | _,[]=>.nil
 | i,o :: l=>by
  refine .cons ?_ (G8 m (i+1) l);cases m.testBit i with
  | true=>exact uH _
  | false=>exact uU.dead
inductive Q where
 | dec (d:Bool)
 | kn (l k:Nat)
 | no
mutual
inductive PcE where
 | is (m mh:Nat) (r:RC)
 | fork (new b:Bool) (mt st mh sh:Nat) (s1 s2:Scr)
inductive Scr where
 | mk (qs:List (Nat×Q)) (cs:List (Nat×PcE)) (ps:List (Option EV)) (gs:List (Option (EV×AL))) (fs:List (Option (Option (Nat×EV))))
end
structure eF where
 qs:List (Nat×Q)
 cs:List (Nat×PcE)
 ps:List (Option EV)
 gs:List (Option (EV×AL))
 fs:List (Option (Option (Nat×EV)))
 eqs:Eqs
 eC:List Prop
def Scr.start:Scr->eF
 | .mk qs cs ps gs fs=>⟨qs,cs,ps,gs,fs,[],[]⟩
def aR:List Prop->Prop
 | []=>True
 | p :: l=>p/\aR l
theorem aR.nil:aR []:=trivial
theorem aR.cons {p:Prop}{l:List Prop}(h:p)(t:aR l):aR (p :: l):=⟨h,t⟩
theorem Mb {a b:List Prop}(h:aR (a++b)):aR a/\aR b:=by
 induction a with
 | nil=>exact ⟨trivial,h⟩
 | cons p l ih=>exact ⟨⟨h.1,(ih h.2).1⟩,(ih h.2).2⟩
def Xk (p:Prop):List Prop->List Prop
 | []=>[]
 | q :: l=>(p->q) :: Xk p l
theorem RL {p:Prop}{l:List Prop}(h:aR (Xk p l))(hp:p):aR l:=by
 induction l with
 | nil=>trivial
 | cons q l ih=>exact ⟨h.1 hp,ih h.2⟩
def eF.V (s:eF):Prop:=(∀ p∈s.eqs,p.1=p.2)/\aR s.eC
abbrev Cr:=List (List (Bool×Bool))
def UL {α:Type}:List α->Nat->Option α
 | [],_=>none
 | p :: l,k=>match k with
  | 0=>some p
  | k+1=>UL l k
theorem RM {α:Type}{F:List α}:∀ {k:Nat} {p:α},UL F k=some p->p∈F:=by
 induction F with
 | nil=>intro k p hg; simp [UL] at hg
 | cons q l ih=>
  intro k p hg;cases k with
  | zero=>simp only [UL,uB] at hg; subst hg; exact List.mem_cons_self ..
  | succ k=>exact List.mem_cons_of_mem _ (ih hg)
def Ze (F:Cr)(l k:Nat):Option (Bool×Bool):=
 match UL F l with
 | some v=>UL v k
 | none=>none
def bY (F:Cr):Prop:=∀ v∈F,∀ p∈v,p.1=p.2
theorem Xl {F:Cr}(h:bY F){l k:Nat}{p:Bool×Bool}(hg:Ze F l k=some p):p.1=p.2:=by
 unfold Ze at hg;split at hg
 ·rename_i v hv;exact h v (RM hv) p (RM hg)
 ·cases hg
def TB (new:Bool)(F:Cr)(b d:Bool):Cr:=
 match new with
 | true=>[(b,d)] :: F
 | false=>match F with
  | []=>[[(b,d)]]
  | v :: F=>(v++[(b,d)]) :: F
theorem bY.push {F:Cr}{b d:Bool}(new:Bool)(h:bY F)(hb:b=d):bY (TB new F b d):=by
 have one:∀ p∈[(b,d)],p.1=p.2:=by
  intro p hp;simp only [List.mem_singleton] at hp;subst hp;exact hb
 cases new with
 | true=>
  intro v hv;rcases List.mem_cons.1 hv with rfl | hv
  ·exact one
  ·exact h v hv
 | false=>
  cases F with
  | nil=>intro v hv; simp only [TB,List.mem_singleton] at hv; subst hv; exact one
  | cons u F=>
   intro v hv;rcases List.mem_cons.1 hv with rfl | hv
   ·intro p hp;rcases List.mem_append.1 hp with hp | hp
    ·exact h u (List.mem_cons_self ..) p hp
    ·exact one p hp
   ·exact h v (List.mem_cons_of_mem _ hv)
theorem bY.nil:bY []:=fun p h=>by cases h
theorem bY.one {v:List (Bool×Bool)}(h:∀ p∈v,p.1=p.2):bY [v]:=by
 intro u hu;simp only [List.mem_singleton] at hu;subst hu;exact h
theorem AN:∀ p∈([]:List (Bool×Bool)),p.1=p.2:=fun p h=>by cases h
theorem vR {v:List (Bool×Bool)}{b d:Bool}(hb:b=d)(h:∀ p∈v,p.1=p.2):∀ p∈(b,d) :: v,p.1=p.2:=by
 intro p hp;rcases List.mem_cons.1 hp with rfl | hp
 ·exact hb
 ·exact h p hp
def WJ (F:Cr)(b:Bool)(q:Q)(t:List (Nat×Q)):M eF Bool:=fun s=>
 match q with
 | .dec d=>some (d,{ s with qs:=t,eC:=(b=d) :: s.eC })
 | .kn l k=>match Ze F l k with
  | some (b',d)=>some (d,{ s with qs:=t,eqs:=(.b b,.b b') :: s.eqs })
  | none=>none
 | .no=>none
theorem Qg {F:Cr}(hF:bY F)(b:Bool)(q:Q)(t:List (Nat×Q)):Ok eF.V (WJ F b q t) fun d=>d=b:=by
 intro s d s' h hv;unfold WJ at h;split at h
 ·simp only [uB,Prod.mk.injEq] at h; obtain ⟨rfl,rfl⟩:=h; exact ⟨⟨hv.1,hv.2.2⟩,hv.2.1.symm⟩
 ·split at h
  ·rename_i b' d' hg;simp only [uB,Prod.mk.injEq] at h;obtain ⟨rfl,rfl⟩:=h;have h1:=hv.1 _ (List.mem_cons_self ..);have h2:b=b':=It.b.inj h1;have h3:=Xl hF hg;simp only at h3;exact ⟨⟨fun p hp=>hv.1 p (List.mem_cons_of_mem _ hp),hv.2⟩,by rw [h2,h3]⟩
  ·cases h
 ·cases h
def Qh (F:Cr)(b:Bool):M eF Bool:=fun s=>
 match s.qs with
 | []=>some (b,s)
 | (0,q) :: t=>WJ F b q t s
 | (n+1,q) :: t=>some (b,{ s with qs:=(n,q) :: t })
def M9 (F:Cr)(b:Bool):M eF Unit:=fun s=>
 match s.qs with
 | []=>if b then some ((),s) else none
 | (0,q) :: t=>match WJ F b q t s with
  | some (true,s')=>some ((),s')
  | _=>none
 | (n+1,q) :: t=>if b then some ((),{ s with qs:=(n,q) :: t }) else none
def Qi (F:Cr)(b:Bool):M eF Bool:=fun s=>
 match s.qs with
 | []=>some (b,s)
 | (0,.no) :: t=>some (false,{ s with qs:=t })
 | (0,q) :: t=>WJ F b q t s
 | (n+1,q) :: t=>some (b,{ s with qs:=(n,q) :: t })
theorem O1 {F:Cr}(hF:bY F)(b:Bool):Ok eF.V (Qh F b) fun d=>d=b:=by
 intro s d s' h hv;unfold Qh at h;split at h
 ·simp only [uB,Prod.mk.injEq] at h; obtain ⟨rfl,rfl⟩:=h; exact ⟨hv,rfl⟩
 ·exact Qg hF b _ _ _ _ _ h hv
 ·simp only [uB,Prod.mk.injEq] at h; obtain ⟨rfl,rfl⟩:=h; exact ⟨hv,rfl⟩
theorem Nx {F:Cr}(hF:bY F)(b:Bool):Ok eF.V (M9 F b) fun _=>b=true:=by
 intro s d s' h hv;unfold M9 at h;split at h
 ·split at h
  ·simp only [uB,Prod.mk.injEq] at h; obtain ⟨_,rfl⟩:=h; exact ⟨hv,‹_›⟩
  ·cases h
 ·split at h
  ·rename_i s2 hs;simp only [uB,Prod.mk.injEq] at h;obtain ⟨_,rfl⟩:=h;have:=Qg hF b _ _ _ _ _ hs hv;exact ⟨this.1,this.2.symm⟩
  ·cases h
 ·split at h
  ·simp only [uB,Prod.mk.injEq] at h; obtain ⟨_,rfl⟩:=h; exact ⟨hv,‹_›⟩
  ·cases h
theorem O2 {F:Cr}(hF:bY F)(b:Bool):Ok eF.V (Qi F b) fun d=>d=true->b=true:=by
 intro s d s' h hv;unfold Qi at h;split at h
 ·simp only [uB,Prod.mk.injEq] at h; obtain ⟨rfl,rfl⟩:=h; exact ⟨hv,id⟩
 ·simp only [uB,Prod.mk.injEq] at h; obtain ⟨rfl,rfl⟩:=h; exact ⟨hv,fun h=>by cases h⟩
 ·have:=Qg hF b _ _ _ _ _ h hv;exact ⟨this.1,fun hd=>by rw [<-this.2]; exact hd⟩
 ·simp only [uB,Prod.mk.injEq] at h; obtain ⟨rfl,rfl⟩:=h; exact ⟨hv,id⟩
def LK (P:Program)(kt:Go.TypeId)(k:EV)(es:List (EV×EV)):M eF (Option (Option (Nat×EV))):=fun s=>
 match s.fs with
 | []=>some (none,s)
 | some r :: t=>some (some r,{ s with fs:=t,eC:=BM P kt k es 0 r :: s.eC })
 | none :: t=>some (none,{ s with fs:=t })
theorem Mc {P:Program}(kt:Go.TypeId)(k:EV)(es:List (EV×EV)):Ok eF.V (LK P kt k es) fun o=>∀ r,o=some r->BM P kt k es 0 r:=by
 intro s d s' h hv;unfold LK at h;split at h
 ·simp only [uB,Prod.mk.injEq] at h; obtain ⟨rfl,rfl⟩:=h; exact ⟨hv,fun r h=>by cases h⟩
 ·simp only [uB,Prod.mk.injEq] at h; obtain ⟨rfl,rfl⟩:=h; exact ⟨⟨hv.1,hv.2.2⟩,fun r h=>by obtain rfl:=uC h; exact hv.2.1⟩
 ·simp only [uB,Prod.mk.injEq] at h; obtain ⟨rfl,rfl⟩:=h; exact ⟨hv,fun r h=>by cases h⟩
def TC (b:Bool)(mt st mh sh:Nat)(q1 q2:Option (RC×eF))(t:List (Nat×PcE)):M eF (Option RC):=fun s=>
 match q1 with
 | none=>none
 | some (r1,u1)=>match q2 with
  | none=>none
  | some (r2,u2)=>match SS b mt st mh sh r1 r2 with
   | none=>none
   | some (r,q)=>some (some r,{ s with cs:=t,eqs:=u1.eqs++(u2.eqs++(q++s.eqs)),eC:=Xk (b=true) u1.eC++(Xk (b=false) u2.eC++s.eC) })
noncomputable def BG (P:Program)(G:Nat->Option (List EV))(modes news:FuncId->Bool):Nat->Cr->Drv eF
 | 0,F=>{
   br:=Qh F,bJ:=M9 F,nw:=Qi F,mode:=fun f=>pure (modes f),fresh:=fun f=>pure (news f),room:=fun b=>pure (if b || news 0 then 3 else 0),uX:=pure,find:=LK P,piece:=fun _ _ _ _=>M.fail
   dC:=fun _ _=>M.fail
   bZ:=fun _ _ _=>M.fail
   round:=fun _ _ _=>M.fail }
 | n+1,F=>{
   br:=Qh F,bJ:=M9 F,nw:=Qi F,mode:=fun f=>pure (modes f),fresh:=fun f=>pure (news f),room:=fun b=>pure (if b || news 0 then 3 else 0),uX:=pure,find:=LK P
   piece:=fun rnd c tmps σ s=>
    match s.cs with
    | []=>some (none,s)
    | (0,.is m mh r) :: t=>some (some r,{ s with cs:=t,eC:=uT P G rnd c (Ox m 0 tmps) (Nw mh 0 σ) r :: s.eC })
    | (0,.fork new b mt st mh sh s1 s2) :: t=>
     TC b mt st mh sh (BX (BG P G modes news n (TB new F b true)) P G rnd 100000 c tmps σ s1.start) (BX (BG P G modes news n (TB new F b false)) P G rnd 100000 c tmps σ s2.start) t s
    | (m+1,e) :: t=>some (none,{ s with cs:=(m,e) :: t })
   dC:=fun f args s=>match s.ps with
    | some v :: t=>some (v,{ s with ps:=t,eC:=uY P G f args v :: s.eC })
    | none :: t=>if Cc P f then EY (BG P G modes news n F) P G 100000 f args { s with ps:=t } else none
    | []=>if Cc P f then EY (BG P G modes news n F) P G 100000 f args s else none
   bZ:=fun f args σ s=>match s.gs with
    | some v :: t=>some (v,{ s with gs:=t,eC:=aA P G f args σ v.1 v.2 :: s.eC })
    | none :: t=>if Cc P f then Ie (BG P G modes news n F) P G 100000 f args σ { s with gs:=t } else none
    | []=>if Cc P f then Ie (BG P G modes news n F) P G 100000 f args σ s else none
   round:=fun c t σ=>BX (BG P G modes news n F) P G true 100000 c t σ }
theorem Hj {P:Program}(G:Nat->Option (List EV))(modes news:FuncId->Bool)(hm:P.follows .mixedOrders=true):∀ n F,bY F->dK eF.V P G (BG P G modes news n F):=by
 intro n;induction n with
 | zero=>
  intro F hF;exact { br:=O1 hF,bJ:=Nx hF,nw:=O2 hF,mode:=fun f=>Ok.pure trivial,fresh:=fun f=>Ok.pure trivial,room:=fun _=>Ok.pure trivial,uX:=fun q=>Ok.pure rfl,find:=Mc,piece:=fun _ _ _ _=>Ok.fail,dC:=fun _ _=>Ok.fail,bZ:=fun _ _ _=>Ok.fail,round:=fun c t σ=>Ok.fail }
 | succ n ih=>
  intro F hF;refine { br:=O1 hF,bJ:=Nx hF,nw:=O2 hF,mode:=fun f=>Ok.pure trivial,fresh:=fun f=>Ok.pure trivial,room:=fun _=>Ok.pure trivial,uX:=fun q=>Ok.pure rfl,find:=Mc,piece:=fun rnd c tmps σ s o s' h hv=>?_,dC:=fun f args s v s' h hv=>?_,bZ:=fun f args σ s v s' h hv=>?_,round:=fun c t σ=>(D7 (ih F hF) hm true 100000 c t σ).mono fun r h=>h.1 }
  ·unfold BG at h;dsimp only at h;split at h
   ·simp only [uB,Prod.mk.injEq] at h; obtain ⟨rfl,rfl⟩:=h; exact ⟨⟨hv.1,hv.2.2⟩,hv.2.1⟩
   ·obtain ⟨he,h⟩:=HO (V:=eF.V) h;have r:=JD (s:=_) (ih F hF) hm he h hv;exact ⟨r.1,r.2⟩
   ·obtain ⟨he,h⟩:=HO (V:=eF.V) h;have r:=JD (s:=_) (ih F hF) hm he h hv;exact ⟨r.1,r.2⟩
  ·unfold BG at h;dsimp only at h;split at h
   ·simp only [uB,Prod.mk.injEq] at h; obtain ⟨rfl,rfl⟩:=h; exact ⟨⟨hv.1,hv.2.2⟩,hv.2.1⟩
   ·obtain ⟨he,h⟩:=HO (V:=eF.V) h;obtain ⟨x,y⟩:=v;have:=LB (ih F hF) hm he h hv;have hv0:=(M8 (ih F hF) hm 100000 f args σ _ _ _ h hv).1;exact ⟨hv0,this⟩
   ·obtain ⟨he,h⟩:=HO (V:=eF.V) h;obtain ⟨x,y⟩:=v;have:=LB (ih F hF) hm he h hv;have hv0:=(M8 (ih F hF) hm 100000 f args σ _ _ _ h hv).1;exact ⟨hv0,this⟩
  ·unfold BG at h;dsimp only at h;split at h
   ·simp only [uB,Prod.mk.injEq] at h; obtain ⟨rfl,rfl⟩:=h; exact ⟨hv,fun r h=>by cases h⟩
   ·simp only [uB,Prod.mk.injEq] at h; obtain ⟨rfl,rfl⟩:=h; exact ⟨⟨hv.1,hv.2.2⟩,fun r h=>by obtain rfl:=uC h; exact uT.weaken (Hi _ 0 _) (G8 _ 0 _) hv.2.1 (uI _) (eW.refl _)⟩
   ·rename_i new b mt st mh sh s1 s2 t hcs;unfold TC at h;split at h
    ·cases h
    ·rename_i r1 u1 hr1;split at h
     ·cases h
     ·rename_i r2 u2 hr2;split at h
      ·cases h
      ·rename_i r q hmr;simp only [uB,Prod.mk.injEq] at h;obtain ⟨rfl,rfl⟩:=h;obtain ⟨he,ho⟩:=hv;dsimp only at he ho;obtain ⟨o1,ho⟩:=Mb ho;obtain ⟨o2,o3⟩:=Mb ho;have e1:∀ p∈u1.eqs,p.1=p.2:=fun p hp=>he p (by simp [hp]);have e2:∀ p∈u2.eqs,p.1=p.2:=fun p hp=>he p (by simp [hp]);have e3:∀ p∈q,p.1=p.2:=fun p hp=>he p (by simp [hp]);have e4:∀ p∈s.eqs,p.1=p.2:=fun p hp=>he p (by simp [hp]);refine ⟨⟨e4,o3⟩,fun r' hr'=>?_⟩;obtain rfl:=uC hr';refine UK hmr e3 (fun hb=>?_) (fun hb=>?_)
       ·exact (D7 (ih _ (hF.push new hb)) hm rnd 100000 c tmps σ _ _ _ hr1 ⟨e1,RL o1 hb⟩).2
       ·exact (D7 (ih _ (hF.push new hb)) hm rnd 100000 c tmps σ _ _ _ hr2 ⟨e2,RL o2 hb⟩).2
   ·simp only [uB,Prod.mk.injEq] at h; obtain ⟨rfl,rfl⟩:=h; exact ⟨hv,fun r h=>by cases h⟩
def GN {α:Type}:Option (α×eF)->Option (α×List Prop)
 | some (a,s)=>some (a,s.eC)
 | none=>none
def eqL {α:Type}:Option (α×eF)->List It
 | some (_,s)=>s.eqs.map Prod.fst
 | none=>[]
def eqR {α:Type}:Option (α×eF)->List It
 | some (_,s)=>s.eqs.map Prod.snd
 | none=>[]
theorem Lq {q:Eqs}(h:q.map Prod.fst=q.map Prod.snd):∀ p∈q,p.1=p.2:=by
 induction q with
 | nil=>intro p hp; cases hp
 | cons x l ih=>
  simp only [List.map_cons,List.cons.injEq] at h;intro p hp;rcases List.mem_cons.1 hp with rfl | hp
  ·exact h.1
  ·exact ih h.2 p hp
theorem Xm {α:Type}{x:Option (α×eF)}{a:α}{ow:List Prop}(h:GN x=some (a,ow))(hq:eqL x=eqR x)(ho:aR ow):∃ s,x=some (a,s)/\s.V:=by
 cases x with
 | none=>cases h
 | some p=>
  obtain ⟨b,s⟩:=p;simp only [GN,uB,Prod.mk.injEq] at h;obtain ⟨rfl,rfl⟩:=h;exact ⟨s,rfl,Lq hq,ho⟩
section
variable {P:Program}{G:Nat->Option (List EV)}
theorem O3 {modes news:FuncId->Bool}{n fuel:Nat}{F:Cr}{f:FuncId}{args:List EV}{v:EV}{s:Scr}{ow:List Prop}(hm:P.follows .mixedOrders=true)(hF:bY F)(he:Cc P f=true)
  (h:GN (EY (BG P G modes news n F) P G fuel f args s.start)=some (v,ow)) (hq:eqL (EY (BG P G modes news n F) P G fuel f args s.start)=eqR (EY (BG P G modes news n F) P G fuel f args s.start))
  (ho:aR ow):uY P G f args v:=by
 obtain ⟨s',h1,h2⟩:=Xm h hq ho;exact (JD (Hj G modes news hm n F hF) hm he h1 h2).2
end
theorem eW.append {a b c:AL}(h:eW a b):eW (a++c) (b++c):=by
 induction h with
 | nil=>exact eW.refl _
 | cons h _ ih=>exact .cons h ih
def Xn (m mh n:Nat):Option (RC×eF)->Option (RC×eF)
 | some ((ex,t,h),s)=>some ((ex,Ox m 0 t,Nw mh 0 ((h.take n).map (Zc n))),s)
 | none=>none
theorem aA.trunc {P:Program}{G:Nat->Option (List EV)}{f:FuncId}{args:List EV}{v:EV}{σ σ0 g:AL}(h:aA P G f args σ v (σ0++g))(hlen:σ.length<=σ0.length)
  (hl:σ0.all (SP σ0.length)=true) (hv:(v.refs.all fun r=>Decidable.decide (r<σ0.length))=true):aA P G f args σ v σ0:=by
 refine ⟨h.1,fun K w margs hR hG hargs=>(h.2 K w margs hR hG hargs).mono fun e w' hp=>?_⟩;cases e with
 | outgrown=>exact hp
 | panicked _=>exact hp
 | returned mv=>
  obtain ⟨K',h3,h4,h5⟩:=hp;exact ⟨K'.upto σ0.length,⟨hlen,fun r ha=>⟨h3.al r ha,Nat.lt_of_lt_of_le (hR.alt r ha) hlen⟩,h3.vP,h3.F,h3.F',fun b hb=>h3.own b hb.pre,h3.stay,h3.size,h3.os,h3.tape,h3.output⟩,h4.low hl,h5.low fun r hr=>by simpa using List.all_eq_true.1 hv r hr⟩
theorem aA.weaken {P:Program}{G:Nat->Option (List EV)}{f:FuncId}{args args':List EV}{v v':EV}{σ0 σ1 σ2 σ3:AL}(ha:aT args args')(h0:eW σ0 σ1)(h:aA P G f args' σ1 v σ2)(hv:bL v v')(h2:eW σ2 σ3):aA P G f args σ0 v' σ3:=
 ⟨h.1,fun K w margs hR hG hargs=>(h.2 K w margs (h0.rel hR) hG (ha.vrs hargs)).mono fun e w' hp=>by
  cases e with
  | outgrown=>exact hp
  | panicked _=>exact hp
  | returned mv=>
   obtain ⟨K',h3,h4,h5⟩:=hp;exact ⟨K',h3.weaken h0 h2,h2.rel h4,hv _ _ _ h5⟩⟩
section
variable {P:Program}{G:Nat->Option (List EV)}
theorem RN {modes news:FuncId->Bool}{n fuel:Nat}{F:Cr}{rnd:Bool}{c:Code}{tmps t:List EV}{σ σ':AL}{ex:EX}{s:Scr}{ow:List Prop}(m mh k:Nat)(hm:P.follows .mixedOrders=true)(hF:bY F)
  (h:GN (Xn m mh k (BX (BG P G modes news n F) P G rnd fuel c tmps σ s.start))=some ((ex,t,σ'),ow)) (hq:eqL (BX (BG P G modes news n F) P G rnd fuel c tmps σ s.start)=eqR (BX (BG P G modes news n F) P G rnd fuel c tmps σ s.start))
  (hl:(Nat.ble σ.length σ'.length && σ'.all (SP σ'.length) && t.all fun v=>v.refs.all fun r=>Decidable.decide (r<σ'.length))=true)
  (ho:aR ow):aE P G rnd c tmps σ (ex,t,σ'):=by
 simp only [uF] at hl;obtain ⟨⟨l1,l2⟩,l3⟩:=hl;cases hr:BX (BG P G modes news n F) P G rnd fuel c tmps σ s.start with
 | none=>rw [hr] at h; cases h
 | some q=>
  obtain ⟨⟨ex',t',h'⟩,s'⟩:=q;rw [hr] at h hq;simp only [Xn,GN,uB,Prod.mk.injEq] at h;obtain ⟨⟨rfl,rfl,rfl⟩,rfl⟩:=h;have hs:=(D7 (Hj G modes news hm n F hF) hm rnd fuel c tmps σ _ _ _ hr ⟨Lq hq,ho⟩).2.1;refine aE.trunc (g:=h'.drop k) ?_ (Nat.le_of_ble_eq_true l1) l2 l3;refine hs.weaken (uI _) (eW.refl _) (Hi m 0 t') ?_;have:=((S9 k (h'.take k)).trans (G8 mh 0 ((h'.take k).map (Zc k)))).append (c:=h'.drop k)
  rwa [List.take_append_drop] at this
end
end Go.Ev
namespace Go.Ev
def ADN (L:List Nat)(t:List EV):Bool:=t.all fun v=>v.refs.all fun r=>L.contains r && Nat.beq (L.idxOf r) r
def eG (ρ:Nat->Nat)(q:Nat->Prop)(o:fE):Prop:=(o.cT=true/\∀ r'∈o.refs,q r')∨∃ st t ps a b p,o=.loop st t ps a b p/\∀ v∈t,∀ r'∈v.refs,q r'/\ρ r'=r'
theorem eG.there {ρ:Nat->Nat}{q:Nat->Prop}{o:fE}(h:eG ρ q o):o.there=true:=by
 rcases h with ⟨h,_⟩ | ⟨st,t,ps,a,b,p,rfl,_⟩
 ·exact GL h
 ·rfl
theorem VR.fix {K K':KM}{w:World}{v:EV}{mv:Value}{ρ:Nat->Nat}(hF:K'.F=K.F)(h:VR K w v mv):(∀ r∈v.refs,F0 K K' ρ r/\ρ r=r)->VR K' w v mv:=by
 have one:∀ r,(F0 K K' ρ r/\ρ r=r)->(K.al r->K'.al r)/\K'.vP r=K.vP r/\K'.off r=K.off r/\K'.ext r=K.ext r/\K'.len r=K.len r:=fun r h=>by
  obtain ⟨h,e⟩:=h;unfold F0 at h;rw [e] at h;exact h
 induction h with
 | pure v mv h=>intro _; exact .pure _ _ (by rw [hF]; exact h)
 | ptr r k ha=>
  intro hr;obtain ⟨m1,m2,m3,m4,m5⟩:=one r (hr r (by simp [EV.refs]));rw [<-m2,<-m3]; exact .ptr r k (m1 ha)
 | pe r esz i k ha hi=>
  intro hr;obtain ⟨m1,m2,m3,m4,m5⟩:=one r (hr r (by simp [EV.refs]));rw [<-m2,<-m3]; exact .pe r esz i k (m1 ha) (by rw [m5]; exact hi)
 | ms r esz off len cap mcap a ha hle hlen hcap hnone haddr=>
  intro hr;obtain ⟨m1,m2,m3,m4,m5⟩:=one r (hr r (by simp [EV.refs]));exact .ms r esz off len cap mcap a (m1 ha) hle (by rw [m5]; exact hlen) (by rw [m5]; exact hcap) (by rw [m3,m4]; exact hnone) (by rw [m2,m3]; exact haddr)
 | mm r ha=>
  intro hr;obtain ⟨m1,m2,m3,m4,m5⟩:=one r (hr r (by simp [EV.refs]));rw [<-m2]; exact .mm r (m1 ha)
 | it r ha=>
  intro hr;obtain ⟨m1,m2,m3,m4,m5⟩:=one r (hr r (by simp [EV.refs]));rw [<-m2]; exact .it r (m1 ha)
 | agg cs mcs hl h1 _ ih=>intro hr; exact .agg cs mcs hl h1 fun i a b=>ih i a b fun r hx=>hr r (by simp only [EV.refs]; exact CG a hx)
 | tuple cs mcs hl _ ih=>intro hr; exact .tuple cs mcs hl fun i a b=>ih i a b fun r hx=>hr r (by simp only [EV.refs]; exact CG a hx)
 | func fn a c mf mc hl hl' _ _ ih ih'=>
  intro hr;exact .func fn a c mf mc hl hl' (fun i x y=>ih i x y fun r hx=>hr r (by simp only [EV.refs,List.mem_append]; exact .inl (CG x hx))) fun i x y=>ih' i x y fun r hx=>hr r (by simp only [EV.refs,List.mem_append]; exact .inr (CG x hx))
 | iface t v mv _ ih=>intro hr; exact .iface t v mv (ih fun r hx=>hr r (by simpa only [EV.refs] using hx))
theorem OR.renOk {K K':KM}{w:World}{r:Nat}{o:fE}{ρ:Nat->Nat}{q:Nat->Prop}(hF:K'.F=K.F)(ho:eG ρ q o)(h:OR K w r o)(hr:F0 K K' ρ r)(hm:∀ r',q r'->F0 K K' ρ r'):OR K' w (ρ r) (o.aX ρ):=by
 rcases ho with ⟨h1,h2⟩ | ⟨st,t,ps,a,b,p,rfl,h2⟩
 ·exact OR.aX hF h1 h hr fun r' hr'=>hm r' (h2 r' hr')
 ·obtain ⟨m1,m2,m3,m4,m5⟩:=hr;obtain ⟨ha,fn,mt,d,q1,q2,q3⟩:=h;exact ⟨m1 ha,fn,mt,d,by rw [m2]; exact q1,q2,fun i x y=>(q3 i x y).fix hF fun r' hr'=>⟨hm r' (h2 _ (List.getElem_mem x) r' hr').1,(h2 _ (List.getElem_mem x) r' hr').2⟩⟩
def FQ (σ:AL)(L:List Nat):List Nat->Option AL
 | []=>some []
 | r :: rs=>match σ[r]? with
  | some .dead=>(FQ σ L rs).map (.dead :: ·)
  | some .free=>(FQ σ L rs).map (.dead :: ·)
  | some (.loop st t ps a b p)=>if ADN L t then (FQ σ L rs).map (.loop st t ps a b p :: ·) else none
  | some o=>if o.cT && o.refs.all (L.contains ·) then (FQ σ L rs).map (o.aX (L.idxOf ·) :: ·) else none
  | none=>none
def I0 (L:List Nat)(v:EV):EV:=if v.refs.all (L.contains ·) then v.aX (L.idxOf ·) else .undef
def SU (m:Nat)(L:List Nat):Bool:=(List.range m).all fun i=>match L[i]? with | some j=>Nat.beq i j | none=>false
theorem Lr {m:Nat}{L:List Nat}(h:SU m L=true):m<=L.length/\∀ i,i<m->L.getD i 0=i:=by
 have h1:∀ i,i<m->L[i]? =some i:=by
  intro i hi;have:=List.all_eq_true.1 h i (by simpa using hi);split at this
  ·rename_i j hj; rw [hj,Nat.eq_of_beq_eq_true this]
  ·cases this
 refine ⟨?_,fun i hi=>by rw [uA,h1 i hi]; rfl⟩;cases m with
 | zero=>omega
 | succ m=>
  have:=h1 m (by omega);have:=(List.getElem?_eq_some_iff.1 this).1;omega
theorem Hk {σ:AL}{L:List Nat}:∀ (rs:List Nat) (s:AL),FQ σ L rs=some s->
  s.length=rs.length/\∀ (i:Nat) (o:fE),s[i]? =some o->o=.dead∨∃ r o0,rs[i]? =some r/\σ[r]? =some o0/\eG (L.idxOf ·) (·∈L) o0/\o=o0.aX (L.idxOf ·):=by
 intro rs;induction rs with
 | nil=>
  intro s h;simp only [FQ,uB] at h;subst h;exact ⟨rfl,fun i o h=>by simp at h⟩
 | cons x rs ih=>
  intro s h;have dead:(FQ σ L rs).map (fE.dead :: ·)=some s->s.length=(x :: rs).length/\∀ (i:Nat) (o:fE),s[i]? =some o->o=.dead∨∃ r o0,(x :: rs)[i]? =some r/\σ[r]? =some o0/\eG (L.idxOf ·) (·∈L) o0/\o=o0.aX (L.idxOf ·):=by
   intro h;cases hf:FQ σ L rs with
   | none=>rw [hf] at h; cases h
   | some s'=>
    rw [hf] at h;simp only [Option.map_some,uB] at h;subst h;obtain ⟨h1,h2⟩:=ih _ hf;refine ⟨by simp [h1],fun i o ho=>?_⟩;cases i with
    | zero=>simp only [List.getElem?_cons_zero,uB] at ho; exact .inl ho.symm
    | succ i=>simpa using h2 i o (by simpa using ho)
  unfold FQ at h;split at h
  ·exact dead h
  ·exact dead h
  ·rename_i st t ps a b p ho;split at h
   ·rename_i hc;have hfx:∀ v∈t,∀ r'∈v.refs,r'∈L/\L.idxOf r'=r':=fun v hv r' hr'=>by
     have:=List.all_eq_true.1 (List.all_eq_true.1 hc v hv) r' hr';simp only [uF,List.contains_iff_mem] at this;exact ⟨this.1,Nat.eq_of_beq_eq_true this.2⟩
    cases hf:FQ σ L rs with
    | none=>rw [hf] at h; cases h
    | some s'=>
     rw [hf] at h;simp only [Option.map_some,uB] at h;subst h;obtain ⟨h1,h2⟩:=ih _ hf;refine ⟨by simp [h1],fun i o' ho'=>?_⟩;cases i with
     | zero=>simp only [List.getElem?_cons_zero,uB] at ho'; exact .inr ⟨x,_,by simp,ho,.inr ⟨st,t,ps,a,b,p,rfl,hfx⟩,ho'.symm⟩
     | succ i=>simpa using h2 i o' (by simpa using ho')
   ·cases h
  ·rename_i o _ _ _ ho;split at h
   ·rename_i hc;simp only [uF,List.all_eq_true,List.contains_iff_mem] at hc;cases hf:FQ σ L rs with
    | none=>rw [hf] at h; cases h
    | some s'=>
     rw [hf] at h;simp only [Option.map_some,uB] at h;subst h;obtain ⟨h1,h2⟩:=ih _ hf;refine ⟨by simp [h1],fun i o' ho'=>?_⟩;cases i with
     | zero=>simp only [List.getElem?_cons_zero,uB] at ho'; exact .inr ⟨x,o,by simp,ho,.inl ⟨hc.1,hc.2⟩,ho'.symm⟩
     | succ i=>simpa using h2 i o' (by simpa using ho')
   ·cases h
  ·cases h
theorem NC {K:KM}{σ s:AL}{w:World}(hR:Rel K σ w){L:List Nat}(hnd:L.Nodup)(h:FQ σ L L=some s):Rel (K.loc L) s w/\∀ b,aD (K.loc L) s b->aD K σ b:=by
 obtain ⟨h1,h2⟩:=Hk L s h;have hget:∀ i o,s[i]? =some o->o=.dead∨∃ r o0,L[i]? =some r/\L.getD i 0=r/\L.idxOf r=i/\r∈L/\σ[r]? =some o0/\eG (L.idxOf ·) (·∈L) o0/\o=o0.aX (L.idxOf ·):=by
  intro i o hi;rcases h2 i o hi with rfl | ⟨r,o0,q1,q2,q3,rfl⟩
  ·exact .inl rfl
  ·obtain ⟨hlt,rfl⟩:=List.getElem?_eq_some_iff.1 q1;exact .inr ⟨L[i],o0,q1,by rw [uA,q1]; rfl,hnd.idxOf_getElem i hlt,List.getElem_mem hlt,q2,q3,rfl⟩
 have hown:∀ b,aD (K.loc L) s b->aD K σ b:=by
  rintro b ⟨i,o,hi,hlv,hb⟩
  rcases hget i o hi with rfl | ⟨r,o0,a1,a2,a3,a4,a5,a6,rfl⟩
  ·cases hlv
  ·rw [Dh] at hlv;exact ⟨r,o0,a5,hlv,by simpa only [KM.loc,a2] using hb⟩
 refine ⟨⟨fun i o hi=>?_,fun i i' o1 o2 hi hi' l1 l2 hb=>?_,fun b hb=>hR.cD b (hown b hb),fun i o hi ht=>?_,hR.Flt,fun i ha=>by rw [h1]; exact ha.1⟩,hown⟩
 ·rcases hget i o hi with rfl | ⟨r,o0,a1,a2,a3,a4,a5,a6,rfl⟩
  ·trivial
  ·have:=OR.renOk (K:=K) (K':=K.loc L) (ρ:=(L.idxOf ·)) rfl a6 (hR.obj r o0 a5) (EC a4) fun r' hr'=>EC hr';simpa only [a3] using this
 ·rcases hget i o1 hi with rfl | ⟨r,o0,a1,a2,a3,a4,a5,a6,rfl⟩
  ·cases l1
  rcases hget i' o2 hi' with rfl | ⟨r',p0,b1,b2,b3,b4,b5,b6,rfl⟩
  ·cases l2
  rw [Dh] at l1 l2;have:=hR.inj r r' o0 p0 a5 b5 l1 l2 (by simpa only [KM.loc,a2,b2] using hb);rw [<-a3,<-b3,this]
 ·rcases hget i o hi with rfl | ⟨r,o0,a1,a2,a3,a4,a5,a6,rfl⟩
  ·cases ht
  ·have:=hR.lt r o0 a5 a6.there;simpa only [KM.loc,a2] using this
def At (K0:KM)(σ0:AL)(w0:World)(ds0:List Deferred)(t:List EV)(σ:AL)(a:Act)(w:World):Prop:=
 ∃ K bs,Ext K0 σ0 w0 K σ w/\Rel K σ w/\aU K w t a.tmps/\Marks K σ w0 w ds0 a.defers bs
theorem At.aX {K0:KM}{σ0:AL}{w0:World}{ds0:List Deferred}{t:List EV}{σ s:AL}{a:Act}{w:World}(h:At K0 σ0 w0 ds0 t σ a w){m:Nat}{L:List Nat}(hm:σ0.length<=m)(hal:∀ r,K0.al r->r<m)(hfix:SU m L=true)(hnd:L.Nodup)
  (hr:FQ σ L L=some s):At K0 σ0 w0 ds0 (t.map (I0 L)) s a w:=by
 obtain ⟨K,bs,h1,h2,h3,h4,h5,h6⟩:=h;obtain ⟨f1,f2⟩:=Lr hfix;obtain ⟨r1,r2⟩:=NC h2 hnd hr;have hs:s.length=L.length:=(Hk L s hr).1;refine ⟨K.loc L,bs,⟨by omega,fun r ha=>⟨by have:=hal r ha; omega,by rw [f2 r (hal r ha)]; exact h1.al r ha⟩,fun r ha=>by simp only [KM.loc,f2 r (hal r ha)]; exact h1.vP r ha,h1.F,h1.F',fun b hb=>h1.own b (r2 b hb),h1.stay,h1.size,h1.os,h1.tape,h1.output⟩,r1,⟨by simp [h3.1],fun i a1 b1=>?_⟩,h4,h5,fun b hb=>let ⟨x,y,z,u⟩:=h6 b hb; ⟨x,y,fun ho=>z (r2 b ho),u⟩⟩;rw [List.getElem_map];have:=h3.2 i (by simpa using a1) b1;unfold I0;split
 ·rename_i hall;exact VR.aX (K:=K) (K':=K.loc L) rfl this fun r hr=>EC (by simpa using List.all_eq_true.1 hall r hr)
 ·exact .pure _ _ (.undef _)
theorem At.weaken {K0:KM}{σ0:AL}{w0:World}{ds0:List Deferred}{t t':List EV}{σ s:AL}{a:Act}{w:World}(h:At K0 σ0 w0 ds0 t σ a w)(ht:aT t t')(hh:eW σ s):At K0 σ0 w0 ds0 t' s a w:=by
 obtain ⟨K,bs,h1,h2,h3,h4,h5,h6⟩:=h;exact ⟨K,bs,h1.weaken (eW.refl _) hh,hh.rel h2,ht.vrs h3,h4,h5,fun b hb=>let ⟨x,y,z,u⟩:=h6 b hb; ⟨x,y,fun ho=>z (hh.owned ho),u⟩⟩
section
variable {P:Program}{G:Nat->Option (List EV)}
def uM (P:Program)(G:Nat->Option (List EV))(rnd:Bool)(m:Nat)(c:Code)(t:List EV)(σ:AL)(r:RC):Prop:=
 ∀ (ro:Option Nat) (K0:KM) (σ0:AL) (w0:World) (ds0:List Deferred) (a:Act) (w:World),(ro.isSome=true->rnd=true)->σ0.length<=m->Rel K0 σ0 w0->dY G K0.F w0->At K0 σ0 w0 ds0 t σ a w->
  wpL ro P c (aJ K0 σ0 w0 ds0 r) a w
theorem uM.toL {rnd:Bool}{m:Nat}{c:Code}{t:List EV}{σ:AL}{r:RC}(h:uM P G rnd m c t σ r)(hm:Nat.ble σ.length m=true):aB P G rnd c t σ r:=
 fun ro K w a hro hR hG hv=>h ro K σ w a.defers a w hro (Nat.le_of_ble_eq_true hm) hR hG ⟨K,[],Ext.refl _ _ _,hR,hv,Marks.none⟩
theorem aJ.at {K0 K:KM}{σ0 σ:AL}{w0 w:World}{ds0:List Deferred}{a0:Act}{bs:List Nat}{r:RC}(h1:Ext K0 σ0 w0 K σ w)(h2:Rel K0 σ0 w0)(hM:Marks K σ w0 w ds0 a0.defers bs){e:Exit}{a:Act}{w':World}
  (h:aJ K σ w a0.defers r e a w'):r.1.same e/\At K0 σ0 w0 ds0 r.2.1 r.2.2 a w':=by
 have main:(∃ K' bs,Ext K σ w K' r.2.2 w'/\Rel K' r.2.2 w'/\aU K' w' r.2.1 a.tmps/\Marks K' r.2.2 w w' a0.defers a.defers bs)->At K0 σ0 w0 ds0 r.2.1 r.2.2 a w':=by
  rintro ⟨K',bs',h3,h4,h5,h6⟩
  exact ⟨K',bs'++bs,h1.trans h3,h4,h5,Marks.trans h1.size h3 hM h6⟩
 cases e with
 | outgrown=>exact h.elim
 | normal=>exact ⟨h.1,main h.2⟩
 | exit i=>exact ⟨h.1,main h.2⟩
 | goto l=>exact ⟨h.1,main h.2⟩
 | ret=>exact ⟨h.1,main h.2⟩
 | panic c=>exact ⟨h.1,main h.2⟩
theorem At.post {K0:KM}{σ0:AL}{w0:World}{ds0:List Deferred}{r:RC}{e:Exit}{a:Act}{w:World}(hs:r.1.same e)(h:At K0 σ0 w0 ds0 r.2.1 r.2.2 a w):aJ K0 σ0 w0 ds0 r e a w:=by
 cases e with
 | outgrown=>obtain ⟨ex,t,s⟩:=r; cases ex<;>exact hs.elim
 | normal=>exact ⟨hs,h⟩
 | exit i=>exact ⟨hs,h⟩
 | goto l=>exact ⟨hs,h⟩
 | ret=>exact ⟨hs,h⟩
 | panic c=>exact ⟨hs,h⟩
def Db (m:Nat)(L:List Nat):Bool:=SU m L && decide L.Nodup
theorem aJ.normalQ {K:KM}{σ:AL}{w:World}{ds:List Deferred}{t:List EV}{s:AL}{next:Act->World->Prop}{Q:Exit->Act->World->Prop}
  (hn:∀ K' w' a' bs,Ext K σ w K' s w'->Rel K' s w'->aU K' w' t a'.tmps->Marks K' s w w' ds a'.defers bs->next a' w') {e:Exit} {a:Act} {w':World}
  (hp:aJ K σ w ds (.normal,t,s) e a w'):Exit.then next Q e a w':=by
 cases e with
 | outgrown=>exact hp.elim
 | normal=>obtain ⟨_,K',bs,e1,h3,h4,h5⟩:=hp; exact hn K' w' a bs e1 h3 h4 h5
 | exit i=>exact hp.1.elim
 | goto l=>exact hp.1.elim
 | ret=>exact hp.1.elim
 | panic c=>exact hp.1.elim
theorem uM.step {rnd:Bool}{m:Nat}{c:Code}{t t1 t2:List EV}{σ s1 s2 s3:AL}{r:RC}(L:List Nat)(h:aE P G rnd c t σ (.normal,t1,s1))(hL:Db m L=true)(hr:FQ s1 L L=some s2)
  (ht:aT (t1.map (I0 L)) t2) (hh:eW s2 s3) (hl:uM P G rnd m c t2 s3 r):uM P G rnd m c t σ r:=by
 simp only [Db,uF,decide_eq_true_eq] at hL;intro ro K0 σ0 w0 ds0 a w hro hm hR hG hA;obtain ⟨K,bs,e1,r1,v1,m1⟩:=hA;refine HX (wpIn_mono (h ro K w a hro r1 (hG.ext e1 hR) v1) fun e a' w' hp=>aJ.normalQ (fun K' w'' a'' bs' e2 r2 v2 m2=>?_) hp);have hA2:At K0 σ0 w0 ds0 t1 s1 a'' w'':=⟨K',bs'++bs,e1.trans e2,r2,v2,Marks.trans e1.size e2 m1 m2⟩
 have hA3:=(hA2.aX hm (fun r ha=>Nat.lt_of_lt_of_le (hR.alt r ha) hm) hL.1 hL.2 hr).weaken ht hh;exact Hh (hl ro K0 σ0 w0 ds0 a'' w'' hro hm hR hG hA3) fun e a w hq=>hq
theorem uM.last {rnd:Bool}{m:Nat}{c:Code}{t t1 t2:List EV}{σ s1 s2 s3:AL}{ex:EX}(L:List Nat)(h:aE P G rnd c t σ (ex,t1,s1))(hex:ex≠.normal)(hL:Db m L=true)(hr:FQ s1 L L=some s2)
  (ht:aT (t1.map (I0 L)) t2) (hh:eW s2 s3):uM P G rnd m c t σ (ex,t2,s3):=by
 simp only [Db,uF,decide_eq_true_eq] at hL;intro ro K0 σ0 w0 ds0 a w hro hm hR hG hA;obtain ⟨K,bs,e1,r1,v1,m1⟩:=hA;refine HX (wpIn_mono (h ro K w a hro r1 (hG.ext e1 hR) v1) fun e a' w' hp=>?_);have hp2:aJ K0 σ0 w0 ds0 (ex,t2,s3) e a' w':=by
  obtain ⟨q1,q2⟩:=aJ.at e1 hR m1 hp;exact At.post q1 ((q2.aX hm (fun r ha=>Nat.lt_of_lt_of_le (hR.alt r ha) hm) hL.1 hL.2 hr).weaken ht hh)
 exact hp2.other hex
theorem uT.aX {rnd:Bool}{c:Code}{t t1 t2:List EV}{σ s1 s2 s3:AL}{ex:EX}(L:List Nat)(h:uT P G rnd c t σ (ex,t1,s1))(hL:Db σ.length L=true)(hr:FQ s1 L L=some s2)
  (ht:aT (t1.map (I0 L)) t2) (hh:eW s2 s3):uT P G rnd c t σ (ex,t2,s3):=by
 simp only [Db,uF,decide_eq_true_eq] at hL;have main:∀ {K:KM} {w:World} {a:Act} {e:Exit} {a':Act} {w':World},Rel K σ w->aJ K σ w a.defers (ex,t1,s1) e a' w'->aJ K σ w a.defers (ex,t2,s3) e a' w':=by
  intro K w a e a' w' hR hp;obtain ⟨q1,q2⟩:=aJ.at (Ext.refl K σ w) hR (Marks.none (ds:=a.defers)) (a0:=a) hp;exact At.post q1 ((q2.aX (Nat.le_refl _) (fun r ha=>hR.alt r ha) hL.1 hL.2 hr).weaken ht hh)
 exact ⟨fun ro K w a hro hR hG hv=>wpIn_mono (h.1 ro K w a hro hR hG hv) fun _ _ _ hp=>main hR hp,
  fun b hb ro K w a hro hR hG hv=>Hh (h.2 b hb ro K w a hro hR hG hv) fun _ _ _ hp=>main hR hp⟩
def On (m mh:Nat)(L:List Nat):Option (RC×eF)->Option (RC×eF)
 | some ((ex,t,h),s)=>match FQ h L L with
  | some h'=>some ((ex,Ox m 0 (t.map (I0 L)),Nw mh 0 h'),s)
  | none=>none
 | none=>none
theorem Ls {modes news:FuncId->Bool}{n fuel:Nat}{F:Cr}{rnd:Bool}{c:Code}{tmps t:List EV}{σ σ':AL}{ex:EX}{s:Scr}{ow:List Prop}(m mh:Nat)(L:List Nat)(hm:P.follows .mixedOrders=true)(hF:bY F)
  (h:GN (On m mh L (BX (BG P G modes news n F) P G rnd fuel c tmps σ s.start))=some ((ex,t,σ'),ow)) (hq:eqL (BX (BG P G modes news n F) P G rnd fuel c tmps σ s.start)=eqR (BX (BG P G modes news n F) P G rnd fuel c tmps σ s.start))
  (hL:Db σ.length L=true) (ho:aR ow):uT P G rnd c tmps σ (ex,t,σ'):=by
 cases hr:BX (BG P G modes news n F) P G rnd fuel c tmps σ s.start with
 | none=>rw [hr] at h; cases h
 | some q=>
  obtain ⟨⟨ex',t',h'⟩,s'⟩:=q;rw [hr] at h hq;cases hn:FQ h' L L with
  | none=>simp only [On,hn] at h; cases h
  | some h2=>
   simp only [On,hn,GN,uB,Prod.mk.injEq] at h;obtain ⟨⟨rfl,rfl,rfl⟩,rfl⟩:=h;have hs:=(D7 (Hj G modes news hm n F hF) hm rnd fuel c tmps σ _ _ _ hr ⟨Lq hq,ho⟩).2;exact uT.aX L hs hL hn (Hi m 0 _) (G8 mh 0 _)
theorem aA.aX {f:FuncId}{args:List EV}{v v':EV}{σ s1 s2 s3:AL}(L:List Nat)(h:aA P G f args σ v s1)(hL:Db σ.length L=true)(hr:FQ s1 L L=some s2)(hv:bL (I0 L v) v')(hh:eW s2 s3):aA P G f args σ v' s3:=by
 simp only [Db,uF,decide_eq_true_eq] at hL;refine ⟨h.1,fun K w margs hR hG hargs=>(h.2 K w margs hR hG hargs).mono fun e w' hp=>?_⟩;cases e with
 | outgrown=>exact hp
 | panicked _=>exact hp
 | returned mv=>
  obtain ⟨K',h3,h4,h5⟩:=hp;obtain ⟨f1,f2⟩:=Lr hL.1;obtain ⟨r1,r2⟩:=NC h4 hL.2 hr;have hs:s2.length=L.length:=(Hk L s2 hr).1;have hal:∀ r,K.al r->r<σ.length:=hR.alt;have e1:Ext K σ w (K'.loc L) s2 w':=⟨by omega,fun r ha=>⟨by have:=hal r ha; omega,by rw [f2 r (hal r ha)]; exact h3.al r ha⟩,fun r ha=>by simp only [KM.loc,f2 r (hal r ha)]; exact h3.vP r ha,h3.F,h3.F',fun b hb=>h3.own b (r2 b hb),h3.stay,h3.size,h3.os,h3.tape,h3.output⟩
  refine ⟨K'.loc L,e1.weaken (eW.refl _) hh,hh.rel r1,hv _ _ _ ?_⟩;unfold I0;split
  ·rename_i hall;exact VR.aX (K:=K') (K':=K'.loc L) rfl h5 fun r hr=>EC (by simpa using List.all_eq_true.1 hall r hr)
  ·exact .pure _ _ (.undef _)
def WK (mh:Nat)(L:List Nat):Option ((EV×AL)×eF)->Option ((EV×AL)×eF)
 | some ((v,h),s)=>match FQ h L L with
  | some h'=>some ((I0 L v,Nw mh 0 h'),s)
  | none=>none
 | none=>none
theorem LL {modes news:FuncId->Bool}{n fuel:Nat}{F:Cr}{f:FuncId}{args:List EV}{v:EV}{σ σ':AL}{s:Scr}{ow:List Prop}(mh:Nat)(L:List Nat)(hm:P.follows .mixedOrders=true)(hF:bY F)(he:Cc P f=true)
  (h:GN (WK mh L (Ie (BG P G modes news n F) P G fuel f args σ s.start))=some ((v,σ'),ow)) (hq:eqL (Ie (BG P G modes news n F) P G fuel f args σ s.start)=eqR (Ie (BG P G modes news n F) P G fuel f args σ s.start))
  (hL:Db σ.length L=true) (ho:aR ow):aA P G f args σ v σ':=by
 cases hr:Ie (BG P G modes news n F) P G fuel f args σ s.start with
 | none=>rw [hr] at h; cases h
 | some q=>
  obtain ⟨⟨v',h'⟩,s'⟩:=q;rw [hr] at h hq;cases hn:FQ h' L L with
  | none=>simp only [WK,hn] at h; cases h
  | some h2=>
   simp only [WK,hn,GN,uB,Prod.mk.injEq] at h;obtain ⟨⟨rfl,rfl⟩,rfl⟩:=h;have hs:=LB (Hj G modes news hm n F hF) hm he hr ⟨Lq hq,ho⟩;exact aA.aX L hs hL hn (bL.refl _) (G8 mh 0 _)
theorem uU.rows {fr pf ex:Bool}{esz len:Nat}{row row':Nat->List EV}(hl:∀ i,i<len->(row' i).length=(row i).length)(h:∀ i,i<len->∀ j (h1:j<(row i).length) (h2:j<(row' i).length),dR (row i)[j] (row' i)[j]):uU (.arr fr pf esz ex len row) (.arr fr pf esz ex len row'):=by
 refine ⟨fun K w r ho=>?_,id,id⟩;obtain ⟨h1,h2,c,e,fz,q2,q3,q4,q5,q6,q7,q8,q9,q10,q11⟩:=ho;exact ⟨h1,h2,c,e,fz,q2,q3,q4,q5,q6,q7,q8,fun i hi=>(hl i hi).trans (q9 i hi),fun i hi j hj hc=>(h i hi j (by rw [<-hl i hi]; exact hj) hj).v K w _ (q10 i hi j (by rw [<-hl i hi]; exact hj) hc),
  fun hp i hi j hj hc=>(h i hi j (by rw [<-hl i hi]; exact hj) hj).p K.F w _ (q11 hp i hi j (by rw [<-hl i hi]; exact hj) hc)⟩
end
theorem aB.eO {P:Program}{G:Nat->Option (List EV)}{rnd:Bool}{c path:Code}{t:List EV}{σ:AL}{r:RC}(h:aB P G rnd c t σ r)(hp:path=.loop c):uT P G rnd path t σ r:=by
 subst hp;exact ⟨h.toC,fun b hb=>by cases hb; exact h⟩
end Go.Ev
namespace Go.Ev
section
variable {P:Program}{G:Nat->Option (List EV)}{rnd:Bool}{c:Code}
theorem aB.ex {X:Type}(T:X->List EV)(H:X->AL)(n:Nat)(I:Nat->X->Prop)(R:RC->Prop)
  (step:∀ i x,i<n->I i x->(∃ x',I (i+1) x'/\aE P G rnd c (T x) (H x) (.normal,T x',H x'))∨∃ r:RC,R r/\r.1≠.normal/\aE P G rnd c (T x) (H x) r)
  (last:∀ x,I n x->∃ r:RC,R r/\r.1≠.normal/\aE P G rnd c (T x) (H x) r):
  ∀ k i x,i+k=n->I i x->∃ r,R r/\aB P G rnd c (T x) (H x) r
 | 0,i,x,h,hi=>by
  obtain rfl:i=n:=by omega
  obtain ⟨r,h1,h2,h3⟩:=last x hi;exact ⟨r,h1,aB.last h3 h2⟩
 | k+1,i,x,h,hi=>by
  rcases step i x (by omega) hi with ⟨x',h1,h2⟩ | ⟨r,h1,h2,h3⟩
  ·obtain ⟨r,h3,h4⟩:=aB.ex T H n I R step last k (i+1) x' (by omega) h1;exact ⟨r,h3,aB.step h2 h4⟩
  ·exact ⟨r,h1,aB.last h3 h2⟩
def uR (P:Program)(G:Nat->Option (List EV))(rnd:Bool)(m:Nat)(c:Code)(t:List EV)(σ:AL)(r:RC):Prop:=
 ∃ (L:List Nat) (t1:List EV) (s1 s2:AL),aE P G rnd c t σ (r.1,t1,s1)/\Db m L=true/\FQ s1 L L=some s2/\aT (t1.map (I0 L)) r.2.1/\eW s2 r.2.2
theorem uM.uQ {m:Nat}{t t2:List EV}{σ s3:AL}{r:RC}(h:uR P G rnd m c t σ (.normal,t2,s3))(hl:uM P G rnd m c t2 s3 r):uM P G rnd m c t σ r:=by
 obtain ⟨L,t1,s1,s2,h1,h2,h3,h4,h5⟩:=h;exact uM.step L h1 h2 h3 h4 h5 hl
theorem uM.aC {m:Nat}{t:List EV}{σ:AL}{r:RC}(h:uR P G rnd m c t σ r)(hr:r.1≠.normal):uM P G rnd m c t σ r:=by
 obtain ⟨L,t1,s1,s2,h1,h2,h3,h4,h5⟩:=h;exact uM.last L h1 hr h2 h3 h4 h5
theorem bL.trans' {a b c:EV}(h:bL a b)(g:bL b c):bL a c:=fun K w mv x=>g K w mv (h K w mv x)
theorem aT.trans' {a b c:List EV}(h:aT a b)(g:aT b c):aT a c:=by
 induction h generalizing c with
 | nil=>exact g
 | cons h _ ih=>cases g with | cons g gs=>exact .cons (bL.trans' h g) (ih gs)
theorem uU.trans' {a b c:fE}(h:uU a b)(g:uU b c):uU a c:=⟨fun K w r x=>g.obj K w r (h.obj K w r x),fun x=>h.live (g.live x),fun x=>h.there (g.there x)⟩
theorem eW.trans' {a b c:AL}(h:eW a b)(g:eW b c):eW a c:=by
 induction h generalizing c with
 | nil=>exact g
 | cons h _ ih=>cases g with | cons g gs=>exact .cons (uU.trans' h g) (ih gs)
theorem uR.weaken {m:Nat}{t t2 t3:List EV}{σ s2 s3:AL}{ex:EX}(h:uR P G rnd m c t σ (ex,t2,s2))(ht:aT t2 t3)(hh:eW s2 s3):uR P G rnd m c t σ (ex,t3,s3):=by
 obtain ⟨L,t1,s1,s0,h1,h2,h3,h4,h5⟩:=h;exact ⟨L,t1,s1,s0,h1,h2,h3,h4.trans' ht,h5.trans' hh⟩
theorem uM.ex {X:Type}(m:Nat)(T:X->List EV)(H:X->AL)(n:Nat)(I:Nat->X->Prop)(R:RC->Prop)
  (step:∀ i x,i<n->I i x->(∃ x',I (i+1) x'/\uR P G rnd m c (T x) (H x) (.normal,T x',H x'))∨∃ r:RC,R r/\r.1≠.normal/\uR P G rnd m c (T x) (H x) r)
  (last:∀ x,I n x->∃ r:RC,R r/\r.1≠.normal/\uR P G rnd m c (T x) (H x) r):
  ∀ k i x,i+k=n->I i x->∃ r,R r/\uM P G rnd m c (T x) (H x) r
 | 0,i,x,h,hi=>by
  obtain rfl:i=n:=by omega
  obtain ⟨r,h1,h2,h3⟩:=last x hi;exact ⟨r,h1,uM.aC h3 h2⟩
 | k+1,i,x,h,hi=>by
  rcases step i x (by omega) hi with ⟨x',h1,h2⟩ | ⟨r,h1,h2,h3⟩
  ·obtain ⟨r,h3,h4⟩:=uM.ex m T H n I R step last k (i+1) x' (by omega) h1;exact ⟨r,h3,uM.uQ h2 h4⟩
  ·exact ⟨r,h1,uM.aC h3 h2⟩
theorem uM.all (m:Nat)(T:Nat->List EV)(H:Nat->AL)(n:Nat)(good bad:Nat->Prop)(R:Nat->RC)(E:RC)(hR:∀ i,(R i).1≠.normal)(hE:E.1≠.normal)
  (body:∀ i:Nat,∃ r:RC,uR P G rnd m c (T i) (H i) r/\((r=(.normal,T (i+1),H (i+1))/\i<n/\good i)∨(r=R i/\i<n/\bad i)∨(r=E/\n<=i))):
  (uM P G rnd m c (T 0) (H 0) E/\∀ i,i<n->good i)∨∃ i,i<n/\bad i/\(∀ j,j<i->good j)/\uM P G rnd m c (T 0) (H 0) (R i):=by
 have key:∀ k i,i+k=n->(∀ j,j<i->good j)->(uM P G rnd m c (T i) (H i) E/\∀ i,i<n->good i)∨∃ j,j<n/\bad j/\(∀ l,l<j->good l)/\uM P G rnd m c (T i) (H i) (R j):=by
  intro k;induction k with
  | zero=>
   intro i hi hg;obtain ⟨r,h,h1 | h1 | h1⟩:=body i
   ·omega
   ·omega
   ·obtain ⟨rfl,_⟩:=h1;exact .inl ⟨uM.aC h hE,fun j hj=>hg j (by omega)⟩
  | succ k ih=>
   intro i hi hg;obtain ⟨r,h,h1 | h1 | h1⟩:=body i
   ·obtain ⟨rfl,_,hgi⟩:=h1;rcases ih (i+1) (by omega) (fun j hj=>by
     rcases Nat.lt_or_ge j i with h' | h'
     ·exact hg j h'
     ·obtain rfl:j=i:=by omega
      exact hgi) with ⟨h2,h3⟩ | ⟨j,h2,h3,h4,h5⟩
    ·exact .inl ⟨uM.uQ h h2,h3⟩
    ·exact .inr ⟨j,h2,h3,h4,uM.uQ h h5⟩
   ·obtain ⟨rfl,hlt,hb⟩:=h1;exact .inr ⟨i,hlt,hb,hg,uM.aC h (hR i)⟩
   ·omega
 exact key n 0 (by omega) (fun j hj=>by omega)
theorem aB.all (T:Nat->List EV)(H:Nat->AL)(n:Nat)(good bad:Nat->Prop)(R:Nat->RC)(E:RC)(hR:∀ i,(R i).1≠.normal)(hE:E.1≠.normal)
  (body:∀ i:Nat,∃ r:RC,aE P G rnd c (T i) (H i) r/\((r=(.normal,T (i+1),H (i+1))/\i<n/\good i)∨(r=R i/\i<n/\bad i)∨(r=E/\n<=i))):
  (aB P G rnd c (T 0) (H 0) E/\∀ i,i<n->good i)∨∃ i,i<n/\bad i/\(∀ j,j<i->good j)/\aB P G rnd c (T 0) (H 0) (R i):=by
 have key:∀ k i,i+k=n->(∀ j,j<i->good j)->(aB P G rnd c (T i) (H i) E/\∀ i,i<n->good i)∨∃ j,j<n/\bad j/\(∀ l,l<j->good l)/\aB P G rnd c (T i) (H i) (R j):=by
  intro k;induction k with
  | zero=>
   intro i hi hg;obtain ⟨r,h,h1 | h1 | h1⟩:=body i
   ·omega
   ·omega
   ·obtain ⟨rfl,_⟩:=h1;exact .inl ⟨aB.last h hE,fun j hj=>hg j (by omega)⟩
  | succ k ih=>
   intro i hi hg;obtain ⟨r,h,h1 | h1 | h1⟩:=body i
   ·obtain ⟨rfl,_,hgi⟩:=h1;rcases ih (i+1) (by omega) (fun j hj=>by
     rcases Nat.lt_or_ge j i with h' | h'
     ·exact hg j h'
     ·obtain rfl:j=i:=by omega
      exact hgi) with ⟨h2,h3⟩ | ⟨j,h2,h3,h4,h5⟩
    ·exact .inl ⟨aB.step h h2,h3⟩
    ·exact .inr ⟨j,h2,h3,h4,aB.step h h5⟩
   ·obtain ⟨rfl,hlt,hb⟩:=h1;exact .inr ⟨i,hlt,hb,hg,aB.last h (hR i)⟩
   ·omega
 exact key n 0 (by omega) (fun j hj=>by omega)
theorem uM.cl {m:Nat}{path:Code}{t:List EV}{σ:AL}{r:RC}(h:uM P G rnd m c t σ r)(hm:Nat.ble σ.length m=true)(hp:path=.loop c):uT P G rnd path t σ r:=
 (h.toL hm).eO hp
theorem Ny {modes news:FuncId->Bool}{n fuel:Nat}{F:Cr}{tmps t:List EV}{σ σ':AL}{ex:EX}{s:Scr}{ow:List Prop}(m mh:Nat)(L:List Nat)(k:Nat)(hm:P.follows .mixedOrders=true)(hF:bY F)
  (h:GN (On m mh L (BX (BG P G modes news n F) P G rnd fuel c tmps σ s.start))=some ((ex,t,σ'),ow)) (hq:eqL (BX (BG P G modes news n F) P G rnd fuel c tmps σ s.start)=eqR (BX (BG P G modes news n F) P G rnd fuel c tmps σ s.start))
  (hL:Db k L=true) (ho:aR ow):uR P G rnd k c tmps σ (ex,t,σ'):=by
 cases hr:BX (BG P G modes news n F) P G rnd fuel c tmps σ s.start with
 | none=>rw [hr] at h; cases h
 | some q=>
  obtain ⟨⟨ex',t',h'⟩,s'⟩:=q;rw [hr] at h hq;cases hn:FQ h' L L with
  | none=>simp only [On,hn] at h; cases h
  | some h2=>
   simp only [On,hn,GN,uB,Prod.mk.injEq] at h;obtain ⟨⟨rfl,rfl,rfl⟩,rfl⟩:=h;have hs:=(D7 (Hj G modes news hm n F hF) hm rnd fuel c tmps σ _ _ _ hr ⟨Lq hq,ho⟩).2;exact ⟨L,t',h',h2,hs.1,hL,hn,Hi m 0 _,G8 mh 0 _⟩
end
end Go.Ev
namespace Go.Ev
theorem Rel.swap {K:KM}{σ:AL}{w:World}(hR:Rel K σ w){q:Nat}{o o':fE}(ho:σ[q]? =some o)(h:OR K w q o->OR K w q o')(hl:o'.live=true->o.live=true)(ht:o'.there=true->o.there=true):
  Ext K σ w K (σ.set q o') w/\Rel K (σ.set q o') w:=by
 have hget:∀ r x,(σ.set q o')[r]? =some x->(r=q/\x=o')∨(r≠q/\σ[r]? =some x):=by
  intro r x hx;by_cases hr:r=q
  ·subst hr;have hlt:=(List.getElem?_eq_some_iff.1 ho).1;rw [List.getElem?_set_self hlt] at hx;exact .inl ⟨rfl,(uC hx).symm⟩
  ·rw [List.getElem?_set_ne (Ne.symm hr)] at hx;exact .inr ⟨hr,hx⟩
 have hown:∀ b,aD K (σ.set q o') b->aD K σ b:=by
  rintro b ⟨r,x,h1,h2,h3⟩
  rcases hget r x h1 with ⟨rfl,rfl⟩ | ⟨_,h4⟩
  ·exact ⟨r,o,ho,hl h2,h3⟩
  ·exact ⟨r,x,h4,h2,h3⟩
 refine ⟨⟨by simp,fun _ h=>h,fun _ _=>⟨rfl,rfl,rfl,rfl⟩,fun _ h=>h,fun _ h=>.inl h,fun b hb=>.inr (hown b hb),fun _ _ _=>rfl,Nat.le_refl _,rfl,rfl,rfl⟩,?_⟩;refine ⟨fun r x hx=>?_,fun r r' x x' h1 h2 l1 l2 hb=>?_,fun b hb=>hR.cD b (hown b hb),fun r x hx hth=>?_,hR.Flt,fun r ha=>by simpa using hR.alt r ha⟩
 ·rcases hget r x hx with ⟨rfl,rfl⟩ | ⟨_,h4⟩
  ·exact h (hR.obj r o ho)
  ·exact hR.obj r x h4
 ·rcases hget r x h1 with ⟨rfl,rfl⟩ | ⟨_,h4⟩<;>rcases hget r' x' h2 with ⟨rfl,rfl⟩ | ⟨_,h5⟩
  ·rfl
  ·exact hR.inj _ _ _ _ ho h5 (hl l1) l2 hb
  ·exact hR.inj _ _ _ _ h4 ho l1 (hl l2) hb
  ·exact hR.inj _ _ _ _ h4 h5 l1 l2 hb
 ·rcases hget r x hx with ⟨rfl,rfl⟩ | ⟨_,h4⟩
  ·exact hR.lt r o ho (ht hth)
  ·exact hR.lt r x h4 hth
section
variable {P:Program}{G:Nat->Option (List EV)}{rnd:Bool}{c:Code}
end
end Go.Ev
namespace Go.Ev
section
variable {P:Program}{G:Nat->Option (List EV)}{rnd:Bool}{c:Code}
theorem uM.aX {m:Nat}{t t2:List EV}{σ s2 s3:AL}{r:RC}(L:List Nat)(hL:Db m L=true)(hr:FQ σ L L=some s2)(ht:aT (t.map (I0 L)) t2)(hh:eW s2 s3)(hl:uM P G rnd m c t2 s3 r):uM P G rnd m c t σ r:=by
 simp only [Db,uF,decide_eq_true_eq] at hL;intro ro K0 σ0 w0 ds0 a w hro hm hR hG hA;exact hl ro K0 σ0 w0 ds0 a w hro hm hR hG ((hA.aX hm (fun r ha=>Nat.lt_of_lt_of_le (hR.alt r ha) hm) hL.1 hL.2 hr).weaken ht hh)
theorem uM.le {m:Nat}{t t2:List EV}{σ s2:AL}{r:RC}(ht:aT t t2)(hh:eW σ s2)(hl:uM P G rnd m c t2 s2 r):uM P G rnd m c t σ r:=by
 intro ro K0 σ0 w0 ds0 a w hro hm hR hG hA;exact hl ro K0 σ0 w0 ds0 a w hro hm hR hG (hA.weaken ht hh)
theorem uM.cT {m:Nat}{t:List EV}{σ:AL}{rc:RC}{r:Nat}{o:fE}(hr:σ[r]? =some o)(hf:o.cT=true)(h:uM P G rnd m c t (σ.set r (Bu o)) rc):uM P G rnd m c t σ rc:=by
 intro ro K0 σ0 w0 ds0 a w hro hm hR hG hA;obtain ⟨K,bs,e1,r1,v1,m1⟩:=hA;obtain ⟨e2,r2⟩:=r1.freeze hr hf;refine h ro K0 σ0 w0 ds0 a w hro hm hR hG ⟨_,[]++bs,e1.trans e2,r2,v1.ext e2 r1,?_⟩;exact Marks.trans e1.size e2 m1 Marks.none
end
end Go.Ev
namespace Go.Ev
theorem VR.new {K:KM}{w:World}{nm b o e l:Nat}(hn:¬ K.al nm){v:EV}{mv:Value}(h:VR K w v mv):VR (K.new nm b o e l) w v mv:=by
 have hne:∀ r,K.al r->r≠nm:=fun r ha h=>hn (h▸ha);induction h with
 | pure v mv h=>exact .pure _ _ h
 | ptr r k ha=>have:=VR.ptr (K:=K.new nm b o e l) (w:=w) r k (.inr ha); simpa [KM.new,hne r ha] using this
 | pe r esz i k ha hi=>have:=VR.pe (K:=K.new nm b o e l) (w:=w) r esz i k (.inr ha) (by simpa [KM.new,hne r ha] using hi); simpa [KM.new,hne r ha] using this
 | ms r esz off len cap mcap a ha hle hlen hcap hnone haddr=>
  exact .ms r esz off len cap mcap a (.inr ha) hle (by simpa [KM.new,hne r ha] using hlen) (fun c hc=>by simpa [KM.new,hne r ha] using hcap c hc) (fun hc=>by simpa [KM.new,hne r ha] using hnone hc) (fun hm=>by simpa [KM.new,hne r ha] using haddr hm)
 | mm r ha=>have:=VR.mm (K:=K.new nm b o e l) (w:=w) r (.inr ha); simpa [KM.new,hne r ha] using this
 | it r ha=>have:=VR.it (K:=K.new nm b o e l) (w:=w) r (.inr ha); simpa [KM.new,hne r ha] using this
 | agg cs mcs hl h1 _ ih=>exact .agg cs mcs hl h1 ih
 | tuple cs mcs hl _ ih=>exact .tuple cs mcs hl ih
 | func fn a c mf mc hl hl' _ _ ih ih'=>exact .func fn a c mf mc hl hl' ih ih'
 | iface t v mv _ ih=>exact .iface t v mv ih
theorem OR.new {K:KM}{w:World}{nm b o e l r:Nat}(hn:¬ K.al nm){x:fE}(hf:x≠.free)(h:OR K w r x):OR (K.new nm b o e l) w r x:=by
 have hne:∀ r,K.al r->r≠nm:=fun r ha h=>hn (h▸ha);cases x with
 | free=>exact absurd rfl hf
 | dead=>trivial
 | var fr pf cells=>
  obtain ⟨ha,h0,c,e',h1,h2,h3,h4,h5,h6,h7⟩:=h;have hr:=hne r ha;exact ⟨.inr ha,by simpa [KM.new,hr] using h0,c,e',by simpa [KM.new,hr] using h1,h2,by simpa [KM.new,hr] using h3,h4,fun hfr=>by simpa [KM.new,hr] using h5 hfr,fun i a b=>(h6 i a b).new hn,h7⟩
 | arr fr pf esz ex len row=>
  obtain ⟨ha,hl,c,e',fz,h1,h2,h3,h4,h5,h6,h7,h8,h9,h10⟩:=h;have hr:=hne r ha;have ho:(K.new nm b o e l).off r=K.off r:=by simp [KM.new,hr]
  refine ⟨.inr ha,by simpa [KM.new,hr] using hl,c,e',fz,by simpa [KM.new,hr] using h1,h2,by simpa [KM.new,hr] using h3,h4,by rw [ho]; exact h5,fun he=>by rw [ho]; exact h6 he,fun hfr=>by simpa [KM.new,hr] using h7 hfr,h8,fun i hi j hj hc=>?_,fun hp i hi j hj hc=>?_⟩
  ·rw [ho] at hc; simpa only [ho] using (h9 i hi j hj hc).new hn
  ·rw [ho] at hc;have:=h10 hp i hi j hj hc;simp only [ho];exact this
 | map fr pf es=>
  obtain ⟨ha,mes,clock,h1,h2,h3,h4,h5,h6,h7⟩:=h;have hr:=hne r ha;exact ⟨.inr ha,mes,clock,by simpa [KM.new,hr] using h1,h2,fun hfr=>by simpa [KM.new,hr] using h3 hfr,fun i a b=>⟨(h4 i a b).1.new hn,(h4 i a b).2.new hn⟩,h5,h6,h7⟩
 | loop st tmps ps assign body pend=>
  obtain ⟨ha,fn,mt,d,h1,h2,h3⟩:=h;have hr:=hne r ha;exact ⟨.inr ha,fn,mt,d,by simpa [KM.new,hr] using h1,h2,fun i a b=>(h3 i a b).new hn⟩
 | dfr=>
  obtain ⟨ha,h1⟩:=h;have hr:=hne r ha;exact ⟨.inr ha,by simpa [KM.new,hr] using h1⟩
 | flat fr len cell over=>
  obtain ⟨ha,h0,hl,hp,c,e',h1,h2,h3,h4,h5,h6⟩:=h;have hr:=hne r ha;exact ⟨.inr ha,by simpa [KM.new,hr] using h0,by simpa [KM.new,hr] using hl,hp,c,e',by simpa [KM.new,hr] using h1,h2,by simpa [KM.new,hr] using h3,h4,fun hfr=>by simpa [KM.new,hr] using h5 hfr,fun i a=>(h6 i a).imp (fun ⟨v,q1,q2⟩=>⟨v,q1,q2.new hn⟩) id⟩
def dZ (w:World)(h:Option Addr×Nat)(len:Nat)(l:Nat->Int)(b:Nat):Prop:=
 0<len/\len<=h.2/\∃ (o:Nat) (c:Array Value) (e:TypeId) (fz:Nat×Nat),h.1=some ⟨b,o,none⟩/\w.heap[b]? =some (.cells c e fz)/\(∀ j,j<c.size->(fz.1<=j && j<fz.2)=false)/\
  (∀ j (hj:j<c.size),(c[j]).oneCell'=true)/\o+h.2=c.size/\∀ p,p<len->c[o+p]? =some (.int .i64 (l p))
def Bag (s0:Nat)(K:KM)(σ:AL)(w:World)(D:Nat->Prop)(hs:Nat->Option Addr×Nat)(ln:Nat->Nat)(l:Nat->Nat->Int):Prop:=
 ∃ b:Nat->Nat,(∀ v,D v->ln v=0->hs v=(none,0))/\
  (∀ v,D v->0<ln v->dZ w (hs v) (ln v) (l v) (b v)/\¬ K.F (b v)/\¬ aD K σ (b v)/\s0<=b v)/\
  ∀ v v',D v->D v'->0<ln v->0<ln v'->b v=b v'->v=v'
theorem dZ.lt {w:World}{h:Option Addr×Nat}{len:Nat}{l:Nat->Int}{b:Nat}(hb:dZ w h len l b):b<w.heap.size:=by
 obtain ⟨_,_,o,c,e,fz,_,h2,_⟩:=hb;exact (Array.getElem?_eq_some_iff.1 h2).1
theorem dZ.stay {w w':World}{h:Option Addr×Nat}{len:Nat}{l:Nat->Int}{b:Nat}(hb:dZ w h len l b)(hs:w'.heap[b]? =w.heap[b]?):dZ w' h len l b:=by
 obtain ⟨h0,h1,o,c,e,fz,h2,h3,h4⟩:=hb;exact ⟨h0,h1,o,c,e,fz,h2,hs.trans h3,h4⟩
theorem Bag.ext {s0:Nat}{K K':KM}{σ σ':AL}{w w':World}{D:Nat->Prop}{hs:Nat->Option Addr×Nat}{ln:Nat->Nat}{l:Nat->Nat->Int}(h:Bag s0 K σ w D hs ln l)(e:Ext K σ w K' σ' w'):Bag s0 K' σ' w' D hs ln l:=by
 obtain ⟨b,h1,h2,h3⟩:=h;refine ⟨b,h1,fun v hd hl=>?_,h3⟩;obtain ⟨q1,q2,q3,q4⟩:=h2 v hd hl;have hlt:=q1.lt;refine ⟨q1.stay (e.stay _ hlt q3),fun hF=>?_,fun ho=>?_,q4⟩
 ·rcases e.F' _ hF with h | h | h
  ·exact q2 h
  ·omega
  ·exact q3 h
 ·rcases e.own _ ho with h | h
  ·omega
  ·exact q3 h
def Slot (put:EV->fE):Prop:=(∀ v,(put v).live=true)/\∀ K w r v,OR K w r (put v)->∃ mv,VR K w v mv/\∀ v',VR K w v' mv->OR K w r (put v')
theorem Slot.flat (len:Nat)(cell:Nat->EV)(u:Nat)(hu:u<len)(pre post:List (Nat×EV))(hpre:Ay pre u=none):Slot fun v=>.flat false len cell (pre++(u,v) :: post):=by
 have hat:∀ v,Ay (pre++(u,v) :: post) u=some v:=by
  intro v;induction pre with
  | nil=>simp [Ay]
  | cons x pre ih=>
   obtain ⟨a,b⟩:=x;simp only [Ay] at hpre;simp only [List.cons_append,Ay];split at hpre
   ·cases hpre
   ·rename_i hne; rw [if_neg hne]; exact ih hpre
 have hne:∀ v v' i,i≠u->Ay (pre++(u,v) :: post) i=Ay (pre++(u,v') :: post) i:=by
  intro v v' i hi
  clear hpre hat
  induction pre with
  | nil=>simp [Ay,hi]
  | cons x pre ih=>obtain ⟨a,b⟩:=x; simp only [List.cons_append,Ay]; rw [ih]
 refine ⟨fun _=>rfl,fun K w r v h=>?_⟩;obtain ⟨ha,h0,hl,hp,c,e,q1,q2,q3,q4,q5,q6⟩:=h;have huc:u<c.size:=by omega
 refine ⟨c[u],?_,fun v' hv'=>⟨ha,h0,hl,hp,c,e,q1,q2,q3,q4,q5,fun i hi=>?_⟩⟩
 ·rcases q6 u huc with ⟨x,g1,g2⟩ | ⟨g1,_⟩
  ·rw [hat] at g1; obtain rfl:=uC g1; exact g2
  ·rw [hat] at g1; cases g1
 ·by_cases hiu:i=u
  ·subst hiu; exact .inl ⟨v',hat v',hv'⟩
  ·rw [hne v' v i hiu]; exact q6 i hi
theorem UM {es:List (EV×EV)}{j i:Nat}{v:EV}:(A7 es j v)[i]? =if i=j then (es[i]?).map fun e=>(e.1,v) else es[i]? :=by
 induction es generalizing j i with
 | nil=>simp [A7]
 | cons e es ih=>
  cases j with
  | zero=>cases i<;>simp [A7]
  | succ j=>cases i with
   | zero=>simp [A7]
   | succ i=>simp only [A7,List.getElem?_cons_succ,ih,Nat.add_right_cancel_iff]
theorem CZ {es:List (EV×EV)}{j:Nat}{v:EV}:(A7 es j v).length=es.length:=by
 induction es generalizing j with
 | nil=>rfl
 | cons e es ih=>cases j<;>simp [A7,ih]
theorem Slot.map (es:List (EV×EV))(j:Nat)(hj:j<es.length):Slot fun v=>.map false false (A7 es j v):=by
 refine ⟨fun _=>rfl,fun K w r v h=>?_⟩;obtain ⟨ha,mes,clock,q1,q2,q3,q4,q5,q6,q7⟩:=h;rw [CZ] at q2;have key:∀ (x:EV) i (h1:i<(A7 es j x).length),((A7 es j x)[i]).1=(es[i]'(by rw [CZ] at h1; exact h1)).1/\((A7 es j x)[i]).2=if i=j then x else (es[i]'(by rw [CZ] at h1; exact h1)).2:=by
  intro x i h1;have h1':i<es.length:=by rw [CZ] at h1; exact h1
  have:=UM (es:=es) (j:=j) (i:=i) (v:=x);rw [uD h1,uD h1'] at this;split at this
  ·rename_i hij; simp only [Option.map_some,uB] at this; rw [this]; exact ⟨rfl,by rw [if_pos hij]⟩
  ·rename_i hij; rw [uC this]; exact ⟨rfl,by rw [if_neg hij]⟩
 refine ⟨(mes[j]'(by omega)).val,?_,fun v' hv'=>⟨ha,mes,clock,q1,by rw [CZ]; exact q2,q3,fun i a b=>?_,fun i a b=>?_,(fun h=>by cases h),q7⟩⟩
 ·have:=(q4 j (by rw [CZ]; exact hj) (by omega)).2
  rwa [(key v j _).2,if_pos rfl] at this
 ·rw [(key v' i a).1,(key v' i a).2];have a':i<(A7 es j v).length:=by rw [CZ] at a ⊢; exact a
  have h4:=q4 i a' b;rw [(key v i a').1,(key v i a').2] at h4;refine ⟨h4.1,?_⟩;split
  ·rename_i hij; subst hij; exact hv'
  ·rename_i hij; rw [if_neg hij] at h4; exact h4.2
 ·have a':i<(A7 es j v).length:=by rw [CZ] at a ⊢; exact a
  have h5:=q5 i a' b;rw [(key v i a').1] at h5;rw [(key v' i a).1]; exact h5
def BS (l:Nat->Int):Nat->List EV:=fun p=>[.int .i64 (l p)]
theorem Bag.view {s0:Nat}{K:KM}{σ:AL}{w:World}{D:Nat->Prop}{hs:Nat->Option Addr×Nat}{ln:Nat->Nat}{l:Nat->Nat->Int}(hB:Bag s0 K σ w D hs ln l)(hR:Rel K σ w){u r nm:Nat}{put:EV->fE}(hput:Slot put)
  (hu:D u) (hl:0<ln u) (hr:σ[r]? =some (put (.raw (hs u).1 (ln u) (hs u).2))) (hnm:σ[nm]? =some .free) {K0:KM} {σ0:AL} {w0:World} (hs0:s0=w0.heap.size) (hE:Ext K0 σ0 w0 K σ w)
  {tmps:List EV} {mt:Array Value} (hT:aU K w tmps mt) {ds0 ds:List Deferred} {bs:List Nat} (hM:Marks K σ w0 w ds0 ds bs):
  ∃ K',Ext K0 σ0 w0 K' ((σ.set nm (.arr false true 1 false (ln u) (BS (l u)))).set r (put (.ms nm 1 0 (ln u) none))) w/\Rel K' ((σ.set nm (.arr false true 1 false (ln u) (BS (l u)))).set r (put (.ms nm 1 0 (ln u) none))) w/\
   aU K' w tmps mt/\Marks K' ((σ.set nm (.arr false true 1 false (ln u) (BS (l u)))).set r (put (.ms nm 1 0 (ln u) none))) w0 w ds0 ds bs/\
   Bag s0 K' ((σ.set nm (.arr false true 1 false (ln u) (BS (l u)))).set r (put (.ms nm 1 0 (ln u) none))) w (fun v=>D v/\v≠u) hs ln l:=by
 obtain ⟨b,h1,h2,h3⟩:=hB;obtain ⟨hblk,hnF,hnO,hsb⟩:=h2 u hu hl;have hblt:=hblk.lt;obtain ⟨_,hcap,o,c,e,fz,a1,a2,a3,a4,a5,a6⟩:=hblk;have hnal:¬ K.al nm:=hR.obj nm .free hnm;have hne:∀ r,K.al r->r≠nm:=fun r ha h=>hnal (h▸ha);have hrnm:r≠nm:=by
  rintro rfl
  have e:=uC (hr.symm.trans hnm);have:=hput.1 (.raw (hs u).1 (ln u) (hs u).2);rw [e] at this;cases this
 have hrlt:=(List.getElem?_eq_some_iff.1 hr).1;have hnlt:=(List.getElem?_eq_some_iff.1 hnm).1;have hget:∀ i,((σ.set nm (.arr false true 1 false (ln u) (BS (l u)))).set r (put (.ms nm 1 0 (ln u) none)))[i]? =if i=r then some (put (.ms nm 1 0 (ln u) none)) else if i=nm then some (.arr false true 1 false (ln u) (BS (l u))) else σ[i]? :=by
  intro i;rw [List.getElem?_set,List.getElem?_set];by_cases hi:r=i
  ·subst hi; simp [hrlt]
  ·rw [if_neg hi,if_neg (Ne.symm hi)];by_cases hi':nm=i
   ·subst hi'; simp [hnlt]
   ·rw [if_neg hi',if_neg (Ne.symm hi')]
 let K':=K.new nm (b u) o c.size (ln u)
 have hKnm:K'.vP nm=b u/\K'.off nm=o/\K'.ext nm=c.size/\K'.len nm=ln u:=by simp [K',KM.new]
 have hKo:∀ x,x≠nm->K'.vP x=K.vP x:=fun x hx=>by simp [K',KM.new,hx]
 have hown:∀ x,aD K' ((σ.set nm (.arr false true 1 false (ln u) (BS (l u)))).set r (put (.ms nm 1 0 (ln u) none))) x->x=b u∨aD K σ x:=by
  rintro x ⟨i,ob,g1,g2,g3⟩
  rw [hget] at g1;split at g1
  ·rename_i hi; subst hi;right; exact ⟨i,_,hr,hput.1 _,by rw [<-hKo i hrnm]; exact g3⟩
  ·split at g1
   ·rename_i hi; subst hi; left; exact g3.symm.trans hKnm.1
   ·rename_i hi; right; exact ⟨i,ob,g1,g2,by rw [<-hKo i hi]; exact g3⟩
 have hlow:∀ i ob,σ[i]? =some ob->ob.live=true->K.vP i≠b u:=fun i ob g1 g2 g3=>hnO ⟨i,ob,g1,g2,g3⟩;refine ⟨K',?_,?_,⟨hT.1,fun i x y=>(hT.2 i x y).new hnal⟩,?_,?_⟩
 ·refine ⟨by simp only [List.length_set]; exact hE.len,fun r h=>.inr (hE.al r h),fun r h=>?_,hE.F,hE.F',fun x hx=>?_,hE.stay,hE.size,hE.os,hE.tape,hE.output⟩
  ·have:=hne r (hE.al r h);simp only [K',KM.new,if_neg this];exact hE.vP r h
  ·rcases hown x hx with rfl | h
   ·left; omega
   ·exact hE.own x h
 ·refine ⟨fun i ob g1=>?_,fun i i' ob ob' g1 g2 l1 l2 hb=>?_,fun x hx hF=>?_,fun i ob g1 ht=>?_,hR.Flt,fun i hi=>?_⟩
  ·rw [hget] at g1;split at g1
   ·rename_i hi; subst hi;obtain rfl:=uC g1;have h0:=(hR.obj i _ hr).new (nm:=nm) (b:=b u) (o:=o) (e:=c.size) (l:=ln u) hnal (by intro h; have:=congrArg fE.live h; rw [hput.1] at this; cases this);obtain ⟨mv,m1,m2⟩:=hput.2 _ _ _ _ h0;refine m2 _ ?_;have hmv:mv=.slice (hs u).1 (ln u) (hs u).2:=by
     cases m1 with
     | pure _ _ hp=>cases hp; rfl
    subst hmv;rw [a1];exact .ms nm 1 0 (ln u) none (hs u).2 _ (.inl rfl) hcap (by simp [KM.new]) (fun c h=>by cases h) (fun _=>by simp only [KM.new,if_pos]; omega) fun _=>by simp [KM.new]
   ·split at g1
    ·rename_i hi; subst hi;obtain rfl:=uC g1;refine ⟨.inl rfl,hKnm.2.2.2,c,e,fz,by rw [hKnm.1]; exact a2,a3,hKnm.2.2.1,a4,by rw [hKnm.2.1]; omega,(fun h=>by cases h),(fun h=>by cases h),fun p hp=>rfl,fun p hp j hj hc=>?_,fun _ p hp j hj hc=>?_⟩
     ·obtain rfl:j=0:=by simpa [BS] using hj
      have:=a6 p hp;rw [hKnm.2.1] at hc;rw [Nat.mul_one,Nat.add_zero] at hc;rw [Array.getElem?_eq_getElem hc] at this;simp only [hKnm.2.1,Nat.mul_one,Nat.add_zero,BS,List.getElem_cons_zero,uC this];exact .pure _ _ (.int _ _)
     ·obtain rfl:j=0:=by simpa [BS] using hj
      have:=a6 p hp;rw [hKnm.2.1] at hc;rw [Nat.mul_one,Nat.add_zero] at hc;rw [Array.getElem?_eq_getElem hc] at this;simp only [hKnm.2.1,Nat.mul_one,Nat.add_zero,BS,List.getElem_cons_zero,uC this];exact .int _ _
    ·rename_i hi;by_cases hf:ob=.free
     ·subst hf
      rintro (h | h)
      ·exact hi h
      ·exact hR.obj i _ g1 h
     ·exact (hR.obj i ob g1).new hnal hf
  ·have key:∀ i ob,((σ.set nm (.arr false true 1 false (ln u) (BS (l u)))).set r (put (.ms nm 1 0 (ln u) none)))[i]? =some ob->ob.live=true->i=nm∨(i≠nm/\∃ ob',σ[i]? =some ob'/\ob'.live=true):=by
    intro i ob g1 g2;rw [hget] at g1;split at g1
    ·rename_i hi; subst hi; exact .inr ⟨hrnm,_,hr,hput.1 _⟩
    ·split at g1
     ·rename_i hi; exact .inl hi
     ·rename_i hi; exact .inr ⟨hi,ob,g1,g2⟩
   rcases key i ob g1 l1 with hi | ⟨hi,x,x1,x2⟩<;>rcases key i' ob' g2 l2 with hj | ⟨hj,y,y1,y2⟩
   ·rw [hi,hj]
   ·subst hi; rw [hKnm.1,hKo i' hj] at hb; exact absurd hb.symm (hlow i' y y1 y2)
   ·subst hj; rw [hKnm.1,hKo i hi] at hb; exact absurd hb (hlow i x x1 x2)
   ·rw [hKo i hi,hKo i' hj] at hb; exact hR.inj i i' x y x1 y1 x2 y2 hb
  ·rcases hown x hx with rfl | h
   ·exact hnF hF
   ·exact hR.cD x h hF
  ·rw [hget] at g1;split at g1
   ·rename_i hi; subst hi; rw [hKo i hrnm]; exact hR.lt i _ hr (BY (hput.1 _))
   ·split at g1
    ·rename_i hi; subst hi; rw [hKnm.1]; exact hblt
    ·rename_i hi; rw [hKo i hi]; exact hR.lt i ob g1 ht
  ·simp only [List.length_set];rcases hi with rfl | hi
   ·exact hnlt
   ·exact hR.alt i hi
 ·obtain ⟨m1,m2,m3⟩:=hM;refine ⟨m1,m2,fun x hx=>?_⟩;obtain ⟨p1,p2,p3,p4⟩:=m3 x hx;refine ⟨p1,p2,fun ho=>?_,p4⟩;rcases hown x ho with rfl | h
  ·rw [a2] at p2; cases p2
  ·exact p3 h
 ·refine ⟨b,fun v hv=>h1 v hv.1,fun v hv hl'=>?_,fun v v' hv hv'=>h3 v v' hv.1 hv'.1⟩;obtain ⟨q1,q2,q3,q4⟩:=h2 v hv.1 hl';refine ⟨q1,q2,fun ho=>?_,q4⟩;rcases hown _ ho with h | h
  ·exact hv.2 (h3 v u hv.1 hu hl' hl h)
  ·exact q3 h
def BK {α:Type}(f:Nat->α)(u:Nat)(x:α):Nat->α:=fun v=>if v=u then x else f v
theorem Ao {α:Type}{f:Nat->α}{u:Nat}{x:α}:BK f u x u=x:=by simp [BK]
theorem Ap {α:Type}{f:Nat->α}{u v:Nat}{x:α}(h:v≠u):BK f u x v=f v:=by simp [BK,h]
theorem Bag.put {s0:Nat}{K:KM}{σ:AL}{w:World}{D:Nat->Prop}{hs:Nat->Option Addr×Nat}{ln:Nat->Nat}{l:Nat->Nat->Int}(hB:Bag s0 K σ w D hs ln l)(hR:Rel K σ w){u r nm L len:Nat}{pf ex:Bool}{row:Nat->List EV}{l':Nat->Int}
  {put:EV->fE} (hput:Slot put) (hu:¬ D u) (hl:0<L) (hrnm:r≠nm) (hr:σ[r]? =some (put (.ms nm 1 0 L none))) (hnm:σ[nm]? =some (.arr false pf 1 ex len row)) (hrow:∀ p,p<L->row p=[.int .i64 (l' p)])
  {K0:KM} {σ0:AL} {w0:World} (hs0:s0=w0.heap.size) (hE:Ext K0 σ0 w0 K σ w) (hR0:Rel K0 σ0 w0) (hlive:∀ i ob,σ0[i]? =some ob->ob.live=true->i≠nm/\∃ ob',σ[i]? =some ob'/\ob'.live=true)
  {ds0 ds:List Deferred} {bs:List Nat} (hM:Marks K σ w0 w ds0 ds bs):
  ∃ h:Option Addr×Nat,Ext K0 σ0 w0 K ((σ.set nm .dead).set r (put (.raw h.1 L h.2))) w/\Rel K ((σ.set nm .dead).set r (put (.raw h.1 L h.2))) w/\Marks K ((σ.set nm .dead).set r (put (.raw h.1 L h.2))) w0 w ds0 ds bs/\
   Bag s0 K ((σ.set nm .dead).set r (put (.raw h.1 L h.2))) w (fun v=>D v∨v=u) (BK hs u h) (BK ln u L) (BK l u l'):=by
 obtain ⟨ha,hln,c,e,fz,q1,q2,q3,q4,q5,q6,q7,q8,q9,q10⟩:=hR.obj nm _ hnm;obtain ⟨mv,m1,m2⟩:=hput.2 _ _ _ _ (hR.obj r _ hr);obtain ⟨a,mcap,rfl,hal,hle,hlen,hcap,hnone,haddr⟩:=m1.aW;obtain rfl:=haddr (by omega);have hlive':(put (.ms nm 1 0 L none)).live=true:=hput.1 _;obtain ⟨e1,r1⟩:=hR.swap hnm (o':=.dead) (fun _=>trivial) (fun h=>by cases h) (fun h=>by cases h);have hr1:(σ.set nm .dead)[r]? =some (put (.ms nm 1 0 L none)):=by rw [List.getElem?_set_ne (Ne.symm hrnm)]; exact hr
 obtain ⟨e2,r2⟩:=r1.swap hr1 (o':=put (.raw (some ⟨K.vP nm,K.off nm+0*1,none⟩) L mcap)) (fun _=>m2 _ (.pure _ _ (.raw _ _ _))) (fun _=>hlive') (fun _=>BY hlive');have hown:∀ b,aD K ((σ.set nm .dead).set r (put (.raw (some ⟨K.vP nm,K.off nm+0*1,none⟩) L mcap))) b->aD K σ b/\b≠K.vP nm:=by
  rintro b ⟨i,ob,g1,g2,g3⟩
  have hi:i≠nm/\∃ ob',σ[i]? =some ob'/\ob'.live=true:=by
   rw [List.getElem?_set] at g1;split at g1
   ·rename_i hri; subst hri; exact ⟨hrnm,_,hr,hlive'⟩
   ·rw [List.getElem?_set] at g1;split at g1
    ·split at g1
     ·obtain rfl:=uC g1; cases g2
     ·cases g1
    ·rename_i hni; exact ⟨Ne.symm hni,ob,g1,g2⟩
  obtain ⟨hin,ob',h1,h2⟩:=hi;exact ⟨⟨i,ob',h1,h2,g3⟩,fun hb=>hin (hR.inj i nm ob' _ h1 hnm h2 rfl (g3.trans hb))⟩
 refine ⟨(some ⟨K.vP nm,K.off nm+0*1,none⟩,mcap),hE.trans (e1.trans e2),r2,?_,?_⟩
 ·obtain ⟨p1,p2,p3⟩:=hM;exact ⟨p1,p2,fun b hb=>let ⟨x,y,z,t⟩:=p3 b hb; ⟨x,y,fun ho=>z (hown b ho).1,t⟩⟩
 ·obtain ⟨b,h1,h2,h3⟩:=hB;have hnb:aD K σ (K.vP nm):=⟨nm,_,hnm,rfl,rfl⟩
  have hnew:s0<=K.vP nm:=by
   rcases hE.own _ hnb with h | ⟨i,ob,g1,g2,g3⟩
   ·omega
   ·obtain ⟨hin,ob',g4,g5⟩:=hlive i ob g1 g2;have hal0:=(hR0.obj i ob g1).al (BY g2);exact absurd (hR.inj i nm ob' _ g4 hnm g5 rfl (by rw [(hE.vP i hal0).1,g3])) hin
  have hD:∀ v,D v->v≠u:=fun v hv h=>hu (h▸hv);refine ⟨BK b u (K.vP nm),fun v hv hz=>?_,fun v hv hz=>?_,fun v v' hv hv' hz hz' hb=>?_⟩
  ·rcases hv with hv | rfl
   ·rw [Ap (hD v hv)] at hz ⊢; exact h1 v hv hz
   ·rw [Ao] at hz; omega
  ·rcases hv with hv | rfl
   ·simp only [Ap (hD v hv)] at hz ⊢;obtain ⟨x1,x2,x3,x4⟩:=h2 v hv hz;exact ⟨x1,x2,fun ho=>x3 (hown _ ho).1,x4⟩
   ·simp only [Ao];have h0:=hnone rfl;refine ⟨⟨hl,hle,K.off nm+0*1,c,e,fz,rfl,q1,q2,q4,by omega,fun p hp=>?_⟩,fun hF=>hR.cD _ hnb hF,fun ho=>(hown _ ho).2 rfl,hnew⟩;have hpl:p<len:=by omega
    have hpc:K.off nm+p*1+0<c.size:=by omega
    have:=q9 p hpl 0 (by rw [hrow p hp]; simp) hpc;simp only [hrow p hp,List.getElem_cons_zero] at this;have h9:=this.uW;rw [show K.off nm+0*1+p=K.off nm+p*1+0 by omega,Array.getElem?_eq_getElem hpc,h9]
  ·have hne:∀ v,D v->0<ln v->b v≠K.vP nm:=fun v hv hz h=>(h2 v hv hz).2.2.1 (h▸hnb);rcases hv with hv | rfl<;>rcases hv' with hv' | rfl
   ·simp only [Ap (hD v hv),Ap (hD v' hv')] at hz hz' hb; exact h3 v v' hv hv' hz hz' hb
   ·simp only [Ap (hD v hv),Ao] at hz hz' hb; exact absurd hb (hne v hv hz)
   ·simp only [Ap (hD v' hv'),Ao] at hz hz' hb; exact absurd hb.symm (hne v' hv' hz')
   ·rfl
theorem Bag.freeze {s0:Nat}{K:KM}{σ:AL}{w:World}{D:Nat->Prop}{hs:Nat->Option Addr×Nat}{ln:Nat->Nat}{l:Nat->Nat->Int}(hB:Bag s0 K σ w D hs ln l)(hR:Rel K σ w)
  {K0:KM} {σ0:AL} {w0:World} (hs0:s0=w0.heap.size) (hE:Ext K0 σ0 w0 K σ w) {ds0 ds:List Deferred} {bs:List Nat} (hM:Marks K σ w0 w ds0 ds bs):
  ∃ F':Nat->Prop,Ext K0 σ0 w0 { K with F:=F' } σ w/\Rel { K with F:=F' } σ w/\Marks { K with F:=F' } σ w0 w ds0 ds bs/\(∀ b,K.F b->F' b)/\
   ∀ v,D v->PR F' w (.uS (decide (0<ln v)) 1 (ln v) (BS (l v))) (.slice (hs v).1 (ln v) (hs v).2):=by
 obtain ⟨b,h1,h2,h3⟩:=hB
 let F':Nat->Prop:=fun x=>K.F x∨∃ v,D v/\0<ln v/\x=b v
 have hFF:∀ x,K.F x->F' x:=fun x hx=>.inl hx;have kx:∀ {v mv},VR K w v mv->VR { K with F:=F' } w v mv:=by
  intro v mv h;induction h with
  | pure v mv h=>exact .pure _ _ (h.mono hFF fun _ _=>rfl)
  | ptr r k ha=>exact .ptr (K:={ K with F:=F' }) r k ha
  | pe r esz i k ha hi=>exact .pe (K:={ K with F:=F' }) r esz i k ha hi
  | ms r esz off len cap mcap a ha hle hlen hcap hnone haddr=>exact .ms (K:={ K with F:=F' }) r esz off len cap mcap a ha hle hlen hcap hnone haddr
  | mm r ha=>exact .mm (K:={ K with F:=F' }) r ha
  | it r ha=>exact .it (K:={ K with F:=F' }) r ha
  | agg cs mcs hl h1 _ ih=>exact .agg cs mcs hl h1 ih
  | tuple cs mcs hl _ ih=>exact .tuple cs mcs hl ih
  | func fn a c mf mc hl hl' _ _ ih ih'=>exact .func fn a c mf mc hl hl' ih ih'
  | iface t v mv _ ih=>exact .iface t v mv ih
 have px:∀ {v mv},PR K.F w v mv->PR F' w v mv:=fun h=>h.mono hFF fun _ _=>rfl;refine ⟨F',⟨hE.len,hE.al,hE.vP,fun x hx=>.inl (hE.F x hx),fun x hx=>?_,hE.own,hE.stay,hE.size,hE.os,hE.tape,hE.output⟩,
  ⟨fun i ob g1=>?_,hR.inj,fun x hx hF=>?_,hR.lt,fun x hx=>?_,hR.alt⟩,?_,hFF,fun v hv=>?_⟩
 ·rcases hx with hx | ⟨v,g1,g2,rfl⟩
  ·exact hE.F' x hx
  ·have:=(h2 v g1 g2).2.2.2; right; left; omega
 ·have h:=hR.obj i ob g1;cases ob with
  | free=>exact h
  | dead=>trivial
  | var fr pf cells=>obtain ⟨ha,h0,c,e',a1,a2,a3,a4,a5,a6,a7⟩:=h; exact ⟨ha,h0,c,e',a1,a2,a3,a4,fun h=>.inl (a5 h),fun i x y=>kx (a6 i x y),fun hp i x y=>px (a7 hp i x y)⟩
  | arr fr pf esz ex len row=>obtain ⟨ha,hl,c,e',fz,a1,a2,a3,a4,a5,a6,a7,a8,a9,a10⟩:=h; exact ⟨ha,hl,c,e',fz,a1,a2,a3,a4,a5,a6,fun h=>.inl (a7 h),a8,fun i hi j hj hc=>kx (a9 i hi j hj hc),fun hp i hi j hj hc=>px (a10 hp i hi j hj hc)⟩
  | map fr pf es=>obtain ⟨ha,mes,clock,a1,a2,a3,a4,a5,a6,a7⟩:=h; exact ⟨ha,mes,clock,a1,a2,fun h=>.inl (a3 h),fun i x y=>⟨kx (a4 i x y).1,kx (a4 i x y).2⟩,fun i x y=>px (a5 i x y),fun hp i x y=>px (a6 hp i x y),a7⟩
  | loop st tmps ps assign body pend=>obtain ⟨ha,fn,mt,d,a1,a2,a3⟩:=h; exact ⟨ha,fn,mt,d,a1,a2,fun i x y=>kx (a3 i x y)⟩
  | dfr=>exact h
  | flat fr len cell over=>obtain ⟨ha,h0,hl,hp,c,e',a1,a2,a3,a4,a5,a6⟩:=h; exact ⟨ha,h0,hl,hp,c,e',a1,a2,a3,a4,fun h=>.inl (a5 h),fun i x=>(a6 i x).imp (fun ⟨v,q1,q2⟩=>⟨v,q1,kx q2⟩) fun ⟨q1,q2⟩=>⟨q1,px q2⟩⟩
 ·rcases hF with hF | ⟨v,g1,g2,rfl⟩
  ·exact hR.cD x hx hF
  ·exact (h2 v g1 g2).2.2.1 hx
 ·rcases hx with hx | ⟨v,g1,g2,rfl⟩
  ·exact hR.Flt x hx
  ·exact (h2 v g1 g2).1.lt
 ·obtain ⟨p1,p2,p3⟩:=hM;refine ⟨p1,p2,fun x hx=>let ⟨y,z,t,q⟩:=p3 x hx; ⟨y,z,t,fun hF=>?_⟩⟩;rcases hF with hF | ⟨v,g1,g2,rfl⟩
  ·exact q hF
  ·obtain ⟨_,_,o,c,e,fz,_,k1,_⟩:=(h2 v g1 g2).1;rw [k1] at z; cases z
 ·rcases Nat.eq_zero_or_pos (ln v) with hz | hz
  ·rw [h1 v hv hz,hz];exact .bB _ _
  ·obtain ⟨⟨_,g1,o,c,e,fz,g2,g3,g4,g5,g6,g7⟩,_⟩:=h2 v hv hz;rw [g2,uK hz];refine .uS 1 (ln v) (BS (l v)) (b v) o (hs v).2 (fun p _=>.int .i64 (l v p)) (fun _=>.inr ⟨v,hv,hz,rfl⟩) g1 none (fun _=>rfl) (fun p hp=>rfl) (fun p hp j hj=>?_) fun p hp j hj=>?_
   ·obtain rfl:j=0:=by omega
    refine ⟨?_,rfl⟩;have:=g7 p hp;simp only [cellAt,g3,Nat.mul_one,Nat.add_zero];exact this
   ·obtain rfl:j=0:=by simpa [BS] using hj
    exact .int _ _
end Go.Ev
namespace Go.Ev
def cK (K0:KM)(σ0:AL)(w0:World)(ds0:List Deferred)(D:Nat->Prop)(hs:Nat->Option Addr×Nat)(ln:Nat->Nat)(l:Nat->Nat->Int)(t:List EV)(σ:AL)(a:Act)(w:World):Prop:=
 ∃ K bs,Ext K0 σ0 w0 K σ w/\Rel K σ w/\aU K w t a.tmps/\Marks K σ w0 w ds0 a.defers bs/\Bag w0.heap.size K σ w D hs ln l
section
variable {K0:KM}{σ0:AL}{w0:World}{ds0:List Deferred}{D:Nat->Prop}{hs:Nat->Option Addr×Nat}{ln:Nat->Nat}{l:Nat->Nat->Int}{t:List EV}{σ:AL}{a:Act}{w:World}
theorem Bag.own {s0:Nat}{K K':KM}{σ':AL}(h:Bag s0 K σ w D hs ln l)(hF:∀ b,K'.F b->K.F b)(ho:∀ b,aD K' σ' b->aD K σ b):Bag s0 K' σ' w D hs ln l:=by
 obtain ⟨b,h1,h2,h3⟩:=h;exact ⟨b,h1,fun v hv hl=>let ⟨q1,q2,q3,q4⟩:=h2 v hv hl; ⟨q1,fun h=>q2 (hF _ h),fun h=>q3 (ho _ h),q4⟩,h3⟩
theorem cK.le (h:cK K0 σ0 w0 ds0 D hs ln l t σ a w){t':List EV}{s:AL}(ht:aT t t')(hh:eW σ s):cK K0 σ0 w0 ds0 D hs ln l t' s a w:=by
 obtain ⟨K,bs,h1,h2,h3,⟨h4,h5,h6⟩,h7⟩:=h;exact ⟨K,bs,h1.weaken (eW.refl _) hh,hh.rel h2,ht.vrs h3,⟨h4,h5,fun b hb=>let ⟨x,y,z,u⟩:=h6 b hb; ⟨x,y,fun ho=>z (hh.owned ho),u⟩⟩,h7.own (fun _ h=>h) fun _ h=>hh.owned h⟩
theorem cK.pad (h:cK K0 σ0 w0 ds0 D hs ln l t σ a w)(n:Nat):cK K0 σ0 w0 ds0 D hs ln l t (σ++List.replicate n .free) a w:=by
 obtain ⟨K,bs,h1,h2,h3,h4,h5⟩:=h;obtain ⟨e1,r1⟩:=h2.pad n;exact ⟨K,[]++bs,h1.trans e1,r1,h3.ext e1 h2,Marks.trans h1.size e1 h4 Marks.none,h5.ext e1⟩
theorem cK.view (h:cK K0 σ0 w0 ds0 D hs ln l t σ a w){u r nm:Nat}{put:EV->fE}(hput:Slot put)(hu:D u)(hl:0<ln u)(hr:σ[r]? =some (put (.raw (hs u).1 (ln u) (hs u).2)))(hnm:σ[nm]? =some .free){s:AL}
  (hs':s=(σ.set nm (.arr false true 1 false (ln u) (BS (l u)))).set r (put (.ms nm 1 0 (ln u) none))):cK K0 σ0 w0 ds0 (fun v=>D v/\v≠u) hs ln l t s a w:=by
 obtain ⟨K,bs,h1,h2,h3,h4,h5⟩:=h;obtain ⟨K',g1,g2,g3,g4,g5⟩:=h5.view h2 hput hu hl hr hnm rfl h1 h3 h4;subst hs';exact ⟨K',bs,g1,g2,g3,g4,g5⟩
theorem cK.put (h:cK K0 σ0 w0 ds0 D hs ln l t σ a w)(hR0:Rel K0 σ0 w0){u r nm L len:Nat}{pf ex:Bool}{row:Nat->List EV}{l':Nat->Int}{put:EV->fE}(hput:Slot put)(hu:¬ D u)(hl:0<L)(hrnm:r≠nm)
  (hr:σ[r]? =some (put (.ms nm 1 0 L none))) (hnm:σ[nm]? =some (.arr false pf 1 ex len row)) (hrow:∀ p,p<L->row p=[.int .i64 (l' p)])
  (hlive:∀ i ob,σ0[i]? =some ob->ob.live=true->i≠nm/\∃ ob',σ[i]? =some ob'/\ob'.live=true):
  ∃ h:Option Addr×Nat,cK K0 σ0 w0 ds0 (fun v=>D v∨v=u) (BK hs u h) (BK ln u L) (BK l u l') t ((σ.set nm .dead).set r (put (.raw h.1 L h.2))) a w:=by
 obtain ⟨K,bs,h1,h2,h3,h4,h5⟩:=h;obtain ⟨x,g1,g2,g3,g4⟩:=h5.put h2 hput hu hl hrnm hr hnm hrow rfl h1 hR0 hlive h4;exact ⟨x,K,bs,g1,g2,h3,g3,g4⟩
theorem cK.aX (h:cK K0 σ0 w0 ds0 D hs ln l t σ a w)(hR0:Rel K0 σ0 w0){m:Nat}{L:List Nat}{s:AL}(hm:σ0.length<=m)(hL:Db m L=true)(hr:FQ σ L L=some s):cK K0 σ0 w0 ds0 D hs ln l (t.map (I0 L)) s a w:=by
 simp only [Db,uF,decide_eq_true_eq] at hL;obtain ⟨K,bs,h1,h2,h3,h4,h5⟩:=h;have hal:∀ r,K0.al r->r<m:=fun r ha=>Nat.lt_of_lt_of_le (hR0.alt r ha) hm;obtain ⟨f1,f2⟩:=Lr hL.1;obtain ⟨r1,r2⟩:=NC h2 hL.2 hr;have hs:s.length=L.length:=(Hk L s hr).1;refine ⟨K.loc L,bs,⟨by omega,fun r ha=>⟨by have:=hal r ha; omega,by rw [f2 r (hal r ha)]; exact h1.al r ha⟩,fun r ha=>by simp only [KM.loc,f2 r (hal r ha)]; exact h1.vP r ha,h1.F,h1.F',fun b hb=>h1.own b (r2 b hb),h1.stay,h1.size,h1.os,h1.tape,h1.output⟩,r1,⟨by simp [h3.1],fun i a1 b1=>?_⟩,⟨h4.1,h4.2.1,fun b hb=>let ⟨x,y,z,u⟩:=h4.2.2 b hb; ⟨x,y,fun ho=>z (r2 b ho),u⟩⟩,h5.own (fun _ h=>h) r2⟩;rw [List.getElem_map];have:=h3.2 i (by simpa using a1) b1;unfold I0;split
 ·rename_i hall;exact VR.aX (K:=K) (K':=K.loc L) rfl this fun r hr=>EC (by simpa using List.all_eq_true.1 hall r hr)
 ·exact .pure _ _ (.undef _)
theorem cK.ofAt (h:At K0 σ0 w0 ds0 t σ a w):cK K0 σ0 w0 ds0 D (fun _=>(none,0)) (fun _=>0) (fun _ _=>0) t σ a w:=by
 obtain ⟨K,bs,h1,h2,h3,h4⟩:=h;exact ⟨K,bs,h1,h2,h3,h4,fun _=>0,fun _ _ _=>rfl,fun v _ h=>absurd h (Nat.lt_irrefl 0),fun v v' _ _ h=>absurd h (Nat.lt_irrefl 0)⟩
theorem cK.dom {D':Nat->Prop}{hs':Nat->Option Addr×Nat}{ln':Nat->Nat}{l':Nat->Nat->Int}(h:cK K0 σ0 w0 ds0 D hs ln l t σ a w)(hD:∀ v,D' v->D v/\hs' v=hs v/\ln' v=ln v/\∀ p,l' v p=l v p):cK K0 σ0 w0 ds0 D' hs' ln' l' t σ a w:=by
 obtain ⟨K,bs,h1,h2,h3,h4,b,b1,b2,b3⟩:=h;refine ⟨K,bs,h1,h2,h3,h4,b,fun v hv hz=>?_,fun v hv hz=>?_,fun v v' hv hv' hz hz'=>?_⟩
 ·obtain ⟨g1,g2,g3,_⟩:=hD v hv;rw [g2]; exact b1 v g1 (by omega)
 ·obtain ⟨g1,g2,g3,g4⟩:=hD v hv;rw [g2,g3,show l' v=l v from funext g4]; exact b2 v g1 (by omega)
 ·obtain ⟨g1,_,g3,_⟩:=hD v hv;obtain ⟨g1',_,g3',_⟩:=hD v' hv';exact b3 v v' g1 g1' (by omega) (by omega)
theorem cK.toAt (h:cK K0 σ0 w0 ds0 D hs ln l t σ a w) {t':List EV} {s:AL} (hle:∀ K:KM,(∀ v,D v->PR K.F w (.uS (decide (0<ln v)) 1 (ln v) (BS (l v))) (.slice (hs v).1 (ln v) (hs v).2))->Rel K σ w->aU K w t a.tmps->
  (Rel K s w/\aU K w t' a.tmps/\∀ b,aD K s b->aD K σ b)) (hlen:σ.length<=s.length):At K0 σ0 w0 ds0 t' s a w:=by
 obtain ⟨K,bs,h1,h2,h3,h4,h5⟩:=h;obtain ⟨F',g1,g2,g3,g4,g5⟩:=h5.freeze h2 rfl h1 h4;have kx:∀ {v mv},VR K w v mv->VR { K with F:=F' } w v mv:=by
  intro v mv h;induction h with
  | pure v mv h=>exact .pure _ _ (h.mono g4 fun _ _=>rfl)
  | ptr r k ha=>exact .ptr (K:={ K with F:=F' }) r k ha
  | pe r esz i k ha hi=>exact .pe (K:={ K with F:=F' }) r esz i k ha hi
  | ms r esz off len cap mcap a ha hle hlen hcap hnone haddr=>exact .ms (K:={ K with F:=F' }) r esz off len cap mcap a ha hle hlen hcap hnone haddr
  | mm r ha=>exact .mm (K:={ K with F:=F' }) r ha
  | it r ha=>exact .it (K:={ K with F:=F' }) r ha
  | agg cs mcs hl h1 _ ih=>exact .agg cs mcs hl h1 ih
  | tuple cs mcs hl _ ih=>exact .tuple cs mcs hl ih
  | func fn a c mf mc hl hl' _ _ ih ih'=>exact .func fn a c mf mc hl hl' ih ih'
  | iface t v mv _ ih=>exact .iface t v mv ih
 obtain ⟨q1,q2,q3⟩:=hle _ g5 g2 ⟨h3.1,fun i x y=>kx (h3.2 i x y)⟩;exact ⟨_,bs,⟨by have:=g1.len; omega,g1.al,g1.vP,g1.F,g1.F',fun b hb=>g1.own b (q3 b hb),g1.stay,g1.size,g1.os,g1.tape,g1.output⟩,q1,q2,⟨g3.1,g3.2.1,fun b hb=>let ⟨x,y,z,u⟩:=g3.2.2 b hb; ⟨x,y,fun ho=>z (q3 b ho),u⟩⟩⟩
section
variable {P:Program}{G:Nat->Option (List EV)}{rnd:Bool}{m:Nat}{c:Code}
theorem cK.round {ro:Option Nat}(hro:ro.isSome=true->rnd=true){ex:EX}{t2:List EV}{s2:AL}(hm:σ0.length<=m)(hR0:Rel K0 σ0 w0)(hG:dY G K0.F w0)(h:cK K0 σ0 w0 ds0 D hs ln l t σ a w)(hc:uR P G rnd m c t σ (ex,t2,s2))
  {Q:Exit->Act->World->Prop} (hQ:∀ e a' w',ex.same e->cK K0 σ0 w0 ds0 D hs ln l t2 s2 a' w'->Q e a' w'):c.wpIn (eE ro) 0 P Q a w:=by
 obtain ⟨L,t1,s1,s1',q1,q2,q3,q4,q5⟩:=hc;obtain ⟨K,bs,h1,h2,h3,h4,h5⟩:=h;refine wpIn_mono (q1 ro K w a hro h2 (hG.ext h1 hR0) h3) fun e a' w' hp=>?_;have main:(∃ K' bs,Ext K σ w K' s1 w'/\Rel K' s1 w'/\aU K' w' t1 a'.tmps/\Marks K' s1 w w' a.defers a'.defers bs)->cK K0 σ0 w0 ds0 D hs ln l t2 s2 a' w':=by
  rintro ⟨K',bs',g1,g2,g3,g4⟩
  have:cK K0 σ0 w0 ds0 D hs ln l t1 s1 a' w':=⟨K',bs'++bs,h1.trans g1,g2,g3,Marks.trans h1.size g1 h4 g4,h5.ext g1⟩
  exact (this.aX hR0 hm q2 q3).le q4 q5
 cases e with
 | outgrown=>exact hp.elim
 | normal=>exact hQ _ _ _ hp.1 (main hp.2)
 | exit i=>exact hQ _ _ _ hp.1 (main hp.2)
 | goto l=>exact hQ _ _ _ hp.1 (main hp.2)
 | ret=>exact hQ _ _ _ hp.1 (main hp.2)
 | panic c=>exact hQ _ _ _ hp.1 (main hp.2)
theorem cK.roundC {ro:Option Nat}(hro:ro.isSome=true->rnd=true){ex:EX}{t2:List EV}{s2:AL}(hR0:Rel K0 σ0 w0)(hG:dY G K0.F w0)(h:cK K0 σ0 w0 ds0 D hs ln l t σ a w)(hc:aE P G rnd c t σ (ex,t2,s2))
  {Q:Exit->Act->World->Prop} (hQ:∀ e a' w',ex.same e->cK K0 σ0 w0 ds0 D hs ln l t2 s2 a' w'->Q e a' w'):c.wpIn (eE ro) 0 P Q a w:=by
 obtain ⟨K,bs,h1,h2,h3,h4,h5⟩:=h;refine wpIn_mono (hc ro K w a hro h2 (hG.ext h1 hR0) h3) fun e a' w' hp=>?_;have main:(∃ K' bs,Ext K σ w K' s2 w'/\Rel K' s2 w'/\aU K' w' t2 a'.tmps/\Marks K' s2 w w' a.defers a'.defers bs)->cK K0 σ0 w0 ds0 D hs ln l t2 s2 a' w':=by
  rintro ⟨K',bs',g1,g2,g3,g4⟩
  exact ⟨K',bs'++bs,h1.trans g1,g2,g3,Marks.trans h1.size g1 h4 g4,h5.ext g1⟩
 cases e with
 | outgrown=>exact hp.elim
 | normal=>exact hQ _ _ _ hp.1 (main hp.2)
 | exit i=>exact hQ _ _ _ hp.1 (main hp.2)
 | goto l=>exact hQ _ _ _ hp.1 (main hp.2)
 | ret=>exact hQ _ _ _ hp.1 (main hp.2)
 | panic c=>exact hQ _ _ _ hp.1 (main hp.2)
end
end
def WL (m mh:Nat):Option (RC×eF)->Option (RC×eF)
 | some ((ex,t,h),s)=>some ((ex,Ox m 0 t,Nw mh 0 h),s)
 | none=>none
theorem SV {P:Program}{G:Nat->Option (List EV)}{modes news:FuncId->Bool}{n fuel:Nat}{F:Cr}{rnd:Bool}{c:Code}{tmps t:List EV}{σ σ':AL}{ex:EX}{s:Scr}{ow:List Prop}(m mh:Nat)(hm:P.follows .mixedOrders=true)(hF:bY F)
  (h:GN (WL m mh (BX (BG P G modes news n F) P G rnd fuel c tmps σ s.start))=some ((ex,t,σ'),ow)) (hq:eqL (BX (BG P G modes news n F) P G rnd fuel c tmps σ s.start)=eqR (BX (BG P G modes news n F) P G rnd fuel c tmps σ s.start))
  (ho:aR ow):aE P G rnd c tmps σ (ex,t,σ'):=by
 cases hr:BX (BG P G modes news n F) P G rnd fuel c tmps σ s.start with
 | none=>rw [hr] at h; cases h
 | some q=>
  obtain ⟨⟨ex',t',h'⟩,s'⟩:=q;rw [hr] at h hq;simp only [WL,GN,uB,Prod.mk.injEq] at h;obtain ⟨⟨rfl,rfl,rfl⟩,rfl⟩:=h;have hs:=(D7 (Hj G modes news hm n F hF) hm rnd fuel c tmps σ _ _ _ hr ⟨Lq hq,ho⟩).2.1;exact aE.weaken (uI _) (eW.refl _) hs (Hi m 0 _) (G8 mh 0 _)
end Go.Ev
namespace Go.Ev
open Go.Proofs.Tryz (prog)
set_option maxRecDepth 100000
set_option maxHeartbeats 0
abbrev iv (n:Int):EV:=.int .i64 n
abbrev oV (c:List EV):fE:=.var false true c
abbrev oA (e:Nat)(x:Bool)(l:Nat)(r:Nat->List EV):fE:=.arr false true e x l r
abbrev oD:fE:=.dead
abbrev bv (b:Bool):EV:=.bool b
abbrev xN:EX:=.normal
abbrev xL (n:Nat):EX:=.leave n
abbrev sl (a:Bool)(e l:Nat)(r:Nat->List EV):EV:=.uS a e l r
abbrev tu (l:List EV):EV:=.tuple l
abbrev pt (r k:Nat):EV:=.ptr r k
abbrev ag (l:List EV):EV:=.agg l
abbrev sv (s:ByteArray):EV:=.str s
abbrev pv (l:List EV)(k:Nat):EV:=.ip l k
abbrev fc (f:FuncId)(a b:List EV):EV:=.func (.func f) a b
noncomputable abbrev sP:=uY prog fF
noncomputable abbrev sF:=aA prog fF
noncomputable abbrev sC:=aE prog fF false
noncomputable abbrev sL:=uT prog fF false
noncomputable abbrev sR:=uR prog fF false
noncomputable abbrev sLR:=uM prog fF false
abbrev u8 (n:Int):EV:=.int .u8 n
abbrev s0:EV:=.uS false 0 0 (fun _=>[])
def dgQ (n:Nat):Q:=bif Nat.beq n 10 then .dec true else bif Nat.beq n 11 then .dec false else bif Nat.beq n 12 then .no else .kn 0 n
def dSf:Nat->Nat->List (Nat×Q)->List (Nat×Q)
 | 0,_,l=>l
 | n+1,c,l=>bif Nat.ble c 1 then l else bif Nat.beq (Nat.mod c 16) 14 then dSf n (Nat.div c 65536) ((Nat.mod (Nat.div c 256) 256,dgQ (Nat.mod (Nat.div c 16) 16)) :: l) else bif Nat.beq (Nat.mod c 16) 13 then dSf n (Nat.div c 256) ((0,.kn 0 (Nat.add 10 (Nat.mod (Nat.div c 16) 16))) :: l) else dSf n (Nat.div c 16) ((0,dgQ (Nat.mod c 16)) :: l)
abbrev dS (c:Nat):List (Nat×Q):=dSf 300 c []
theorem bT (b:Bool):b=true∨b=false:=Bool.eq_false_or_eq_true b
theorem kO {F:List (Bool×Bool)}(h:∀ p∈F,p.1=p.2):bY [F]:=bY.one h
theorem kz {v:List (Bool×Bool)}{b d:Bool}(hb:b=d)(h:∀ p∈v,p.1=p.2):∀ p∈(b,d) :: v,p.1=p.2:=vR hb h
theorem iP {p:Prop}(h:p:=by (simp only [dG,C0,JF,Lm,JG,JH,JI,Bool.cond_true_left,Bool.cond_false_left,Bool.cond_true_right,Bool.cond_false_right,Bool.not_not,Bool.not_and,Bool.not_or,uF,Bool.or_eq_true,Bool.and_eq_false_imp,Bool.or_eq_false_iff,Bool.not_eq_true',Bool.not_eq_false',decide_eq_true_eq,decide_eq_false_iff_not,beq_iff_eq,bne_iff_ne,bne_eq_false_iff_eq,beq_eq_false_iff_ne,ne_eq,Decidable.not_not,uG] at* <;>omega)):p:=h
theorem iO {p:Prop}(h:p:=by exact iP):p:=h
section
variable {α:Type}{A B:α->Prop}{r:α}
theorem e1 (h:A r)(g:B r:=by first | exact .inl ⟨rfl,by simp_all,by simp_all<;>omega⟩ | exact .inr (.inl ⟨rfl,by simp_all,by first | (simp_all; done) | (simp_all<;>omega)⟩) | exact .inr (.inr ⟨rfl,by simp_all⟩)):∃ r,A r/\B r:=⟨r,h,g⟩
theorem e12 (h:A r)(g:B r:=by first | (intro h; exact absurd h (by decide)) | exact fun _=>iP | exact fun _=>⟨by assumption,by assumption,iP⟩):∃ r,A r/\B r:=⟨r,h,g⟩
end
section
variable {l:List Prop}(p:Prop)
theorem oF (t:aR l)(h:p:=by (intros; exact iP)):aR (p :: l):=.cons h t
theorem oG (t:aR l)(h:p:=by (intros; simp_all [dG]<;>omega)):aR (p :: l):=.cons h t
theorem oI (t:aR l)(h:p:=by exact iP):aR (p :: l):=.cons h t
theorem oJ (t:aR l)(h:p:=by simp_all [dG]<;>omega):aR (p :: l):=.cons h t
theorem oK (t:aR l)(h:p:=by simp_all):aR (p :: l):=.cons h t
theorem oL (t:aR l)(h:p:=by exact Bool.and_eq_true_iff.2 ⟨uK (by omega),uK (by omega)⟩):aR (p :: l):=.cons h t
theorem oM (t:aR l)(h:p:=by assumption):aR (p :: l):=.cons h t
theorem rI (x:Int)(t:aR l)(h:inR .i64 x=true:=by exact iP):aR ((inR .i64 x=true) :: l):=.cons h t
theorem rB (x:Int)(n:Nat)(t:aR l)(h:dG x n=true:=by simp_all [dG]<;>omega):aR ((dG x n=true) :: l):=.cons h t
theorem oQ (t:aR l)(h:p:=by (simp only [dG,List.length_set,uF,decide_eq_true_eq]; omega)):aR (p :: l):=.cons h t
theorem oS (t:aR l)(h:p:=by (simp only [dG,C0,uF,decide_eq_true_eq]; omega)):aR (p :: l):=.cons h t
theorem oT (h:p)(t:aR l):aR (p :: l):=.cons h t
end
theorem kP (F:Cr)(s:Scr){f:FuncId}{args:List EV}{v:EV}{ow:List Prop}(hF:bY F)(ho:aR ow)(he:Cc prog f=true:=by kernel_rfl)(h:GN (EY (BG prog fF pures news 60 F) prog fF 100000 f args s.start)=some (v,ow):=by kernel_rfl)(hq:eqL (EY (BG prog fF pures news 60 F) prog fF 100000 f args s.start)=eqR (EY (BG prog fF pures news 60 F) prog fF 100000 f args s.start):=by kernel_rfl):uY prog fF f args v:=O3 C1 hF he h hq ho
theorem kF (F:Cr)(s:Scr){f:FuncId}{args:List EV}{v:EV}{σ σ':AL}{ow:List Prop}(hF:bY F)(ho:aR ow)(mh:Nat)(L:List Nat)(he:Cc prog f=true:=by kernel_rfl)(h:GN (WK mh L (Ie (BG prog fF pures news 60 F) prog fF 100000 f args σ s.start))=some ((v,σ'),ow):=by kernel_rfl)(hq:eqL (Ie (BG prog fF pures news 60 F) prog fF 100000 f args σ s.start)=eqR (Ie (BG prog fF pures news 60 F) prog fF 100000 f args σ s.start):=by kernel_rfl)(hL:Db σ.length L=true:=by kernel_rfl):aA prog fF f args σ v σ':=LL mh L C1 hF he h hq hL ho
theorem kR (F:Cr)(s:Scr){rnd:Bool}{c:Code}{tmps t:List EV}{σ σ':AL}{ex:EX}{ow:List Prop}(hF:bY F)(ho:aR ow)(m mh:Nat)(L:List Nat)(k:Nat)(h:GN (On m mh L (BX (BG prog fF pures news 60 F) prog fF rnd 100000 c tmps σ s.start))=some (((ex,t,σ')),ow):=by kernel_rfl)(hq:eqL (BX (BG prog fF pures news 60 F) prog fF rnd 100000 c tmps σ s.start)=eqR (BX (BG prog fF pures news 60 F) prog fF rnd 100000 c tmps σ s.start):=by kernel_rfl)(hL:Db k L=true:=by kernel_rfl):uR prog fF rnd k c tmps σ (ex,t,σ'):=Ny m mh L k C1 hF h hq hL ho
theorem kL (F:Cr)(s:Scr){rnd:Bool}{c:Code}{tmps t:List EV}{σ σ':AL}{ex:EX}{ow:List Prop}(hF:bY F)(ho:aR ow)(m mh:Nat)(L:List Nat)(h:GN (On m mh L (BX (BG prog fF pures news 60 F) prog fF rnd 100000 c tmps σ s.start))=some (((ex,t,σ')),ow):=by kernel_rfl)(hq:eqL (BX (BG prog fF pures news 60 F) prog fF rnd 100000 c tmps σ s.start)=eqR (BX (BG prog fF pures news 60 F) prog fF rnd 100000 c tmps σ s.start):=by kernel_rfl)(hL:Db σ.length L=true:=by kernel_rfl):uT prog fF rnd c tmps σ (ex,t,σ'):=Ls m mh L C1 hF h hq hL ho
theorem kC (F:Cr)(s:Scr){rnd:Bool}{c:Code}{tmps t:List EV}{σ σ':AL}{ex:EX}{ow:List Prop}(hF:bY F)(ho:aR ow)(m mh k:Nat)(h:GN (Xn m mh k (BX (BG prog fF pures news 60 F) prog fF rnd 100000 c tmps σ s.start))=some (((ex,t,σ')),ow):=by kernel_rfl)(hq:eqL (BX (BG prog fF pures news 60 F) prog fF rnd 100000 c tmps σ s.start)=eqR (BX (BG prog fF pures news 60 F) prog fF rnd 100000 c tmps σ s.start):=by kernel_rfl)(hl:(Nat.ble σ.length σ'.length && σ'.all (SP σ'.length) && t.all fun v=>v.refs.all fun r=>Decidable.decide (r<σ'.length))=true:=by kernel_rfl):aE prog fF rnd c tmps σ (ex,t,σ'):=RN m mh k C1 hF h hq hl ho
theorem kPm (modes news:FuncId->Bool)(F:Cr)(s:Scr){f:FuncId}{args:List EV}{v:EV}{ow:List Prop}(hF:bY F)(ho:aR ow)(he:Cc prog f=true:=by kernel_rfl)(h:GN (EY (BG prog fF modes news 60 F) prog fF 100000 f args s.start)=some (v,ow):=by kernel_rfl)(hq:eqL (EY (BG prog fF modes news 60 F) prog fF 100000 f args s.start)=eqR (EY (BG prog fF modes news 60 F) prog fF 100000 f args s.start):=by kernel_rfl):uY prog fF f args v:=O3 C1 hF he h hq ho
theorem kFm (modes news:FuncId->Bool)(F:Cr)(s:Scr){f:FuncId}{args:List EV}{v:EV}{σ σ':AL}{ow:List Prop}(hF:bY F)(ho:aR ow)(mh:Nat)(L:List Nat)(he:Cc prog f=true:=by kernel_rfl)(h:GN (WK mh L (Ie (BG prog fF modes news 60 F) prog fF 100000 f args σ s.start))=some ((v,σ'),ow):=by kernel_rfl)(hq:eqL (Ie (BG prog fF modes news 60 F) prog fF 100000 f args σ s.start)=eqR (Ie (BG prog fF modes news 60 F) prog fF 100000 f args σ s.start):=by kernel_rfl)(hL:Db σ.length L=true:=by kernel_rfl):aA prog fF f args σ v σ':=LL mh L C1 hF he h hq hL ho
theorem aM (modes news:FuncId->Bool)(F:Cr)(s:Scr){rnd:Bool}{c:Code}{tmps t:List EV}{σ σ':AL}{ex:EX}{ow:List Prop}(hF:bY F)(ho:aR ow)(m mh:Nat)(L:List Nat)(k:Nat)(h:GN (On m mh L (BX (BG prog fF modes news 60 F) prog fF rnd 100000 c tmps σ s.start))=some (((ex,t,σ')),ow):=by kernel_rfl)(hq:eqL (BX (BG prog fF modes news 60 F) prog fF rnd 100000 c tmps σ s.start)=eqR (BX (BG prog fF modes news 60 F) prog fF rnd 100000 c tmps σ s.start):=by kernel_rfl)(hL:Db k L=true:=by kernel_rfl):uR prog fF rnd k c tmps σ (ex,t,σ'):=Ny m mh L k C1 hF h hq hL ho
theorem kLm (modes news:FuncId->Bool)(F:Cr)(s:Scr){rnd:Bool}{c:Code}{tmps t:List EV}{σ σ':AL}{ex:EX}{ow:List Prop}(hF:bY F)(ho:aR ow)(m mh:Nat)(L:List Nat)(h:GN (On m mh L (BX (BG prog fF modes news 60 F) prog fF rnd 100000 c tmps σ s.start))=some (((ex,t,σ')),ow):=by kernel_rfl)(hq:eqL (BX (BG prog fF modes news 60 F) prog fF rnd 100000 c tmps σ s.start)=eqR (BX (BG prog fF modes news 60 F) prog fF rnd 100000 c tmps σ s.start):=by kernel_rfl)(hL:Db σ.length L=true:=by kernel_rfl):uT prog fF rnd c tmps σ (ex,t,σ'):=Ls m mh L C1 hF h hq hL ho
theorem kCm (modes news:FuncId->Bool)(F:Cr)(s:Scr){rnd:Bool}{c:Code}{tmps t:List EV}{σ σ':AL}{ex:EX}{ow:List Prop}(hF:bY F)(ho:aR ow)(m mh k:Nat)(h:GN (Xn m mh k (BX (BG prog fF modes news 60 F) prog fF rnd 100000 c tmps σ s.start))=some (((ex,t,σ')),ow):=by kernel_rfl)(hq:eqL (BX (BG prog fF modes news 60 F) prog fF rnd 100000 c tmps σ s.start)=eqR (BX (BG prog fF modes news 60 F) prog fF rnd 100000 c tmps σ s.start):=by kernel_rfl)(hl:(Nat.ble σ.length σ'.length && σ'.all (SP σ'.length) && t.all fun v=>v.refs.all fun r=>Decidable.decide (r<σ'.length))=true:=by kernel_rfl):aE prog fF rnd c tmps σ (ex,t,σ'):=RN m mh k C1 hF h hq hl ho
theorem kW (F:Cr)(s:Scr){rnd:Bool}{c:Code}{tmps t:List EV}{σ σ':AL}{ex:EX}{ow:List Prop}(hF:bY F)(ho:aR ow)(m mh:Nat)(h:GN (WL m mh (BX (BG prog fF pures news 60 F) prog fF rnd 100000 c tmps σ s.start))=some (((ex,t,σ')),ow):=by kernel_rfl)(hq:eqL (BX (BG prog fF pures news 60 F) prog fF rnd 100000 c tmps σ s.start)=eqR (BX (BG prog fF pures news 60 F) prog fF rnd 100000 c tmps σ s.start):=by kernel_rfl):aE prog fF rnd c tmps σ (ex,t,σ'):=SV m mh C1 hF h hq ho
end Go.Ev
namespace Go.Ev
def nM (f:FuncId):Bool:=[11,22,25,26,41].contains f
def nM0 (f:FuncId):Bool:=nM f || f==0
def pM (f:FuncId):Bool:=pures f || nM f
end Go.Ev
namespace Go.Ev
open Go.Proofs.Tryz (prog)
set_option maxRecDepth 100000
set_option maxHeartbeats 0
abbrev AW (nn:Bool)(n:Nat)(v:Nat->Int):EV:=.uS nn 1 n fun i=>[.int .i64 (v i)]
structure uN where
 src:Int
 dst:Int
 cap:Int
 deriving Inhabited
def uN.cells (a:uN):List EV:=[.int .i64 a.src,.int .i64 a.dst,.int .i64 a.cap]
structure aF where
 left:Int
 right:Int
 deriving Inhabited
def aF.cells (a:aF):List EV:=[.int .i64 a.left,.int .i64 a.right]
def Mw (V:Int)(nn:Bool)(N:Nat)(A:Nat->uN):List EV:=[.int .i64 V,.uS nn 3 N fun i=>(A i).cells]
structure fG where
 aI:Int
 draw:Int
 nc:Bool
 n:Nat
 uZ:Nat->Int
 np:Bool
 m':Nat
 uV:Nat->Int
 no:Bool
 m:Nat
 op:Nat->aF
 uO:Int
 place:Int
 deriving Inhabited
def fG.cells (q:fG):List EV:=[.int .i64 q.aI,.int .i64 q.draw,AW q.nc q.n q.uZ,AW q.np q.m' q.uV,.uS q.no 2 q.m fun i=>(q.op i).cells,.int .i64 q.uO,.int .i64 q.place]
def FR (A:Nat->uN):Nat->Nat->List Int
 | 0,_=>[]
 | k+1,v=>FR A k v++((if (A k).src=v then [(k:Int)] else [])++if (A k).dst=v then [-1 - (k:Int)] else [])
def A4 (A:Nat->uN)(k v:Nat):Nat:=(FR A k v).length
def BE (A:Nat->uN)(k v p:Nat):Int:=(FR A k v).getD p 0
end Go.Ev
namespace Go.Ev
open Go.Proofs.Tryz (prog)
set_option maxRecDepth 100000
set_option maxHeartbeats 0
abbrev Uv (a0:fG):=[ag a0.cells]
abbrev AEt (a0:fG):=decide ((↑a0.n:Int)>8)
abbrev AH9 (a0:fG):=decide ((↑a0.m:Int)>6)
abbrev Uw (a0:fG):=Uv a0
abbrev Au (a0:fG):=Uw a0
theorem AJu (q:fG)(hn:q.n<=8)(hm:q.m<=6)(ihs:sP 5 [] (bv true))(ihc:sP 6 (Au q) (iv 0))(ihr:sP 7 (Au q) (tu [bv true,bv false,bv true]))(ihk:sP 8 (Au q) (iv 1)):sP 3 (Au q) (bv true):=
 kP [[]] (.mk (dS 283393681767355) [] [some (bv true),some (iv 0),some (tu [bv true,bv false,bv true]),some (iv 1)] [] []) (kO AN) (.cons ihk (.cons ihr (oI (AH9 q=false) (oI (AH9 q=false) (.cons ihc (oI (AH9 q=false) (oI (AH9 q=false) (oI (AEt q=false) (oI (AEt q=false) (oI (AEt q=false) (oI (AEt q=false) (oI (AEt q=false) (.cons ihs .nil)))))))))))))
theorem AJv (q:fG)(hn:q.n<=8)(hm:q.m<=6)(ihs:sP 5 [] (bv true))(ihc:sP 6 (Au q) (iv 0))(ihr:sP 7 (Au q) (tu [bv false,bv true,bv true]))(ihk:sP 8 (Au q) (iv 2)):sP 3 (Au q) (bv true):=
 kP [[]] (.mk (dS 283393681767355) [] [some (bv true),some (iv 0),some (tu [bv false,bv true,bv true]),some (iv 2)] [] []) (kO AN) (.cons ihk (.cons ihr (oI (AH9 q=false) (oI (AH9 q=false) (.cons ihc (oI (AH9 q=false) (oI (AH9 q=false) (oI (AEt q=false) (oI (AEt q=false) (oI (AEt q=false) (oI (AEt q=false) (oI (AEt q=false) (.cons ihs .nil)))))))))))))
theorem AJw (q:fG)(hn:q.n<=8)(hm:q.m<=6)(ihs:sP 5 [] (bv true))(ihc:sP 6 (Au q) (iv 0))(ihr:sP 7 (Au q) (tu [bv false,bv false,bv true]))(ihk:sP 8 (Au q) (iv 3)):sP 3 (Au q) (bv true):=
 kP [[]] (.mk (dS 283393681767355) [] [some (bv true),some (iv 0),some (tu [bv false,bv false,bv true]),some (iv 3)] [] []) (kO AN) (.cons ihk (.cons ihr (oI (AH9 q=false) (oI (AH9 q=false) (.cons ihc (oI (AH9 q=false) (oI (AH9 q=false) (oI (AEt q=false) (oI (AEt q=false) (oI (AEt q=false) (oI (AEt q=false) (oI (AEt q=false) (.cons ihs .nil)))))))))))))
theorem AJx (q:fG)(e:Int)(hO:8<q.n∨6<q.m∨e≠0)(ihs:sP 5 [] (bv true))(ihc:sP 6 (Au q) (iv e))(q0:(AEt q)=true):sP 3 (Au q) (bv true):=
 kP _ (.mk (dS 4312662016) [] [some (bv true)] [] []) (kO (kz q0 AN)) (.cons ihs .nil)
section
variable (q:fG)(e:Int)(hO:8<q.n∨6<q.m∨e≠0)(ihs:sP 5 [] (bv true))(ihc:sP 6 (Au q) (iv e))(q0:(AEt q)=false)
include q e hO ihs ihc q0
theorem AJy (q1:(AH9 q)=true):sP 3 (Au q) (bv true):=
 kP _ (.mk (dS 282634617884945) [] [some (bv true)] [] []) (kO (kz q0 (kz q1 AN))) (.cons ihs .nil)
theorem AJz (q1:(AH9 q)=false):sP 3 (Au q) (bv true):=
 kP _ (.mk (dS 4522153886159130) [] [some (bv true),some (iv e)] [] []) (kO (kz q0 (kz q1 AN))) (oI (e != 0) (.cons ihc (.cons ihs .nil)))
end
theorem raO (q:fG)(e:Int)(hO:8<q.n∨6<q.m∨e≠0)(ihs:sP 5 [] (bv true))(ihc:sP 6 [ag q.cells] (iv e)):sP 3 [ag q.cells] (bv true):=by
 rcases bT (decide ((↑q.n:Int)>8)) with q0 | q0
 ·exact (AJx q e hO ihs ihc q0)
 ·rcases bT (decide ((↑q.m:Int)>6)) with q1 | q1
  ·exact (AJy q e hO ihs ihc q0 q1)
  ·exact (AJz q e hO ihs ihc q0 q1)
noncomputable abbrev AJ0:Code:=(cB (cR (cL (cR (cR (cR (AY prog 7)))))))
noncomputable abbrev AJ1:Code:=(cB (cB (cR (cL (cR (cR (cR (AY prog 7))))))))
noncomputable abbrev AIx:=cB (cR (cL (cR (cR (cR (AY prog 7))))))
noncomputable abbrev AJE (a0:fG)(a1:Int):=frame 89 [(1,pt 0 0),(2,bv true),(3,bv true),(5,(.ms 1 1 0 a0.m (some a0.m))),(17,iv a0.m),(18,iv a1)]
abbrev BN (a0:Int)(a1:fG):=decide (a0<↑a1.m)
theorem AJ2 (q:fG)(o:Nat->Int)(i:Int)(h0:0<=i)(hi:i<q.m)(hm:q.m<=6):sC (cB (AIx)) (AJE q i) ([oV q.cells,oA 1 true q.m fun i=>[iv (o i)]]) (xN,(frame 89 [(1,pt 0 0),(2,bv true),(3,bv true),(5,EV.ms 1 1 0 q.m (some q.m)),(17,iv ↑q.m),(18,iv (i+1))]),[oV q.cells,oA 1 true q.m (BC (fun i=>[iv (o i)]) (0+i.toNat) [iv 1])]):=
 kC [[]] (.mk (dS 6826) [] [] [] []) (kO AN) (rI (i+1) (rB i q.m (oI (BN i q) .nil))) 393262 3 2
noncomputable abbrev AJF (a0:fG)(a1:Nat->Int):RC:=(xL 0,(frame 89 [(1,pt 0 0),(2,bv true),(3,bv true),(5,EV.ms 1 1 0 a0.m (some a0.m))]),[oV a0.cells,oA 1 true a0.m fun i=>[iv (a1 i)]])
theorem AJ3 (q:fG)(o:Nat->Int)(i:Int)(hi:i=q.m):sC (cB (AIx)) (AJE q i) ([oV q.cells,oA 1 true q.m fun i=>[iv (o i)]]) (AJF q o):=
 kC [[]] (.mk (dS 27) [] [] [] []) (kO AN) (oI (BN i q=false) .nil) 46 3 2
noncomputable abbrev AJ4:Code:=(cB (cL (cR (cR (cR (cR (cR (cR (cB (cB (cB (cR (cR (cR (cR (AY prog 7))))))))))))))))
noncomputable abbrev AJ5:Code:=(cB (cB (cL (cR (cR (cR (cR (cR (cR (cB (cB (cB (cR (cR (cR (cR (AY prog 7)))))))))))))))))
noncomputable abbrev AIl (a0:Bool)(a1:Bool)(a2:fG)(a3:Int):=frame 89 [(1,pt 0 0),(2,bv a0),(3,bv a1),(5,EV.ms 1 1 0 a2.m (some a2.m)),(11,iv a3)]
noncomputable abbrev AIN:=cR (cR (cR (cB (cB (cB (cR (cR (cR (cR (AY prog 7))))))))))
noncomputable abbrev AIy (a0:Bool)(a1:Bool)(a2:fG)(a3:Int):=frame 89 [(1,pt 0 0),(2,bv a0),(3,bv a1),(5,(.ms 1 1 0 a2.m (some a2.m))),(11,iv a3)]
abbrev FG (a0:Int)(a1:fG):=(BN a0 a1)=true
noncomputable abbrev AId:=cB (cL (cR (cR (cR (AIN)))))
section
variable (q:fG)(o:Nat->Int)(c2:Bool)(o2:Bool)(i:Int)(h0:0<=i)(hm:q.m<=6)
include q o c2 o2 i h0 hm
theorem AJ6 (q0:FG i q)(q1:(o (0+i.toNat)==3)=true):sC (cB (AId)) (AIy c2 o2 q i) ([oV q.cells,oA 1 true q.m fun i=>[iv (o i)],oD,oD,oD,oD,oD,oD]) (xN,(frame 89 [(1,pt 0 0),(2,bv c2),(3,bv o2),(5,EV.ms 1 1 0 q.m (some q.m)),(11,iv (i+1))]),[oV q.cells,oA 1 true q.m (BC (fun i=>[iv (o i)]) (0+i.toNat) [iv 1]),oD,oD,oD,oD,oD,oD]):=
 kC _ (.mk (dS 1099679400362) [] [] [] []) (kO (kz q0 (kz q1 AN))) (rI (i+1) (rB i q.m (rB i q.m .nil))) 2094 3 8
theorem AJ7 (q0:FG i q)(q1:(o (0+i.toNat)==3)=false):sC (cB (AId)) (AIy c2 o2 q i) ([oV q.cells,oA 1 true q.m fun i=>[iv (o i)],oD,oD,oD,oD,oD,oD]) (xL 4,(AIl c2 o2 q i),[oV q.cells,oA 1 true q.m fun i=>[iv (o i)],oD,oD,oD,oD,oD,oD]):=
 kC _ (.mk (dS 4295622657) [] [] [] []) (kO (kz q0 (kz q1 AN))) (rB i q.m .nil) 2094 3 8
theorem AJ8 (q0:(BN i q)=false):sC (cB (AId)) (AIy c2 o2 q i) ([oV q.cells,oA 1 true q.m fun i=>[iv (o i)],oD,oD,oD,oD,oD,oD]) (xL 4,(AIl c2 o2 q i),[oV q.cells,oA 1 true q.m fun i=>[iv (o i)],oD,oD,oD,oD,oD,oD]):=
 kC _ (.mk (dS 16777216) [] [] [] []) (kO (kz q0 AN)) .nil 2094 3 8
end
section
variable (q:fG)(o:Nat->Int)(ce:Bool)(ou:Bool)(c2:Bool)(ma:Int)(la:Int)
include q o ce ou c2 ma la
theorem AKQ:sL (cL (AIN)) (frame 89 [(1,pt 0 0),(2,bv ce),(3,bv ou),(5,(.ms 1 1 0 q.m (some q.m))),(9,iv ma),(10,iv la)]) [oV q.cells,oA 1 true q.m fun i=>[iv (o i)],oD,oD,oD,oD,oD,oD] (xN,(frame 89 [(1,pt 0 0),(2,bv (bif ce then decide (la<q.place) else false)),(3,bv ou),(5,EV.ms 1 1 0 q.m (some q.m)),(9,iv ma)]),[oV q.cells,oA 1 true q.m fun i=>[iv (o i)],oD,oD,oD,oD,oD,oD]):=
 kL [] (.mk [] [(0,.fork true (ce) 4 1578 0 3 (.mk (dS 1048576) [] [] [] []) (.mk (dS 1048576) [] [] [] []))] [] [] []) bY.nil .nil 558 3 [0,1,2,3,4,5,6,7]
theorem AKR:sL (cL (cR (AIN))) (frame 89 [(1,pt 0 0),(2,bv c2),(3,bv ou),(5,(.ms 1 1 0 q.m (some q.m))),(9,iv ma)]) [oV q.cells,oA 1 true q.m fun i=>[iv (o i)],oD,oD,oD,oD,oD,oD] (xN,(frame 89 [(1,pt 0 0),(2,bv c2),(3,bv (bif ou then decide (ma>=q.place) else false)),(5,EV.ms 1 1 0 q.m (some q.m))]),[oV q.cells,oA 1 true q.m fun i=>[iv (o i)],oD,oD,oD,oD,oD,oD]):=
 kL [] (.mk [] [(0,.fork true (ou) 8 550 0 3 (.mk (dS 1048576) [] [] [] []) (.mk (dS 1048576) [] [] [] []))] [] [] []) bY.nil .nil 46 3 [0,1,2,3,4,5,6,7]
end
noncomputable abbrev AKu:Code:=(cB (cB (cR (cR (cR (cR (AY prog 7)))))))
noncomputable abbrev AI2 (a0:Bool)(a1:Bool)(a2:fG):=frame 89 [(1,pt 0 0),(2,bv a0),(3,bv a1),(5,EV.ms 1 1 0 a2.m (some a2.m))]
abbrev AIV (a0:Int)(a1:Int):=[iv a0,iv a1]
abbrev UN (a0:Nat->Int)(a1:Nat):=[iv (a0 a1)]
noncomputable abbrev AJJ (a0:Bool)(a1:Bool)(a2:fG)(a3:Int)(a4:Nat->Int):RC:=(xN,(frame 89 [(1,pt 0 0),(2,bv a0),(3,bv a1),(5,EV.ms 1 1 0 a2.m (some a2.m)),(9,iv a3)]),[oV a2.cells,oA 1 true a2.m fun i=>[iv (a4 i)],oD,oD,oD,oD,oD,oD])
noncomputable abbrev AI1:=cB (cR (cR (cR (cR (AY prog 7)))))
abbrev UP (a0:Nat->Int)(a1:Nat):=UN a0 a1
abbrev AJd (a0:Int)(a1:Int):=tu (AIV a0 a1)
abbrev AA (a0:Nat->Int)(a1:Nat):=UP a0 a1
abbrev AH0 (a0:Int)(a1:Int):=AJd a0 a1
section
variable (q:fG)(o:Nat->Int)(ce:Bool)(ou:Bool)(c2:Bool)(ma:Int)(la:Int)(o2:Bool)(p:Nat->Int)(oc:Nat->Int)(j:Int)(hnn:((↑q.n:Int) != (↑q.n:Int))=false)(h0:0<=j)(hj:j<=q.m)(hm:q.m<=6)(hb:j=q.m∨-10<=oc (0+j.toNat))(hb2:j=q.m∨oc (0+j.toNat)<=10)(ihf:sF 11 [ag q.cells,.ms 0 1 0 q.m (some q.m)] [oA 1 true q.m fun i=>[iv (o i)]] (tu [EV.ms 1 1 0 q.n none,iv 0]) [oA 1 true q.m fun i=>[iv (o i)],oA 1 false q.n fun i=>[iv (p i)]])(iha:sP 12 [ag q.cells,AW true q.n fun i=>p (0+i)] (AH0 ma la))(ih12:sL (cL (AIN)) (frame 89 [(1,pt 0 0),(2,bv ce),(3,bv ou),(5,(.ms 1 1 0 q.m (some q.m))),(9,iv ma),(10,iv la)]) [oV q.cells,oA 1 true q.m fun i=>[iv (o i)],oD,oD,oD,oD,oD,oD] ((xN,frame 89 [(1,pt 0 0),(2,bv c2),(3,bv ou),(5,(.ms 1 1 0 q.m (some q.m))),(9,iv ma)],[oV q.cells,oA 1 true q.m fun i=>[iv (o i)],oD,oD,oD,oD,oD,oD]):RC))(ih13:sL (cL (cR (AIN))) (frame 89 [(1,pt 0 0),(2,bv c2),(3,bv ou),(5,(.ms 1 1 0 q.m (some q.m))),(9,iv ma)]) [oV q.cells,oA 1 true q.m fun i=>[iv (o i)],oD,oD,oD,oD,oD,oD] ((xN,frame 89 [(1,pt 0 0),(2,bv c2),(3,bv o2),(5,(.ms 1 1 0 q.m (some q.m)))],[oV q.cells,oA 1 true q.m fun i=>[iv (o i)],oD,oD,oD,oD,oD,oD]):RC))(ih15:sL (AId) (frame 89 [(1,pt 0 0),(2,bv c2),(3,bv o2),(5,(.ms 1 1 0 q.m (some q.m))),(11,iv 0)]) [oV q.cells,oA 1 true q.m fun i=>[iv (o i)],oD,oD,oD,oD,oD,oD] ((xL 4,frame 89 [(1,pt 0 0),(2,bv c2),(3,bv o2),(5,(.ms 1 1 0 q.m (some q.m))),(11,iv j)],[oV q.cells,oA 1 true q.m fun i=>(AA oc i),oD,oD,oD,oD,oD,oD]):RC))
include q o ce ou c2 ma la o2 p oc j hnn h0 hj hm hb hb2 ihf iha ih12 ih13 ih15
theorem AKw (q0:(j==(↑q.m:Int))=true):sR 2 (cB (AI1)) (frame 89 [(1,pt 0 0),(2,bv ce),(3,bv ou),(5,(.ms 1 1 0 q.m (some q.m)))]) ([oV q.cells,oA 1 true q.m fun i=>[iv (o i)]]) (EX.ret,(frame 89 [(2,bv c2),(3,bv o2),(4,bv true)]),[oV q.cells,oA 1 true q.m fun i=>(AA oc i)]):=
 aM pM nM0 _ (.mk (dS 1080288) [(11,.is 1582 3 (AJJ c2 ou q ma o)),(1,.is 558 3 (xN,(AI2 c2 o2 q),[oV q.cells,oA 1 true q.m fun i=>[iv (o i)],oD,oD,oD,oD,oD,oD])),(4,.is 2094 3 (xL 4,(AIl c2 o2 q j),[oV q.cells,oA 1 true q.m fun i=>(AA oc i),oD,oD,oD,oD,oD,oD]))] [some (AH0 ma la)] [some ((tu [EV.ms 1 1 0 q.n none,iv 0],[oA 1 true q.m fun i=>[iv (o i)],oA 1 false q.n fun i=>[iv (p i)]]))] []) (kO (kz q0 AN)) (.cons ih15 (.cons ih13 (.cons ih12 (.cons iha (oM (((↑q.n:Int) != (↑q.n:Int))=false) (.cons ihf .nil)))))) 28 3 [0,1] 2
theorem AKx (q0:(j==(↑q.m:Int))=false):sR 2 (cB (AI1)) (frame 89 [(1,pt 0 0),(2,bv ce),(3,bv ou),(5,(.ms 1 1 0 q.m (some q.m)))]) ([oV q.cells,oA 1 true q.m fun i=>[iv (o i)]]) (xN,(AI2 c2 o2 q),[oV q.cells,oA 1 true q.m (BC (fun i=>(AA oc i)) (0+j.toNat) [iv (oc (0+j.toNat)+1)])]):=
 aM pM nM0 _ (.mk (dS 4424862378) [(11,.is 1582 3 (AJJ c2 ou q ma o)),(1,.is 558 3 (xN,(AI2 c2 o2 q),[oV q.cells,oA 1 true q.m fun i=>[iv (o i)],oD,oD,oD,oD,oD,oD])),(4,.is 2094 3 (xL 4,(AIl c2 o2 q j),[oV q.cells,oA 1 true q.m fun i=>(AA oc i),oD,oD,oD,oD,oD,oD]))] [some (AH0 ma la)] [some ((tu [EV.ms 1 1 0 q.n none,iv 0],[oA 1 true q.m fun i=>[iv (o i)],oA 1 false q.n fun i=>[iv (p i)]]))] []) (kO (kz q0 AN)) (rB j q.m (rI (oc (0+j.toNat)+1) (rB j q.m (.cons ih15 (.cons ih13 (.cons ih12 (.cons iha (oM (((↑q.n:Int) != (↑q.n:Int))=false) (.cons ihf .nil))))))))) 46 3 [0,1] 2
end
abbrev Eu (a0:fG):=decide (0<=(↑a0.m:Int)) && decide ((↑a0.m:Int)<=(↑a0.m:Int)) && decide ((↑a0.m:Int)*8<=70368744177664) && decide ((↑a0.m:Int)<4611686018427387904)
theorem AKB (q:fG)(o:Nat->Int)(c2:Bool)(o2:Bool)(hm:q.m<=6)(ihA:sL (AIx) (frame 89 [(1,pt 0 0),(2,bv true),(3,bv true),(5,(.ms 1 1 0 q.m (some q.m))),(17,iv q.m),(18,iv 0)]) [oV q.cells,oA 1 true q.m fun _=>[iv 0]] ((xL 0,frame 89 [(1,pt 0 0),(2,bv true),(3,bv true),(5,(.ms 1 1 0 q.m (some q.m)))],[oV q.cells,oA 1 true q.m fun i=>[iv (o i)]]):RC))(ihM:sL (AI1) (frame 89 [(1,pt 0 0),(2,bv true),(3,bv true),(5,(.ms 1 1 0 q.m (some q.m)))]) [oV q.cells,oA 1 true q.m fun i=>[iv (o i)]] ((EX.ret,frame 89 [(2,bv c2),(3,bv o2),(4,bv true)],[oD,oD]):RC)):sP 7 (Au q) (tu [bv c2,bv o2,bv true]):=
 kP [[]] (.mk (dS 26) [(10,.is 393262 3 (AJF q o)),(1,.is 46 3 (EX.ret,(frame 89 [(2,bv c2),(3,bv o2),(4,bv true)]),[oD,oD]))] [] [] []) (kO AN) (.cons ihM (.cons ihA (oS (Eu q) .nil)))
end Go.Ev
namespace Go.Ev
open Go.Proofs.Tryz (prog)
set_option maxRecDepth 100000
set_option maxHeartbeats 0
abbrev A5 (a0:Nat):=decide ((a0+1)*8<=70368744177664) && decide (a0+1<4611686018427387904)
abbrev GO (a0:Int)(a1:Nat):=decide (a0<↑a1)
abbrev UO (a0:Bool)(a1:Nat)(a2:Nat->uN):=sl a0 3 a1 fun i=>(a2 i).cells
noncomputable abbrev AIe:=cB (cB (cR (cL (cR (cR (AY prog 90))))))
abbrev UQ (a0:Bool)(a1:Nat)(a2:Nat->uN):=UO a0 a1 a2
abbrev AF (a0:Bool)(a1:Nat)(a2:Nat->uN):=UQ a0 a1 a2
section
variable (V:Int)(nn:Bool)(N:Nat)(A:Nat->uN)(lr:Nat->List EV)(cell:Nat->EV)(u:Nat)(v:Nat)(a:Nat)(lu:Nat->Int)(b:Nat)(lv:Nat->Int)(i:Int)(h0:0<=i)(hi:i<N)(hN:N<=4096)(hu:(A i.toNat).src=u)(hv:(A i.toNat).dst=v)(hu5:u<512)(hv5:v<512)(huv:u≠v)(ha:a<=4096)(hb:b<=4096)
include V nn N A lr cell u v a lu b lv i h0 hi hN hu hv hu5 hv5 huv ha hb
theorem Zf:sR 3 (AIe) (frame 64 [(2,EV.aH),(3,EV.pe 2 0 0 0),(13,sl nn 3 N fun i=>(A i).cells),(14,iv N),(15,iv i)]) ([oV [iv V,AF nn N A],oA 2 true N lr,fE.flat false 513 cell [(u,sl false 0 0 fun _=>[]),(v,sl false 0 0 fun _=>[]),(512,.ms 1 2 0 N (some N))]]) (xN,(frame 64 [(2,EV.aH),(3,EV.pe 2 0 0 0),(13,sl nn 3 N fun i=>(A i).cells),(14,iv ↑N),(15,iv (i+1))]),[oV [iv V,AF nn N A],oA 2 true N (BC lr (0+i.toNat) [iv (A i.toNat).cap,iv 0]),fE.flat false 513 cell [(u,EV.ms 3 1 0 1 none),(v,EV.ms 4 1 0 1 none),(512,EV.ms 1 2 0 N (some N))],oA 1 false 1 fun i_1=>[[iv i]].getD (0+i_1) [],oA 1 false 1 fun i_1=>[[iv (-1 - i)]].getD (0+i_1) []]):=
 kR [[]] (.mk (dS 0x1aaaaa02aeaaaabaa02aeaba01beb01aea) [] [] [] []) (kO AN) (rI (i+1) (rB i N (oI (decide (512=v)=false) (oI (decide (512=u)=false) (oI (decide (0+(A i.toNat).dst.toNat=v)) (oI (decide (0+(A i.toNat).dst.toNat=u)=false) (oJ (decide (0+(A i.toNat).dst.toNat<513)) (rB (A i.toNat).dst 512 (rI (-1 - i) (oI (decide (0+(A i.toNat).dst.toNat=v)) (oI (decide (0+(A i.toNat).dst.toNat=u)=false) (oJ (decide (0+(A i.toNat).dst.toNat<513)) (rB (A i.toNat).dst 512 (oI (decide (0+(A i.toNat).src.toNat=u)) (oJ (decide (0+(A i.toNat).src.toNat<513)) (rB (A i.toNat).src 512 (oI (decide (0+(A i.toNat).src.toNat=u)) (oJ (decide (0+(A i.toNat).src.toNat<513)) (rB (A i.toNat).src 512 (rB i N (oI (GO i N) .nil))))))))))))))))))))) 57356 31 [0,1,2,5,7] 3
theorem Zg:sR 3 (AIe) (frame 64 [(2,EV.aH),(3,EV.pe 2 0 0 0),(13,sl nn 3 N fun i=>(A i).cells),(14,iv N),(15,iv i)]) ([oV [iv V,AF nn N A],oA 2 true N lr,fE.flat false 513 cell [(u,EV.ms 3 1 0 a none),(v,sl false 0 0 fun _=>[]),(512,.ms 1 2 0 N (some N))],oA 1 false a fun p=>(AA lu p)]) (xN,(frame 64 [(2,EV.aH),(3,EV.pe 2 0 0 0),(13,sl nn 3 N fun i=>(A i).cells),(14,iv ↑N),(15,iv (i+1))]),[oV [iv V,AF nn N A],oA 2 true N (BC lr (0+i.toNat) [iv (A i.toNat).cap,iv 0]),fE.flat false 513 cell [(u,EV.ms 3 1 0 (a+1) none),(v,EV.ms 4 1 0 1 none),(512,EV.ms 1 2 0 N (some N))],oA 1 false (a+1) (Ar a (fun i=>[iv (lu (0+i))]) fun i_1=>[[iv i]].getD (0+i_1) []),oA 1 false 1 fun i_1=>[[iv (-1 - i)]].getD (0+i_1) []]):=
 kR [[]] (.mk (dS 0x1aaaaaaaaaaabaa02aeaba01beb01aea) [] [] [] []) (kO AN) (rI (i+1) (rB i N (oI (decide (512=v)=false) (oI (decide (512=u)=false) (oI (decide (0+(A i.toNat).dst.toNat=v)) (oI (decide (0+(A i.toNat).dst.toNat=u)=false) (oJ (decide (0+(A i.toNat).dst.toNat<513)) (rB (A i.toNat).dst 512 (rI (-1 - i) (oI (decide (0+(A i.toNat).dst.toNat=v)) (oI (decide (0+(A i.toNat).dst.toNat=u)=false) (oJ (decide (0+(A i.toNat).dst.toNat<513)) (rB (A i.toNat).dst 512 (oI (decide (0+(A i.toNat).src.toNat=u)) (oJ (decide (0+(A i.toNat).src.toNat<513)) (rB (A i.toNat).src 512 (oL (A5 a) (oI (decide (0+(A i.toNat).src.toNat=u)) (oJ (decide (0+(A i.toNat).src.toNat<513)) (rB (A i.toNat).src 512 (rB i N (oI (GO i N) .nil)))))))))))))))))))))) 57356 31 [0,1,2,6,8] 3
theorem Zh:sR 3 (AIe) (frame 64 [(2,EV.aH),(3,EV.pe 2 0 0 0),(13,sl nn 3 N fun i=>(A i).cells),(14,iv N),(15,iv i)]) ([oV [iv V,AF nn N A],oA 2 true N lr,fE.flat false 513 cell [(u,sl false 0 0 fun _=>[]),(v,EV.ms 3 1 0 b none),(512,.ms 1 2 0 N (some N))],oA 1 false b fun p=>(AA lv p)]) (xN,(frame 64 [(2,EV.aH),(3,EV.pe 2 0 0 0),(13,sl nn 3 N fun i=>(A i).cells),(14,iv ↑N),(15,iv (i+1))]),[oV [iv V,AF nn N A],oA 2 true N (BC lr (0+i.toNat) [iv (A i.toNat).cap,iv 0]),fE.flat false 513 cell [(u,EV.ms 3 1 0 1 none),(v,EV.ms 4 1 0 (b+1) none),(512,EV.ms 1 2 0 N (some N))],oA 1 false 1 fun i_1=>[[iv i]].getD (0+i_1) [],oA 1 false (b+1) (Ar b (fun i=>[iv (lv (0+i))]) fun i_1=>[[iv (-1 - i)]].getD (0+i_1) [])]):=
 kR [[]] (.mk (dS 0x1aaaaa02aeaaaabaaaaaba01beb01aea) [] [] [] []) (kO AN) (rI (i+1) (rB i N (oI (decide (512=v)=false) (oI (decide (512=u)=false) (oI (decide (0+(A i.toNat).dst.toNat=v)) (oI (decide (0+(A i.toNat).dst.toNat=u)=false) (oJ (decide (0+(A i.toNat).dst.toNat<513)) (rB (A i.toNat).dst 512 (oL (A5 b) (rI (-1 - i) (oI (decide (0+(A i.toNat).dst.toNat=v)) (oI (decide (0+(A i.toNat).dst.toNat=u)=false) (oJ (decide (0+(A i.toNat).dst.toNat<513)) (rB (A i.toNat).dst 512 (oI (decide (0+(A i.toNat).src.toNat=u)) (oJ (decide (0+(A i.toNat).src.toNat<513)) (rB (A i.toNat).src 512 (oI (decide (0+(A i.toNat).src.toNat=u)) (oJ (decide (0+(A i.toNat).src.toNat<513)) (rB (A i.toNat).src 512 (rB i N (oI (GO i N) .nil)))))))))))))))))))))) 57356 31 [0,1,2,6,8] 3
theorem Zi:sR 3 (AIe) (frame 64 [(2,EV.aH),(3,EV.pe 2 0 0 0),(13,sl nn 3 N fun i=>(A i).cells),(14,iv N),(15,iv i)]) ([oV [iv V,AF nn N A],oA 2 true N lr,fE.flat false 513 cell [(u,EV.ms 3 1 0 a none),(v,EV.ms 4 1 0 b none),(512,.ms 1 2 0 N (some N))],oA 1 false a fun p=>(AA lu p),oA 1 false b fun p=>(AA lv p)]) (xN,(frame 64 [(2,EV.aH),(3,EV.pe 2 0 0 0),(13,sl nn 3 N fun i=>(A i).cells),(14,iv ↑N),(15,iv (i+1))]),[oV [iv V,AF nn N A],oA 2 true N (BC lr (0+i.toNat) [iv (A i.toNat).cap,iv 0]),fE.flat false 513 cell [(u,EV.ms 3 1 0 (a+1) none),(v,EV.ms 4 1 0 (b+1) none),(512,EV.ms 1 2 0 N (some N))],oA 1 false (a+1) (Ar a (fun i=>[iv (lu (0+i))]) fun i_1=>[[iv i]].getD (0+i_1) []),oA 1 false (b+1) (Ar b (fun i=>[iv (lv (0+i))]) fun i_1=>[[iv (-1 - i)]].getD (0+i_1) [])]):=
 kR [[]] (.mk (dS 0x1aaaaaaaaaaabaaaaaba01beb01aea) [] [] [] []) (kO AN) (rI (i+1) (rB i N (oI (decide (512=v)=false) (oI (decide (512=u)=false) (oI (decide (0+(A i.toNat).dst.toNat=v)) (oI (decide (0+(A i.toNat).dst.toNat=u)=false) (oJ (decide (0+(A i.toNat).dst.toNat<513)) (rB (A i.toNat).dst 512 (oL (A5 b) (rI (-1 - i) (oI (decide (0+(A i.toNat).dst.toNat=v)) (oI (decide (0+(A i.toNat).dst.toNat=u)=false) (oJ (decide (0+(A i.toNat).dst.toNat<513)) (rB (A i.toNat).dst 512 (oI (decide (0+(A i.toNat).src.toNat=u)) (oJ (decide (0+(A i.toNat).src.toNat<513)) (rB (A i.toNat).src 512 (oL (A5 a) (oI (decide (0+(A i.toNat).src.toNat=u)) (oJ (decide (0+(A i.toNat).src.toNat<513)) (rB (A i.toNat).src 512 (rB i N (oI (GO i N) .nil))))))))))))))))))))))) 57356 31 [0,1,2,7,9] 3
end
theorem vS (V:Int)(nn:Bool)(N:Nat)(A:Nat->uN)(lr:Nat->List EV)(cell:Nat->EV)(ov:List (Nat×EV))(i:Int)(hi:N<=i):sR 3 (AIe) (frame 64 [(2,EV.aH),(3,EV.pe 2 0 0 0),(13,sl nn 3 N fun i=>(A i).cells),(14,iv N),(15,iv i)]) ([oV [iv V,AF nn N A],oA 2 true N lr,fE.flat false 513 cell [(512,.ms 1 2 0 N (some N))]]) (xL 0,(frame 64 [(3,EV.pe 2 0 0 0)]),[oV [iv V,AF nn N A],oA 2 true N lr,fE.flat false 513 cell [(512,EV.ms 1 2 0 N (some N))]]):=
 kR [[]] (.mk (dS 27) [] [] [] []) (kO AN) (oI (GO i N=false) .nil) 8 7 [0,1,2] 3
def Qj (K:KM)(w:World)(cell:Nat->EV)(over:List (Nat×EV))(i:Nat)(mv:Value):Prop:=
 (∃ v,Ay over i=some v/\VR K w v mv)∨(Ay over i=none/\PR K.F w (cell i) mv)
theorem uU.flatG {fr:Bool}{len:Nat}{cell cell':Nat->EV}{over over':List (Nat×EV)}(h:∀ K w i mv,i<len->Qj K w cell over i mv->Qj K w cell' over' i mv):uU (.flat fr len cell over) (.flat fr len cell' over'):=by
 refine ⟨fun K w r ho=>?_,id,id⟩;obtain ⟨ha,h0,hln,hp,c,e,q1,q2,q3,q4,q5,q6⟩:=ho;exact ⟨ha,h0,hln,hp,c,e,q1,q2,q3,q4,q5,fun i a=>h K w i _ (by omega) (q6 i a)⟩
def KR (f:Nat->Int)(A:Nat->uN):Nat->List EV:=fun i=>[.int .i64 ((A i).cap - f i),.int .i64 (f i)]
def GG (A:Nat->uN)(k:Nat):Nat->List EV:=fun i=>if i<k then [.int .i64 (A i).cap,.int .i64 0] else [.int .i64 0,.int .i64 0]
abbrev KK (V:Int)(nn:Bool)(N:Nat)(A:Nat->uN):fE:=.var false true [.int .i64 V,.uS nn 3 N fun i=>(A i).cells]
abbrev nlT (nn:Bool)(N:Nat)(A:Nat->uN)(i:Int):List EV:=frame 64 [(2,EV.aH),(3,EV.pe 2 0 0 0),(13,EV.uS nn 3 N fun i=>(A i).cells),(14,.int .i64 N),(15,.int .i64 i)]
abbrev eA (A:Nat->uN)(k:Nat)(hs:Nat->Option Addr×Nat):Nat->EV:=fun v=>.raw (hs v).1 (A4 A k v) (hs v).2
abbrev nlO (N:Nat):List (Nat×EV):=[(512,.ms 1 2 0 N (some N))]
def SW (N:Nat)(A:Nat->uN):Prop:=∀ i,i<N->∃ u v:Nat,(A i).src=u/\(A i).dst=v/\u<512/\v<512/\u≠v
theorem ND (A:Nat->uN):∀ (k v:Nat),A4 A k v<=2*k
 | 0,_=>Nat.le_refl _
 | k+1,v=>by
  have:=ND A k v;unfold A4 at*;simp only [FR,List.length_append];split<;>split<;>simp<;>omega
theorem WM {A:Nat->uN}{k u v:Nat}(hu:(A k).src=u)(hv:(A k).dst=v)(h:u≠v):FR A (k+1) u=FR A k u++[(k:Int)]/\FR A (k+1) v=FR A k v++[-1 - (k:Int)]/\∀ x,x≠u->x≠v->FR A (k+1) x=FR A k x:=by
 refine ⟨?_,?_,fun x h1 h2=>?_⟩
 ·simp only [FR]; rw [if_pos hu,if_neg (by rw [hv]; omega)]; simp
 ·simp only [FR]; rw [if_neg (by rw [hu]; omega),if_pos hv]; simp
 ·simp only [FR]; rw [if_neg (by rw [hu]; omega),if_neg (by rw [hv]; omega)]; simp
theorem UR {l:List Int}{x:Int}{p:Nat}:(l++[x]).getD p 0=if p<l.length then l.getD p 0 else if p=l.length then x else 0:=by
 rw [uA,List.getElem?_append];split
 ·rw [uA]
 ·rename_i h;split
  ·rename_i h2; subst h2; simp
  ·rw [List.getElem?_eq_none (by simp; omega)]; rfl
theorem SX {A:Nat->uN}{k:Nat}:BC (GG A k) (0+(k:Int).toNat) [.int .i64 (A (k:Int).toNat).cap,.int .i64 0]=GG A (k+1):=by
 funext i;simp only [BC,GG,uJ,uG];by_cases h:i=k
 ·subst h; rw [if_pos rfl,if_pos (by omega)]
 ·rw [if_neg h];by_cases h2:i<k
  ·rw [if_pos h2,if_pos (by omega)]
  ·rw [if_neg h2,if_neg (by omega)]
section
variable {V:Int}{nn:Bool}{N:Nat}{A:Nat->uN}(hN:N<=2048)(hA:SW N A)
include hN hA in
theorem Zj {K0:KM}{w0:World}{ds0:List Deferred}{σ0:AL}(hσ0:∃ a b c,σ0=[a,b,c])(hR0:Rel K0 σ0 w0){k u v a b:Nat}(hk:k<N)(hu:(A k).src=u)(hv:(A k).dst=v)(hu5:u<512)(hv5:v<512)(huv:u≠v){hs:Nat->Option Addr×Nat}{t:List EV}{lr:Nat->List EV}{R1 R2:Nat->List EV}{act:Act}{w:World}
  (ha:A4 A k u=a) (hb:A4 A k v=b) (h1:∀ p,p<a+1->R1 p=[.int .i64 (BE A (k+1) u p)]) (h2:∀ p,p<b+1->R2 p=[.int .i64 (BE A (k+1) v p)]) (ht:t.map (I0 [0,1,2])=t)
  (h:cK K0 σ0 w0 ds0 (fun x=>x<512/\x≠u/\x≠v) hs (A4 A k) (BE A k) t
   [KK V nn N A,.arr false true 2 true N lr,.flat false 513 (eA A k hs) [(u,.ms 3 1 0 (a+1) none),(v,.ms 4 1 0 (b+1) none),(512,.ms 1 2 0 N (some N))],.arr false true 1 false (a+1) R1,.arr false true 1 false (b+1) R2] act w):
  ∃ hs',cK K0 σ0 w0 ds0 (·<512) hs' (A4 A (k+1)) (BE A (k+1)) t [KK V nn N A,.arr false true 2 true N lr,.flat false 513 (eA A (k+1) hs') (nlO N)] act w:=by
 obtain ⟨e1,e2,e3⟩:=WM hu hv huv;have l1:A4 A (k+1) u=a+1:=by unfold A4 at*; rw [e1]; simp [ha]
 have l2:A4 A (k+1) v=b+1:=by unfold A4 at*; rw [e2]; simp [hb]
 obtain ⟨o0,o1,o2,rfl⟩:=hσ0;have live:∀ (nm:Nat) (s:AL),3<=nm->(∀ i,i<3->∃ ob',s[i]? =some ob'/\ob'.live=true)->∀ i ob,([o0,o1,o2]:AL)[i]? =some ob->ob.live=true->i≠nm/\∃ ob',s[i]? =some ob'/\ob'.live=true:=by
  intro nm s hnm hs i ob hi _;have:i<3:=by
   rcases Nat.lt_or_ge i 3 with h | h
   ·exact h
   ·rw [List.getElem?_eq_none (by simpa using h)] at hi; cases hi
  exact ⟨by omega,hs i this⟩
 obtain ⟨x1,s1⟩:=h.put hR0 (u:=u) (r:=2) (nm:=3) (L:=a+1) (put:=fun x=>.flat false 513 (eA A k hs) ([]++(u,x) :: [(v,.ms 4 1 0 (b+1) none),(512,.ms 1 2 0 N (some N))])) (Slot.flat _ _ _ (by omega) _ _ rfl) (fun h=>h.2.1 rfl) (by omega) (by omega) rfl rfl h1
  (live 3 _ (by omega) (fun i hi=>by rcases (by omega:i=0∨i=1∨i=2) with rfl | rfl | rfl<;>exact ⟨_,rfl,rfl⟩))
 obtain ⟨x2,s2⟩:=s1.put hR0 (u:=v) (r:=2) (nm:=4) (L:=b+1) (put:=fun x=>.flat false 513 (eA A k hs) ([(u,.raw x1.1 (a+1) x1.2)]++(v,x) :: [(512,.ms 1 2 0 N (some N))])) (Slot.flat _ _ _ (by omega) _ _ (by simp [Ay,Ne.symm huv])) (fun h=>by rcases h with h | h; exact h.2.2 rfl; exact huv h.symm) (by omega) (by omega) rfl rfl h2
  (live 4 _ (by omega) (fun i hi=>by rcases (by omega:i=0∨i=1∨i=2) with rfl | rfl | rfl<;>exact ⟨_,rfl,rfl⟩))
 have s3:=s2.aX hR0 (m:=3) (L:=[0,1,2]) (s:=[KK V nn N A,.arr false true 2 true N lr,.flat false 513 (eA A k hs) [(u,.raw x1.1 (a+1) x1.2),(v,.raw x2.1 (b+1) x2.2),(512,.ms 1 2 0 N (some N))]]) (by simp) (by decide) rfl;rw [ht] at s3;refine ⟨BK (BK hs u x1) v x2,(s3.le (uI _) (.cons (uH _) (.cons (uH _) (.cons (uU.flatG fun K w i mv hi hf=>?_) .nil)))).dom fun x hx=>?_⟩
 ·by_cases hiu:i=u
  ·subst hiu;rcases hf with ⟨y,g1,g2⟩ | ⟨g1,_⟩
   ·simp only [Ay,if_pos] at g1;obtain rfl:=uC g1;right;refine ⟨by simp only [nlO,Ay]; rw [if_neg (by omega)],?_⟩;simp only [eA,l1,Ap huv,Ao];exact g2.cN rfl
   ·simp [Ay] at g1
  ·by_cases hiv:i=v
   ·subst hiv;rcases hf with ⟨y,g1,g2⟩ | ⟨g1,_⟩
    ·simp only [Ay,if_neg hiu,if_pos] at g1;obtain rfl:=uC g1;right;refine ⟨by simp only [nlO,Ay]; rw [if_neg (by omega)],?_⟩;simp only [eA,l2,Ao];exact g2.cN rfl
    ·simp [Ay,hiu] at g1
   ·have hn:A4 A (k+1) i=A4 A k i:=by unfold A4; rw [e3 i hiu hiv]
    have hc:eA A (k+1) (BK (BK hs u x1) v x2) i=eA A k hs i:=by simp only [eA,hn,Ap hiu,Ap hiv]
    simp only [Qj,Ay,if_neg hiu,if_neg hiv,nlO] at hf ⊢;rw [hc]; exact hf
 ·by_cases hiu:x=u
  ·subst hiu;refine ⟨.inl (.inr rfl),rfl,by rw [l1,Ap huv,Ao],fun p=>?_⟩;rw [Ap huv,Ao]
  ·by_cases hiv:x=v
   ·subst hiv;exact ⟨.inr rfl,rfl,by rw [l2,Ao],fun p=>by rw [Ao]⟩
   ·refine ⟨.inl (.inl ⟨hx,hiu,hiv⟩),rfl,?_,fun p=>?_⟩
    ·rw [Ap hiv,Ap hiu]; unfold A4; rw [e3 x hiu hiv]
    ·rw [Ap hiv,Ap hiu]; unfold BE; rw [e3 x hiu hiv]
include hN hA in
theorem Xo {K0:KM}{w0:World}{ds0:List Deferred}{σ0:AL}(hσ0:∃ a b c,σ0=[a,b,c])(hR0:Rel K0 σ0 w0)(hG:dY fF K0.F w0){ro:Option Nat}(hro:ro.isSome=true->false=true){k:Nat}(hk:k<N){hs:Nat->Option Addr×Nat}{act:Act}{w:World}
  (h:cK K0 σ0 w0 ds0 (·<512) hs (A4 A k) (BE A k) (nlT nn N A k) [KK V nn N A,.arr false true 2 true N (GG A k),.flat false 513 (eA A k hs) (nlO N)] act w)
  {Q:Exit->Act->World->Prop} (hQ:∀ a' w' hs',cK K0 σ0 w0 ds0 (·<512) hs' (A4 A (k+1)) (BE A (k+1)) (nlT nn N A ((k+1:Nat):Int)) [KK V nn N A,.arr false true 2 true N (GG A (k+1)),.flat false 513 (eA A (k+1) hs') (nlO N)] a' w'->Q .normal a' w'):
  (cB (cB (cR (cL (cR (cR (AY prog 90))))))).wpIn (eE ro) 0 prog Q act w:=by
 obtain ⟨u,v,hu,hv,hu5,hv5,huv⟩:=hA k hk;obtain ⟨e1,e2,e3⟩:=WM hu hv huv;have bu:=ND A k u;have bv:=ND A k v;have hm:σ0.length<=3:=by obtain ⟨_,_,_,rfl⟩:=hσ0; simp
 have hz:∀ x,x<512->A4 A k x=0->hs x=(none,0):=by
  obtain ⟨K,bs,_,_,_,_,b,b1,_⟩:=h;exact fun x hx h0=>b1 x hx h0
 have next:∀ {a b:Nat} {R1 R2:Nat->List EV} {a':Act} {w':World} {e:Exit},EX.same .normal e->A4 A k u=a->A4 A k v=b->(∀ p,p<a+1->R1 p=[.int .i64 (BE A (k+1) u p)])->(∀ p,p<b+1->R2 p=[.int .i64 (BE A (k+1) v p)])->
   cK K0 σ0 w0 ds0 (fun x=>x<512/\x≠u/\x≠v) hs (A4 A k) (BE A k) (frame 64 [(2,EV.aH),(3,EV.pe 2 0 0 0),(13,EV.uS nn 3 N fun i=>(A i).cells),(14,.int .i64 N),(15,.int .i64 ((k:Int)+1))])
    [KK V nn N A,.arr false true 2 true N (BC (GG A k) (0+(k:Int).toNat) [.int .i64 (A (k:Int).toNat).cap,.int .i64 0]),.flat false 513 (eA A k hs) [(u,.ms 3 1 0 (a+1) none),(v,.ms 4 1 0 (b+1) none),(512,.ms 1 2 0 N (some N))],.arr false true 1 false (a+1) R1,.arr false true 1 false (b+1) R2] a' w'->Q e a' w':=by
  intro a b R1 R2 a' w' e he ha hb h1 h2 hst;cases e<;>first | exact he.elim | skip
  rw [SX] at hst;obtain ⟨hs',q⟩:=Zj hN hA hσ0 hR0 hk hu hv hu5 hv5 huv ha hb h1 h2 (by rfl) hst;exact hQ a' w' hs' q
 have cellU:∀ (x:Nat),x<512->A4 A k x=0->∀ (K:KM) (w:World) (mv:Value),PR K.F w (eA A k hs x) mv->VR K w (.uS false 0 0 fun _=>[]) mv:=by
  intro x hx h0 K w mv hp;simp only [eA,h0,hz x hx h0] at hp;cases hp;exact .pure _ _ (.bB _ _)
 have start:∀ (eu ev:EV),(∀ K w mv,PR K.F w (eA A k hs u) mv->VR K w eu mv)->(∀ K w mv,PR K.F w (eA A k hs v) mv->VR K w ev mv)->
   uU (.flat false 513 (eA A k hs) (nlO N)) (.flat false 513 (eA A k hs) [(u,eu),(v,ev),(512,.ms 1 2 0 N (some N))]):=by
  intro eu ev h1 h2;refine uU.flatG fun K w i mv hi hf=>?_;by_cases hiu:i=u
  ·subst hiu;rcases hf with ⟨y,g1,_⟩ | ⟨_,g2⟩
   ·simp only [nlO,Ay] at g1; rw [if_neg (by omega)] at g1; cases g1
   ·exact .inl ⟨eu,by simp [Ay],h1 K w mv g2⟩
  ·by_cases hiv:i=v
   ·subst hiv;rcases hf with ⟨y,g1,_⟩ | ⟨_,g2⟩
    ·simp only [nlO,Ay] at g1; rw [if_neg (by omega)] at g1; cases g1
    ·exact .inl ⟨ev,by simp [Ay,hiu],h2 K w mv g2⟩
   ·simp only [Qj,Ay,if_neg hiu,if_neg hiv,nlO] at hf ⊢; exact hf
 have raw:∀ (x:Nat),∀ (K:KM) (w:World) (mv:Value),PR K.F w (eA A k hs x) mv->VR K w (.raw (hs x).1 (A4 A k x) (hs x).2) mv:=fun x K w mv hp=>.pure _ _ hp;have rowU:∀ (x:Nat) (y:Int) (h:FR A (k+1) x=FR A k x++[y]) (R:Nat->List EV),(∀ p,p<A4 A k x+1->R p=if p<A4 A k x then [.int .i64 (BE A k x p)] else [.int .i64 y])->∀ p,p<A4 A k x+1->R p=[.int .i64 (BE A (k+1) x p)]:=by
  intro x y h R hR p hp;rw [hR p hp];unfold BE;rw [h,UR];have hn:A4 A k x=(FR A k x).length:=rfl;rw [hn] at hp ⊢;by_cases hlt:p<(FR A k x).length
  ·rw [if_pos hlt,if_pos hlt]
  ·rw [if_neg hlt,if_neg hlt,if_pos (by omega)]
 have hkz:(0:Int)<=(k:Int):=by omega
 have hki:(k:Int)<N:=by omega
 have hu':(A (k:Int).toNat).src=u:=by rw [uG]; exact hu
 have hv':(A (k:Int).toNat).dst=v:=by rw [uG]; exact hv
 rcases Nat.eq_zero_or_pos (A4 A k u) with zu | pu<;>rcases Nat.eq_zero_or_pos (A4 A k v) with zv | pv
 ·have s1:=h.le (uI _) (.cons (uH _) (.cons (uH _) (.cons (start (.uS false 0 0 fun _=>[]) (.uS false 0 0 fun _=>[]) (cellU u hu5 zu) (cellU v hv5 zv)) .nil)));refine cK.round hro hm hR0 hG s1 (Zf V nn N A (GG A k) (eA A k hs) u v 0 (fun _=>0) 0 (fun _=>0) k hkz hki (by omega) hu' hv' hu5 hv5 huv (by omega) (by omega)) fun e a' w' he hst=>?_;refine next he zu zv ?_ ?_ (hst.dom fun x hx=>⟨hx.1,rfl,rfl,fun _=>rfl⟩)
  ·have:=rowU u _ e1 (fun i_1:Nat=>[[EV.int IntKind.i64 (k:Int)]].getD (0+i_1) []) (fun p hp=>by rw [zu] at hp ⊢; have h0:p=0:=(by omega); subst h0; rfl);rw [zu] at this; exact this
  ·have:=rowU v _ e2 (fun i_1:Nat=>[[EV.int IntKind.i64 (-1 - (k:Int))]].getD (0+i_1) []) (fun p hp=>by rw [zv] at hp ⊢; have h0:p=0:=(by omega); subst h0; rfl);rw [zv] at this; exact this
 ·have s1:=(h.le (uI _) (.cons (uH _) (.cons (uH _) (.cons (start (.uS false 0 0 fun _=>[]) _ (cellU u hu5 zu) (raw v)) .nil)))).pad 1;have s2:=s1.view (u:=v) (r:=2) (nm:=3) (put:=fun x=>.flat false 513 (eA A k hs) ([(u,.uS false 0 0 fun _=>[])]++(v,x) :: [(512,.ms 1 2 0 N (some N))])) (Slot.flat _ _ _ (by omega) _ _ (by simp [Ay,Ne.symm huv])) hv5 pv rfl rfl rfl;refine cK.round hro hm hR0 hG s2 (Zh V nn N A (GG A k) (eA A k hs) u v 0 (fun _=>0) (A4 A k v) (BE A k v) k hkz hki (by omega) hu' hv' hu5 hv5 huv (by omega) (by omega)) fun e a' w' he hst=>?_;refine next he zu rfl ?_ ?_ (hst.dom fun x hx=>⟨⟨hx.1,hx.2.2⟩,rfl,rfl,fun _=>rfl⟩)
  ·have:=rowU u _ e1 (fun i_1:Nat=>[[EV.int IntKind.i64 (k:Int)]].getD (0+i_1) []) (fun p hp=>by rw [zu] at hp ⊢; have h0:p=0:=(by omega); subst h0; rfl);rw [zu] at this; exact this
  ·exact rowU v _ e2 _ (fun p hp=>by
    simp only [Ar,uJ];split
    ·rfl
    ·rw [show p - A4 A k v=0 by omega]; rfl)
 ·have s1:=(h.le (uI _) (.cons (uH _) (.cons (uH _) (.cons (start _ (.uS false 0 0 fun _=>[]) (raw u) (cellU v hv5 zv)) .nil)))).pad 1;have s2:=s1.view (u:=u) (r:=2) (nm:=3) (put:=fun x=>.flat false 513 (eA A k hs) ([]++(u,x) :: [(v,.uS false 0 0 fun _=>[]),(512,.ms 1 2 0 N (some N))])) (Slot.flat _ _ _ (by omega) _ _ rfl) hu5 pu rfl rfl rfl;refine cK.round hro hm hR0 hG s2 (Zg V nn N A (GG A k) (eA A k hs) u v (A4 A k u) (BE A k u) 0 (fun _=>0) k hkz hki (by omega) hu' hv' hu5 hv5 huv (by omega) (by omega)) fun e a' w' he hst=>?_;refine next he rfl zv ?_ ?_ (hst.dom fun x hx=>⟨⟨hx.1,hx.2.1⟩,rfl,rfl,fun _=>rfl⟩)
  ·exact rowU u _ e1 _ (fun p hp=>by
    simp only [Ar,uJ];split
    ·rfl
    ·rw [show p - A4 A k u=0 by omega]; rfl)
  ·have:=rowU v _ e2 (fun i_1:Nat=>[[EV.int IntKind.i64 (-1 - (k:Int))]].getD (0+i_1) []) (fun p hp=>by rw [zv] at hp ⊢; have h0:p=0:=(by omega); subst h0; rfl);rw [zv] at this; exact this
 ·have s1:=(h.le (uI _) (.cons (uH _) (.cons (uH _) (.cons (start _ _ (raw u) (raw v)) .nil)))).pad 2;have s2:=s1.view (u:=u) (r:=2) (nm:=3) (put:=fun x=>.flat false 513 (eA A k hs) ([]++(u,x) :: [(v,.raw (hs v).1 (A4 A k v) (hs v).2),(512,.ms 1 2 0 N (some N))])) (Slot.flat _ _ _ (by omega) _ _ rfl) hu5 pu rfl rfl rfl;have s3:=s2.view (u:=v) (r:=2) (nm:=4) (put:=fun x=>.flat false 513 (eA A k hs) ([(u,.ms 3 1 0 (A4 A k u) none)]++(v,x) :: [(512,.ms 1 2 0 N (some N))])) (Slot.flat _ _ _ (by omega) _ _ (by simp [Ay,Ne.symm huv])) ⟨hv5,Ne.symm huv⟩ pv rfl rfl rfl;refine cK.round hro hm hR0 hG s3 (Zi V nn N A (GG A k) (eA A k hs) u v (A4 A k u) (BE A k u) (A4 A k v) (BE A k v) k hkz hki (by omega) hu' hv' hu5 hv5 huv (by omega) (by omega)) fun e a' w' he hst=>?_;refine next he rfl rfl ?_ ?_ (hst.dom fun x hx=>⟨⟨⟨hx.1,hx.2.1⟩,hx.2.2⟩,rfl,rfl,fun _=>rfl⟩)
  ·exact rowU u _ e1 _ (fun p hp=>by
    simp only [Ar,uJ];split
    ·rfl
    ·rw [show p - A4 A k u=0 by omega]; rfl)
  ·exact rowU v _ e2 _ (fun p hp=>by
    simp only [Ar,uJ];split
    ·rfl
    ·rw [show p - A4 A k v=0 by omega]; rfl)
abbrev Mx (A:Nat->uN)(N:Nat):Nat->EV:=fun v=>.uS (decide (0<A4 A N v)) 1 (A4 A N v) (BS (BE A N v))
include hN hA in
theorem Xp:sL (cB (cR (cL (cR (cR (AY prog 90)))))) (nlT nn N A 0) [KK V nn N A,.arr false true 2 true N (fun _=>[.int .i64 0,.int .i64 0]),.flat false 513 (fun _=>.uS false 0 0 fun _=>[]) (nlO N)]
  (EX.leave 0,frame 64 [(3,.pe 2 0 0 0)],[KK V nn N A,.arr false true 2 true N (KR (fun _=>0) A),.flat false 513 (Mx A N) (nlO N)]):=by
 have key:∀ (K0:KM) (w0:World) (ds0:List Deferred) (σ0:AL),(∃ a b c,σ0=[a,b,c])->Rel K0 σ0 w0->dY fF K0.F w0->∀ (ro:Option Nat),(ro.isSome=true->false=true)->∀ (j k:Nat),k+j=N->∀ (hs:Nat->Option Addr×Nat) (act:Act) (w:World),
   cK K0 σ0 w0 ds0 (·<512) hs (A4 A k) (BE A k) (nlT nn N A k) [KK V nn N A,.arr false true 2 true N (GG A k),.flat false 513 (eA A k hs) (nlO N)] act w->
   wpL ro prog (cB (cB (cR (cL (cR (cR (AY prog 90))))))) (aJ K0 σ0 w0 ds0 (EX.leave 0,frame 64 [(3,.pe 2 0 0 0)],[KK V nn N A,.arr false true 2 true N (KR (fun _=>0) A),.flat false 513 (Mx A N) (nlO N)])) act w:=by
  intro K0 w0 ds0 σ0 hσ0 hR0 hG ro hro j;induction j with
  | zero=>
   intro k hk hs act w h;obtain rfl:k=N:=by omega
   have hm:σ0.length<=3:=by obtain ⟨_,_,_,rfl⟩:=hσ0; simp
   refine HX (cK.round hro hm hR0 hG h (vS V nn k A (GG A k) (eA A k hs) [] k (by omega)) fun e a' w' he hst=>?_);have hat:At K0 σ0 w0 ds0 (frame 64 [(3,.pe 2 0 0 0)]) [KK V nn k A,.arr false true 2 true k (KR (fun _=>0) A),.flat false 513 (Mx A k) (nlO k)] a' w':=by
    refine hst.toAt (fun K hp hR hT=>?_) (by simp);have hh:eW [KK V nn k A,.arr false true 2 true k (GG A k),.flat false 513 (eA A k hs) (nlO k)] [KK V nn k A,.arr false true 2 true k (KR (fun _=>0) A),.flat false 513 (eA A k hs) (nlO k)]:=by
     refine .cons (uH _) (.cons (uU.arr fun i hi=>?_) (.cons (uH _) .nil));simp only [GG,KR,if_pos hi,Int.sub_zero]
    have hR1:=hh.rel hR;obtain ⟨e2,r2⟩:=hR1.swap (q:=2) (o':=.flat false 513 (Mx A k) (nlO k)) rfl (fun ho=>by
     obtain ⟨ha,h0,hln,hpp,c,e,q1,q2,q3,q4,q5,q6⟩:=ho;refine ⟨ha,h0,hln,hpp,c,e,q1,q2,q3,q4,q5,fun i hi=>?_⟩;rcases q6 i hi with ⟨y,g1,g2⟩ | ⟨g1,g2⟩
     ·exact .inl ⟨y,g1,g2⟩
     ·refine .inr ⟨g1,?_⟩;have hi5:i<512:=by
       rcases Nat.lt_or_ge i 512 with h | h
       ·exact h
       ·obtain rfl:i=512:=by omega
        simp [nlO,Ay] at g1
      have:=hp i hi5;simp only [eA] at g2;generalize c[i]=mv at g2 ⊢;cases g2;exact this) (fun h=>h) (fun h=>h)
    refine ⟨r2,hT,fun b hb=>?_⟩;obtain ⟨r,o,h1,h2,h3⟩:=hb;have:∃ o',([KK V nn k A,.arr false true 2 true k (GG A k),.flat false 513 (eA A k hs) (nlO k)]:AL)[r]? =some o'/\o'.live=true:=by
     match r,h1 with
     | 0,_=>exact ⟨_,rfl,rfl⟩
     | 1,_=>exact ⟨_,rfl,rfl⟩
     | 2,_=>exact ⟨_,rfl,rfl⟩
    obtain ⟨o',g1,g2⟩:=this;exact ⟨r,o',g1,g2,h3⟩
   cases e<;>first | exact he.elim | skip
   exact (At.post (e:=.exit _) he hat)
  | succ j ih=>
   intro k hk hs act w h;refine HX (Xo hN hA hσ0 hR0 hG hro (by omega) h fun a' w' hs' hst=>?_);exact ih (k+1) (by omega) hs' a' w' hst
 refine aB.eO (c:=cB (cB (cR (cL (cR (cR (AY prog 90))))))) (fun ro K w a hro hR hG hv=>?_) (by kernel_rfl);refine key K w a.defers _ ⟨_,_,_,rfl⟩ hR hG ro hro N 0 (by omega) (fun _=>(none,0)) a w ?_;have h0:At K [KK V nn N A,.arr false true 2 true N (fun _=>[.int .i64 0,.int .i64 0]),.flat false 513 (fun _=>.uS false 0 0 fun _=>[]) (nlO N)] w a.defers (nlT nn N A 0) [KK V nn N A,.arr false true 2 true N (fun _=>[.int .i64 0,.int .i64 0]),.flat false 513 (fun _=>.uS false 0 0 fun _=>[]) (nlO N)] a w:=
  ⟨K,[],Ext.refl _ _ _,hR,hv,Marks.none⟩
 refine ((cK.ofAt h0).le (uI _) (.cons (uH _) (.cons (uU.arr fun i hi=>?_) (.cons (uU.flatG fun K w i mv hi hf=>?_) .nil)))).dom fun x hx=>⟨hx,rfl,rfl,fun _=>rfl⟩
 ·simp [GG]
 ·rcases hf with ⟨y,g1,g2⟩ | ⟨g1,g2⟩
  ·exact .inl ⟨y,g1,g2⟩
  ·refine .inr ⟨g1,?_⟩;cases g2;exact .raw _ _ _
end
abbrev C3 (a0:Nat):=EV.ms 3 1 0 a0 none
noncomputable abbrev JM:=frame 110 [(1,pt 0 0),(3,pt 2 0)]
abbrev Aq:=sl false 0 0 fun _=>[]
abbrev DK (a0:Int)(a1:fG):=(decide (a0<↑a1.n))=true
noncomputable abbrev JN (a0:fG)(a1:Int):=frame 110 [(1,pt 0 0),(2,EV.aH),(3,pt 2 0),(20,iv ↑a0.n),(21,iv (a1+1))]
noncomputable abbrev AJK:=cR (cR (AY prog 18))
noncomputable abbrev Hm (a0:fG)(a1:Int):=frame 110 [(1,pt 0 0),(2,EV.aH),(3,pt 2 0),(20,iv a0.n),(21,iv a1)]
abbrev GP (a0:fG):=AW a0.nc a0.n a0.uZ
abbrev Ek (a0:fG):=AW a0.np a0.m' a0.uV
abbrev Cd (a0:fG):=sl a0.np 1 a0.m' fun i=>[iv (a0.uV i)]
abbrev Ce (a0:fG):=sl a0.nc 1 a0.n fun i=>[iv (a0.uZ i)]
abbrev Bp (a0:fG):=sl a0.no 2 a0.m fun i=>(a0.op i).cells
abbrev A0:=fE.map false true []
abbrev AT:=sl false 0 0 fun i=>[]
abbrev JO (a0:fG)(a1:Nat)(a2:Int):=fE.var false false [iv a0.aI,iv a0.draw,Ce a0,Cd a0,Bp a0,iv a0.uO,iv a0.place,C3 a1,AT,EV.mm 1,iv a2]
abbrev Hn (a0:fG)(a1:Nat)(a2:Int):=fE.var false false [iv a0.aI,iv a0.draw,GP a0,Ek a0,Bp a0,iv a0.uO,iv a0.place,C3 a1,(Aq),.mm 1,iv a2]
abbrev AEb (a0:fG)(a1:Int):=fE.var false false [iv a0.aI,iv a0.draw,Ce a0,Cd a0,Bp a0,iv a0.uO,iv a0.place,AT,AT,EV.mm 1,iv a1]
noncomputable abbrev AIf:=cB (cB (cR (cL (AJK))))
abbrev AEZ (a0:fG)(a1:Int):=fE.var false false [iv a0.aI,iv a0.draw,GP a0,Ek a0,Bp a0,iv a0.uO,iv a0.place,(Aq),(Aq),.mm 1,iv a1]
section
variable (q:fG)(R:Nat)(rv:Nat->Int)(hi:Int)(i:Int)(h0:0<=i)(hn:q.n<=1000)(hR:R<=1000)
include q R rv hi i h0 hn hR
theorem Zk (q0:DK i q)(q1:(i != q.uO)=true):sR 3 (AIf) (Hm q i) ([oV q.cells,A0,AEZ q hi]) (xN,(JN q i),[oV q.cells,A0,fE.var false false [iv q.aI,iv q.draw,Ce q,Cd q,Bp q,iv q.uO,iv q.place,EV.ms 3 1 0 1 none,AT,EV.mm 1,iv hi],oA 1 false 1 fun i_1=>[[iv i]].getD (0+i_1) []]):=
 kR _ (.mk (dS 16843438) [] [] [] []) (kO (kz q0 (kz q1 AN))) (rI (i+1) .nil) 3145742 15 [0,1,2,4] 3
theorem Zl (q0:DK i q)(q1:(i != q.uO)=false):sR 3 (AIf) (Hm q i) ([oV q.cells,A0,AEZ q hi]) (xN,(JN q i),[oV q.cells,A0,AEb q hi]):=
 kR _ (.mk (dS 4122) [] [] [] []) (kO (kz q0 (kz q1 AN))) (rI (i+1) .nil) 3145742 7 [0,1,2] 3
theorem Zm (q0:DK i q)(q1:(i != q.uO)=true):sR 3 (AIf) (Hm q i) ([oV q.cells,A0,Hn q R hi,oA 1 false R fun p=>(AA rv p)]) (xN,(JN q i),[oV q.cells,A0,fE.var false false [iv q.aI,iv q.draw,Ce q,Cd q,Bp q,iv q.uO,iv q.place,EV.ms 3 1 0 (R+1) none,AT,EV.mm 1,iv hi],oA 1 false (R+1) (Ar R (fun i=>[iv (rv (0+i))]) fun i_1=>[[iv i]].getD (0+i_1) [])]):=
 kR _ (.mk (dS 65962) [] [] [] []) (kO (kz q0 (kz q1 AN))) (rI (i+1) (oL (A5 R) .nil)) 3145742 15 [0,1,2,5] 3
theorem Zn (q0:DK i q)(q1:(i != q.uO)=false):sR 3 (AIf) (Hm q i) ([oV q.cells,A0,Hn q R hi,oA 1 false R fun p=>(AA rv p)]) (xN,(JN q i),[oV q.cells,A0,JO q R hi,oA 1 false R fun i=>(AA rv i)]):=
 kR _ (.mk (dS 4122) [] [] [] []) (kO (kz q0 (kz q1 AN))) (rI (i+1) .nil) 3145742 15 [0,1,2,3] 3
end
abbrev Lt (a0:Nat):=a0+1<4611686018427387904
abbrev UT (a0:Nat):=(a0+1)*16<=70368744177664
abbrev Lu (a0:Nat):=EV.ms 4 2 0 a0 none
abbrev EE (a0:List (EV×EV)):=fE.map false false a0
abbrev EF (a0:fG)(a1:Int):=(a0.op a1.toNat).left==a0.uO
noncomputable abbrev AI3:=cB (cR (cL (cR (cR (cR (AY prog 18))))))
abbrev UU (a0:fG)(a1:Int):=a0.op a1.toNat
abbrev A8 (a0:fG)(a1:Int):=if (a0.op a1.toNat).right<(a0.op a1.toNat).left then (a0.op a1.toNat).right else (a0.op a1.toNat).left
abbrev A9 (a0:fG)(a1:Int):=if (a0.op a1.toNat).right>(a0.op a1.toNat).left then (a0.op a1.toNat).right else (a0.op a1.toNat).left
abbrev UW (a0:fG)(a1:Int):=[iv (if (a0.op a1.toNat).right<(a0.op a1.toNat).left then (a0.op a1.toNat).right else (a0.op a1.toNat).left),iv (if (a0.op a1.toNat).right>(a0.op a1.toNat).left then (a0.op a1.toNat).right else (a0.op a1.toNat).left)]
abbrev GQ (a0:fG)(a1:Int):=(a0.op a1.toNat).right==a0.uO
abbrev Lw (a0:fG)(a1:Nat)(a2:Nat)(a3:Int):=fE.var false false [iv a0.aI,iv a0.draw,Ce a0,Cd a0,Bp a0,iv a0.uO,iv a0.place,C3 a1,Lu a2,EV.mm 1,iv a3]
abbrev O6 (a0:fG)(a1:Nat)(a2:Nat)(a3:Int):=fE.var false false [iv a0.aI,iv a0.draw,Ce a0,Cd a0,Bp a0,iv a0.uO,iv a0.place,C3 a1,Lu a2,EV.mm 1,iv (a3+a0.aI)]
abbrev FT (a0:Nat):=decide (UT a0) && decide (Lt a0)
noncomputable abbrev AIB:=cB (AI3)
abbrev O7 (a0:fG)(a1:Nat)(a2:Int):=fE.var false false [iv a0.aI,iv a0.draw,Ce a0,Cd a0,Bp a0,iv a0.uO,iv a0.place,C3 a1,EV.ms 7 2 0 1 none,EV.mm 1,iv (a2+a0.aI)]
abbrev UX (a0:fG)(a1:Int):=UW a0 a1
abbrev UY (a0:fG)(a1:Int):=UU a0 a1
abbrev El (a0:fG)(a1:Nat)(a2:Nat)(a3:Int):=fE.var false false [iv a0.aI,iv a0.draw,GP a0,Ek a0,Bp a0,iv a0.uO,iv a0.place,C3 a1,Lu a2,.mm 1,iv a3]
abbrev O8 (a0:fG)(a1:Nat)(a2:Nat)(a3:Int):=fE.var false false [iv a0.aI,iv a0.draw,Ce a0,Cd a0,Bp a0,iv a0.uO,iv a0.place,C3 a1,EV.ms 8 2 0 (a2+1) none,EV.mm 1,iv (a3+a0.aI)]
abbrev AU (a0:fG)(a1:Int):=UY a0 a1
abbrev BD (a0:fG)(a1:Int):=UX a0 a1
section
variable (q:fG)(R:Nat)(rv:Nat->Int)(np:Nat)(pr:Nat->aF)(es:List (EV×EV))(bb:Bool)(j:Nat)(L:Nat)(l:Nat->Int)(hi:Int)(i:Int)(h0:0<=i)(hi1:i<q.m)(hm:q.m<=1000)(hR:R<=1000)(hnp:np<=1000)(hL:L<=1000)(hL0:0<L)(hhi: -1000000000<=hi)(hhi2:hi<=1000000000)(hw:0<=q.aI)(hw2:q.aI<=999)
include q R rv np pr es bb j L l hi i h0 hi1 hm hR hnp hL hL0 hhi hhi2 hw hw2
theorem vT (hb:bb=false)(fy:bb=true->BM prog 94 (ag [iv (A8 q i),iv (A9 q i)]) es 0 (some (j,EV.ms 5 1 0 L none)))(fn:bb=false->BM prog 94 (ag [iv (A8 q i),iv (A9 q i)]) es 0 none)(q0:(EF q i)=true):sC (AIB) (frame 110 [(1,pt 0 0),(2,EV.aH),(3,pt 2 0),(40,sl q.no 2 q.m fun i=>(q.op i).cells),(41,iv q.m),(42,iv i)]) ([oV q.cells,EE es,Hn q R hi,oA 1 false R fun p=>(AA rv p)]) (xN,(frame 110 [(1,pt 0 0),(2,EV.aH),(3,pt 2 0),(40,sl q.no 2 q.m fun i=>(q.op i).cells),(41,iv ↑q.m),(42,iv (i+1))]),[oV q.cells,fE.map false false (A7 (es++[(ag (BD q i),sl false 0 0 fun i=>[])]) es.length (EV.ms 9 1 0 1 none)),O7 q R hi,oA 1 false R fun i=>(AA rv i),oV (AU q i).cells,oV (BD q i),oA 2 true 1 fun i_1=>[(BD q i)].getD i_1 [],oA 2 false 1 fun i_1=>[(BD q i)].getD (0+i_1) [],oA 1 true 1 fun i_1=>[[iv i]].getD i_1 [],oA 1 false 1 fun i_1=>[[iv i]].getD (0+i_1) []]):=
 kW _ (.mk (dS 0x1aa05ae00000001aea) [] [] [] [some (none),some (none)]) (kO (kz q0 AN)) (rI (i+1) (rI (hi+q.aI) (rB (↑es.length:Int) (es++[(ag [iv (A8 q i),iv (A9 q i)],sl false 0 0 fun i=>[])]).length (.cons (fn (by assumption)) (.cons (fn (by assumption)) (oQ (dG i q.m) (oQ (BN i q) .nil))))))) 7696581394446 1023
theorem vU (hb:bb=false)(fy:bb=true->BM prog 94 (ag [iv (A8 q i),iv (A9 q i)]) es 0 (some (j,EV.ms 5 1 0 L none)))(fn:bb=false->BM prog 94 (ag [iv (A8 q i),iv (A9 q i)]) es 0 none)(q0:(EF q i)=false)(q1:(GQ q i)=true):sC (AIB) (frame 110 [(1,pt 0 0),(2,EV.aH),(3,pt 2 0),(40,sl q.no 2 q.m fun i=>(q.op i).cells),(41,iv q.m),(42,iv i)]) ([oV q.cells,EE es,Hn q R hi,oA 1 false R fun p=>(AA rv p)]) (xN,(frame 110 [(1,pt 0 0),(2,EV.aH),(3,pt 2 0),(40,sl q.no 2 q.m fun i=>(q.op i).cells),(41,iv ↑q.m),(42,iv (i+1))]),[oV q.cells,fE.map false false (A7 (es++[(ag (BD q i),sl false 0 0 fun i=>[])]) es.length (EV.ms 9 1 0 1 none)),O7 q R hi,oA 1 false R fun i=>(AA rv i),oV (AU q i).cells,oV (BD q i),oA 2 true 1 fun i_1=>[(BD q i)].getD i_1 [],oA 2 false 1 fun i_1=>[(BD q i)].getD (0+i_1) [],oA 1 true 1 fun i_1=>[[iv i]].getD i_1 [],oA 1 false 1 fun i_1=>[[iv i]].getD (0+i_1) []]):=
 kW _ (.mk (dS 0x1aa05ae0000001aa) [] [] [] [some (none),some (none)]) (kO (kz q0 (kz q1 AN))) (rI (i+1) (rI (hi+q.aI) (rB (↑es.length:Int) (es++[(ag [iv (A8 q i),iv (A9 q i)],sl false 0 0 fun i=>[])]).length (.cons (fn (by assumption)) (.cons (fn (by assumption)) (oQ (dG i q.m) (oQ (BN i q) .nil))))))) 7696581394446 1023
theorem vV (hb:bb=false)(fy:bb=true->BM prog 94 (ag [iv (A8 q i),iv (A9 q i)]) es 0 (some (j,EV.ms 5 1 0 L none)))(fn:bb=false->BM prog 94 (ag [iv (A8 q i),iv (A9 q i)]) es 0 none)(q0:(EF q i)=false)(q1:(GQ q i)=false):sC (AIB) (frame 110 [(1,pt 0 0),(2,EV.aH),(3,pt 2 0),(40,sl q.no 2 q.m fun i=>(q.op i).cells),(41,iv q.m),(42,iv i)]) ([oV q.cells,EE es,Hn q R hi,oA 1 false R fun p=>(AA rv p)]) (xN,(frame 110 [(1,pt 0 0),(2,EV.aH),(3,pt 2 0),(40,sl q.no 2 q.m fun i=>(q.op i).cells),(41,iv ↑q.m),(42,iv (i+1))]),[oV q.cells,fE.map false false (A7 (es++[(ag (BD q i),sl false 0 0 fun i=>[])]) es.length (EV.ms 9 1 0 1 none)),fE.var false false [iv q.aI,iv q.draw,Ce q,Cd q,Bp q,iv q.uO,iv q.place,C3 R,EV.ms 7 2 0 1 none,EV.mm 1,iv hi],oA 1 false R fun i=>(AA rv i),oV (AU q i).cells,oV (BD q i),oA 2 true 1 fun i_1=>[(BD q i)].getD i_1 [],oA 2 false 1 fun i_1=>[(BD q i)].getD (0+i_1) [],oA 1 true 1 fun i_1=>[[iv i]].getD i_1 [],oA 1 false 1 fun i_1=>[[iv i]].getD (0+i_1) []]):=
 kW _ (.mk (dS 0x1aa05ae0000001a) [] [] [] [some (none),some (none)]) (kO (kz q0 (kz q1 AN))) (rI (i+1) (rB (↑es.length:Int) (es++[(ag [iv (A8 q i),iv (A9 q i)],sl false 0 0 fun i=>[])]).length (.cons (fn (by assumption)) (.cons (fn (by assumption)) (oQ (dG i q.m) (oQ (BN i q) .nil)))))) 7696581394446 1023
theorem vW (hb:bb=false)(fy:bb=true->BM prog 94 (ag [iv (A8 q i),iv (A9 q i)]) es 0 (some (j,EV.ms 5 1 0 L none)))(fn:bb=false->BM prog 94 (ag [iv (A8 q i),iv (A9 q i)]) es 0 none)(q0:(EF q i)=true):sC (AIB) (frame 110 [(1,pt 0 0),(2,EV.aH),(3,pt 2 0),(40,sl q.no 2 q.m fun i=>(q.op i).cells),(41,iv q.m),(42,iv i)]) ([oV q.cells,EE es,El q R np hi,oA 1 false R fun p=>(AA rv p),oA 2 false np fun p=>(pr p).cells]) (xN,(frame 110 [(1,pt 0 0),(2,EV.aH),(3,pt 2 0),(40,sl q.no 2 q.m fun i=>(q.op i).cells),(41,iv ↑q.m),(42,iv (i+1))]),[oV q.cells,fE.map false false (A7 (es++[(ag (BD q i),sl false 0 0 fun i=>[])]) es.length (EV.ms 10 1 0 1 none)),O8 q R np hi,oA 1 false R fun i=>(AA rv i),oD,oV (AU q i).cells,oV (BD q i),oA 2 true 1 fun i_1=>[(BD q i)].getD i_1 [],oA 2 false (np+1) (Ar np (fun i=>(pr (0+i)).cells) fun i_1=>[(BD q i)].getD (0+i_1) []),oA 1 true 1 fun i_1=>[[iv i]].getD i_1 [],oA 1 false 1 fun i_1=>[[iv i]].getD (0+i_1) []]):=
 kW _ (.mk (dS 0x1aa01ae02ae00000001aea) [] [] [] [some (none),some (none)]) (kO (kz q0 AN)) (rI (i+1) (rI (hi+q.aI) (rB (↑es.length:Int) (es++[(ag [iv (A8 q i),iv (A9 q i)],sl false 0 0 fun i=>[])]).length (.cons (fn (by assumption)) (oL (FT np) (.cons (fn (by assumption)) (oQ (dG i q.m) (oQ (BN i q) .nil)))))))) 7696581394446 2047
theorem vX (hb:bb=false)(fy:bb=true->BM prog 94 (ag [iv (A8 q i),iv (A9 q i)]) es 0 (some (j,EV.ms 5 1 0 L none)))(fn:bb=false->BM prog 94 (ag [iv (A8 q i),iv (A9 q i)]) es 0 none)(q0:(EF q i)=false)(q1:(GQ q i)=true):sC (AIB) (frame 110 [(1,pt 0 0),(2,EV.aH),(3,pt 2 0),(40,sl q.no 2 q.m fun i=>(q.op i).cells),(41,iv q.m),(42,iv i)]) ([oV q.cells,EE es,El q R np hi,oA 1 false R fun p=>(AA rv p),oA 2 false np fun p=>(pr p).cells]) (xN,(frame 110 [(1,pt 0 0),(2,EV.aH),(3,pt 2 0),(40,sl q.no 2 q.m fun i=>(q.op i).cells),(41,iv ↑q.m),(42,iv (i+1))]),[oV q.cells,fE.map false false (A7 (es++[(ag (BD q i),sl false 0 0 fun i=>[])]) es.length (EV.ms 10 1 0 1 none)),O8 q R np hi,oA 1 false R fun i=>(AA rv i),oD,oV (AU q i).cells,oV (BD q i),oA 2 true 1 fun i_1=>[(BD q i)].getD i_1 [],oA 2 false (np+1) (Ar np (fun i=>(pr (0+i)).cells) fun i_1=>[(BD q i)].getD (0+i_1) []),oA 1 true 1 fun i_1=>[[iv i]].getD i_1 [],oA 1 false 1 fun i_1=>[[iv i]].getD (0+i_1) []]):=
 kW _ (.mk (dS 0x1aa01ae02ae0000001aa) [] [] [] [some (none),some (none)]) (kO (kz q0 (kz q1 AN))) (rI (i+1) (rI (hi+q.aI) (rB (↑es.length:Int) (es++[(ag [iv (A8 q i),iv (A9 q i)],sl false 0 0 fun i=>[])]).length (.cons (fn (by assumption)) (oL (FT np) (.cons (fn (by assumption)) (oQ (dG i q.m) (oQ (BN i q) .nil)))))))) 7696581394446 2047
theorem vY (hb:bb=false)(fy:bb=true->BM prog 94 (ag [iv (A8 q i),iv (A9 q i)]) es 0 (some (j,EV.ms 5 1 0 L none)))(fn:bb=false->BM prog 94 (ag [iv (A8 q i),iv (A9 q i)]) es 0 none)(q0:(EF q i)=false)(q1:(GQ q i)=false):sC (AIB) (frame 110 [(1,pt 0 0),(2,EV.aH),(3,pt 2 0),(40,sl q.no 2 q.m fun i=>(q.op i).cells),(41,iv q.m),(42,iv i)]) ([oV q.cells,EE es,El q R np hi,oA 1 false R fun p=>(AA rv p),oA 2 false np fun p=>(pr p).cells]) (xN,(frame 110 [(1,pt 0 0),(2,EV.aH),(3,pt 2 0),(40,sl q.no 2 q.m fun i=>(q.op i).cells),(41,iv ↑q.m),(42,iv (i+1))]),[oV q.cells,fE.map false false (A7 (es++[(ag (BD q i),sl false 0 0 fun i=>[])]) es.length (EV.ms 10 1 0 1 none)),fE.var false false [iv q.aI,iv q.draw,Ce q,Cd q,Bp q,iv q.uO,iv q.place,C3 R,EV.ms 8 2 0 (np+1) none,EV.mm 1,iv hi],oA 1 false R fun i=>(AA rv i),oD,oV (AU q i).cells,oV (BD q i),oA 2 true 1 fun i_1=>[(BD q i)].getD i_1 [],oA 2 false (np+1) (Ar np (fun i=>(pr (0+i)).cells) fun i_1=>[(BD q i)].getD (0+i_1) []),oA 1 true 1 fun i_1=>[[iv i]].getD i_1 [],oA 1 false 1 fun i_1=>[[iv i]].getD (0+i_1) []]):=
 kW _ (.mk (dS 0x1aa01ae02ae0000001a) [] [] [] [some (none),some (none)]) (kO (kz q0 (kz q1 AN))) (rI (i+1) (rB (↑es.length:Int) (es++[(ag [iv (A8 q i),iv (A9 q i)],sl false 0 0 fun i=>[])]).length (.cons (fn (by assumption)) (oL (FT np) (.cons (fn (by assumption)) (oQ (dG i q.m) (oQ (BN i q) .nil))))))) 7696581394446 2047
theorem vZ (hb:bb=true)(fs:sameAt es j (ag [iv (A8 q i),iv (A9 q i)])=true)(hj:j<es.length)(fy:bb=true->BM prog 94 (ag [iv (A8 q i),iv (A9 q i)]) es 0 (some (j,EV.ms 5 1 0 L none)))(fn:bb=false->BM prog 94 (ag [iv (A8 q i),iv (A9 q i)]) es 0 none)(q0:(EF q i)=true):sC (AIB) (frame 110 [(1,pt 0 0),(2,EV.aH),(3,pt 2 0),(40,sl q.no 2 q.m fun i=>(q.op i).cells),(41,iv q.m),(42,iv i)]) ([oV q.cells,EE es,El q R np hi,oA 1 false R fun p=>(AA rv p),oA 2 false np fun p=>(pr p).cells,oA 1 false L fun p=>[iv (l p)]]) (xN,(frame 110 [(1,pt 0 0),(2,EV.aH),(3,pt 2 0),(40,sl q.no 2 q.m fun i=>(q.op i).cells),(41,iv ↑q.m),(42,iv (i+1))]),[oV q.cells,fE.map false false (A7 (es.set j (ag (BD q i),EV.ms 5 1 0 L none)) j (EV.ms 9 1 0 (L+1) none)),O6 q R np hi,oA 1 false R fun i=>(AA rv i),oA 2 false np fun i=>(pr i).cells,oD,oV (AU q i).cells,oV (BD q i),oA 1 true 1 fun i_1=>[[iv i]].getD i_1 [],oA 1 false (L+1) (Ar L (fun i=>[iv (l (0+i))]) fun i_1=>[[iv i]].getD (0+i_1) [])]):=
 kW _ (.mk (dS 0x1aabaaa00000001aea) [] [] [] [some (some (j,EV.ms 5 1 0 L none)),some (some (j,EV.ms 5 1 0 L none))]) (kO (kz q0 AN)) (rI (i+1) (rI (hi+q.aI) (oQ (dG (↑j:Int) (es.set j (ag [iv (A8 q i),iv (A9 q i)],EV.ms 5 1 0 L none)).length) (oL (A5 L) (oM (sameAt es j (ag [iv (A8 q i),iv (A9 q i)])) (.cons (fy (by assumption)) (oI (((↑L:Int)==0)=false) (.cons (fy (by assumption)) (oQ (dG i q.m) (oQ (BN i q) .nil)))))))))) 7696581394446 1023
theorem v3 (hb:bb=true)(fs:sameAt es j (ag [iv (A8 q i),iv (A9 q i)])=true)(hj:j<es.length)(fy:bb=true->BM prog 94 (ag [iv (A8 q i),iv (A9 q i)]) es 0 (some (j,EV.ms 5 1 0 L none)))(fn:bb=false->BM prog 94 (ag [iv (A8 q i),iv (A9 q i)]) es 0 none)(q0:(EF q i)=false)(q1:(GQ q i)=true):sC (AIB) (frame 110 [(1,pt 0 0),(2,EV.aH),(3,pt 2 0),(40,sl q.no 2 q.m fun i=>(q.op i).cells),(41,iv q.m),(42,iv i)]) ([oV q.cells,EE es,El q R np hi,oA 1 false R fun p=>(AA rv p),oA 2 false np fun p=>(pr p).cells,oA 1 false L fun p=>[iv (l p)]]) (xN,(frame 110 [(1,pt 0 0),(2,EV.aH),(3,pt 2 0),(40,sl q.no 2 q.m fun i=>(q.op i).cells),(41,iv ↑q.m),(42,iv (i+1))]),[oV q.cells,fE.map false false (A7 (es.set j (ag (BD q i),EV.ms 5 1 0 L none)) j (EV.ms 9 1 0 (L+1) none)),O6 q R np hi,oA 1 false R fun i=>(AA rv i),oA 2 false np fun i=>(pr i).cells,oD,oV (AU q i).cells,oV (BD q i),oA 1 true 1 fun i_1=>[[iv i]].getD i_1 [],oA 1 false (L+1) (Ar L (fun i=>[iv (l (0+i))]) fun i_1=>[[iv i]].getD (0+i_1) [])]):=
 kW _ (.mk (dS 0x1aabaaa0000001aa) [] [] [] [some (some (j,EV.ms 5 1 0 L none)),some (some (j,EV.ms 5 1 0 L none))]) (kO (kz q0 (kz q1 AN))) (rI (i+1) (rI (hi+q.aI) (oQ (dG (↑j:Int) (es.set j (ag [iv (A8 q i),iv (A9 q i)],EV.ms 5 1 0 L none)).length) (oL (A5 L) (oM (sameAt es j (ag [iv (A8 q i),iv (A9 q i)])) (.cons (fy (by assumption)) (oI (((↑L:Int)==0)=false) (.cons (fy (by assumption)) (oQ (dG i q.m) (oQ (BN i q) .nil)))))))))) 7696581394446 1023
theorem v5 (hb:bb=true)(fs:sameAt es j (ag [iv (A8 q i),iv (A9 q i)])=true)(hj:j<es.length)(fy:bb=true->BM prog 94 (ag [iv (A8 q i),iv (A9 q i)]) es 0 (some (j,EV.ms 5 1 0 L none)))(fn:bb=false->BM prog 94 (ag [iv (A8 q i),iv (A9 q i)]) es 0 none)(q0:(EF q i)=false)(q1:(GQ q i)=false):sC (AIB) (frame 110 [(1,pt 0 0),(2,EV.aH),(3,pt 2 0),(40,sl q.no 2 q.m fun i=>(q.op i).cells),(41,iv q.m),(42,iv i)]) ([oV q.cells,EE es,El q R np hi,oA 1 false R fun p=>(AA rv p),oA 2 false np fun p=>(pr p).cells,oA 1 false L fun p=>[iv (l p)]]) (xN,(frame 110 [(1,pt 0 0),(2,EV.aH),(3,pt 2 0),(40,sl q.no 2 q.m fun i=>(q.op i).cells),(41,iv ↑q.m),(42,iv (i+1))]),[oV q.cells,fE.map false false (A7 (es.set j (ag (BD q i),EV.ms 5 1 0 L none)) j (EV.ms 9 1 0 (L+1) none)),Lw q R np hi,oA 1 false R fun i=>(AA rv i),oA 2 false np fun i=>(pr i).cells,oD,oV (AU q i).cells,oV (BD q i),oA 1 true 1 fun i_1=>[[iv i]].getD i_1 [],oA 1 false (L+1) (Ar L (fun i=>[iv (l (0+i))]) fun i_1=>[[iv i]].getD (0+i_1) [])]):=
 kW _ (.mk (dS 0x1aabaaa0000001a) [] [] [] [some (some (j,EV.ms 5 1 0 L none)),some (some (j,EV.ms 5 1 0 L none))]) (kO (kz q0 (kz q1 AN))) (rI (i+1) (oQ (dG (↑j:Int) (es.set j (ag [iv (A8 q i),iv (A9 q i)],EV.ms 5 1 0 L none)).length) (oL (A5 L) (oM (sameAt es j (ag [iv (A8 q i),iv (A9 q i)])) (.cons (fy (by assumption)) (oI (((↑L:Int)==0)=false) (.cons (fy (by assumption)) (oQ (dG i q.m) (oQ (BN i q) .nil))))))))) 7696581394446 1023
end
def sTo (A:Nat->uN)(x:Int):Int:=if 0<=x then (A x.toNat).dst else (A (-1 - x).toNat).src
def Bn (A:Nat->uN)(f:Nat->Int)(x:Int):Int:=if 0<=x then (A x.toNat).cap - f x.toNat else f (-1 - x).toNat
structure Arcs (V N:Nat) (A:Nat->uN):Prop where
 v2:2<=V
 src:∀ i,i<N->0<=(A i).src/\(A i).src<V - 1
 dst:∀ i,i<N->0<(A i).dst/\(A i).dst<V
 ne:∀ i,i<N->(A i).src≠(A i).dst
 cap:∀ i,i<N->0<=(A i).cap/\(A i).cap<=1073741824
def Em (N:Nat)(A:Nat->uN)(f:Nat->Int):Prop:=∀ i,i<N->0<=f i/\f i<=(A i).cap
def CV (A:Nat->uN)(f:Nat->Int):Nat->Nat->Int
 | 0,_=>0
 | k+1,w=>CV A f k w+f k*((if (A k).src=w then 1 else 0) - (if (A k).dst=w then 1 else 0))
theorem I1 {A:Nat->uN}{x:Int}{v:Nat}:∀ {k:Nat},x∈FR A k v↔(∃ i:Nat,i<k/\x=i/\(A i).src=v)∨(∃ i:Nat,i<k/\x= -1 - (i:Int)/\(A i).dst=v)
 | 0=>by simp [FR]
 | k+1=>by
  rw [FR,List.mem_append,List.mem_append,I1 (k:=k)];constructor
  ·rintro ((⟨i,h1,h2,h3⟩ | ⟨i,h1,h2,h3⟩) | h | h)
   ·exact .inl ⟨i,by omega,h2,h3⟩
   ·exact .inr ⟨i,by omega,h2,h3⟩
   ·split at h
    ·rename_i hs; rw [List.mem_singleton] at h; exact .inl ⟨k,by omega,h,hs⟩
    ·cases h
   ·split at h
    ·rename_i hs; rw [List.mem_singleton] at h; exact .inr ⟨k,by omega,h,hs⟩
    ·cases h
  ·rintro (⟨i,h1,h2,h3⟩ | ⟨i,h1,h2,h3⟩)
   ·rcases Nat.lt_or_ge i k with h | h
    ·exact .inl (.inl ⟨i,h,h2,h3⟩)
    ·obtain rfl:i=k:=by omega
     exact .inr (.inl (by rw [if_pos h3]; simp [h2]))
   ·rcases Nat.lt_or_ge i k with h | h
    ·exact .inl (.inr ⟨i,h,h2,h3⟩)
    ·obtain rfl:i=k:=by omega
     exact .inr (.inr (by rw [if_pos h3]; simp [h2]))
theorem Hp {A:Nat->uN}{k v p:Nat}(h:p<A4 A k v):BE A k v p∈FR A k v:=by
 unfold BE A4 at*;rw [uA,uD h];exact List.getElem_mem _
theorem RO {A:Nat->uN}{k v:Nat}{x:Int}(h:x∈FR A k v):∃ p,p<A4 A k v/\BE A k v p=x:=by
 obtain ⟨p,hp,e⟩:=List.getElem_of_mem h;exact ⟨p,hp,by unfold BE; rw [uA,uD hp]; simpa using e⟩
section
variable {V N:Nat}{A:Nat->uN}(hA:Arcs V N A)
include hA
theorem LM {x:Int}{u:Nat}(h:x∈FR A N u):u<V/\∃ t i:Nat,i<N/\t<V/\sTo A x=t/\u≠t/\
  ((x=i/\(A i).src=u/\(A i).dst=t/\∀ f,Bn A f x=(A i).cap - f i)∨(x= -1 - (i:Int)/\(A i).dst=u/\(A i).src=t/\∀ f,Bn A f x=f i)):=by
 have v2:=hA.v2;rcases I1.1 h with ⟨i,h1,rfl,h3⟩ | ⟨i,h1,rfl,h3⟩
 ·have hs:=hA.src i h1;have hd:=hA.dst i h1;have hn:=hA.ne i h1;have e0:(0:Int)<=(i:Int):=by omega
  refine ⟨by omega,((A i).dst).toNat,i,h1,by omega,?_,by omega,.inl ⟨rfl,h3,by omega,fun f=>?_⟩⟩
  ·simp only [sTo,if_pos e0,uG]; omega
  ·simp only [Bn,if_pos e0,uG]
 ·have hs:=hA.src i h1;have hd:=hA.dst i h1;have hn:=hA.ne i h1;have e0:¬ (0:Int)<=-1 - (i:Int):=by omega
  have e1:(-1 - (-1 - (i:Int))).toNat=i:=by omega
  refine ⟨by omega,((A i).src).toNat,i,h1,by omega,?_,by omega,.inr ⟨rfl,h3,by omega,fun f=>?_⟩⟩
  ·simp only [sTo,if_neg e0,e1]; omega
  ·simp only [Bn,if_neg e0,e1]
end
def Res (N:Nat)(A:Nat->uN)(f:Nat->Int)(u v:Nat):Prop:=∃ x,x∈FR A N u/\0<Bn A f x/\sTo A x=v
structure dH (V N:Nat) (A:Nat->uN) (f lev:Nat->Int):Prop where
 zero:lev 0=0
 lo:∀ v,v<V->-1<=lev v/\lev v<V
 par:∀ v,v<V->v≠0->0<=lev v->∃ u,u<V/\0<=lev u/\lev v=lev u+1/\Res N A f u v
 cut:lev (V - 1)<0->∀ u v,u<V->v<V->0<=lev u->Res N A f u v->0<=lev v
structure Bfs (V N:Nat) (A:Nat->uN) (f lev:Nat->Int) (D:List Nat) (L:List Nat):Prop where
 nd:L.Nodup
 lt:∀ v,v∈L->v<V
 met:∀ v,v<V->(0<=lev v/\v∈L)∨(lev v= -1/\v ∉ L)
 zero:lev 0=0
 par:∀ v,v∈L->v≠0->∃ u,u<V/\0<=lev u/\lev v=lev u+1/\Res N A f u v
 le:∀ (i v:Nat),L[i]? =some v->lev v<=(i:Int)
 cl:∀ u,u∈D->∀ v,v<V->Res N A f u v->0<=lev v
 sink:V - 1 ∉ L
theorem JP:∀ {V:Nat} {L:List Nat},L.Nodup->(∀ v,v∈L->v<V)->L.length<=V
 | 0,[],_,_=>by simp
 | 0,x :: L,_,h=>absurd (h x List.mem_cons_self) (by omega)
 | V+1,L,hn,h=>by
  by_cases hv:V∈L
  ·have hl:=List.length_erase_of_mem hv;have:=JP (V:=V) (L:=L.erase V) (hn.erase V) fun v hm=>by
    have h1:=(List.Nodup.mem_erase_iff hn).1 hm;have:=h v h1.2;have:=h1.1;omega
   omega
  ·have:=JP (V:=V) (L:=L) hn fun v hm=>by
    have:=h v hm;have:v≠V:=fun e=>hv (e▸hm);omega
   omega
section
variable {V N:Nat}{A:Nat->uN}(hA:Arcs V N A){f:Nat->Int}
include hA
theorem UZ:Bfs V N A f (BK (fun _=>-1) 0 0) [] [0]:=by
 have:=hA.v2;refine ⟨by simp,fun v h=>by simp at h; omega,fun v _=>?_,Ao,fun v h h0=>absurd (by simpa using h) h0,fun i v h=>?_,fun u h=>(List.not_mem_nil h).elim,by simp; omega⟩
 ·by_cases hv:v=0
  ·subst hv; left; simp [BK]
  ·right; simp [BK,hv]
 ·cases i with
  | zero=>simp at h; subst h; simp [BK]
  | succ i=>simp at h
omit hA in
theorem LN {lev:Nat->Int}{D L:List Nat}(h:Bfs V N A f lev D L):L.length<=V:=JP h.nd h.lt
omit hA in
theorem Nz {lev:Nat->Int}{D L:List Nat}(h:Bfs V N A f lev D L){v:Nat}(hv:v∈L):0<=lev v:=by
 rcases h.met v (h.lt v hv) with h | h
 ·exact h.1
 ·exact absurd hv h.2
theorem WN {lev:Nat->Int}{D L:List Nat}(h:Bfs V N A f lev D L){u t:Nat}(hu:u∈L)(ht:t<V)(hl:lev t<0)(hr:Res N A f u t)(hs:t≠V - 1):Bfs V N A f (BK lev t (lev u+1)) D (L++[t]):=by
 have hu0:=Nz h hu;have htL:t ∉ L:=fun e=>by have:=Nz h e; omega
 have hut:u≠t:=fun e=>htL (e▸hu);have hz:(0:Nat)≠t:=fun e=>by have:=h.zero; rw [e] at this; omega
 have hne:∀ v,0<=lev v->v≠t:=fun v hv e=>by subst e; omega
 refine ⟨?_,fun v hv=>?_,fun v hv=>?_,by rw [Ap hz]; exact h.zero,fun v hv h0=>?_,fun i v hv=>?_,fun w hw v hv hr'=>?_,fun e=>?_⟩
 ·rw [List.nodup_append];exact ⟨h.nd,by simp,fun a ha b hb=>by simp at hb; subst hb; exact fun e=>htL (e▸ha)⟩
 ·rcases List.mem_append.1 hv with hv | hv
  ·exact h.lt v hv
  ·simp at hv; omega
 ·by_cases hvt:v=t
  ·subst hvt; left; rw [Ao]; exact ⟨by omega,by simp⟩
  ·rw [Ap hvt];rcases h.met v hv with ⟨h1,h2⟩ | ⟨h1,h2⟩
   ·exact .inl ⟨h1,by simp [h2]⟩
   ·exact .inr ⟨h1,by simp [h2,hvt]⟩
 ·by_cases hvt:v=t
  ·subst hvt;refine ⟨u,h.lt u hu,?_,?_,hr⟩
   ·rw [Ap hut]; exact hu0
   ·rw [Ao,Ap hut]
  ·have hv':v∈L:=by simpa [hvt] using hv
   obtain ⟨w,h1,h2,h3,h4⟩:=h.par v hv' h0;exact ⟨w,h1,by rw [Ap (hne w h2)]; exact h2,by rw [Ap hvt,Ap (hne w h2)]; exact h3,h4⟩
 ·rw [List.getElem?_append] at hv;split at hv
  ·have:=h.le i v hv;have hv2:v∈L:=List.mem_of_getElem? hv;rw [Ap (fun e=>htL (by rw [<-e]; exact hv2))];exact this
  ·rename_i hi;have hi0:i - L.length=0:=by
    rcases Nat.eq_zero_or_pos (i - L.length) with e | e
    ·exact e
    ·rw [List.getElem?_eq_none (by simp; omega)] at hv; cases hv
   rw [hi0] at hv;simp at hv;subst hv;obtain ⟨j,hj,e⟩:=List.getElem_of_mem hu;have:=h.le j u (by rw [uD hj,e]);rw [Ao];omega
 ·have:=h.cl w hw v hv hr';by_cases hvt:v=t
  ·subst hvt; omega
  ·rw [Ap hvt]; exact this
 ·rcases List.mem_append.1 e with e | e
  ·exact h.sink e
  ·simp at e; omega
theorem N0 {lev:Nat->Int}{D L:List Nat}(h:Bfs V N A f lev D L){u:Nat}(hu:u∈L)(hl:lev (V - 1)<0)(hr:Res N A f u (V - 1)):dH V N A f (BK lev (V - 1) (lev u+1)):=by
 have v2:=hA.v2;have hu0:=Nz h hu;have hut:u≠V - 1:=fun e=>h.sink (e▸hu);have hne:∀ v,0<=lev v->v≠V - 1:=fun v hv e=>by subst e; omega
 obtain ⟨j,hj,e⟩:=List.getElem_of_mem hu;have h1:=h.le j u (by rw [uD hj,e]);have hV:L.length<V:=by
  have:=JP (V:=V) (L:=L++[V - 1]) (by
   rw [List.nodup_append];exact ⟨h.nd,by simp,fun a ha b hb=>by simp at hb; subst hb; exact fun e=>h.sink (e▸ha)⟩) (fun v hv=>by
   rcases List.mem_append.1 hv with hv | hv
   ·exact h.lt v hv
   ·simp at hv; omega)
  simp at this;omega
 refine ⟨by rw [Ap (by omega)]; exact h.zero,fun v hv=>?_,fun v hv h0 hvl=>?_,fun hlt=>?_⟩
 ·by_cases hvt:v=V - 1
  ·subst hvt; rw [Ao]; omega
  ·rw [Ap hvt];rcases h.met v hv with ⟨a,b⟩ | ⟨a,b⟩
   ·obtain ⟨i,hi,e⟩:=List.getElem_of_mem b;have:=h.le i v (by rw [uD hi,e]);omega
   ·omega
 ·by_cases hvt:v=V - 1
  ·subst hvt;exact ⟨u,h.lt u hu,by rw [Ap hut]; exact hu0,by rw [Ao,Ap hut],hr⟩
  ·rw [Ap hvt] at hvl;have hv':v∈L:=by
    rcases h.met v hv with ⟨a,b⟩ | ⟨a,b⟩
    ·exact b
    ·omega
   obtain ⟨w,h1,h2,h3,h4⟩:=h.par v hv' h0;exact ⟨w,h1,by rw [Ap (hne w h2)]; exact h2,by rw [Ap hvt,Ap (hne w h2)]; exact h3,h4⟩
 ·rw [Ao] at hlt; omega
omit hA in
theorem TD {lev:Nat->Int}{D L:List Nat}(h:Bfs V N A f lev D L)(hd:∀ v,v∈L->v∈D):dH V N A f lev:=by
 have hV:=LN h;have key:∀ v,v<V->0<=lev v->v∈L:=fun v hv hl=>by
  rcases h.met v hv with ⟨a,b⟩ | ⟨a,b⟩
  ·exact b
  ·omega
 refine ⟨h.zero,fun v hv=>?_,fun v hv h0 hl=>h.par v (key v hv hl) h0,fun _ u v hu hv hl hr=>h.cl u (hd u (key u hu hl)) v hv hr⟩;rcases h.met v hv with ⟨a,b⟩ | ⟨a,b⟩
 ·obtain ⟨i,hi,e⟩:=List.getElem_of_mem b;have:=h.le i v (by rw [uD hi,e]);omega
 ·omega
end
def F3 (f:Nat->Int)(x got:Int):Nat->Int:=if 0<=x then BK f x.toNat (f x.toNat+got) else BK f (-1 - x).toNat (f (-1 - x).toNat - got)
inductive Alive (V N:Nat) (A:Nat->uN) (f lev:Nat->Int):Nat->Prop where
 | sink:Alive V N A f lev (V - 1)
 | step (u t:Nat) (x:Int) (hx:x∈FR A N u) (hr:0<Bn A f x) (ht:sTo A x=t) (hl:lev t=lev u+1) (h:Alive V N A f lev t):Alive V N A f lev u
def TE (V N:Nat)(A:Nat->uN)(f lev used:Nat->Int):Prop:=
 ∀ v,v<V->v≠V - 1->∀ p:Nat,(p:Int)<used v->p<A4 A N v->∀ t:Nat,sTo A (BE A N v p)=t->0<Bn A f (BE A N v p)->lev t=lev v+1->¬ Alive V N A f lev t
def G9 (V N:Nat)(A:Nat->uN)(used:Nat->Int):Prop:=∀ w,w<V->0<=used w/\used w<=A4 A N w
structure dB (V N:Nat) (A:Nat->uN) (lev f used:Nat->Int) (v:Nat) (amt got:Int) (f' used':Nat->Int):Prop where
 got0:0<=got/\got<=amt
 cap:Em N A f'
 net:∀ w,w<V->CV A f' N w=CV A f N w+got*((if w=v then 1 else 0) - (if w=V - 1 then 1 else 0))
 usd:G9 V N A used'
 low:∀ w,w<V->lev w<lev v->used' w=used w
 same:∀ i,i<N->(lev (A i).src.toNat<lev v∨lev (A i).dst.toNat<lev v)->f' i=f i
 dead:got=0->f'=f/\(TE V N A f lev used->TE V N A f lev used'/\¬ Alive V N A f lev v)
theorem N3 {A:Nat->uN}{f:Nat->Int}{j:Nat}{c:Int}{w:Nat}:∀ {k:Nat},CV A (BK f j (f j+c)) k w=CV A f k w+(if j<k then c*((if (A j).src=w then 1 else 0) - (if (A j).dst=w then 1 else 0)) else 0)
 | 0=>by simp [CV]
 | k+1=>by
  rw [CV,CV,N3 (k:=k)];by_cases hj:j=k
  ·subst hj;rw [Ao,if_neg (Nat.lt_irrefl _),if_pos (Nat.lt_succ_self _),Int.add_mul];omega
  ·rw [Ap (Ne.symm hj)];by_cases h:j<k
   ·rw [if_pos h,if_pos (show j<k+1 by omega)]; omega
   ·rw [if_neg h,if_neg (show ¬ j<k+1 by omega)]; omega
section
variable {V N:Nat}{A:Nat->uN}(hA:Arcs V N A){lev:Nat->Int}
include hA
theorem Ua {f:Nat->Int}{x got:Int}{u t:Nat}(hx:x∈FR A N u)(ht:sTo A x=t)(w:Nat):
  CV A (F3 f x got) N w=CV A f N w+got*((if w=u then 1 else 0) - (if w=t then 1 else 0)):=by
 obtain ⟨hu,t',i,hi,ht',e,hne,h⟩:=LM hA hx;obtain rfl:t'=t:=by omega
 rcases h with ⟨rfl,h1,h2,_⟩ | ⟨rfl,h1,h2,_⟩
 ·rw [F3,if_pos (by omega),uG,N3,if_pos hi,h1,h2]
  congr 2
  congr 1<;>(split<;>split<;>omega)
 ·have e1:(-1 - (-1 - (i:Int))).toNat=i:=by omega
  rw [F3,if_neg (by omega),e1,show f i - got=f i+ -got by omega,N3,if_pos hi,h1,h2,Int.neg_mul,<-Int.mul_neg]
  congr 2
  have a1:(if (u:Int)=(w:Int) then (1:Int) else 0)=if w=u then 1 else 0:=by split<;>split<;>omega
  have a2:(if (t':Int)=(w:Int) then (1:Int) else 0)=if w=t' then 1 else 0:=by split<;>split<;>omega
  rw [a1,a2];omega
theorem WO {f used:Nat->Int}{amt:Int}(hc:Em N A f)(hu:G9 V N A used)(ha:0<amt):dB V N A lev f used (V - 1) amt amt f used:=
 ⟨⟨by omega,by omega⟩,hc,fun w _=>by simp,hu,fun _ _ _=>rfl,fun _ _ _=>rfl,fun h=>by omega⟩
theorem WQ {f used:Nat->Int}{v:Nat}{amt:Int}(hc:Em N A f)(hu:G9 V N A used)(ha:0<=amt)(hv:v<V)(hs:v≠V - 1)(he:used v=A4 A N v):dB V N A lev f used v amt 0 f used:=
 ⟨⟨by omega,by omega⟩,hc,fun w _=>by simp,hu,fun _ _ _=>rfl,fun _ _ _=>rfl,fun _=>⟨rfl,fun hd=>⟨hd,fun hal=>by
  cases hal with
  | sink=>exact hs rfl
  | step _ t x hx hr ht hl h=>
   obtain ⟨p,hp,e⟩:=RO hx;subst e;exact hd v hv hs p (by omega) hp t ht hr hl h⟩⟩⟩
theorem WR {f used:Nat->Int}{v:Nat}{amt got:Int}{f' used':Nat->Int}(hv:v<V)(hp:used v<A4 A N v)
  (hb:Bn A f (BE A N v (used v).toNat)=0∨lev (sTo A (BE A N v (used v).toNat)).toNat≠lev v+1) (hu:G9 V N A used)
  (h:dB V N A lev f (BK used v (used v+1)) v amt got f' used'):dB V N A lev f used v amt got f' used':=by
 refine ⟨h.got0,h.cap,h.net,h.usd,fun w hw hl=>?_,h.same,fun h0=>⟨(h.dead h0).1,fun hd=>(h.dead h0).2 fun w hw hs p hlt hpn t ht hr hlv=>?_⟩⟩
 ·rw [h.low w hw hl,Ap (fun e=>by subst e; omega)]
 ·by_cases hwv:w=v
  ·subst hwv;rw [Ao] at hlt;by_cases hpe:(p:Int)=used w
   ·have e:(used w).toNat=p:=by omega
    rw [e] at hb;rcases hb with hb | hb
    ·omega
    ·rw [ht] at hb;exact absurd hlv (by simpa using hb)
   ·exact hd w hw hs p (by omega) hpn t ht hr hlv
  ·rw [Ap hwv] at hlt;exact hd w hw hs p hlt hpn t ht hr hlv
theorem WS {f used:Nat->Int}{v t:Nat}{amt a1 got:Int}{f1 used1 f' used':Nat->Int}(hv:v<V)(hp:used v<A4 A N v)(hp0:0<=used v)(ht:sTo A (BE A N v (used v).toNat)=t)(hl:lev t=lev v+1)
  (h1:dB V N A lev f used t a1 0 f1 used1)
  (h:dB V N A lev f1 (BK used1 v (used1 v+1)) v amt got f' used'):dB V N A lev f used v amt got f' used':=by
 obtain ⟨rfl,hd1⟩:=h1.dead rfl;have e1:used1 v=used v:=h1.low v hv (by omega);refine ⟨h.got0,h.cap,h.net,h.usd,fun w hw hlw=>?_,h.same,fun h0=>⟨(h.dead h0).1,fun hd=>(h.dead h0).2 fun w hw hs p hlt hpn t' ht' hr hlv=>?_⟩⟩
 ·rw [h.low w hw hlw,Ap (fun e=>by subst e; omega),h1.low w hw (by omega)]
 ·obtain ⟨hd2,hd3⟩:=hd1 hd;by_cases hwv:w=v
  ·subst hwv;rw [Ao,e1] at hlt;by_cases hpe:(p:Int)=used w
   ·have e:(used w).toNat=p:=by omega
    rw [e] at ht;obtain rfl:t'=t:=by omega
    exact hd3
   ·exact hd2 w hw hs p (by omega) hpn t' ht' hr hlv
  ·rw [Ap hwv] at hlt;exact hd2 w hw hs p hlt hpn t' ht' hr hlv
theorem WT {f used:Nat->Int}{v t p:Nat}{x amt got:Int}{f1 used1:Nat->Int}(hv:v<V)(hs:v≠V - 1)(hx:x∈FR A N v)(ht:sTo A x=t)(hl:lev t=lev v+1)
  (hg:0<got) (h1:dB V N A lev f used t (if amt<Bn A f x then amt else Bn A f x) got f1 used1):dB V N A lev f used v amt got (F3 f1 x got) used1:=by
 obtain ⟨hu,t',i,hi,ht',e,hne,h⟩:=LM hA hx;obtain rfl:t'=t:=by omega
 have hg2:=h1.got0.2;have hsame:f1 i=f i:=h1.same i hi (by
  rcases h with ⟨_,h1,h2,_⟩ | ⟨_,h1,h2,_⟩
  ·left; rw [h1]; simp; omega
  ·right; rw [h1]; simp; omega)
 refine ⟨⟨by omega,by split at hg2<;>omega⟩,fun j hj=>?_,fun w hw=>?_,h1.usd,fun w hw hlw=>h1.low w hw (by omega),fun j hj hlj=>?_,fun h0=>by omega⟩
 ·have hcj:=h1.cap j hj;rcases h with ⟨rfl,h3,h4,h5⟩ | ⟨rfl,h3,h4,h5⟩
  ·rw [h5] at hg2;rw [F3,if_pos (by omega),uG];by_cases hji:j=i
   ·subst hji; rw [Ao]; split at hg2<;>omega
   ·rw [Ap hji]; exact hcj
  ·rw [h5] at hg2;have e1:(-1 - (-1 - (i:Int))).toNat=i:=by omega
   rw [F3,if_neg (by omega),e1];by_cases hji:j=i
   ·subst hji; rw [Ao]; split at hg2<;>omega
   ·rw [Ap hji]; exact hcj
 ·rw [Ua hA hx ht,h1.net w hw];rw [Int.add_assoc,<-Int.mul_add]
  congr 2
  split<;>split<;>split<;>omega
 ·have hjj:f1 j=f j:=h1.same j hj (by omega);rw [<-hjj];have hji:j≠i:=fun e=>by
   subst e;rcases h with ⟨_,h3,h4,_⟩ | ⟨_,h3,h4,_⟩<;>rw [h3,h4] at hlj<;>simp at hlj<;>omega
  rcases h with ⟨rfl,_⟩ | ⟨rfl,_⟩
  ·rw [F3,if_pos (by omega),uG,Ap hji]
  ·have e1:(-1 - (-1 - (i:Int))).toNat=i:=by omega
   rw [F3,if_neg (by omega),e1,Ap hji]
omit hA in
theorem Ub {f:Nat->Int}(h:dH V N A f lev)(hs:0<=lev (V - 1))(hV:0<V):Alive V N A f lev 0:=by
 have:∀ (k:Nat) (v:Nat),v<V->lev v=k->Alive V N A f lev v->Alive V N A f lev 0:=by
  intro k;induction k with
  | zero=>
   intro v hv hl ha;by_cases h0:v=0
   ·exact h0▸ha
   ·obtain ⟨u,h1,h2,h3,_⟩:=h.par v hv h0 (by omega);omega
  | succ k ih=>
   intro v hv hl ha;have h0:v≠0:=fun e=>by subst e; have:=h.zero; omega
   obtain ⟨u,h1,h2,h3,x,hx,hr,ht⟩:=h.par v hv h0 (by omega);exact ih u h1 (by omega) (.step u v x hx hr ht (by omega) ha)
 exact this (lev (V - 1)).toNat (V - 1) (by omega) (by omega) .sink
def EW (X:Nat->Bool)(φ:Nat->Int):Nat->Int
 | 0=>0
 | k+1=>EW X φ k+if X k then φ k else 0
omit hA in
theorem RP {X:Nat->Bool}{φ ψ:Nat->Int}:∀ k,EW X (fun w=>φ w+ψ w) k=EW X φ k+EW X ψ k
 | 0=>rfl
 | k+1=>by rw [EW,EW,EW,RP k]; split<;>omega
omit hA in
theorem O9 {X:Nat->Bool}{φ:Nat->Int}:∀ k,(∀ w,w<k->φ w=0)->EW X φ k=0
 | 0,_=>rfl
 | k+1,h=>by rw [EW,O9 k fun w hw=>h w (by omega),h k (by omega)]; simp
omit hA in
theorem RQ {X:Nat->Bool}{a b:Nat}{c:Int}:∀ k,EW X (fun w=>c*((if (a:Int)=w then 1 else 0) - (if (b:Int)=w then 1 else 0))) k=
  c*((if a<k/\X a=true then 1 else 0) - (if b<k/\X b=true then 1 else 0))
 | 0=>by simp [EW]
 | k+1=>by
  rw [EW,RQ k];by_cases hX:X k=true
  ·rw [if_pos hX,<-Int.mul_add]
   congr 1
   by_cases h1:a=k<;>by_cases h2:b=k
   ·subst h1; subst h2; simp [hX]
   ·subst h1;have:¬ (b:Int)=a:=by omega
    have e:(b<a+1)↔b<a:=by omega
    simp [hX,this,e];omega
   ·subst h2;have:¬ (a:Int)=b:=by omega
    have e:(a<b+1)↔a<b:=by omega
    simp [hX,this,e];omega
   ·have n1:¬ (a:Int)=k:=by omega
    have n2:¬ (b:Int)=k:=by omega
    have e1:(a<k+1)↔a<k:=by omega
    have e2:(b<k+1)↔b<k:=by omega
    simp [n1,n2,e1,e2]
  ·rw [if_neg hX];have e:∀ a:Nat,(a<k+1/\X a=true)↔(a<k/\X a=true):=fun a=>by
    constructor
    ·rintro ⟨h1,h2⟩
     have:a≠k:=fun e=>hX (e▸h2);exact ⟨by omega,h2⟩
    ·rintro ⟨h1,h2⟩
     exact ⟨by omega,h2⟩
   simp only [e];omega
omit hA in
theorem N4 {X:Nat->Bool}{φ:Nat->Int}:∀ k,EW X φ k+EW (fun v=>!X v) φ k=EW (fun _=>true) φ k
 | 0=>rfl
 | k+1=>by
  have ih:=N4 (X:=X) (φ:=φ) k;rw [EW,EW,EW,<-ih];by_cases h:X k=true
  ·rw [if_pos h,if_neg (by simp [h]),if_pos rfl]; omega
  ·rw [if_neg h,if_pos (by simpa using h),if_pos rfl]; omega
omit hA in
theorem Md {X:Nat->Bool}{φ:Nat->Int}:∀ k,(∀ w,w<k->X w=true->φ w<=0)->EW X φ k<=0
 | 0,_=>Int.le_refl _
 | k+1,h=>by
  have ih:=Md k fun w hw hx=>h w (by omega) hx;rw [EW];split
  ·have:=h k (by omega) (by assumption); omega
  ·omega
omit hA in
theorem LO {X:Nat->Bool}{φ:Nat->Int}(h0:X 0=true):∀ k,0<k->(∀ w,0<w->w<k->X w=true->0<=φ w)->φ 0<=EW X φ k
 | 0,h,_=>absurd h (by omega)
 | 1,_,_=>by simp [EW,h0]
 | k+2,_,h=>by
  have ih:=LO h0 (k+1) (by omega) fun w h1 h2=>h w h1 (by omega);rw [EW];split
  ·have:=h (k+1) (by omega) (by omega) (by assumption); omega
  ·omega
def N5 (X:Nat->Bool)(A:Nat->uN)(g:Nat->Int):Nat->Int
 | 0=>0
 | k+1=>N5 X A g k+g k*((if X (A k).src.toNat=true then 1 else 0) - (if X (A k).dst.toNat=true then 1 else 0))
theorem HA {X:Nat->Bool}{g:Nat->Int}:∀ k,k<=N->EW X (CV A g k) V=N5 X A g k
 | 0,_=>O9 V fun _ _=>rfl
 | k+1,hk=>by
  have hs:=hA.src k (by omega);have hd:=hA.dst k (by omega);have e:CV A g (k+1)=fun w=>CV A g k w+g k*((if (((A k).src.toNat:Nat):Int)=w then 1 else 0) - (if (((A k).dst.toNat:Nat):Int)=w then 1 else 0)):=by
   funext w;rw [CV,show (((A k).src.toNat:Nat):Int)=(A k).src by omega,show (((A k).dst.toNat:Nat):Int)=(A k).dst by omega]
  rw [e,RP,HA k (by omega),RQ,N5];have e1:((A k).src.toNat<V/\X (A k).src.toNat=true)↔X (A k).src.toNat=true:=⟨fun h=>h.2,fun h=>⟨by omega,h⟩⟩
  have e2:((A k).dst.toNat<V/\X (A k).dst.toNat=true)↔X (A k).dst.toNat=true:=⟨fun h=>h.2,fun h=>⟨by omega,h⟩⟩
  simp only [e1,e2]
omit hA in
theorem IQ {X:Nat->Bool}{φ:Nat->Int}(h0:X 0=true):∀ k,0<k->(∀ w,0<w->w<k->X w=true->φ w=0)->EW X φ k=φ 0
 | 0,h,_=>absurd h (by omega)
 | 1,_,_=>by simp [EW,h0]
 | k+2,_,h=>by
  rw [EW,IQ h0 (k+1) (by omega) fun w h1 h2=>h w h1 (by omega)];split
  ·rw [h (k+1) (by omega) (by omega) (by assumption)]; omega
  ·omega
omit hA in
theorem N6 {g:Nat->Int}:∀ k,N5 (fun _=>true) A g k=0
 | 0=>rfl
 | k+1=>by rw [N5,N6 k]; simp
structure MaxOk (V N:Nat) (A:Nat->uN) (f:Nat->Int) (value:Int):Prop where
 cap:Em N A f
 cons:∀ w,0<w->w<V - 1->CV A f N w=0
 val:CV A f N 0=value
 best:∀ g,Em N A g->(∀ w,0<w->w<V - 1->CV A g N w=0)->CV A g N 0<=value
omit hA in
theorem SY {X:Nat->Bool}{f g:Nat->Int}(hf:Em N A f)(hg:Em N A g)(hX:∀ i,i<N->(X (A i).src.toNat=true->X (A i).dst.toNat=false->f i=(A i).cap)/\(X (A i).dst.toNat=true->X (A i).src.toNat=false->f i=0)):∀ k,k<=N->N5 X A g k<=N5 X A f k
 | 0,_=>Int.le_refl _
 | k+1,hk=>by
  have ih:=SY hf hg hX k (by omega);obtain ⟨h1,h2⟩:=hX k (by omega);have hfk:=hf k (by omega);have hgk:=hg k (by omega);rw [N5,N5];cases hs:X (A k).src.toNat<;>cases hd:X (A k).dst.toNat
  ·simpa using ih
  ·have:=h2 hd hs;rw [this];simp;omega
  ·have:=h1 hs hd;simp;omega
  ·simpa using ih
theorem PA {f:Nat->Int}(hl:dH V N A f lev)(hc:Em N A f)(hs:lev (V - 1)<0):∀ i,i<N->(decide (0<=lev (A i).src.toNat)=true->decide (0<=lev (A i).dst.toNat)=false->f i=(A i).cap)/\(decide (0<=lev (A i).dst.toNat)=true->decide (0<=lev (A i).src.toNat)=false->f i=0):=by
 intro i hi;have v2:=hA.v2;have hsi:=hA.src i hi;have hdi:=hA.dst i hi;have hci:=hc i hi;refine ⟨fun h1 h2=>?_,fun h1 h2=>?_⟩
 ·have h1:=of_decide_eq_true h1;have h2:=of_decide_eq_false h2;rcases Int.lt_or_le (f i) (A i).cap with h | h
  ·refine absurd (hl.cut hs _ (A i).dst.toNat (by omega) (by omega) h1 ⟨i,I1.2 (.inl ⟨i,hi,rfl,by omega⟩),?_,?_⟩) h2
   ·simp only [Bn,if_pos (show (0:Int)<=(i:Int) by omega),uG]; omega
   ·simp only [sTo,if_pos (show (0:Int)<=(i:Int) by omega),uG]; omega
  ·omega
 ·have h1:=of_decide_eq_true h1;have h2:=of_decide_eq_false h2;have e0:¬ (0:Int)<=-1 - (i:Int):=by omega
  have e1:(-1 - (-1 - (i:Int))).toNat=i:=by omega
  rcases Int.lt_or_le 0 (f i) with h | h
  ·refine absurd (hl.cut hs _ (A i).src.toNat (by omega) (by omega) h1 ⟨-1 - (i:Int),I1.2 (.inr ⟨i,hi,rfl,by omega⟩),?_,?_⟩) h2
   ·simp only [Bn,if_neg e0,e1]; exact h
   ·simp only [sTo,if_neg e0,e1]; omega
  ·omega
theorem WU {f:Nat->Int}(hl:dH V N A f lev)(hc:Em N A f)(hn:∀ w,0<w->w<V - 1->CV A f N w=0)(hs:lev (V - 1)<0):MaxOk V N A f (CV A f N 0):=by
 have v2:=hA.v2;refine ⟨hc,hn,rfl,fun g hg hgn=>?_⟩;have h0:decide (0<=lev 0)=true:=by rw [hl.zero]; rfl
 have key:∀ g:Nat->Int,(∀ w,0<w->w<V - 1->CV A g N w=0)->CV A g N 0=N5 (fun v=>decide (0<=lev v)) A g N:=fun g hgn=>by
  rw [<-HA hA N (Nat.le_refl _),IQ h0 V (by omega)];intro w h1 h2 h3;have h3:=of_decide_eq_true h3;exact hgn w h1 (by
   rcases Nat.lt_or_ge w (V - 1) with h | h
   ·exact h
   ·obtain rfl:w=V - 1:=by omega
    omega)
 rw [key g hgn,key f hn];exact SY (X:=fun v=>decide (0<=lev v)) hc hg (PA hA hl hc hs) N (Nat.le_refl _)
theorem PB {f:Nat->Int}(hc:Em N A f):∀ k,k<=N->CV A f k 0<=1073741824*k
 | 0,_=>by simp [CV]
 | k+1,hk=>by
  have ih:=PB hc k (by omega);have h1:=hc k (by omega);have h2:=hA.cap k (by omega);have h3:=hA.dst k (by omega);rw [CV,if_neg (show ¬ (A k).dst=((0:Nat):Int) by omega)];split
  ·simp; omega
  ·simp; omega
end
abbrev EG (a0:Nat->uN)(a1:Nat):=fE.flat false 513 (Mx a0 a1) [(512,.ms 1 2 0 a1 (some a1))]
abbrev PC (a0:Nat->uN)(a1:Nat)(a2:Nat->Int):=[iv ((a0 a1).cap - a2 a1),iv (a2 a1)]
abbrev PD (a0:Nat->uN)(a1:Nat):=fE.flat false 513 (fun i=>sl (decide (0<A4 a0 a1 i)) 1 (A4 a0 a1 i) fun i_1=>[iv (BE a0 a1 i i_1)]) [(512,EV.ms 1 2 0 a1 (some a1))]
abbrev Uc (a0:Nat->uN)(a1:Nat):=PD a0 a1
abbrev Ud (a0:Nat->uN)(a1:Nat)(a2:Nat->Int):=PC a0 a1 a2
abbrev Ai (a0:Nat->uN)(a1:Nat):=Uc a0 a1
abbrev Ag (a0:Nat->uN)(a1:Nat)(a2:Nat->Int):=Ud a0 a1 a2
theorem v7 (V:Int)(nn:Bool)(N:Nat)(A:Nat->uN)(f:Nat->Int)(x:Int)(h0:0<=x)(h1:x<N)(h5:N<=4096):sF 93 [EV.pe 0 0 0 0,ag [iv V,AF nn N A],iv x] [EG A N,oA 2 true N (KR f A)] (tu [iv (A x.toNat).dst,iv ((A (0+x.toNat)).cap - f (0+x.toNat))]) [Ai A N,oA 2 true N fun i=>(Ag A i f)]:=
 kF [[]] (.mk (dS 27919022) [] [] [] []) (kO AN) (rB x N (rB x N (oI (decide (x>=0)) .nil))) 3 [0,1]
theorem v8 (V:Int)(nn:Bool)(N:Nat)(A:Nat->uN)(f:Nat->Int)(x:Int)(h0:x<0)(h1: -1 - x<N)(h5:N<=4096):sF 93 [EV.pe 0 0 0 0,ag [iv V,AF nn N A],iv x] [EG A N,oA 2 true N (KR f A)] (tu [iv (A (-1 - x).toNat).src,iv (f (0+(-1 - x).toNat))]) [Ai A N,oA 2 true N fun i=>(Ag A i f)]:=
 kF [[]] (.mk (dS 7426026218) [] [] [] []) (kO AN) (rB (-1 - x) N (rI (-1 - x) (rB (-1 - x) N (rI (-1 - x) (oI (decide (x>=0)=false) .nil))))) 3 [0,1]
noncomputable abbrev AIm:=cT1 (cR (cL (AY prog 94)))
abbrev Hq (a0:Nat->Int)(a1:Nat)(a2:Nat->Int):=[iv (a0 a1),iv (a2 a1)]
noncomputable abbrev Ue (a0:Int)(a1:Int):=frame 58 [(0,EV.pe 0 0 0 0),(1,iv a0),(2,iv a1)]
noncomputable abbrev Uf (a0:Int)(a1:Int):=Ue a0 a1
abbrev En (a0:Nat->uN)(a1:Nat)(a2:Nat->Int)(a3:Nat->Int):=[EG a0 a1,oA 2 true a1 fun i=>(Hq a2 i a3)]
noncomputable abbrev CN (a0:Int)(a1:Int):=Uf a0 a1
theorem pu1 (N:Nat)(A:Nat->uN)(fo:Nat->Int)(ba:Nat->Int)(x:Int)(g:Int)(h0:0<=x)(h1:x<N)(h5:N<=4096)(hl: -1<=fo (0+x.toNat) - g)(hl2:fo (0+x.toNat) - g<=4000000000)(hg0:0<=g)(hg1:g<=1073741824):sL (cL (AIm)) (CN x g) (En A N fo ba) (xN,(CN x g),[Ai A N,oA 2 true N (BC (fun i=>(Hq fo i ba)) (0+x.toNat) [iv (fo (0+x.toNat) - g),iv (ba (0+x.toNat))])]):=
 kL [] (.mk (dS 16953002) [] [] [] []) bY.nil (rB x N (rI (fo (0+x.toNat) - g) (rB x N .nil))) 7 3 [0,1]
theorem pu2 (N:Nat)(A:Nat->uN)(fo:Nat->Int)(ba:Nat->Int)(x:Int)(g:Int)(h0:0<=x)(h1:x<N)(h5:N<=4096)(hl: -1<=ba (0+x.toNat)+g)(hl2:ba (0+x.toNat)+g<=4000000000)(hg0:0<=g)(hg1:g<=1073741824):sL (cL (cR (AIm))) (CN x g) (En A N fo ba) (xN,(CN x g),[Ai A N,oA 2 true N (BC (fun i=>(Hq fo i ba)) (0+x.toNat) [iv (fo (0+x.toNat)),iv (ba (0+x.toNat)+g)])]):=
 kL [] (.mk (dS 16953002) [] [] [] []) bY.nil (rB x N (rI (ba (0+x.toNat)+g) (rB x N .nil))) 7 3 [0,1]
theorem pu3 (N:Nat)(A:Nat->uN)(fo:Nat->Int)(ba:Nat->Int)(x:Int)(g:Int)(h0:x<0)(h1: -1 - x<N)(h5:N<=4096)(hl: -1<=fo (0+(-1 - x).toNat)+g)(hl2:fo (0+(-1 - x).toNat)+g<=4000000000)(hg0:0<=g)(hg1:g<=1073741824):sL (cL (cR (AY prog 94))) (CN x g) (En A N fo ba) (xN,(CN x g),[Ai A N,oA 2 true N (BC (fun i=>(Hq fo i ba)) (0+(-1 - x).toNat) [iv (fo (0+(-1 - x).toNat)+g),iv (ba (0+(-1 - x).toNat))])]):=
 kL [] (.mk (dS 271248042) [] [] [] []) bY.nil (rB (-1 - x) N (rI (fo (0+(-1 - x).toNat)+g) (rB (-1 - x) N (rI (-1 - x) .nil)))) 7 3 [0,1]
theorem pu4 (N:Nat)(A:Nat->uN)(fo:Nat->Int)(ba:Nat->Int)(x:Int)(g:Int)(h0:x<0)(h1: -1 - x<N)(h5:N<=4096)(hl: -1<=ba (0+(-1 - x).toNat) - g)(hl2:ba (0+(-1 - x).toNat) - g<=4000000000)(hg0:0<=g)(hg1:g<=1073741824):sL (cR (cR (AY prog 94))) (CN x g) (En A N fo ba) (xN,(CN x g),[Ai A N,oA 2 true N (BC (fun i=>(Hq fo i ba)) (0+(-1 - x).toNat) [iv (fo (0+(-1 - x).toNat)),iv (ba (0+(-1 - x).toNat) - g)])]):=
 kL [] (.mk (dS 271248042) [] [] [] []) bY.nil (rB (-1 - x) N (rI (ba (0+(-1 - x).toNat) - g) (rB (-1 - x) N (rI (-1 - x) .nil)))) 7 3 [0,1]
theorem AAA (N:Nat)(A:Nat->uN)(fo:Nat->Int)(ba:Nat->Int)(x:Int)(g:Int)(h0:0<=x)(h1:x<N)(h5:N<=4096)(ih1:sL (cL (AIm)) (CN x g) (En A N fo ba) ((xN,frame 58 [(0,EV.pe 0 0 0 0),(1,iv x),(2,iv g)],[EG A N,oA 2 true N fun i=>[iv ((BK fo x.toNat (fo x.toNat - g)) i),iv (ba i)]]):RC))(ih2:sL (cL (cR (AIm))) (CN x g) [EG A N,oA 2 true N fun i=>[iv ((BK fo x.toNat (fo x.toNat - g)) i),iv (ba i)]] ((xN,frame 58 [(0,EV.pe 0 0 0 0),(1,iv x),(2,iv g)],[EG A N,oA 2 true N fun i=>[iv ((BK fo x.toNat (fo x.toNat - g)) i),iv ((BK ba x.toNat (ba x.toNat+g)) i)]]):RC)):sF 94 [EV.pe 0 0 0 0,iv x,iv g] (En A N fo ba) (tu []) [Ai A N,oA 2 true N fun i=>[iv (BK fo x.toNat (fo x.toNat - g) i),iv (BK ba x.toNat (ba x.toNat+g) i)]]:=
 kF [[]] (.mk (dS 26) [(5,.is 7 3 (xN,(CN x g),[Ai A N,oA 2 true N fun i=>[iv (BK fo x.toNat (fo x.toNat - g) i),iv (ba i)]])),(1,.is 7 3 (xN,(CN x g),[Ai A N,oA 2 true N fun i=>[iv (BK fo x.toNat (fo x.toNat - g) i),iv (BK ba x.toNat (ba x.toNat+g) i)]]))] [] [] []) (kO AN) (.cons ih2 (.cons ih1 (oI (decide (x>=0)) .nil))) 3 [0,1]
theorem AAB (N:Nat)(A:Nat->uN)(fo:Nat->Int)(ba:Nat->Int)(x:Int)(g:Int)(h0:x<0)(h1: -1 - x<N)(h5:N<=4096)(ih1:sL (cL (cR (AY prog 94))) (CN x g) (En A N fo ba) ((xN,frame 58 [(0,EV.pe 0 0 0 0),(1,iv x),(2,iv g)],[EG A N,oA 2 true N fun i=>[iv ((BK fo (-1 - x).toNat (fo (-1 - x).toNat+g)) i),iv (ba i)]]):RC))(ih2:sL (cR (cR (AY prog 94))) (CN x g) [EG A N,oA 2 true N fun i=>[iv ((BK fo (-1 - x).toNat (fo (-1 - x).toNat+g)) i),iv (ba i)]] ((xN,frame 58 [(0,EV.pe 0 0 0 0),(1,iv x),(2,iv g)],[EG A N,oA 2 true N fun i=>[iv ((BK fo (-1 - x).toNat (fo (-1 - x).toNat+g)) i),iv ((BK ba (-1 - x).toNat (ba (-1 - x).toNat - g)) i)]]):RC)):sF 94 [EV.pe 0 0 0 0,iv x,iv g] (En A N fo ba) (tu []) [Ai A N,oA 2 true N fun i=>[iv (BK fo (-1 - x).toNat (fo (-1 - x).toNat+g) i),iv (BK ba (-1 - x).toNat (ba (-1 - x).toNat - g) i)]]:=
 kF [[]] (.mk (dS 27) [(6,.is 7 3 (xN,(CN x g),[Ai A N,oA 2 true N fun i=>[iv (BK fo (-1 - x).toNat (fo (-1 - x).toNat+g) i),iv (ba i)]])),(0,.is 7 3 (xN,(CN x g),[Ai A N,oA 2 true N fun i=>[iv (BK fo (-1 - x).toNat (fo (-1 - x).toNat+g) i),iv (BK ba (-1 - x).toNat (ba (-1 - x).toNat - g) i)]]))] [] [] []) (kO AN) (.cons ih2 (.cons ih1 (oI (decide (x>=0)=false) .nil))) 3 [0,1]
abbrev dQ (N:Nat)(A:Nat->uN):fE:=.flat false 513 (Mx A N) [(512,.ms 1 2 0 N (some N))]
abbrev bE (N:Nat)(A:Nat->uN)(f:Nat->Int):fE:=.arr false true 2 true N (KR f A)
abbrev fbO (N:Nat)(fo ba:Nat->Int):fE:=.arr false true 2 true N fun i=>[.int .i64 (fo i),.int .i64 (ba i)]
def WV (N:Nat)(x:Int):Prop:=(0<=x/\x<N)∨(x<0/\-1 - x<N)
theorem I2 {V:Int}{nn:Bool}{N:Nat}{A:Nat->uN}{f:Nat->Int}{x:Int}(hx:WV N x)(hN:N<=4096):
  aA prog fF 93 [.pe 0 0 0 0,.agg (Mw V nn N A),.int .i64 x] [dQ N A,bE N A f] (.tuple [.int .i64 (sTo A x),.int .i64 (Bn A f x)]) [dQ N A,bE N A f]:=by
 rcases hx with ⟨h0,h1⟩ | ⟨h0,h1⟩
 ·have h:=v7 V nn N A f x h0 h1 hN;rw [uJ] at h;rw [sTo,if_pos h0,Bn,if_pos h0];exact h
 ·have h:=v8 V nn N A f x h0 h1 hN;rw [uJ] at h;rw [sTo,if_neg (by omega),Bn,if_neg (by omega)];exact h
theorem Yz {N:Nat}{fo ba:Nat->Int}{k:Nat}{c:Int}(g:AL)(o:fE):eW [o,.arr false true 2 true N (BC (fun i=>[.int .i64 (fo i),.int .i64 (ba i)]) (0+k) [.int .i64 c,.int .i64 (ba (0+k))])] [o,fbO N (BK fo k c) ba]:=by
 refine .cons (uH _) (.cons (uU.arr fun i hi=>?_) .nil);simp only [BC,BK,uJ];by_cases h:i=k
 ·subst h; rw [if_pos rfl,if_pos rfl]
 ·rw [if_neg h,if_neg h]
theorem Y0 {N:Nat}{fo ba:Nat->Int}{k:Nat}{c:Int}(g:AL)(o:fE):eW [o,.arr false true 2 true N (BC (fun i=>[.int .i64 (fo i),.int .i64 (ba i)]) (0+k) [.int .i64 (fo (0+k)),.int .i64 c])] [o,fbO N fo (BK ba k c)]:=by
 refine .cons (uH _) (.cons (uU.arr fun i hi=>?_) .nil);simp only [BC,BK,uJ];by_cases h:i=k
 ·subst h; rw [if_pos rfl,if_pos rfl]
 ·rw [if_neg h,if_neg h]
theorem aA.res {P:Program}{G:Nat->Option (List EV)}{f:FuncId}{args:List EV}{v:EV}{σ s s':AL}(h:aA P G f args σ v s)(hh:eW s s'):aA P G f args σ v s':=by
 refine ⟨h.1,fun K w margs hR hG hv=>(h.2 K w margs hR hG hv).mono fun e w' hp=>?_⟩;cases e with
 | returned mv=>obtain ⟨K',h1,h2,h3⟩:=hp; exact ⟨K',h1.weaken (eW.refl _) hh,hh.rel h2,h3⟩
 | outgrown=>exact hp
 | panicked _=>exact hp
theorem WW {N:Nat}{A:Nat->uN}{f:Nat->Int}{x g:Int}(hx:WV N x)(hN:N<=4096)(hf:∀ i,i<N->0<=f i/\f i<=(A i).cap/\(A i).cap<=1073741824)(hg:0<=g/\g<=Bn A f x):
  aA prog fF 94 [.pe 0 0 0 0,.int .i64 x,.int .i64 g] [dQ N A,bE N A f] (.tuple []) [dQ N A,bE N A (F3 f x g)]:=by
 have e0:bE N A f=fbO N (fun i=>(A i).cap - f i) f:=rfl;rw [e0];rcases hx with ⟨h0,h1⟩ | ⟨h0,h1⟩
 ·rw [Bn,if_pos h0] at hg;obtain ⟨f1,f2,f3⟩:=hf x.toNat (by omega);have i1:=uT.weaken (uI _) (eW.refl _) (pu1 N A (fun i=>(A i).cap - f i) f x g h0 h1 hN (by rw [uJ]; omega) (by rw [uJ]; omega) hg.1 (by omega)) (uI _) (Yz [] _);have i2:=uT.weaken (uI _) (eW.refl _) (pu2 N A (BK (fun i=>(A i).cap - f i) x.toNat ((A x.toNat).cap - f x.toNat - g)) f x g h0 h1 hN (by rw [uJ]; omega) (by rw [uJ]; omega) hg.1 (by omega)) (uI _) (Y0 [] _);rw [uJ] at i1 i2;refine (AAA N A (fun i=>(A i).cap - f i) f x g h0 h1 hN i1 i2).res (.cons (uH _) (.cons (uU.arr fun i hi=>?_) .nil));simp only [KR,F3,if_pos h0,BK];by_cases h:i=x.toNat
  ·subst h; rw [if_pos rfl,if_pos rfl,Int.sub_sub]
  ·rw [if_neg h,if_neg h]
 ·rw [Bn,if_neg (by omega)] at hg;obtain ⟨f1,f2,f3⟩:=hf (-1 - x).toNat (by omega);have i1:=uT.weaken (uI _) (eW.refl _) (pu3 N A (fun i=>(A i).cap - f i) f x g h0 h1 hN (by rw [uJ]; omega) (by rw [uJ]; omega) hg.1 (by omega)) (uI _) (Yz [] _);have i2:=uT.weaken (uI _) (eW.refl _) (pu4 N A (BK (fun i=>(A i).cap - f i) (-1 - x).toNat ((A (-1 - x).toNat).cap - f (-1 - x).toNat+g)) f x g h0 h1 hN (by rw [uJ]; omega) (by rw [uJ]; omega) hg.1 (by omega)) (uI _) (Y0 [] _);rw [uJ] at i1 i2;refine (AAB N A (fun i=>(A i).cap - f i) f x g h0 h1 hN i1 i2).res (.cons (uH _) (.cons (uU.arr fun i hi=>?_) .nil));simp only [KR,F3,if_neg (show ¬ 0<=x by omega),BK];by_cases h:i=(-1 - x).toNat
  ·subst h; rw [if_pos rfl,if_pos rfl]; congr 2; omega
  ·rw [if_neg h,if_neg h]
theorem Xq {V:Nat}(h:V<100):uY prog fF 205 [.int .u64 1,.int .u64 V] (.tuple [.int .u64 0,.int .u64 V]):=by
 have key:(List.range 100).all (fun V=>Qb (.tuple [.int .u64 0,.int .u64 (V:Int)]) (EY (LG prog fF [] pures news 40) prog fF 100000 205 [.int .u64 1,.int .u64 (V:Int)] ()))=true:=by kernel_rfl
 exact Eg (T:=[]) trivial (pures:=pures) (news:=news) (n:=40) (fuel:=100000) C1 (by kernel_rfl) (List.all_eq_true.1 key V (List.mem_range.2 h))
abbrev FU (a0:Nat->uN)(a1:Int):=decide ((a0 a1.toNat).src<0)
abbrev GR (a0:Nat->uN)(a1:Int):=decide ((a0 a1.toNat).dst<=0)
abbrev JR (a0:Nat->uN)(a1:Int):=(a0 a1.toNat).src==(a0 a1.toNat).dst
noncomputable abbrev AI4:=cB (cR (cL (cR (cR (AY prog 89)))))
abbrev Ug (a0:Int)(a1:Nat):=(decide (a0<↑a1))=true
abbrev GS (a0:Nat->uN)(a1:Int)(a2:Int):=decide ((a0 a1.toNat).dst>=a2)
abbrev DM (a0:Int)(a1:Nat):=(GO a0 a1)=false
abbrev Uh (a0:Int)(a1:Nat):=Ug a0 a1
abbrev BF (a0:Int)(a1:Nat):=Uh a0 a1
section
variable (V:Int)(nn:Bool)(N:Nat)(A:Nat->uN)(i:Int)(hV:2<=V)(hV2:V<=512)(hN:N<=4096)(h0:0<=i)(ha:i<N->0<=(A i.toNat).src/\(A i.toNat).src<V - 1/\0<(A i.toNat).dst/\(A i.toNat).dst<V/\((A i.toNat).src<(A i.toNat).dst∨(A i.toNat).dst<(A i.toNat).src)/\0<=(A i.toNat).cap/\(A i.toNat).cap<=1073741824)
include V nn N A i hV hV2 hN h0 ha
theorem AAC (q0:BF i N):sC (cB (AI4)) (frame 67 [(1,pt 0 0),(2,iv 0),(20,sl nn 3 N fun i=>(A i).cells),(21,iv N),(22,iv i)]) ([oV [iv V,AF nn N A]]) (xN,(frame 67 [(1,pt 0 0),(2,iv 0),(20,sl nn 3 N fun i=>(A i).cells),(21,iv ↑N),(22,iv (i+1))]),[oV [iv V,AF nn N A]]):=
 kC _ (.mk (dS 0x10abbbbbabbbbbbbbbbbbbbbbbbbbbbbbbbba) [] [] [] []) (kO (kz q0 AN)) (rI (i+1) (oI (decide ((A i.toNat).cap>1073741824)=false) (oI (decide ((A i.toNat).cap<0)=false) (oI (decide ((A i.toNat).cap<0)=false) (oI (decide ((A i.toNat).cap<0)=false) (oI (decide ((A i.toNat).cap<0)=false) (oI (JR A i=false) (oI (JR A i=false) (oI (JR A i=false) (oI (JR A i=false) (oI (GS A i V=false) (oI (GS A i V=false) (oI (GS A i V=false) (oI (GS A i V=false) (oI (GS A i V=false) (oI (GS A i V=false) (oI (GR A i=false) (oI (GR A i=false) (oI (GR A i=false) (oI (GR A i=false) (oI (GR A i=false) (oI (GR A i=false) (oI (decide ((A i.toNat).src>=V - 1)=false) (oI (decide ((A i.toNat).src>=V - 1)=false) (oI (decide ((A i.toNat).src>=V - 1)=false) (oI (decide ((A i.toNat).src>=V - 1)=false) (oI (FU A i=false) (oI (FU A i=false) (rI (V - 1) (oI (FU A i=false) (oI (FU A i=false) (oI (FU A i=false) (oI (FU A i=false) (oI (FU A i=false) (rB i N .nil))))))))))))))))))))))))))))))))))) 7340038 1 1
theorem AAD (q0:DM i N):sC (cB (AI4)) (frame 67 [(1,pt 0 0),(2,iv 0),(20,sl nn 3 N fun i=>(A i).cells),(21,iv N),(22,iv i)]) ([oV [iv V,AF nn N A]]) (xL 0,(frame 67 [(1,pt 0 0),(2,iv 0)]),[oV [iv V,AF nn N A]]):=
 kC _ (.mk (dS 16) [] [] [] []) (kO (kz q0 AN)) .nil 6 1 1
end
theorem fcW (V:Int)(nn:Bool)(N:Nat)(A:Nat->uN)(hV:2<=V)(hV2:V<=512)(hN:N<=4096)(ih:sL (AI4) (frame 67 [(1,pt 0 0),(2,iv 0),(20,sl nn 3 N fun i=>(A i).cells),(21,iv N),(22,iv 0)]) [oV [iv V,AF nn N A]] ((xL 0,frame 67 [(1,pt 0 0),(2,iv 0)],[oV [iv V,AF nn N A]]):RC)):sP 89 [ag [iv V,AF nn N A]] (iv 0):=
 kP [] (.mk (dS 1905820154811) [(11,.is 7340038 1 (xL 0,(frame 67 [(1,pt 0 0),(2,iv 0)]),[oV [iv V,AF nn N A]]))] [] [] []) bY.nil (.cons ih (oI (decide ((↑N:Int)>4096)=false) (oI (decide (V>512)=false) (oI (decide (V>512)=false) (oI (decide (V>512)=false) (oI (decide (V>512)=false) (oI (decide (V>512)=false) (oI (decide (V<2)=false) (oI (decide (V<2)=false) (oI (decide (V<2)=false) (oI (decide (V<2)=false) .nil)))))))))))
abbrev PE (a0:Nat)(a1:Nat):=decide (0<=(↑a0:Int)) && decide ((↑a0:Int)<=(↑a1:Int)) && decide ((↑a1:Int)<=(↑a1:Int))
noncomputable abbrev AIn:=cB (cL (cR (cR (cR (cR (cR (cR (AY prog 148))))))))
noncomputable abbrev Ly (a0:Nat)(a1:Nat):=frame 48 [(4,sl false 0 0 fun _=>[]),(7,.ms 4 1 0 a0 (some a0)),(8,iv a1)]
section
variable (V:Nat)(n:Nat)(row:Nat->List EV)(hV:2<=V)(hV2:V<100)(h1:1<=n)(hn:n<=V)(hrow:∀ i,i<V->(row i).length=1)
include V n row hV hV2 h1 hn hrow
theorem AAE (q0:(decide ((↑n:Int)<(↑V:Int)))=true)(q1:(decide ((↑n:Int).toNat - 0<=(↑V:Int).toNat - (↑n:Int).toNat))=true):sC (cB (AIn)) (Ly V n) ([oD,oD,oD,oD,oA 1 true V row]) (xN,(frame 48 [(4,sl false 0 0 fun i=>[]),(7,EV.ms 4 1 0 V (some V)),(8,iv ((↑n:Int)+(↑((↑n:Int).toNat - 0):Int)))]),[oD,oD,oD,oD,oA 1 true V (Aw (0+(↑n:Int).toNat) ((↑n:Int).toNat - 0) row fun i=>row (0+i))]):=
 kC _ (.mk (dS 1092122) [] [] [] []) (kO (kz q0 (kz q1 AN))) (rI ((↑n:Int)+(↑((↑n:Int).toNat - 0):Int)) (oK (true && decide (0<=(↑n:Int)) && decide ((↑n:Int)<=(↑V:Int))) (oK (PE n V) .nil))) 400 16 5
theorem AAF (q0:(decide ((↑n:Int)<(↑V:Int)))=true)(q1:(decide ((↑n:Int).toNat - 0<=(↑V:Int).toNat - (↑n:Int).toNat))=false):sC (cB (AIn)) (Ly V n) ([oD,oD,oD,oD,oA 1 true V row]) (xN,(frame 48 [(4,sl false 0 0 fun i=>[]),(7,EV.ms 4 1 0 V (some V)),(8,iv ((↑n:Int)+(↑((↑V:Int).toNat - (↑n:Int).toNat):Int)))]),[oD,oD,oD,oD,oA 1 true V (Aw (0+(↑n:Int).toNat) ((↑V:Int).toNat - (↑n:Int).toNat) row fun i=>row (0+i))]):=
 kC _ (.mk (dS 1092122) [] [] [] []) (kO (kz q0 (kz q1 AN))) (rI ((↑n:Int)+(↑((↑V:Int).toNat - (↑n:Int).toNat):Int)) (oK (true && decide (0<=(↑n:Int)) && decide ((↑n:Int)<=(↑V:Int))) (oK (PE n V) .nil))) 400 16 5
theorem AAG (q0:(decide ((↑n:Int)<(↑V:Int)))=false):sC (cB (AIn)) (Ly V n) ([oD,oD,oD,oD,oA 1 true V row]) (xL 0,(frame 48 [(4,sl false 0 0 fun i=>[]),(7,EV.ms 4 1 0 V (some V))]),[oD,oD,oD,oD,oA 1 true V row]):=
 kC _ (.mk (dS 16) [] [] [] []) (kO (kz q0 AN)) .nil 144 16 5
end
abbrev PF (a0:Nat):=decide (0<=(↑a0:Int)) && decide ((↑a0:Int)<=(↑a0:Int)) && decide ((↑a0:Int)*8<=70368744177664) && decide ((↑a0:Int)<4611686018427387904)
theorem AAH (V:Nat)(hV:2<=V)(hV2:V<100)(ih:sL (AIn) (frame 48 [(4,sl false 0 0 fun _=>[]),(7,.ms 4 1 0 V (some V)),(8,iv 1)]) [oD,oD,oD,oD,oA 1 true V (Aw 0 1 (fun i=>[iv 0]) fun i=>[[iv (-1)]].getD (0+i) [])] ((xL 0,frame 48 [(4,sl false 0 0 fun _=>[]),(7,.ms 4 1 0 V (some V))],[oD,oD,oD,oD,oA 1 true V (fun _=>[iv (-1)])]):RC)):sF 148 [EV.ms 0 1 0 1 (some 1),iv ↑V] [oA 1 true 1 fun i=>[[iv (-1)]].getD i []] (EV.ms 1 1 0 V (some V)) [oD,oA 1 true V fun i=>[iv (-1)]]:=
 kF [[]] (.mk (dS 17776336693930) [(20,.is 400 16 (xL 0,(frame 48 [(4,sl false 0 0 fun i=>[]),(7,EV.ms 4 1 0 V (some V))]),[oD,oD,oD,oD,oA 1 true V fun i=>[iv (-1)]]))] [some (tu [EV.int IntKind.u64 0,EV.int IntKind.u64 (↑V:Int)])] [] []) (kO AN) (.cons ih (oI (decide (1<=(↑V:Int).toNat)) (oS (PF V) (rI ↑V (oI (decide ((↑V:Int)>9223372036854775807)=false) (.cons (Xq hV2) (oI (inR IntKind.u64 (↑V:Int)) .nil))))))) 2 [0,4]
theorem WX {V N:Nat}{nn:Bool}{A:Nat->uN}(hA:Arcs V N A)(hV:V<=512)(hN:N<=4096):uY prog fF 89 [.agg (Mw V nn N A)] (.int .i64 0):=by
 have v2:=hA.v2;have key:∀ k i:Nat,i+k=N->aB prog fF false (cB (cB (cR (cL (cR (cR (AY prog 89))))))) (frame 67 [(1,EV.ptr 0 0),(2,.int .i64 0),(20,EV.uS nn 3 N fun i=>(A i).cells),(21,.int .i64 N),(22,.int .i64 i)]) [fE.var false true [.int .i64 V,EV.uS nn 3 N fun i=>(A i).cells]]
   (EX.leave 0,frame 67 [(1,EV.ptr 0 0),(2,.int .i64 0)],[fE.var false true [.int .i64 V,EV.uS nn 3 N fun i=>(A i).cells]]):=by
  intro k;induction k with
  | zero=>
   intro i h;exact aB.last (AAD V nn N A i (by omega) (by omega) hN (by omega) (fun h=>by omega) (uL (by omega))) (by simp)
  | succ k ih=>
   intro i h;have h1:=hA.src i (by omega);have h2:=hA.dst i (by omega);have h3:=hA.ne i (by omega);have h4:=hA.cap i (by omega);exact aB.step (AAC V nn N A i (by omega) (by omega) hN (by omega) (fun _=>by rw [uG]; omega) (uK (by omega))) (ih (i+1) (by omega))
 exact fcW V nn N A (by omega) (by omega) hN (aB.eO (key N 0 (by omega)) (by kernel_rfl))
theorem Xr {V:Nat}(h2:2<=V)(h:V<100):aA prog fF 148 [EV.ms 0 1 0 1 (some 1),EV.int IntKind.i64 (↑V:Int)] [fE.arr false true 1 true 1 fun (i:Nat)=>[[EV.int IntKind.i64 (-1)]].getD i []] (EV.ms 1 1 0 V (some V)) [fE.dead,fE.arr false true 1 true V fun (i:Nat)=>[EV.int IntKind.i64 (-1)]]:=by
 have key:∀ (k n:Nat) (row:Nat->List EV),n+k=V->1<=n->(∀ i,i<V->(row i).length=1)->(∀ i,i<n->row i=[.int .i64 (-1)])->aB prog fF false (cB (cB (cL (cR (cR (cR (cR (cR (cR (AY prog 148)))))))))) (frame 48 [(4,EV.uS false 0 0 fun _=>[]),(7,.ms 4 1 0 V (some V)),(8,.int .i64 n)]) [fE.dead,fE.dead,fE.dead,fE.dead,fE.arr false true 1 true V row]
   (EX.leave 0,frame 48 [(4,EV.uS false 0 0 fun _=>[]),(7,.ms 4 1 0 V (some V))],[fE.dead,fE.dead,fE.dead,fE.dead,fE.arr false true 1 true V fun _=>[.int .i64 (-1)]]):=by
  intro k;induction k using Nat.strongRecOn with
  | ind k ih=>
   intro n row hn h1 hl hr;by_cases hk:k=0
   ·subst hk;obtain rfl:n=V:=by omega
    refine aB.last (aE.weaken (uI _) (eW.refl _) (AAG n n row h2 h h1 (Nat.le_refl _) hl (uL (by omega))) (uI _) (.cons (uH _) (.cons (uH _) (.cons (uH _) (.cons (uH _) (.cons (uU.arr fun i hi=>hr i hi) .nil)))))) (by simp)
   ·have mid:∀ (len:Nat),len<=n->∀ i,i<n+len->Aw (0+(n:Int).toNat) len row (fun i=>row (0+i)) i=[.int .i64 (-1)]:=by
     intro len hlen i hi;simp only [Aw,uJ,uG];by_cases hin:i<n
     ·rw [if_pos hin]; exact hr i hin
     ·rw [if_neg hin,if_pos (by omega)]; exact hr _ (by omega)
    have midl:∀ (len:Nat),len<=n->n+len<=V->∀ i,i<V->(Aw (0+(n:Int).toNat) len row (fun i=>row (0+i)) i).length=1:=by
     intro len hlen hv i hi;simp only [Aw,uJ,uG];split
     ·exact hl i hi
     ·split
      ·exact hl _ (by omega)
      ·exact hl i hi
    by_cases hq:n<=V - n
    ·have hs:=AAE V n row h2 h h1 (by omega) hl (uK (by omega)) (uK (by simp only [uG]; omega));have e:(n:Int)+((((n:Int).toNat - 0:Nat)):Int)=((n+n:Nat):Int):=by simp only [uG]; omega
     rw [e] at hs;have e2:(n:Int).toNat - 0=n:=by simp
     rw [e2] at hs;exact aB.step hs (ih (V - (n+n)) (by omega) (n+n) _ (by omega) (by omega) (midl n (Nat.le_refl _) (by omega)) (mid n (Nat.le_refl _)))
    ·have hs:=AAF V n row h2 h h1 (by omega) hl (uK (by omega)) (uL (by simp only [uG]; omega));have e2:(V:Int).toNat - (n:Int).toNat=V - n:=by simp
     rw [e2] at hs;have e:(n:Int)+((V - n:Nat):Int)=((V:Nat):Int):=by omega
     rw [e] at hs;exact aB.step hs (ih 0 (by omega) V _ (by omega) (by omega) (midl (V - n) (by omega) (by omega)) (fun i hi=>mid (V - n) (by omega) i (by omega)))
 refine AAH V h2 h (aB.eO (key (V - 1) 1 _ (by omega) (Nat.le_refl _) (fun i hi=>?_) fun i hi=>?_) (by kernel_rfl))
 ·simp only [Aw];split
  ·omega
  ·split
   ·rename_i h0 h1;obtain rfl:i=0:=by omega
    rfl
   ·rfl
 ·obtain rfl:i=0:=by omega
  rfl
def nF (f:FuncId):Bool:=[90,91,92,93,94,148].contains f
def nF0 (f:FuncId):Bool:=nF f || f==0
def pF (f:FuncId):Bool:=pures f || nF f
theorem ADO (V:Nat)(nn:Bool)(N:Nat)(A:Nat->uN)(f:Nat->Int)(hV:2<=V)(hV2:V<100)(hN:N<=4096):uT prog fF false (cL (cB (cR (AY prog 91)))) (frame 73 [(0,EV.pe 0 0 0 0),(3,.ptr 2 0),(4,EV.uS false 0 0 fun _=>[])]) [dQ N A,bE N A f,fE.var false true [.int .i64 V,EV.uS nn 3 N fun i=>(A i).cells]] (EX.normal,(frame 73 [(0,EV.pe 0 0 0 0),(3,EV.ptr 2 0),(4,EV.uS false 0 0 fun (i:Nat)=>[]),(5,EV.ms 3 1 0 V (some V))]),[fE.flat false 513 (fun (i:Nat)=>EV.uS (Decidable.decide (0<A4 A N i)) 1 (A4 A N i) fun (i_1:Nat)=>[EV.int IntKind.i64 (BE A N i i_1)]) [(512,EV.ms 1 2 0 N (some N))],fE.arr false true 2 true N fun (i:Nat)=>[EV.int IntKind.i64 ((A i).cap - f i),EV.int IntKind.i64 (f i)],fE.var false true [EV.int IntKind.i64 (↑V:Int),EV.uS nn 3 N fun (i:Nat)=>(A i).cells],fE.arr false true 1 true V fun (i:Nat)=>[EV.int IntKind.i64 (-1)]]):=
 Ls (modes:=pF) (news:=nF0) (n:=60) (fuel:=100000) (F:=[]) (s:=(.mk [] [] [] [some ((EV.ms 1 1 0 V (some V),[fE.dead,fE.arr false true 1 true V fun (i:Nat)=>[EV.int IntKind.i64 (-1)]]))] [])) (ow:=[aA prog fF 148 [EV.ms 0 1 0 1 (some 1),EV.int IntKind.i64 (↑V:Int)] [fE.arr false true 1 true 1 fun (i:Nat)=>[[EV.int IntKind.i64 (-1)]].getD i []] (EV.ms 1 1 0 V (some V)) [fE.dead,fE.arr false true 1 true V fun (i:Nat)=>[EV.int IntKind.i64 (-1)]]]) 57 15 [0,1,2,4] C1 bY.nil (by kernel_rfl) (by kernel_rfl) (by kernel_rfl) (.cons (Xr hV hV2) .nil)
abbrev Ui (a0:Int)(a1:Nat):=decide (a0<(↑a1:Int))
abbrev EH (a0:Nat)(a1:Nat->uN)(a2:Nat->Int):=[dQ a0 a1,bE a0 a1 a2]
noncomputable abbrev Lz (a0:Nat):=frame 73 [(0,EV.pe 0 0 0 0),(3,pt 2 0),(4,sl false 0 0 fun i=>[]),(5,EV.ms 3 1 0 a0 (some a0)),(6,EV.ms 4 1 1 0 (some 0))]
abbrev FV (a0:Int):=(decide (a0>0))=false
abbrev CH (a0:Int):=(decide (a0>0))=true
noncomputable abbrev Hr (a0:Nat)(a1:Nat)(a2:Bool)(a3:Nat)(a4:Nat->Int)(a5:Int):=frame 73 [(0,EV.pe 0 0 0 0),(3,pt 2 0),(4,sl false 0 0 fun _=>[]),(5,.ms 3 1 0 a0 (some a0)),(6,.ms 4 1 1 0 (some 0)),(7,iv a1),(32,sl a2 1 a3 fun i=>[iv (a4 i)]),(33,iv a3),(34,iv a5)]
noncomputable abbrev C5 (a0:Nat):=frame 73 [(0,EV.pe 0 0 0 0),(3,pt 2 0),(4,sl false 0 0 fun i=>[]),(5,EV.ms 3 1 0 a0 (some a0))]
abbrev Uj (a0:Int)(a1:Nat):=(decide (a0<(↑a1:Int)))=true
noncomputable abbrev AI5:=cB (cL (cR (cR (cR (cR (cB (cR (AY prog 91))))))))
noncomputable abbrev AIo:=cB (cR (cR (cR (cB (cR (cB (AI5)))))))
noncomputable abbrev PG (a0:Nat)(a1:Nat)(a2:Bool)(a3:Nat)(a4:Nat->Int)(a5:Int):=frame 73 [(0,EV.pe 0 0 0 0),(3,pt 2 0),(4,sl false 0 0 fun i=>[]),(5,EV.ms 3 1 0 a0 (some a0)),(6,EV.ms 4 1 1 0 (some 0)),(7,iv ↑a1),(32,sl a2 1 a3 fun i=>[iv (a4 i)]),(33,iv ↑a3),(34,iv (a5+1))]
abbrev Uk (a0:Int)(a1:Nat):=(Ui a0 a1)=false
abbrev AJe (a0:Int)(a1:Int)(a2:Nat->uN)(a3:Nat)(a4:Nat->Int):=(tu (AIV a0 a1),[PD a2 a3,oA 2 true a3 fun i=>(PC a2 i a4)])
abbrev Um (a0:Int)(a1:Nat):=Uj a0 a1
noncomputable abbrev AH3:=cB (AIo)
abbrev Cf (a0:Int)(a1:Nat):=Uk a0 a1
abbrev AH4 (a0:Int)(a1:Int)(a2:Nat->uN)(a3:Nat)(a4:Nat->Int):=(AJe a0 a1 a2 a3 a4)
abbrev Ah (a0:Int)(a1:Nat):=Um a0 a1
section
variable (V:Nat)(nn:Bool)(N:Nat)(A:Nat->uN)(f:Nat->Int)(lev:Nat->Int)(u:Nat)(b:Bool)(e:Nat)(a:Nat->Int)(to:Int)(room:Int)(p:Int)(hV:2<=V)(hV2:V<100)(hN:N<=4096)(h0:0<=p)(he:e<=10000)(hu:u<V)(ht:0<=to)(ht2:to<V)(hl: -1<=lev (0+u))(hl2:lev (0+u)<=1000)(ihs:p<e->sF 93 [.pe 0 0 0 0,ag (Mw V nn N A),iv (a p.toNat)] (EH N A f) (AH0 to room) (EH N A f))
include V nn N A f lev u b e a to room p hV hV2 hN h0 he hu ht ht2 hl hl2 ihs
theorem Zo (q0:Ah p e)(q1:CH room)(q2:(decide (lev (0+to.toNat)<0))=true)(q3:(to==(↑V:Int) - 1)=true):sR 5 (AH3) (Hr V u b e a p) ([dQ N A,bE N A f,oV [iv V,AF nn N A],oA 1 true V fun i=>(AA lev i),oA 1 true 1 fun i=>[[iv 0]].getD i []]) (xL 0,(C5 V),[Ai A N,oA 2 true N fun i=>(Ag A i f),oV [iv ↑V,AF nn N A],oA 1 true V (BC (fun i=>(AA lev i)) (0+to.toNat) [iv (lev (0+(↑u:Int).toNat)+1)]),oD]):=
 aM pF nF _ (.mk (dS 0x10a111a1112aaa02ae3) [] [] [some (AH4 to room A N f)] []) (kO (kz q0 (kz q1 (kz q2 (kz q3 AN))))) (rI ((↑V:Int) - 1) (rB to V (rI (lev (0+(↑u:Int).toNat)+1) (rB (↑u:Int) V (rB to V (.cons (ihs (by simp_all)) (rB p e .nil))))))) 57 15 [0,1,2,3,4] 5
theorem Zp (q0:Ah p e)(q1:CH room)(q2:(decide (lev (0+to.toNat)<0))=true)(q3:(to==(↑V:Int) - 1)=false):sR 5 (AH3) (Hr V u b e a p) ([dQ N A,bE N A f,oV [iv V,AF nn N A],oA 1 true V fun i=>(AA lev i),oA 1 true 1 fun i=>[[iv 0]].getD i []]) (xN,(frame 73 [(0,EV.pe 0 0 0 0),(3,pt 2 0),(4,sl false 0 0 fun i=>[]),(5,EV.ms 3 1 0 V (some V)),(6,EV.ms 5 1 0 1 none),(7,iv ↑u),(32,sl b 1 e fun i=>[iv (a i)]),(33,iv ↑e),(34,iv (p+1))]),[Ai A N,oA 2 true N fun i=>(Ag A i f),oV [iv ↑V,AF nn N A],oA 1 true V (BC (fun i=>(AA lev i)) (0+to.toNat) [iv (lev (0+(↑u:Int).toNat)+1)]),oA 1 true 1 fun i=>[[iv 0]].getD i [],oA 1 false 1 (Ar 0 (fun i=>[[iv 0]].getD (1+i) []) fun i=>[[iv to]].getD (0+i) [])]):=
 aM pF nF _ (.mk (dS 0x10a111a1112aaa02ae3a) [] [] [some (AH4 to room A N f)] []) (kO (kz q0 (kz q1 (kz q2 (kz q3 AN))))) (rI (p+1) (rI ((↑V:Int) - 1) (rB to V (rI (lev (0+(↑u:Int).toNat)+1) (rB (↑u:Int) V (rB to V (.cons (ihs (by simp_all)) (rB p e .nil)))))))) 30064771321 63 [0,1,2,3,4,6] 5
theorem Zq (q0:Ah p e)(q1:CH room)(q2:(decide (lev (0+to.toNat)<0))=false):sR 5 (AH3) (Hr V u b e a p) ([dQ N A,bE N A f,oV [iv V,AF nn N A],oA 1 true V fun i=>(AA lev i),oA 1 true 1 fun i=>[[iv 0]].getD i []]) (xN,(PG V u b e a p),[Ai A N,oA 2 true N fun i=>(Ag A i f),oV [iv ↑V,AF nn N A],oA 1 true V fun i=>(AA lev i),oA 1 true 1 fun i=>[[iv 0]].getD i []]):=
 aM pF nF _ (.mk (dS 18283971547434) [] [] [some (AH4 to room A N f)] []) (kO (kz q0 (kz q1 (kz q2 AN)))) (rI (p+1) (rB to V (.cons (ihs (by simp_all)) (rB p e .nil)))) 30064771321 31 [0,1,2,3,4] 5
theorem Zr (q0:Ah p e)(q1:FV room):sR 5 (AH3) (Hr V u b e a p) ([dQ N A,bE N A f,oV [iv V,AF nn N A],oA 1 true V fun i=>(AA lev i),oA 1 true 1 fun i=>[[iv 0]].getD i []]) (xN,(PG V u b e a p),[Ai A N,oA 2 true N fun i=>(Ag A i f),oV [iv ↑V,AF nn N A],oA 1 true V fun i=>(AA lev i),oA 1 true 1 fun i=>[[iv 0]].getD i []]):=
 aM pF nF _ (.mk (dS 292543393759662) [] [] [some (AH4 to room A N f)] []) (kO (kz q0 (kz q1 AN))) (rI (p+1) (.cons (ihs (by simp_all)) (rB p e .nil))) 30064771321 31 [0,1,2,3,4] 5
theorem Zs (q0:Cf p e):sR 5 (AH3) (Hr V u b e a p) ([dQ N A,bE N A f,oV [iv V,AF nn N A],oA 1 true V fun i=>(AA lev i),oA 1 true 1 fun i=>[[iv 0]].getD i []]) (xL 2,(Lz V),[Ai A N,oA 2 true N fun i=>(Ag A i f),oV [iv ↑V,AF nn N A],oA 1 true V fun i=>(AA lev i),oA 1 true 1 fun i=>[[iv 0]].getD i []]):=
 aM pF nF _ (.mk (dS 16) [] [] [] []) (kO (kz q0 AN)) .nil 121 31 [0,1,2,3,4] 5
end
noncomputable abbrev PH (a0:Nat)(a1:Nat)(a2:Nat):=frame 73 [(0,EV.pe 0 0 0 0),(3,pt 2 0),(4,sl false 0 0 fun i=>[]),(5,EV.ms 3 1 0 a0 (some a0)),(6,EV.ms 6 1 a1 a2 none)]
noncomputable abbrev PI (a0:Nat)(a1:Nat)(a2:Nat)(a3:Nat)(a4:Bool)(a5:Nat)(a6:Nat->Int)(a7:Int):=frame 73 [(0,EV.pe 0 0 0 0),(3,pt 2 0),(4,sl false 0 0 fun i=>[]),(5,EV.ms 3 1 0 a0 (some a0)),(6,EV.ms 6 1 a1 a2 none),(7,iv ↑a3),(32,sl a4 1 a5 fun i=>[iv (a6 i)]),(33,iv ↑a5),(34,iv (a7+1))]
noncomputable abbrev PJ (a0:Nat)(a1:Nat)(a2:Nat)(a3:Bool)(a4:Nat)(a5:Nat->Int)(a6:Int):=frame 73 [(0,EV.pe 0 0 0 0),(3,pt 2 0),(4,sl false 0 0 fun i=>[]),(5,EV.ms 3 1 0 a0 (some a0)),(6,EV.ms 6 1 0 (a1+1) none),(7,iv ↑a2),(32,sl a3 1 a4 fun i=>[iv (a5 i)]),(33,iv ↑a4),(34,iv (a6+1))]
noncomputable abbrev Dk (a0:Nat)(a1:Nat)(a2:Nat)(a3:Nat)(a4:Bool)(a5:Nat)(a6:Nat->Int)(a7:Int):=frame 73 [(0,EV.pe 0 0 0 0),(3,pt 2 0),(4,sl false 0 0 fun _=>[]),(5,.ms 3 1 0 a0 (some a0)),(6,.ms 5 1 a1 a2 none),(7,iv a3),(32,sl a4 1 a5 fun i=>[iv (a6 i)]),(33,iv a5),(34,iv a7)]
noncomputable abbrev Hs (a0:Nat)(a1:Nat)(a2:Nat)(a3:Nat)(a4:Bool)(a5:Nat)(a6:Nat->Int)(a7:Int):=frame 73 [(0,EV.pe 0 0 0 0),(3,pt 2 0),(4,sl false 0 0 fun _=>[]),(5,.ms 3 1 0 a0 (some a0)),(6,.ms 6 1 a1 a2 none),(7,iv a3),(32,sl a4 1 a5 fun i=>[iv (a6 i)]),(33,iv a5),(34,iv a7)]
noncomputable abbrev FW (a0:Nat)(a1:Nat)(a2:Nat):=frame 73 [(0,EV.pe 0 0 0 0),(3,pt 2 0),(4,sl false 0 0 fun i=>[]),(5,EV.ms 3 1 0 a0 (some a0)),(6,EV.ms 5 1 a1 a2 none)]
noncomputable abbrev JU (a0:Nat)(a1:Nat)(a2:Nat)(a3:Nat)(a4:Bool)(a5:Nat)(a6:Nat->Int)(a7:Int):=frame 73 [(0,EV.pe 0 0 0 0),(3,pt 2 0),(4,sl false 0 0 fun i=>[]),(5,EV.ms 3 1 0 a0 (some a0)),(6,EV.ms 5 1 a1 a2 none),(7,iv ↑a3),(32,sl a4 1 a5 fun i=>[iv (a6 i)]),(33,iv ↑a5),(34,iv (a7+1))]
section
variable (V:Nat)(nn:Bool)(N:Nat)(A:Nat->uN)(f:Nat->Int)(lev:Nat->Int)(u:Nat)(b:Bool)(e:Nat)(a:Nat->Int)(to:Int)(room:Int)(p:Int)(off:Nat)(n:Nat)(ol:Nat)(q:Nat->Int)(hV:2<=V)(hV2:V<100)(hN:N<=4096)(h0:0<=p)(he:e<=10000)(hu:u<V)(ht:0<=to)(ht2:to<V)(hl: -1<=lev (0+u))(hl2:lev (0+u)<=1000)(hn:n<=100)(ho:off+n<=ol)(ho2:ol<=1000)(ihs:p<e->sF 93 [.pe 0 0 0 0,ag (Mw V nn N A),iv (a p.toNat)] (EH N A f) (AH0 to room) (EH N A f))
include V nn N A f lev u b e a to room p off n ol q hV hV2 hN h0 he hu ht ht2 hl hl2 hn ho ho2 ihs
theorem Zt (q0:Ah p e)(q1:CH room)(q2:(decide (lev (0+to.toNat)<0))=true)(q3:(to==(↑V:Int) - 1)=true):sR 5 (AH3) (Dk V off n u b e a p) ([dQ N A,bE N A f,oV [iv V,AF nn N A],oA 1 true V fun i=>(AA lev i),oD,oA 1 false ol fun i=>[iv (q i)]]) (xL 0,(C5 V),[Ai A N,oA 2 true N fun i=>(Ag A i f),oV [iv ↑V,AF nn N A],oA 1 true V (BC (fun i=>(AA lev i)) (0+to.toNat) [iv (lev (0+(↑u:Int).toNat)+1)]),oD]):=
 aM pF nF _ (.mk (dS 0x10a111a1112aaaaa3) [] [] [some (AH4 to room A N f)] []) (kO (kz q0 (kz q1 (kz q2 (kz q3 AN))))) (rI ((↑V:Int) - 1) (oL (A5 n) (rB to V (rI (lev (0+(↑u:Int).toNat)+1) (rB (↑u:Int) V (rB to V (.cons (ihs (by simp_all)) (rB p e .nil)))))))) 57 15 [0,1,2,3,4] 5
theorem Zu (q0:Ah p e)(q1:CH room)(q2:(decide (lev (0+to.toNat)<0))=true)(q3:(to==(↑V:Int) - 1)=false):sR 5 (AH3) (Dk V off n u b e a p) ([dQ N A,bE N A f,oV [iv V,AF nn N A],oA 1 true V fun i=>(AA lev i),oD,oA 1 false ol fun i=>[iv (q i)]]) (xN,(frame 73 [(0,EV.pe 0 0 0 0),(3,pt 2 0),(4,sl false 0 0 fun i=>[]),(5,EV.ms 3 1 0 V (some V)),(6,EV.ms 5 1 0 (n+1) none),(7,iv ↑u),(32,sl b 1 e fun i=>[iv (a i)]),(33,iv ↑e),(34,iv (p+1))]),[Ai A N,oA 2 true N fun i=>(Ag A i f),oV [iv ↑V,AF nn N A],oA 1 true V (BC (fun i=>(AA lev i)) (0+to.toNat) [iv (lev (0+(↑u:Int).toNat)+1)]),oD,oA 1 false (n+1) (Ar n (fun i=>[iv (q (off+i))]) fun i=>[[iv to]].getD (0+i) [])]):=
 aM pF nF _ (.mk (dS 0x10a111a1112aaaaa3a) [] [] [some (AH4 to room A N f)] []) (kO (kz q0 (kz q1 (kz q2 (kz q3 AN))))) (rI (p+1) (rI ((↑V:Int) - 1) (oL (A5 n) (rB to V (rI (lev (0+(↑u:Int).toNat)+1) (rB (↑u:Int) V (rB to V (.cons (ihs (by simp_all)) (rB p e .nil))))))))) 30064771321 47 [0,1,2,3,4,7] 5
theorem Zv (q0:Ah p e)(q1:CH room)(q2:(decide (lev (0+to.toNat)<0))=false):sR 5 (AH3) (Dk V off n u b e a p) ([dQ N A,bE N A f,oV [iv V,AF nn N A],oA 1 true V fun i=>(AA lev i),oD,oA 1 false ol fun i=>[iv (q i)]]) (xN,(JU V off n u b e a p),[Ai A N,oA 2 true N fun i=>(Ag A i f),oV [iv ↑V,AF nn N A],oA 1 true V fun i=>(AA lev i),oD,oA 1 false ol fun i=>[iv (q i)]]):=
 aM pF nF _ (.mk (dS 18283971547434) [] [] [some (AH4 to room A N f)] []) (kO (kz q0 (kz q1 (kz q2 AN)))) (rI (p+1) (rB to V (.cons (ihs (by simp_all)) (rB p e .nil)))) 30064771321 47 [0,1,2,3,4,5] 5
theorem Zw (q0:Ah p e)(q1:FV room):sR 5 (AH3) (Dk V off n u b e a p) ([dQ N A,bE N A f,oV [iv V,AF nn N A],oA 1 true V fun i=>(AA lev i),oD,oA 1 false ol fun i=>[iv (q i)]]) (xN,(JU V off n u b e a p),[Ai A N,oA 2 true N fun i=>(Ag A i f),oV [iv ↑V,AF nn N A],oA 1 true V fun i=>(AA lev i),oD,oA 1 false ol fun i=>[iv (q i)]]):=
 aM pF nF _ (.mk (dS 292543393759662) [] [] [some (AH4 to room A N f)] []) (kO (kz q0 (kz q1 AN))) (rI (p+1) (.cons (ihs (by simp_all)) (rB p e .nil))) 30064771321 47 [0,1,2,3,4,5] 5
theorem Zx (q0:Cf p e):sR 5 (AH3) (Dk V off n u b e a p) ([dQ N A,bE N A f,oV [iv V,AF nn N A],oA 1 true V fun i=>(AA lev i),oD,oA 1 false ol fun i=>[iv (q i)]]) (xL 2,(FW V off n),[Ai A N,oA 2 true N fun i=>(Ag A i f),oV [iv ↑V,AF nn N A],oA 1 true V fun i=>(AA lev i),oD,oA 1 false ol fun i=>[iv (q i)]]):=
 aM pF nF _ (.mk (dS 16) [] [] [] []) (kO (kz q0 AN)) .nil 121 47 [0,1,2,3,4,5] 5
theorem Zy (q0:Ah p e)(q1:CH room)(q2:(decide (lev (0+to.toNat)<0))=true)(q3:(to==(↑V:Int) - 1)=true):sR 6 (AH3) (Hs V off n u b e a p) ([dQ N A,bE N A f,oV [iv V,AF nn N A],oA 1 true V fun i=>(AA lev i),oD,oD,oA 1 false ol fun i=>[iv (q i)]]) (xL 0,(C5 V),[Ai A N,oA 2 true N fun i=>(Ag A i f),oV [iv ↑V,AF nn N A],oA 1 true V (BC (fun i=>(AA lev i)) (0+to.toNat) [iv (lev (0+(↑u:Int).toNat)+1)]),oD,oD]):=
 aM pF nF _ (.mk (dS 0x10a111a1112aaaaa3) [] [] [some (AH4 to room A N f)] []) (kO (kz q0 (kz q1 (kz q2 (kz q3 AN))))) (rI ((↑V:Int) - 1) (oL (A5 n) (rB to V (rI (lev (0+(↑u:Int).toNat)+1) (rB (↑u:Int) V (rB to V (.cons (ihs (by simp_all)) (rB p e .nil)))))))) 57 15 [0,1,2,3,4,5] 6
theorem Zz (q0:Ah p e)(q1:CH room)(q2:(decide (lev (0+to.toNat)<0))=true)(q3:(to==(↑V:Int) - 1)=false):sR 6 (AH3) (Hs V off n u b e a p) ([dQ N A,bE N A f,oV [iv V,AF nn N A],oA 1 true V fun i=>(AA lev i),oD,oD,oA 1 false ol fun i=>[iv (q i)]]) (xN,(PJ V n u b e a p),[Ai A N,oA 2 true N fun i=>(Ag A i f),oV [iv ↑V,AF nn N A],oA 1 true V (BC (fun i=>(AA lev i)) (0+to.toNat) [iv (lev (0+(↑u:Int).toNat)+1)]),oD,oD,oA 1 false (n+1) (Ar n (fun i=>[iv (q (off+i))]) fun i=>[[iv to]].getD (0+i) [])]):=
 aM pF nF _ (.mk (dS 0x10a111a1112aaaaa3a) [] [] [some (AH4 to room A N f)] []) (kO (kz q0 (kz q1 (kz q2 (kz q3 AN))))) (rI (p+1) (rI ((↑V:Int) - 1) (oL (A5 n) (rB to V (rI (lev (0+(↑u:Int).toNat)+1) (rB (↑u:Int) V (rB to V (.cons (ihs (by simp_all)) (rB p e .nil))))))))) 30064771321 79 [0,1,2,3,4,5,8] 6
theorem Z0 (q0:Ah p e)(q1:CH room)(q2:(decide (lev (0+to.toNat)<0))=false):sR 6 (AH3) (Hs V off n u b e a p) ([dQ N A,bE N A f,oV [iv V,AF nn N A],oA 1 true V fun i=>(AA lev i),oD,oD,oA 1 false ol fun i=>[iv (q i)]]) (xN,(PI V off n u b e a p),[Ai A N,oA 2 true N fun i=>(Ag A i f),oV [iv ↑V,AF nn N A],oA 1 true V fun i=>(AA lev i),oD,oD,oA 1 false ol fun i=>[iv (q i)]]):=
 aM pF nF _ (.mk (dS 18283971547434) [] [] [some (AH4 to room A N f)] []) (kO (kz q0 (kz q1 (kz q2 AN)))) (rI (p+1) (rB to V (.cons (ihs (by simp_all)) (rB p e .nil)))) 30064771321 79 [0,1,2,3,4,5,6] 6
theorem Z1 (q0:Ah p e)(q1:FV room):sR 6 (AH3) (Hs V off n u b e a p) ([dQ N A,bE N A f,oV [iv V,AF nn N A],oA 1 true V fun i=>(AA lev i),oD,oD,oA 1 false ol fun i=>[iv (q i)]]) (xN,(PI V off n u b e a p),[Ai A N,oA 2 true N fun i=>(Ag A i f),oV [iv ↑V,AF nn N A],oA 1 true V fun i=>(AA lev i),oD,oD,oA 1 false ol fun i=>[iv (q i)]]):=
 aM pF nF _ (.mk (dS 292543393759662) [] [] [some (AH4 to room A N f)] []) (kO (kz q0 (kz q1 AN))) (rI (p+1) (.cons (ihs (by simp_all)) (rB p e .nil))) 30064771321 79 [0,1,2,3,4,5,6] 6
theorem Z2 (q0:Cf p e):sR 6 (AH3) (Hs V off n u b e a p) ([dQ N A,bE N A f,oV [iv V,AF nn N A],oA 1 true V fun i=>(AA lev i),oD,oD,oA 1 false ol fun i=>[iv (q i)]]) (xL 2,(PH V off n),[Ai A N,oA 2 true N fun i=>(Ag A i f),oV [iv ↑V,AF nn N A],oA 1 true V fun i=>(AA lev i),oD,oD,oA 1 false ol fun i=>[iv (q i)]]):=
 aM pF nF _ (.mk (dS 16) [] [] [] []) (kO (kz q0 AN)) .nil 121 79 [0,1,2,3,4,5,6] 6
theorem Z3 (q0:Ah p e)(q1:CH room)(q2:(decide (lev (0+to.toNat)<0))=true)(q3:(to==(↑V:Int) - 1)=true):sR 6 (AH3) (Dk V off n u b e a p) ([dQ N A,bE N A f,oV [iv V,AF nn N A],oA 1 true V fun i=>(AA lev i),oD,oA 1 false ol fun i=>[iv (q i)]]) (xL 0,(C5 V),[Ai A N,oA 2 true N fun i=>(Ag A i f),oV [iv ↑V,AF nn N A],oA 1 true V (BC (fun i=>(AA lev i)) (0+to.toNat) [iv (lev (0+(↑u:Int).toNat)+1)]),oD,oD]):=
 aM pF nF _ (.mk (dS 0x10a111a1112aaaaa3) [] [] [some (AH4 to room A N f)] []) (kO (kz q0 (kz q1 (kz q2 (kz q3 AN))))) (rI ((↑V:Int) - 1) (oL (A5 n) (rB to V (rI (lev (0+(↑u:Int).toNat)+1) (rB (↑u:Int) V (rB to V (.cons (ihs (by simp_all)) (rB p e .nil)))))))) 57 15 [0,1,2,3,4,5] 6
theorem Z4 (q0:Ah p e)(q1:CH room)(q2:(decide (lev (0+to.toNat)<0))=true)(q3:(to==(↑V:Int) - 1)=false):sR 6 (AH3) (Dk V off n u b e a p) ([dQ N A,bE N A f,oV [iv V,AF nn N A],oA 1 true V fun i=>(AA lev i),oD,oA 1 false ol fun i=>[iv (q i)]]) (xN,(PJ V n u b e a p),[Ai A N,oA 2 true N fun i=>(Ag A i f),oV [iv ↑V,AF nn N A],oA 1 true V (BC (fun i=>(AA lev i)) (0+to.toNat) [iv (lev (0+(↑u:Int).toNat)+1)]),oD,oD,oA 1 false (n+1) (Ar n (fun i=>[iv (q (off+i))]) fun i=>[[iv to]].getD (0+i) [])]):=
 aM pF nF _ (.mk (dS 0x10a111a1112aaaaa3a) [] [] [some (AH4 to room A N f)] []) (kO (kz q0 (kz q1 (kz q2 (kz q3 AN))))) (rI (p+1) (rI ((↑V:Int) - 1) (oL (A5 n) (rB to V (rI (lev (0+(↑u:Int).toNat)+1) (rB (↑u:Int) V (rB to V (.cons (ihs (by simp_all)) (rB p e .nil))))))))) 30064771321 79 [0,1,2,3,4,5,7] 6
theorem Z5 (q0:Ah p e)(q1:CH room)(q2:(decide (lev (0+to.toNat)<0))=false):sR 6 (AH3) (Dk V off n u b e a p) ([dQ N A,bE N A f,oV [iv V,AF nn N A],oA 1 true V fun i=>(AA lev i),oD,oA 1 false ol fun i=>[iv (q i)]]) (xN,(JU V off n u b e a p),[Ai A N,oA 2 true N fun i=>(Ag A i f),oV [iv ↑V,AF nn N A],oA 1 true V fun i=>(AA lev i),oD,oA 1 false ol fun i=>[iv (q i)]]):=
 aM pF nF _ (.mk (dS 18283971547434) [] [] [some (AH4 to room A N f)] []) (kO (kz q0 (kz q1 (kz q2 AN)))) (rI (p+1) (rB to V (.cons (ihs (by simp_all)) (rB p e .nil)))) 30064771321 47 [0,1,2,3,4,5] 6
theorem Z6 (q0:Ah p e)(q1:FV room):sR 6 (AH3) (Dk V off n u b e a p) ([dQ N A,bE N A f,oV [iv V,AF nn N A],oA 1 true V fun i=>(AA lev i),oD,oA 1 false ol fun i=>[iv (q i)]]) (xN,(JU V off n u b e a p),[Ai A N,oA 2 true N fun i=>(Ag A i f),oV [iv ↑V,AF nn N A],oA 1 true V fun i=>(AA lev i),oD,oA 1 false ol fun i=>[iv (q i)]]):=
 aM pF nF _ (.mk (dS 292543393759662) [] [] [some (AH4 to room A N f)] []) (kO (kz q0 (kz q1 AN))) (rI (p+1) (.cons (ihs (by simp_all)) (rB p e .nil))) 30064771321 47 [0,1,2,3,4,5] 6
theorem Z7 (q0:Cf p e):sR 6 (AH3) (Dk V off n u b e a p) ([dQ N A,bE N A f,oV [iv V,AF nn N A],oA 1 true V fun i=>(AA lev i),oD,oA 1 false ol fun i=>[iv (q i)]]) (xL 2,(FW V off n),[Ai A N,oA 2 true N fun i=>(Ag A i f),oV [iv ↑V,AF nn N A],oA 1 true V fun i=>(AA lev i),oD,oA 1 false ol fun i=>[iv (q i)]]):=
 aM pF nF _ (.mk (dS 16) [] [] [] []) (kO (kz q0 AN)) .nil 121 47 [0,1,2,3,4,5] 6
end
end Go.Ev
