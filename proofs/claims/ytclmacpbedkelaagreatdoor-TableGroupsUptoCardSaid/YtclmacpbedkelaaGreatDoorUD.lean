/- A part of the proof. -/
import Derived.Test.YtclmacpbedkelaaGreatDoorProg
import Derived.Test.YtclmacpbedkelaaGreatDoorUC
import Derived.KernelRfl
set_option linter.unusedSimpArgs false
set_option linter.unusedVariables false
set_option linter.unusedSectionVars false
namespace Go.Ev
open Go.Proofs.Tryz (prog)
def globs':Nat->Option (List EV)
 | 0=>some He
 | 2=>some HP
 | 3=>some EZ
 | 4=>some F9
 | 5=>some GA
 | _=>none
def nons:List Nat:=[224,280,300,65,227,281,161,91,270]
def newsL:List Nat:=[60,96,170,168,167,169,171,172]
def pures (f:FuncId):Bool:=!nons.contains f && !newsL.contains f
def news (f:FuncId):Bool:=newsL.contains f
theorem B7:prog.follows .mixedOrders=true:=by kernel_rfl
end Go.Ev
namespace Go.Ev
structure BLe (x y:EV):Prop where
 p:PLe x y
 v:VLe x y
theorem BLe.refl (x:EV):BLe x x:=⟨PLe.refl x,VLe.refl x⟩
theorem BLe.undef {x:EV}:BLe x .undef:=⟨PLe.undef,VLe.undef⟩
def Kh (f:EV->EV->EV):List EV->List EV->List EV
 | x :: xs,y :: ys=>f x y :: Kh f xs ys
 | _,_=>[]
def FY (b:Bool):Nat->EV->EV->EV
 | 0,_,_=>.undef
 | n+1,x,y=>
  match x with
  | .int k a=>match y with
   | .int k' a'=>if k=k' then .int k (bif b then a else a') else .undef
   | _=>.undef
  | .bool a=>match y with
   | .bool a'=>.bool (bif b then a else a')
   | _=>.undef
  | .str a=>match y with
   | .str a'=>.str (bif b then a else a')
   | _=>.undef
  | .isl nn esz len row=>match y with
   | .isl nn' esz' len' row'=>if esz=esz' then .isl (bif b then nn else nn') esz (bif b then len else len') (fun i=>bif b then row i else row' i) else .undef
   | _=>.undef
  | .agg xs=>match y with
   | .agg ys=>if xs.length=ys.length then .agg (Kh (FY b n) xs ys) else .undef
   | _=>.undef
  | .tuple xs=>match y with
   | .tuple ys=>if xs.length=ys.length then .tuple (Kh (FY b n) xs ys) else .undef
   | _=>.undef
  | .ptr r k=>match y with
   | .ptr r' k'=>if r=r'/\k=k' then .ptr r k else .undef
   | _=>.undef
  | .pe r esz i k=>match y with
   | .pe r' esz' i' k'=>if r=r'/\esz=esz'/\k=k' then .pe r esz (bif b then i else i') k else .undef
   | _=>.undef
  | .ms r esz off len none=>match y with
   | .ms r' esz' off' len' none=>if r=r'/\esz=esz' then .ms r esz (bif b then off else off') (bif b then len else len') none else .undef
   | _=>.undef
  | .ms r esz off len (some c)=>match y with
   | .ms r' esz' off' len' (some c')=>if r=r'/\esz=esz' then .ms r esz (bif b then off else off') (bif b then len else len') (some (bif b then c else c')) else .undef
   | _=>.undef
  | .mm r=>match y with
   | .mm r'=>if r=r' then .mm r else .undef
   | _=>.undef
  | .it r=>match y with
   | .it r'=>if r=r' then .it r else .undef
   | _=>.undef
  | .nilp=>match y with
   | .nilp=>.nilp
   | _=>.undef
  | .nilm=>match y with
   | .nilm=>.nilm
   | _=>.undef
  | .nilf=>match y with
   | .nilf=>.nilf
   | _=>.undef
  | .nili=>match y with
   | .nili=>.nili
   | _=>.undef
  | .im es=>match y with
   | .im es'=>.im (bif b then es else es')
   | _=>.undef
  | .iface t v=>match y with
   | .iface t' v'=>if t=t' then .iface t (FY b n v v') else .undef
   | _=>.undef
  | .ip xs k=>match y with
   | .ip ys k'=>if k=k'/\xs.length=ys.length then .ip (Kh (FY b n) xs ys) k else .undef
   | _=>.undef
  | _=>.undef
theorem Mx {f:EV->EV->EV}:∀ {xs ys:List EV},xs.length=ys.length->(Kh f xs ys).length=xs.length/\∀ i (h:i<(Kh f xs ys).length) (h1:i<xs.length) (h2:i<ys.length),(Kh f xs ys)[i]=f xs[i] ys[i]
 | [],[],_=>⟨rfl,fun i h=>by simp [Kh] at h⟩
 | x :: xs,y :: ys,h=>by
  obtain ⟨a,b⟩:=Mx (f:=f) (xs:=xs) (ys:=ys) (by simpa using h)
  refine ⟨by simp [Kh,a],fun i h h1 h2=>?_⟩
  cases i with
  | zero=>rfl
  | succ i=>exact b i (by simpa [Kh] using h) (by simpa using h1) (by simpa using h2)
 | [],_ :: _,h=>by simp at h
 | _ :: _,[],h=>by simp at h
theorem BLe.agg {xs ys:List EV}(hl:ys.length=xs.length)(h:∀ i (h1:i<xs.length) (h2:i<ys.length),BLe xs[i] ys[i]):BLe (.agg xs) (.agg ys):=by
 have hp:∀ (F:Nat->Prop) (w:World) mv,PR F w (.agg xs) mv->PR F w (.agg ys) mv:=by
  intro F w mv hp
  cases hp with
  | agg _ mcs g1 g2 g3=>exact .agg ys mcs (hl.trans g1) g2 fun i a b=>(h i (by omega) a).p F w _ (g3 i (by omega) b)
 refine ⟨hp,fun K w mv hv=>?_⟩
 cases hv with
 | pure _ _ q=>exact .pure _ _ (hp _ _ _ q)
 | agg _ mcs g1 g2 g3=>exact .agg ys mcs (hl.trans g1) g2 fun i a b=>(h i (by omega) a).v K w _ (g3 i (by omega) b)
theorem BLe.tuple {xs ys:List EV}(hl:ys.length=xs.length)(h:∀ i (h1:i<xs.length) (h2:i<ys.length),BLe xs[i] ys[i]):BLe (.tuple xs) (.tuple ys):=by
 have hp:∀ (F:Nat->Prop) (w:World) mv,PR F w (.tuple xs) mv->PR F w (.tuple ys) mv:=by
  intro F w mv hp
  cases hp with
  | tuple _ mcs g1 g3=>exact .tuple ys mcs (hl.trans g1) fun i a b=>(h i (by omega) a).p F w _ (g3 i (by omega) b)
 refine ⟨hp,fun K w mv hv=>?_⟩
 cases hv with
 | pure _ _ q=>exact .pure _ _ (hp _ _ _ q)
 | tuple _ mcs g1 g3=>exact .tuple ys mcs (hl.trans g1) fun i a b=>(h i (by omega) a).v K w _ (g3 i (by omega) b)
theorem BLe.iface {t:TypeId}{x y:EV}(h:BLe x y):BLe (.iface t x) (.iface t y):=by
 have hp:∀ (F:Nat->Prop) (w:World) mv,PR F w (.iface t x) mv->PR F w (.iface t y) mv:=by
  intro F w mv hp
  cases hp with
  | iface _ _ mv g=>exact .iface t _ mv (h.p F w mv g)
 refine ⟨hp,fun K w mv hv=>?_⟩
 cases hv with
 | pure _ _ q=>exact .pure _ _ (hp _ _ _ q)
 | iface _ _ mv g=>exact .iface t _ mv (h.v K w mv g)
theorem BLe.ip {xs ys:List EV}{k:Nat}(hl:ys.length=xs.length)(h:∀ i (h1:i<xs.length) (h2:i<ys.length),BLe xs[i] ys[i]):BLe (.ip xs k) (.ip ys k):=by
 have hp:∀ (F:Nat->Prop) (w:World) mv,PR F w (.ip xs k) mv->PR F w (.ip ys k) mv:=by
  intro F w mv hp
  cases hp with
  | ip _ _ b o mv hF hk hc hv=>exact .ip ys k b o mv hF (by omega) (fun j hj=>hc j (by omega)) fun j hj=>(h j (by omega) hj).p F w _ (hv j (by omega))
 refine ⟨hp,fun K w mv hv=>?_⟩
 cases hv with
 | pure _ _ q=>exact .pure _ _ (hp _ _ _ q)
theorem Iz (b:Bool):∀ (n:Nat) (x y:EV),BLe (bif b then x else y) (FY b n x y):=by
 intro n
 induction n with
 | zero=>intro x y; exact .undef
 | succ n ih=>
  have lst:∀ xs ys:List EV,xs.length=ys.length->(Kh (FY b n) xs ys).length=(bif b then xs else ys).length/\∀ i (h1:i<(bif b then xs else ys).length) (h2:i<(Kh (FY b n) xs ys).length),BLe (bif b then xs else ys)[i] (Kh (FY b n) xs ys)[i]:=by
   intro xs ys h
   obtain ⟨a,g⟩:=Mx (f:=FY b n) h
   cases b with
   | true=>
    refine ⟨a,fun i h1 h2=>?_⟩
    have h1':i<xs.length:=h1
    rw [g i h2 h1' (by omega)]
    exact ih xs[i] _
   | false=>
    refine ⟨a.trans h,fun i h1 h2=>?_⟩
    have h1':i<ys.length:=h1
    rw [g i h2 (by omega) h1']
    exact ih _ ys[i]
  intro x y
  unfold FY
  split
  ·split
   ·split
    ·rename_i h; subst h; cases b<;>exact .refl _
    ·exact .undef
   ·exact .undef
  ·split
   ·cases b<;>exact .refl _
   ·exact .undef
  ·split
   ·cases b<;>exact .refl _
   ·exact .undef
  ·split
   ·split
    ·rename_i h; subst h; cases b<;>exact .refl _
    ·exact .undef
   ·exact .undef
  ·split
   ·split
    ·rename_i xs _ ys h
     obtain ⟨h1,h2⟩:=lst xs ys h
     have e:(bif b then EV.agg xs else EV.agg ys)=.agg (bif b then xs else ys):=by cases b<;>rfl
     rw [e]
     exact .agg h1 h2
    ·exact .undef
   ·exact .undef
  ·split
   ·split
    ·rename_i xs _ ys h
     obtain ⟨h1,h2⟩:=lst xs ys h
     have e:(bif b then EV.tuple xs else EV.tuple ys)=.tuple (bif b then xs else ys):=by cases b<;>rfl
     rw [e]
     exact .tuple h1 h2
    ·exact .undef
   ·exact .undef
  ·split
   ·split
    ·rename_i h; obtain ⟨rfl,rfl⟩:=h; cases b<;>exact .refl _
    ·exact .undef
   ·exact .undef
  ·split
   ·split
    ·rename_i h; obtain ⟨rfl,rfl,rfl⟩:=h; cases b<;>exact .refl _
    ·exact .undef
   ·exact .undef
  ·split
   ·split
    ·rename_i h; obtain ⟨rfl,rfl⟩:=h; cases b<;>exact .refl _
    ·exact .undef
   ·exact .undef
  ·split
   ·split
    ·rename_i h; obtain ⟨rfl,rfl⟩:=h; cases b<;>exact .refl _
    ·exact .undef
   ·exact .undef
  ·split
   ·split
    ·rename_i h; subst h; cases b<;>exact .refl _
    ·exact .undef
   ·exact .undef
  ·split
   ·split
    ·rename_i h; subst h; cases b<;>exact .refl _
    ·exact .undef
   ·exact .undef
  ·split
   ·cases b<;>exact .refl _
   ·exact .undef
  ·split
   ·cases b<;>exact .refl _
   ·exact .undef
  ·split
   ·cases b<;>exact .refl _
   ·exact .undef
  ·split
   ·cases b<;>exact .refl _
   ·exact .undef
  ·split
   ·cases b<;>exact .refl _
   ·exact .undef
  ·split
   ·split
    ·rename_i t v _ t' v' h
     subst h
     have e:(bif b then EV.iface t v else EV.iface t v')=.iface t (bif b then v else v'):=by cases b<;>rfl
     rw [e]
     exact .iface (ih v v')
    ·exact .undef
   ·exact .undef
  ·split
   ·split
    ·rename_i xs k _ ys k' h
     obtain ⟨rfl,h⟩:=h
     obtain ⟨h1,h2⟩:=lst xs ys h
     have e:(bif b then EV.ip xs k else EV.ip ys k)=.ip (bif b then xs else ys) k:=by cases b<;>rfl
     rw [e]
     exact .ip h1 h2
    ·exact .undef
   ·exact .undef
  ·exact .undef
def Qy (b:Bool)(o o':EObj):EObj:=
 match o with
 | .var fr pf cells=>match o' with
  | .var fr' pf' cells'=>if fr=fr'/\cells.length=cells'.length then .var fr (pf && pf') (Kh (FY b 20) cells cells') else .dead
  | _=>.dead
 | .arr fr pf esz ex len row=>match o' with
  | .arr fr' pf' esz' ex' len' row'=>if fr=fr'/\esz=esz'/\ex=ex' then .arr fr (pf && pf') esz ex (bif b then len else len') (fun i=>bif b then row i else row' i) else .dead
  | _=>.dead
 | .map fr pf es=>match o' with
  | .map fr' pf' es'=>if fr=fr' then .map fr (pf && pf') (bif b then es else es') else .dead
  | _=>.dead
 | _=>.dead
theorem OLe.var2 {fr pf pf':Bool}{cells cells':List EV}(hl:cells'.length=cells.length)(hpf:pf'=true->pf=true)(h:∀ i (h1:i<cells.length) (h2:i<cells'.length),BLe cells[i] cells'[i]):OLe (.var fr pf cells) (.var fr pf' cells'):=by
 refine ⟨fun K w r ho=>?_,id,id⟩
 obtain ⟨h1,h2,c,e,q1,q2,q3,q4,q5,q6,q7⟩:=ho
 exact ⟨h1,h2,c,e,q1,by rw [q2,hl],q3,q4,q5,fun i a b=>(h i (by omega) a).v K w _ (q6 i (by omega) b),fun hp i a b=>(h i (by omega) a).p K.F w _ (q7 (hpf hp) i (by omega) b)⟩
theorem OLe.arr2 {fr pf pf' ex:Bool}{esz len:Nat}{row:Nat->List EV}(hpf:pf'=true->pf=true):OLe (.arr fr pf esz ex len row) (.arr fr pf' esz ex len row):=by
 refine ⟨fun K w r ho=>?_,id,id⟩
 obtain ⟨h1,h2,c,e,fz,q2,q3,q4,q5,q6,q7,q8,q9,q10,q11⟩:=ho
 exact ⟨h1,h2,c,e,fz,q2,q3,q4,q5,q6,q7,q8,q9,q10,fun hp=>q11 (hpf hp)⟩
theorem OLe.map2 {fr pf pf':Bool}{es:List (EV×EV)}(hpf:pf'=true->pf=true):OLe (.map fr pf es) (.map fr pf' es):=by
 refine ⟨fun K w r ho=>?_,id,id⟩
 obtain ⟨h1,mes,clock,q2,q3,q4,q5,q6,q7,q8⟩:=ho
 exact ⟨h1,mes,clock,q2,q3,q4,q5,q6,fun hp=>q7 (hpf hp),q8⟩
theorem Nm (b:Bool)(o o':EObj):OLe (bif b then o else o') (Qy b o o'):=by
 unfold Qy
 split
 ·split
  ·split
   ·rename_i fr pf cells _ fr' pf' cells' h
    obtain ⟨rfl,h⟩:=h
    obtain ⟨a,g⟩:=Mx (f:=FY b 20) h
    cases b with
    | true=>exact .var2 a (fun h=>by simp at h; exact h.1) fun i h1 h2=>by rw [g i h2 h1 (by omega)]; exact Iz true 20 cells[i] _
    | false=>exact .var2 (a.trans h) (fun h=>by simp at h; exact h.2) fun i h1 h2=>by rw [g i h2 (by omega) h1]; exact Iz false 20 _ cells'[i]
   ·exact .dead
  ·exact .dead
 ·split
  ·split
   ·rename_i h
    obtain ⟨rfl,rfl,rfl⟩:=h
    cases b with
    | true=>exact .arr2 fun h=>by simp at h; exact h.1
    | false=>exact .arr2 fun h=>by simp at h; exact h.2
   ·exact .dead
  ·exact .dead
 ·split
  ·split
   ·rename_i h
    subst h
    cases b with
    | true=>exact .map2 fun h=>by simp at h; exact h.1
    | false=>exact .map2 fun h=>by simp at h; exact h.2
   ·exact .dead
  ·exact .dead
 ·exact .dead
inductive It where
 | b (x:Bool)
 | i (x:Int)
 | n (x:Nat)
 | s (x:ByteArray)
 | r (x:Nat->List EV)
 | e (x:List (EV×EV))
abbrev Eqs:=List (It×It)
def Qz:Option Eqs->Option Eqs->Option Eqs
 | some a,some b=>some (a++b)
 | _,_=>none
def PO (f:EV->EV->Option Eqs):List EV->List EV->Option Eqs
 | [],[]=>some []
 | x :: xs,y :: ys=>Qz (f x y) (PO f xs ys)
 | _,_=>none
def eqV:Nat->EV->EV->Option Eqs
 | 0,_,_=>none
 | n+1,x,y=>
  match x with
  | .undef=>match y with
   | .undef=>some []
   | _=>none
  | .int k a=>match y with
   | .int k' a'=>if k=k' then some [(.i a,.i a')] else none
   | _=>none
  | .bool a=>match y with
   | .bool a'=>some [(.b a,.b a')]
   | _=>none
  | .str a=>match y with
   | .str a'=>some [(.s a,.s a')]
   | _=>none
  | .isl nn esz len row=>match y with
   | .isl nn' esz' len' row'=>if esz=esz' then some [(.b nn,.b nn'),(.n len,.n len'),(.r row,.r row')] else none
   | _=>none
  | .agg xs=>match y with
   | .agg ys=>PO (eqV n) xs ys
   | _=>none
  | .tuple xs=>match y with
   | .tuple ys=>PO (eqV n) xs ys
   | _=>none
  | .ptr r k=>match y with
   | .ptr r' k'=>if r=r'/\k=k' then some [] else none
   | _=>none
  | .pe r esz i k=>match y with
   | .pe r' esz' i' k'=>if r=r'/\esz=esz'/\k=k' then some [(.n i,.n i')] else none
   | _=>none
  | .ms r esz off len none=>match y with
   | .ms r' esz' off' len' none=>if r=r'/\esz=esz' then some [(.n off,.n off'),(.n len,.n len')] else none
   | _=>none
  | .ms r esz off len (some c)=>match y with
   | .ms r' esz' off' len' (some c')=>if r=r'/\esz=esz' then some [(.n off,.n off'),(.n len,.n len'),(.n c,.n c')] else none
   | _=>none
  | .mm r=>match y with
   | .mm r'=>if r=r' then some [] else none
   | _=>none
  | .it r=>match y with
   | .it r'=>if r=r' then some [] else none
   | _=>none
  | .nilp=>match y with
   | .nilp=>some []
   | _=>none
  | .nilm=>match y with
   | .nilm=>some []
   | _=>none
  | .nilf=>match y with
   | .nilf=>some []
   | _=>none
  | .nili=>match y with
   | .nili=>some []
   | _=>none
  | .im es=>match y with
   | .im es'=>some [(.e es,.e es')]
   | _=>none
  | .iface t v=>match y with
   | .iface t' v'=>if t=t' then eqV n v v' else none
   | _=>none
  | .ip xs k=>match y with
   | .ip ys k'=>if k=k' then PO (eqV n) xs ys else none
   | _=>none
  | .func (.func f) xs zs=>match y with
   | .func (.func f') ys us=>if f=f' then Qz (PO (eqV n) xs ys) (PO (eqV n) zs us) else none
   | _=>none
  | _=>none
def Holds (q:Eqs):Prop:=∀ p∈q,p.1=p.2
theorem Ki {x y:Option Eqs}{q:Eqs}(h:Qz x y=some q)(hq:Holds q):∃ a b,x=some a/\y=some b/\Holds a/\Holds b:=by
 unfold Qz at h
 split at h
 ·rename_i a b
  obtain rfl:=Option.some.inj h
  exact ⟨a,b,rfl,rfl,fun p hp=>hq p (List.mem_append_left _ hp),fun p hp=>hq p (List.mem_append_right _ hp)⟩
 ·cases h
theorem IG {f:EV->EV->Option Eqs}(hf:∀ x y q,f x y=some q->Holds q->x=y):∀ {xs ys:List EV} {q:Eqs},PO f xs ys=some q->Holds q->xs=ys
 | [],[],_,_,_=>rfl
 | x :: xs,y :: ys,q,h,hq=>by
  unfold PO at h
  obtain ⟨a,b,h1,h2,h3,h4⟩:=Ki h hq
  rw [hf x y a h1 h3,IG hf h2 h4]
 | [],_ :: _,_,h,_=>by cases h
 | _ :: _,[],_,h,_=>by cases h
theorem Holds.at {q:Eqs}(h:Holds q){x y:It}(hm:(x,y)∈q):x=y:=h _ hm
theorem UQ:∀ (n:Nat) (x y:EV) (q:Eqs),eqV n x y=some q->Holds q->x=y:=by
 intro n
 induction n with
 | zero=>intro x y q h; cases h
 | succ n ih=>
  intro x y q h hq
  unfold eqV at h
  have one:∀ {a b:It},some [(a,b)]=some q->a=b:=fun h=>by
   obtain rfl:=Option.some.inj h
   exact hq.at (List.mem_cons_self ..)
  split at h
  ·split at h
   ·rfl
   ·cases h
  ·split at h
   ·split at h
    ·rename_i hk; subst hk; rw [It.i.inj (one h)]
    ·cases h
   ·cases h
  ·split at h
   ·rw [It.b.inj (one h)]
   ·cases h
  ·split at h
   ·rw [It.s.inj (one h)]
   ·cases h
  ·split at h
   ·split at h
    ·rename_i nn esz len row _ nn' esz' len' row' hk
     subst hk
     obtain rfl:=Option.some.inj h
     rw [It.b.inj (hq.at (x:=.b nn) (y:=.b nn') (List.mem_cons_self ..)),It.n.inj (hq.at (x:=.n len) (y:=.n len') (List.mem_cons_of_mem _ (List.mem_cons_self ..))),It.r.inj (hq.at (x:=.r row) (y:=.r row') (List.mem_cons_of_mem _ (List.mem_cons_of_mem _ (List.mem_cons_self ..))))]
    ·cases h
   ·cases h
  ·split at h
   ·rw [IG ih h hq]
   ·cases h
  ·split at h
   ·rw [IG ih h hq]
   ·cases h
  ·split at h
   ·split at h
    ·rename_i hk; obtain ⟨rfl,rfl⟩:=hk; rfl
    ·cases h
   ·cases h
  ·split at h
   ·split at h
    ·rename_i hk; obtain ⟨rfl,rfl,rfl⟩:=hk; rw [It.n.inj (one h)]
    ·cases h
   ·cases h
  ·split at h
   ·split at h
    ·rename_i r esz off len _ r' esz' off' len' hk
     obtain ⟨rfl,rfl⟩:=hk
     obtain rfl:=Option.some.inj h
     rw [It.n.inj (hq.at (x:=.n off) (y:=.n off') (List.mem_cons_self ..)),It.n.inj (hq.at (x:=.n len) (y:=.n len') (List.mem_cons_of_mem _ (List.mem_cons_self ..)))]
    ·cases h
   ·cases h
  ·split at h
   ·split at h
    ·rename_i r esz off len c _ r' esz' off' len' c' hk
     obtain ⟨rfl,rfl⟩:=hk
     obtain rfl:=Option.some.inj h
     rw [It.n.inj (hq.at (x:=.n off) (y:=.n off') (List.mem_cons_self ..)),It.n.inj (hq.at (x:=.n len) (y:=.n len') (List.mem_cons_of_mem _ (List.mem_cons_self ..))),It.n.inj (hq.at (x:=.n c) (y:=.n c') (List.mem_cons_of_mem _ (List.mem_cons_of_mem _ (List.mem_cons_self ..))))]
    ·cases h
   ·cases h
  ·split at h
   ·split at h
    ·rename_i hk; rw [hk]
    ·cases h
   ·cases h
  ·split at h
   ·split at h
    ·rename_i hk; rw [hk]
    ·cases h
   ·cases h
  ·split at h
   ·rfl
   ·cases h
  ·split at h
   ·rfl
   ·cases h
  ·split at h
   ·rfl
   ·cases h
  ·split at h
   ·rfl
   ·cases h
  ·split at h
   ·rw [It.e.inj (one h)]
   ·cases h
  ·split at h
   ·split at h
    ·rename_i hk; rw [hk,ih _ _ _ h hq]
    ·cases h
   ·cases h
  ·split at h
   ·split at h
    ·rename_i hk; rw [hk,IG ih h hq]
    ·cases h
   ·cases h
  ·split at h
   ·split at h
    ·rename_i hk
     obtain ⟨a,b,h1,h2,h3,h4⟩:=Ki h hq
     rw [hk,IG ih h1 h3,IG ih h2 h4]
    ·cases h
   ·cases h
  ·cases h
def eqO (o o':EObj):Option Eqs:=
 match o with
 | .var fr pf cells=>match o' with
  | .var fr' pf' cells'=>if fr=fr'/\pf=pf' then PO (eqV 20) cells cells' else none
  | _=>none
 | .arr fr pf esz ex len row=>match o' with
  | .arr fr' pf' esz' ex' len' row'=>if fr=fr'/\pf=pf'/\esz=esz'/\ex=ex' then some [(.n len,.n len'),(.r row,.r row')] else none
  | _=>none
 | .map fr pf es=>match o' with
  | .map fr' pf' es'=>if fr=fr'/\pf=pf' then some [(.e es,.e es')] else none
  | _=>none
 | .free=>match o' with
  | .free=>some []
  | _=>none
 | .dead=>match o' with
  | .dead=>some []
  | _=>none
 | _=>none
theorem YV {o o':EObj}{q:Eqs}(h:eqO o o'=some q)(hq:Holds q):o=o':=by
 unfold eqO at h
 split at h
 ·split at h
  ·split at h
   ·rename_i hk; obtain ⟨rfl,rfl⟩:=hk; rw [IG (UQ 20) h hq]
   ·cases h
  ·cases h
 ·split at h
  ·split at h
   ·rename_i hk
    obtain ⟨rfl,rfl,rfl,rfl⟩:=hk
    rename_i len row _ len' row'
    obtain rfl:=Option.some.inj h
    rw [It.n.inj (hq.at (x:=.n len) (y:=.n len') (List.mem_cons_self ..)),It.r.inj (hq.at (x:=.r row) (y:=.r row') (List.mem_cons_of_mem _ (List.mem_cons_self ..)))]
   ·cases h
  ·cases h
 ·split at h
  ·split at h
   ·rename_i es _ _ _ es' hk
    obtain ⟨rfl,rfl⟩:=hk
    obtain rfl:=Option.some.inj h
    rw [It.e.inj (hq.at (x:=.e es) (y:=.e es') (List.mem_cons_self ..))]
   ·cases h
  ·cases h
 ·split at h
  ·rfl
  ·cases h
 ·split at h
  ·rfl
  ·cases h
 ·cases h
def PQ (b:Bool)(mt st:Nat):Nat->List EV->List EV->List EV
 | i,x :: xs,y :: ys=>(bif mt.testBit i then FY b 20 x y else bif st.testBit i then x else .undef) :: PQ b mt st (i+1) xs ys
 | _,_,_=>[]
def Pz (st:Nat):Nat->List EV->List EV->Option Eqs
 | i,x :: xs,y :: ys=>bif st.testBit i then Qz (eqV 20 x y) (Pz st (i+1) xs ys) else Pz st (i+1) xs ys
 | _,_,_=>some []
def PS (b:Bool)(mt st:Nat):Nat->AL->AL->AL
 | i,x :: xs,y :: ys=>(bif mt.testBit i then Qy b x y else bif st.testBit i then x else .dead) :: PS b mt st (i+1) xs ys
 | _,_,_=>[]
def P0 (st:Nat):Nat->AL->AL->Option Eqs
 | i,x :: xs,y :: ys=>bif st.testBit i then Qz (eqO x y) (P0 st (i+1) xs ys) else P0 st (i+1) xs ys
 | _,_,_=>some []
theorem K9 (b:Bool)(mt st:Nat):∀ (i:Nat) (xs ys:List EV) (q:Eqs),xs.length=ys.length->Pz st i xs ys=some q->Holds q->VLes (bif b then xs else ys) (PQ b mt st i xs ys)
 | i,[],[],_,_,_,_=>by cases b<;>exact .nil
 | i,x :: xs,y :: ys,q,hl,h,hq=>by
  have hl':xs.length=ys.length:=by simpa using hl
  have e:(bif b then x :: xs else y :: ys)=(bif b then x else y) :: (bif b then xs else ys):=by cases b<;>rfl
  rw [e]
  unfold PQ
  unfold Pz at h
  cases hs:st.testBit i with
  | true=>
   rw [hs] at h
   obtain ⟨q1,q2,h1,h2,h3,h4⟩:=Ki h hq
   refine .cons ?_ (K9 b mt st (i+1) xs ys q2 hl' h2 h4)
   cases hm:mt.testBit i with
   | true=>exact (Iz b 20 x y).v
   | false=>
    obtain rfl:=UQ 20 x y q1 h1 h3
    cases b<;>exact VLe.refl _
  | false=>
   rw [hs] at h
   refine .cons ?_ (K9 b mt st (i+1) xs ys q hl' h hq)
   cases hm:mt.testBit i with
   | true=>exact (Iz b 20 x y).v
   | false=>exact VLe.undef
 | i,[],_ :: _,_,hl,_,_=>by simp at hl
 | i,_ :: _,[],_,hl,_,_=>by simp at hl
theorem LA (b:Bool)(mt st:Nat):∀ (i:Nat) (xs ys:AL) (q:Eqs),xs.length=ys.length->P0 st i xs ys=some q->Holds q->HLe (bif b then xs else ys) (PS b mt st i xs ys)
 | i,[],[],_,_,_,_=>by cases b<;>exact .nil
 | i,x :: xs,y :: ys,q,hl,h,hq=>by
  have hl':xs.length=ys.length:=by simpa using hl
  have e:(bif b then x :: xs else y :: ys)=(bif b then x else y) :: (bif b then xs else ys):=by cases b<;>rfl
  rw [e]
  unfold PS
  unfold P0 at h
  cases hs:st.testBit i with
  | true=>
   rw [hs] at h
   obtain ⟨q1,q2,h1,h2,h3,h4⟩:=Ki h hq
   refine .cons ?_ (LA b mt st (i+1) xs ys q2 hl' h2 h4)
   cases hm:mt.testBit i with
   | true=>exact Nm b x y
   | false=>
    obtain rfl:=YV h1 h3
    cases b<;>exact OLe.refl _
  | false=>
   rw [hs] at h
   refine .cons ?_ (LA b mt st (i+1) xs ys q hl' h hq)
   cases hm:mt.testBit i with
   | true=>exact Nm b x y
   | false=>exact OLe.dead
 | i,[],_ :: _,_,hl,_,_=>by simp at hl
 | i,_ :: _,[],_,hl,_,_=>by simp at hl
def padH (h:AL)(n:Nat):AL:=h++List.replicate (n - h.length) .dead
theorem Ik {h:AL}{n r:Nat}{o:EObj}(hg:(padH h n)[r]? =some o):h[r]? =some o∨o=.dead:=by
 unfold padH at hg
 by_cases hr:r<h.length
 ·rw [List.getElem?_append_left hr] at hg; exact .inl hg
 ·rw [List.getElem?_append_right (by omega)] at hg
  exact .inr (List.eq_of_mem_replicate (List.mem_of_getElem? hg))
theorem J1 {K:KM}{h:AL}{n b:Nat}(ho:Owned K (padH h n) b):Owned K h b:=by
 obtain ⟨r,o,h1,h2,h3⟩:=ho
 rcases Ik h1 with h1 | rfl
 ·exact ⟨r,o,h1,h2,h3⟩
 ·cases h2
theorem Kj (h:AL)(n:Nat):(padH h n).length=max h.length n:=by
 simp [padH]; omega
theorem Rel.padH {K:KM}{σ:AL}{w:World}(n:Nat)(h:Rel K σ w):Rel K (padH σ n) w:=by
 refine ⟨fun r o hg=>?_,fun r r' o o' h1 h2 l1 l2 hb=>?_,fun b ho=>h.notF b (J1 ho),fun r o hg ht=>?_,h.Flt,fun r ha=>?_⟩
 ·rcases Ik hg with hg | rfl
  ·exact h.obj r o hg
  ·trivial
 ·rcases Ik h1 with h1 | rfl
  ·rcases Ik h2 with h2 | rfl
   ·exact h.inj r r' o o' h1 h2 l1 l2 hb
   ·cases l2
  ·cases l1
 ·rcases Ik hg with hg | rfl
  ·exact h.lt r o hg ht
  ·cases ht
 ·have:=h.alt r ha
  rw [Kj]
  omega
theorem PostC.pad {K:KM}{σ:AL}{w:World}{ds:List Deferred}{ex:EX}{t:List EV}{σ2:AL}(n:Nat){e:Exit}{a:Act}{w':World}
  (h:PostC K σ w ds (ex,t,σ2) e a w'):PostC K σ w ds (ex,t,padH σ2 n) e a w':=by
 have main:(∃ K' bs,Ext K σ w K' σ2 w'/\Rel K' σ2 w'/\VRs K' w' t a.tmps/\Marks K' σ2 w w' ds a.defers bs)->∃ K' bs,Ext K σ w K' (padH σ2 n) w'/\Rel K' (padH σ2 n) w'/\VRs K' w' t a.tmps/\Marks K' (padH σ2 n) w w' ds a.defers bs:=by
  rintro ⟨K',bs,h3,h4,h5,h6,h7,h8⟩
  exact ⟨K',bs,⟨by rw [Kj]; have:=h3.len; omega,h3.al,h3.blk,h3.F,h3.F',fun b hb=>h3.own b (J1 hb),h3.stay,h3.size,h3.os,h3.tape,h3.output⟩,h4.padH n,h5,h6,h7,fun b hb=>let ⟨x,y,z,u⟩:=h8 b hb; ⟨x,y,fun ho=>z (J1 ho),u⟩⟩
 cases e with
 | outgrown=>exact h.elim
 | normal=>exact ⟨h.1,main h.2⟩
 | exit i=>exact ⟨h.1,main h.2⟩
 | goto l=>exact ⟨h.1,main h.2⟩
 | ret=>exact ⟨h.1,main h.2⟩
 | panic c=>exact ⟨h.1,main h.2⟩
theorem SemCL.pad {P:Program}{G:Nat->Option (List EV)}{rnd:Bool}{c:Code}{t t':List EV}{σ σ':AL}{ex:EX}(n:Nat)(h:SemCL P G rnd c t σ (ex,t',σ')):SemCL P G rnd c t σ (ex,t',padH σ' n):=
 ⟨fun ro K w a hro hR hG hv=>wpIn_mono (h.1 ro K w a hro hR hG hv) fun _ _ _ hp=>hp.pad n,
 fun b hb ro K w a hro hR hG hv=>Ii (h.2 b hb ro K w a hro hR hG hv) fun _ _ _ hp=>hp.pad n⟩
def PT:EX->EX->Bool
 | .normal,.normal=>true
 | .leave i,.leave j=>Nat.beq i j
 | .ret,.ret=>true
 | _,_=>false
theorem SM {a b:EX}(h:PT a b=true):a=b:=by
 unfold PT at h
 split at h
 ·rfl
 ·rw [Nat.eq_of_beq_eq_true h]
 ·rfl
 ·cases h
abbrev RC:=EX×List EV×AL
def Q0 (b:Bool)(mt st mh sh:Nat)(r1 r2:RC):Option (RC×Eqs):=
 match r1,r2 with
 | (e1,t1,h1),(e2,t2,h2)=>
  bif PT e1 e2 && Nat.beq t1.length t2.length then
   match Qz (Pz st 0 t1 t2) (P0 sh 0 (padH h1 h2.length) (padH h2 h1.length)) with
   | some q=>some ((e1,PQ b mt st 0 t1 t2,PS b mh sh 0 (padH h1 h2.length) (padH h2 h1.length)),q)
   | none=>none
  else none
theorem SN {P:Program}{G:Nat->Option (List EV)}{rnd:Bool}{c:Code}{t:List EV}{σ:AL}{b:Bool}{mt st mh sh:Nat}{r1 r2 r:RC}{q:Eqs}(hm:Q0 b mt st mh sh r1 r2=some (r,q))(hq:∀ p∈q,p.1=p.2)
  (h1:b=true->SemCL P G rnd c t σ r1) (h2:b=false->SemCL P G rnd c t σ r2):SemCL P G rnd c t σ r:=by
 obtain ⟨e1,t1,s1⟩:=r1
 obtain ⟨e2,t2,s2⟩:=r2
 dsimp only [Q0] at hm
 cases hc:(PT e1 e2 && Nat.beq t1.length t2.length) with
 | false=>rw [hc] at hm; cases hm
 | true=>
  rw [hc] at hm
  simp only [cond_true] at hm
  split at hm
  rotate_left
  ·cases hm
  rename_i q' hcq
  simp only [Option.some.injEq,Prod.mk.injEq] at hm
  obtain ⟨rfl,rfl⟩:=hm
  obtain ⟨q1,q2,g1,g2,g3,g4⟩:=Ki hcq hq
  simp only [Bool.and_eq_true] at hc
  obtain ⟨hc1,hc2⟩:=hc
  obtain rfl:=SM hc1
  have hlt:=K9 b mt st 0 t1 t2 q1 (Nat.eq_of_beq_eq_true hc2) g1 g3
  have hlh:=LA b mh sh 0 (padH s1 s2.length) (padH s2 s1.length) q2 (by rw [Kj,Kj]; omega) g2 g4
  cases b with
  | true=>exact ((h1 rfl).pad s2.length).weaken (VLes.refl _) (HLe.refl _) hlt hlh
  | false=>exact ((h2 rfl).pad s1.length).weaken (VLes.refl _) (HLe.refl _) hlt hlh
def My (m:Nat):Nat->AL->AL
 | _,[]=>[]
 | i,o :: l=>(bif m.testBit i then o else .dead) :: My m (i+1) l
theorem HG (m:Nat):∀ (i:Nat) (l:AL),HLe l (My m i l)
 | _,[]=>.nil
 | i,o :: l=>by
  refine .cons ?_ (HG m (i+1) l)
  cases m.testBit i with
  | true=>exact OLe.refl _
  | false=>exact OLe.dead
inductive Q where
 | dec (d:Bool)
 | kn (l k:Nat)
 | no
mutual
inductive PcE where
 | is (m mh:Nat) (r:RC)
 | fork (new b:Bool) (mt st mh sh:Nat) (s1 s2:Scr)
inductive Scr where
 | mk (qs:List (Nat×Q)) (cs:List (Nat×PcE)) (ps:List (Option EV)) (gs:List (Option (EV×AL))) (fs:List (Option (Option (Nat×EV))))
end
structure FkS where
 qs:List (Nat×Q)
 cs:List (Nat×PcE)
 ps:List (Option EV)
 gs:List (Option (EV×AL))
 fs:List (Option (Option (Nat×EV)))
 eqs:Eqs
 owed:List Prop
def Scr.start:Scr->FkS
 | .mk qs cs ps gs fs=>⟨qs,cs,ps,gs,fs,[],[]⟩
def AllP:List Prop->Prop
 | []=>True
 | p :: l=>p/\AllP l
theorem AllP.nil:AllP []:=trivial
theorem AllP.cons {p:Prop}{l:List Prop}(h:p)(t:AllP l):AllP (p :: l):=⟨h,t⟩
theorem ME {a b:List Prop}(h:AllP (a++b)):AllP a/\AllP b:=by
 induction a with
 | nil=>exact ⟨trivial,h⟩
 | cons p l ih=>exact ⟨⟨h.1,(ih h.2).1⟩,(ih h.2).2⟩
def Va (p:Prop):List Prop->List Prop
 | []=>[]
 | q :: l=>(p->q) :: Va p l
theorem P1 {p:Prop}{l:List Prop}(h:AllP (Va p l))(hp:p):AllP l:=by
 induction l with
 | nil=>trivial
 | cons q l ih=>exact ⟨h.1 hp,ih h.2⟩
def FkS.V (s:FkS):Prop:=(∀ p∈s.eqs,p.1=p.2)/\AllP s.owed
abbrev DD:=List (List (Bool×Bool))
def SO {α:Type}:List α->Nat->Option α
 | [],_=>none
 | p :: l,k=>match k with
  | 0=>some p
  | k+1=>SO l k
theorem P2 {α:Type}{F:List α}:∀ {k:Nat} {p:α},SO F k=some p->p∈F:=by
 induction F with
 | nil=>intro k p hg; simp [SO] at hg
 | cons q l ih=>
  intro k p hg
  cases k with
  | zero=>simp only [SO,Option.some.injEq] at hg; subst hg; exact List.mem_cons_self ..
  | succ k=>exact List.mem_cons_of_mem _ (ih hg)
def YW (F:DD)(l k:Nat):Option (Bool×Bool):=
 match SO F l with
 | some v=>SO v k
 | none=>none
def KOk (F:DD):Prop:=∀ v∈F,∀ p∈v,p.1=p.2
theorem Vb {F:DD}(h:KOk F){l k:Nat}{p:Bool×Bool}(hg:YW F l k=some p):p.1=p.2:=by
 unfold YW at hg
 split at hg
 ·rename_i v hv
  exact h v (P2 hv) p (P2 hg)
 ·cases hg
def Rc (new:Bool)(F:DD)(b d:Bool):DD:=
 match new with
 | true=>[(b,d)] :: F
 | false=>match F with
  | []=>[[(b,d)]]
  | v :: F=>(v++[(b,d)]) :: F
theorem KOk.push {F:DD}{b d:Bool}(new:Bool)(h:KOk F)(hb:b=d):KOk (Rc new F b d):=by
 have one:∀ p∈[(b,d)],p.1=p.2:=by
  intro p hp
  simp only [List.mem_singleton] at hp
  subst hp
  exact hb
 cases new with
 | true=>
  intro v hv
  rcases List.mem_cons.1 hv with rfl | hv
  ·exact one
  ·exact h v hv
 | false=>
  cases F with
  | nil=>intro v hv; simp only [Rc,List.mem_singleton] at hv; subst hv; exact one
  | cons u F=>
   intro v hv
   rcases List.mem_cons.1 hv with rfl | hv
   ·intro p hp
    rcases List.mem_append.1 hp with hp | hp
    ·exact h u (List.mem_cons_self ..) p hp
    ·exact one p hp
   ·exact h v (List.mem_cons_of_mem _ hv)
theorem KOk.nil:KOk []:=fun p h=>by cases h
theorem KOk.one {v:List (Bool×Bool)}(h:∀ p∈v,p.1=p.2):KOk [v]:=by
 intro u hu
 simp only [List.mem_singleton] at hu
 subst hu
 exact h
theorem AD:∀ p∈([]:List (Bool×Bool)),p.1=p.2:=fun p h=>by cases h
theorem X5 {v:List (Bool×Bool)}{b d:Bool}(hb:b=d)(h:∀ p∈v,p.1=p.2):∀ p∈(b,d) :: v,p.1=p.2:=by
 intro p hp
 rcases List.mem_cons.1 hp with rfl | hp
 ·exact hb
 ·exact h p hp
def UR (F:DD)(b:Bool)(q:Q)(t:List (Nat×Q)):M FkS Bool:=fun s=>
 match q with
 | .dec d=>some (d,{ s with qs:=t,owed:=(b=d) :: s.owed })
 | .kn l k=>match YW F l k with
  | some (b',d)=>some (d,{ s with qs:=t,eqs:=(.b b,.b b') :: s.eqs })
  | none=>none
 | .no=>none
theorem PU {F:DD}(hF:KOk F)(b:Bool)(q:Q)(t:List (Nat×Q)):Ok FkS.V (UR F b q t) fun d=>d=b:=by
 intro s d s' h hv
 unfold UR at h
 split at h
 ·simp only [Option.some.injEq,Prod.mk.injEq] at h; obtain ⟨rfl,rfl⟩:=h; exact ⟨⟨hv.1,hv.2.2⟩,hv.2.1.symm⟩
 ·split at h
  ·rename_i b' d' hg
   simp only [Option.some.injEq,Prod.mk.injEq] at h
   obtain ⟨rfl,rfl⟩:=h
   have h1:=hv.1 _ (List.mem_cons_self ..)
   have h2:b=b':=It.b.inj h1
   have h3:=Vb hF hg
   simp only at h3
   exact ⟨⟨fun p hp=>hv.1 p (List.mem_cons_of_mem _ hp),hv.2⟩,by rw [h2,h3]⟩
  ·cases h
 ·cases h
def PV (F:DD)(b:Bool):M FkS Bool:=fun s=>
 match s.qs with
 | []=>some (b,s)
 | (0,q) :: t=>UR F b q t s
 | (n+1,q) :: t=>some (b,{ s with qs:=(n,q) :: t })
def MR (F:DD)(b:Bool):M FkS Unit:=fun s=>
 match s.qs with
 | []=>if b then some ((),s) else none
 | (0,q) :: t=>match UR F b q t s with
  | some (true,s')=>some ((),s')
  | _=>none
 | (n+1,q) :: t=>if b then some ((),{ s with qs:=(n,q) :: t }) else none
def PW (F:DD)(b:Bool):M FkS Bool:=fun s=>
 match s.qs with
 | []=>some (b,s)
 | (0,.no) :: t=>some (false,{ s with qs:=t })
 | (0,q) :: t=>UR F b q t s
 | (n+1,q) :: t=>some (b,{ s with qs:=(n,q) :: t })
theorem Nn {F:DD}(hF:KOk F)(b:Bool):Ok FkS.V (PV F b) fun d=>d=b:=by
 intro s d s' h hv
 unfold PV at h
 split at h
 ·simp only [Option.some.injEq,Prod.mk.injEq] at h; obtain ⟨rfl,rfl⟩:=h; exact ⟨hv,rfl⟩
 ·exact PU hF b _ _ _ _ _ h hv
 ·simp only [Option.some.injEq,Prod.mk.injEq] at h; obtain ⟨rfl,rfl⟩:=h; exact ⟨hv,rfl⟩
theorem Mz {F:DD}(hF:KOk F)(b:Bool):Ok FkS.V (MR F b) fun _=>b=true:=by
 intro s d s' h hv
 unfold MR at h
 split at h
 ·split at h
  ·simp only [Option.some.injEq,Prod.mk.injEq] at h; obtain ⟨_,rfl⟩:=h; exact ⟨hv,‹_›⟩
  ·cases h
 ·split at h
  ·rename_i s2 hs
   simp only [Option.some.injEq,Prod.mk.injEq] at h
   obtain ⟨_,rfl⟩:=h
   have:=PU hF b _ _ _ _ _ hs hv
   exact ⟨this.1,this.2.symm⟩
  ·cases h
 ·split at h
  ·simp only [Option.some.injEq,Prod.mk.injEq] at h; obtain ⟨_,rfl⟩:=h; exact ⟨hv,‹_›⟩
  ·cases h
theorem No {F:DD}(hF:KOk F)(b:Bool):Ok FkS.V (PW F b) fun d=>d=true->b=true:=by
 intro s d s' h hv
 unfold PW at h
 split at h
 ·simp only [Option.some.injEq,Prod.mk.injEq] at h; obtain ⟨rfl,rfl⟩:=h; exact ⟨hv,id⟩
 ·simp only [Option.some.injEq,Prod.mk.injEq] at h; obtain ⟨rfl,rfl⟩:=h; exact ⟨hv,fun h=>by cases h⟩
 ·have:=PU hF b _ _ _ _ _ h hv
  exact ⟨this.1,fun hd=>by rw [<-this.2]; exact hd⟩
 ·simp only [Option.some.injEq,Prod.mk.injEq] at h; obtain ⟨rfl,rfl⟩:=h; exact ⟨hv,id⟩
def Kl (P:Program)(kt:Go.TypeId)(k:EV)(es:List (EV×EV)):M FkS (Option (Option (Nat×EV))):=fun s=>
 match s.fs with
 | []=>some (none,s)
 | some r :: t=>some (some r,{ s with fs:=t,owed:=Ai P kt k es 0 r :: s.owed })
 | none :: t=>some (none,{ s with fs:=t })
theorem MF {P:Program}(kt:Go.TypeId)(k:EV)(es:List (EV×EV)):Ok FkS.V (Kl P kt k es) fun o=>∀ r,o=some r->Ai P kt k es 0 r:=by
 intro s d s' h hv
 unfold Kl at h
 split at h
 ·simp only [Option.some.injEq,Prod.mk.injEq] at h; obtain ⟨rfl,rfl⟩:=h; exact ⟨hv,fun r h=>by cases h⟩
 ·simp only [Option.some.injEq,Prod.mk.injEq] at h; obtain ⟨rfl,rfl⟩:=h; exact ⟨⟨hv.1,hv.2.2⟩,fun r h=>by obtain rfl:=Option.some.inj h; exact hv.2.1⟩
 ·simp only [Option.some.injEq,Prod.mk.injEq] at h; obtain ⟨rfl,rfl⟩:=h; exact ⟨hv,fun r h=>by cases h⟩
def Rd (b:Bool)(mt st mh sh:Nat)(q1 q2:Option (RC×FkS))(t:List (Nat×PcE)):M FkS (Option RC):=fun s=>
 match q1 with
 | none=>none
 | some (r1,u1)=>match q2 with
  | none=>none
  | some (r2,u2)=>match Q0 b mt st mh sh r1 r2 with
   | none=>none
   | some (r,q)=>some (some r,{ s with cs:=t,eqs:=u1.eqs++(u2.eqs++(q++s.eqs)),owed:=Va (b=true) u1.owed++(Va (b=false) u2.owed++s.owed) })
noncomputable def BE (P:Program)(G:Nat->Option (List EV))(modes news:FuncId->Bool):Nat->DD->Drv FkS
 | 0,F=>{
   br:=PV F,chk:=MR F,nw:=PW F,mode:=fun f=>pure (modes f),fresh:=fun f=>pure (news f),room:=fun b=>pure (if b || news 0 then 3 else 0),keep:=pure,find:=Kl P,piece:=fun _ _ _ _=>M.fail
   pcall:=fun _ _=>M.fail
   gcall:=fun _ _ _=>M.fail
   round:=fun _ _ _=>M.fail }
 | n+1,F=>{
   br:=PV F,chk:=MR F,nw:=PW F,mode:=fun f=>pure (modes f),fresh:=fun f=>pure (news f),room:=fun b=>pure (if b || news 0 then 3 else 0),keep:=pure,find:=Kl P
   piece:=fun rnd c tmps σ s=>
    match s.cs with
    | []=>some (none,s)
    | (0,.is m mh r) :: t=>some (some r,{ s with cs:=t,owed:=SemCL P G rnd c (Nj m 0 tmps) (My mh 0 σ) r :: s.owed })
    | (0,.fork new b mt st mh sh s1 s2) :: t=>
     Rd b mt st mh sh (Bu (BE P G modes news n (Rc new F b true)) P G rnd 100000 c tmps σ s1.start) (Bu (BE P G modes news n (Rc new F b false)) P G rnd 100000 c tmps σ s2.start) t s
    | (m+1,e) :: t=>some (none,{ s with cs:=(m,e) :: t })
   pcall:=fun f args s=>match s.ps with
    | some v :: t=>some (v,{ s with ps:=t,owed:=SemP P G f args v :: s.owed })
    | none :: t=>if CW P f then FN (BE P G modes news n F) P G 100000 f args { s with ps:=t } else none
    | []=>if CW P f then FN (BE P G modes news n F) P G 100000 f args s else none
   gcall:=fun f args σ s=>match s.gs with
    | some v :: t=>some (v,{ s with gs:=t,owed:=SemF P G f args σ v.1 v.2 :: s.owed })
    | none :: t=>if CW P f then HO (BE P G modes news n F) P G 100000 f args σ { s with gs:=t } else none
    | []=>if CW P f then HO (BE P G modes news n F) P G 100000 f args σ s else none
   round:=fun c t σ=>Bu (BE P G modes news n F) P G true 100000 c t σ }
theorem Hk {P:Program}(G:Nat->Option (List EV))(modes news:FuncId->Bool)(hm:P.follows .mixedOrders=true):∀ n F,KOk F->DOk FkS.V P G (BE P G modes news n F):=by
 intro n
 induction n with
 | zero=>
  intro F hF
  exact { br:=Nn hF,chk:=Mz hF,nw:=No hF,mode:=fun f=>Ok.pure trivial,fresh:=fun f=>Ok.pure trivial,room:=fun _=>Ok.pure trivial,keep:=fun q=>Ok.pure rfl,find:=MF,piece:=fun _ _ _ _=>Ok.fail,pcall:=fun _ _=>Ok.fail,gcall:=fun _ _ _=>Ok.fail,round:=fun c t σ=>Ok.fail }
 | succ n ih=>
  intro F hF
  refine { br:=Nn hF,chk:=Mz hF,nw:=No hF,mode:=fun f=>Ok.pure trivial,fresh:=fun f=>Ok.pure trivial,room:=fun _=>Ok.pure trivial,keep:=fun q=>Ok.pure rfl,find:=MF,piece:=fun rnd c tmps σ s o s' h hv=>?_,pcall:=fun f args s v s' h hv=>?_,gcall:=fun f args σ s v s' h hv=>?_,round:=fun c t σ=>(ES (ih F hF) hm true 100000 c t σ).mono fun r h=>h.1 }
  ·unfold BE at h
   dsimp only at h
   split at h
   ·simp only [Option.some.injEq,Prod.mk.injEq] at h; obtain ⟨rfl,rfl⟩:=h; exact ⟨⟨hv.1,hv.2.2⟩,hv.2.1⟩
   ·obtain ⟨he,h⟩:=HV (V:=FkS.V) h
    have r:=Ix (s:=_) (ih F hF) hm he h hv
    exact ⟨r.1,r.2⟩
   ·obtain ⟨he,h⟩:=HV (V:=FkS.V) h
    have r:=Ix (s:=_) (ih F hF) hm he h hv
    exact ⟨r.1,r.2⟩
  ·unfold BE at h
   dsimp only at h
   split at h
   ·simp only [Option.some.injEq,Prod.mk.injEq] at h; obtain ⟨rfl,rfl⟩:=h; exact ⟨⟨hv.1,hv.2.2⟩,hv.2.1⟩
   ·obtain ⟨he,h⟩:=HV (V:=FkS.V) h
    obtain ⟨x,y⟩:=v
    have:=Iw (ih F hF) hm he h hv
    have hv0:=(MQ (ih F hF) hm 100000 f args σ _ _ _ h hv).1
    exact ⟨hv0,this⟩
   ·obtain ⟨he,h⟩:=HV (V:=FkS.V) h
    obtain ⟨x,y⟩:=v
    have:=Iw (ih F hF) hm he h hv
    have hv0:=(MQ (ih F hF) hm 100000 f args σ _ _ _ h hv).1
    exact ⟨hv0,this⟩
  ·unfold BE at h
   dsimp only at h
   split at h
   ·simp only [Option.some.injEq,Prod.mk.injEq] at h; obtain ⟨rfl,rfl⟩:=h; exact ⟨hv,fun r h=>by cases h⟩
   ·simp only [Option.some.injEq,Prod.mk.injEq] at h; obtain ⟨rfl,rfl⟩:=h; exact ⟨⟨hv.1,hv.2.2⟩,fun r h=>by obtain rfl:=Option.some.inj h; exact SemCL.weaken (Hj _ 0 _) (HG _ 0 _) hv.2.1 (VLes.refl _) (HLe.refl _)⟩
   ·rename_i new b mt st mh sh s1 s2 t hcs
    unfold Rd at h
    split at h
    ·cases h
    ·rename_i r1 u1 hr1
     split at h
     ·cases h
     ·rename_i r2 u2 hr2
      split at h
      ·cases h
      ·rename_i r q hmr
       simp only [Option.some.injEq,Prod.mk.injEq] at h
       obtain ⟨rfl,rfl⟩:=h
       obtain ⟨he,ho⟩:=hv
       dsimp only at he ho
       obtain ⟨o1,ho⟩:=ME ho
       obtain ⟨o2,o3⟩:=ME ho
       have e1:∀ p∈u1.eqs,p.1=p.2:=fun p hp=>he p (by simp [hp])
       have e2:∀ p∈u2.eqs,p.1=p.2:=fun p hp=>he p (by simp [hp])
       have e3:∀ p∈q,p.1=p.2:=fun p hp=>he p (by simp [hp])
       have e4:∀ p∈s.eqs,p.1=p.2:=fun p hp=>he p (by simp [hp])
       refine ⟨⟨e4,o3⟩,fun r' hr'=>?_⟩
       obtain rfl:=Option.some.inj hr'
       refine SN hmr e3 (fun hb=>?_) (fun hb=>?_)
       ·exact (ES (ih _ (hF.push new hb)) hm rnd 100000 c tmps σ _ _ _ hr1 ⟨e1,P1 o1 hb⟩).2
       ·exact (ES (ih _ (hF.push new hb)) hm rnd 100000 c tmps σ _ _ _ hr2 ⟨e2,P1 o2 hb⟩).2
   ·simp only [Option.some.injEq,Prod.mk.injEq] at h; obtain ⟨rfl,rfl⟩:=h; exact ⟨hv,fun r h=>by cases h⟩
def HQ {α:Type}:Option (α×FkS)->Option (α×List Prop)
 | some (a,s)=>some (a,s.owed)
 | none=>none
def eqL {α:Type}:Option (α×FkS)->List It
 | some (_,s)=>s.eqs.map Prod.fst
 | none=>[]
def eqR {α:Type}:Option (α×FkS)->List It
 | some (_,s)=>s.eqs.map Prod.snd
 | none=>[]
theorem LB {q:Eqs}(h:q.map Prod.fst=q.map Prod.snd):∀ p∈q,p.1=p.2:=by
 induction q with
 | nil=>intro p hp; cases hp
 | cons x l ih=>
  simp only [List.map_cons,List.cons.injEq] at h
  intro p hp
  rcases List.mem_cons.1 hp with rfl | hp
  ·exact h.1
  ·exact ih h.2 p hp
theorem Vc {α:Type}{x:Option (α×FkS)}{a:α}{ow:List Prop}(h:HQ x=some (a,ow))(hq:eqL x=eqR x)(ho:AllP ow):∃ s,x=some (a,s)/\s.V:=by
 cases x with
 | none=>cases h
 | some p=>
  obtain ⟨b,s⟩:=p
  simp only [HQ,Option.some.injEq,Prod.mk.injEq] at h
  obtain ⟨rfl,rfl⟩:=h
  exact ⟨s,rfl,LB hq,ho⟩
section
variable {P:Program}{G:Nat->Option (List EV)}
theorem Np {modes news:FuncId->Bool}{n fuel:Nat}{F:DD}{f:FuncId}{args:List EV}{v:EV}{s:Scr}{ow:List Prop}(hm:P.follows .mixedOrders=true)(hF:KOk F)(he:CW P f=true)
  (h:HQ (FN (BE P G modes news n F) P G fuel f args s.start)=some (v,ow)) (hq:eqL (FN (BE P G modes news n F) P G fuel f args s.start)=eqR (FN (BE P G modes news n F) P G fuel f args s.start))
  (ho:AllP ow):SemP P G f args v:=by
 obtain ⟨s',h1,h2⟩:=Vc h hq ho
 exact (Ix (Hk G modes news hm n F hF) hm he h1 h2).2
end
theorem HLe.append {a b c:AL}(h:HLe a b):HLe (a++c) (b++c):=by
 induction h with
 | nil=>exact HLe.refl _
 | cons h _ ih=>exact .cons h ih
def Vd (m mh n:Nat):Option (RC×FkS)->Option (RC×FkS)
 | some ((ex,t,h),s)=>some ((ex,Nj m 0 t,My mh 0 ((h.take n).map (UM n))),s)
 | none=>none
def yD (mh n:Nat):Option ((EV×AL)×FkS)->Option ((EV×AL)×FkS)
 | some ((v,h),s)=>some ((v,My mh 0 ((h.take n).map (UM n))),s)
 | none=>none
theorem SemF.trunc {P:Program}{G:Nat->Option (List EV)}{f:FuncId}{args:List EV}{v:EV}{σ σ0 g:AL}(h:SemF P G f args σ v (σ0++g))(hlen:σ.length<=σ0.length)
  (hl:σ0.all (Px σ0.length)=true) (hv:(v.refs.all fun r=>Decidable.decide (r<σ0.length))=true):SemF P G f args σ v σ0:=by
 refine ⟨h.1,fun K w margs hR hG hargs=>(h.2 K w margs hR hG hargs).mono fun e w' hp=>?_⟩
 cases e with
 | outgrown=>exact hp
 | panicked _=>exact hp
 | returned mv=>
  obtain ⟨K',h3,h4,h5⟩:=hp
  exact ⟨K'.upto σ0.length,⟨hlen,fun r ha=>⟨h3.al r ha,Nat.lt_of_lt_of_le (hR.alt r ha) hlen⟩,h3.blk,h3.F,h3.F',fun b hb=>h3.own b hb.pre,h3.stay,h3.size,h3.os,h3.tape,h3.output⟩,h4.low hl,h5.low fun r hr=>by simpa using List.all_eq_true.1 hv r hr⟩
theorem SemF.weaken {P:Program}{G:Nat->Option (List EV)}{f:FuncId}{args args':List EV}{v v':EV}{σ0 σ1 σ2 σ3:AL}(ha:VLes args args')(h0:HLe σ0 σ1)(h:SemF P G f args' σ1 v σ2)(hv:VLe v v')(h2:HLe σ2 σ3):SemF P G f args σ0 v' σ3:=
 ⟨h.1,fun K w margs hR hG hargs=>(h.2 K w margs (h0.rel hR) hG (ha.vrs hargs)).mono fun e w' hp=>by
  cases e with
  | outgrown=>exact hp
  | panicked _=>exact hp
  | returned mv=>
   obtain ⟨K',h3,h4,h5⟩:=hp
   exact ⟨K',h3.weaken h0 h2,h2.rel h4,hv _ _ _ h5⟩⟩
section
variable {P:Program}{G:Nat->Option (List EV)}
theorem P3 {modes news:FuncId->Bool}{n fuel:Nat}{F:DD}{rnd:Bool}{c:Code}{tmps t:List EV}{σ σ':AL}{ex:EX}{s:Scr}{ow:List Prop}(m mh k:Nat)(hm:P.follows .mixedOrders=true)(hF:KOk F)
  (h:HQ (Vd m mh k (Bu (BE P G modes news n F) P G rnd fuel c tmps σ s.start))=some ((ex,t,σ'),ow)) (hq:eqL (Bu (BE P G modes news n F) P G rnd fuel c tmps σ s.start)=eqR (Bu (BE P G modes news n F) P G rnd fuel c tmps σ s.start))
  (hl:(Nat.ble σ.length σ'.length && σ'.all (Px σ'.length) && t.all fun v=>v.refs.all fun r=>Decidable.decide (r<σ'.length))=true)
  (ho:AllP ow):SemC P G rnd c tmps σ (ex,t,σ'):=by
 simp only [Bool.and_eq_true] at hl
 obtain ⟨⟨l1,l2⟩,l3⟩:=hl
 cases hr:Bu (BE P G modes news n F) P G rnd fuel c tmps σ s.start with
 | none=>rw [hr] at h; cases h
 | some q=>
  obtain ⟨⟨ex',t',h'⟩,s'⟩:=q
  rw [hr] at h hq
  simp only [Vd,HQ,Option.some.injEq,Prod.mk.injEq] at h
  obtain ⟨⟨rfl,rfl,rfl⟩,rfl⟩:=h
  have hs:=(ES (Hk G modes news hm n F hF) hm rnd fuel c tmps σ _ _ _ hr ⟨LB hq,ho⟩).2.1
  refine SemC.trunc (g:=h'.drop k) ?_ (Nat.le_of_ble_eq_true l1) l2 l3
  refine hs.weaken (VLes.refl _) (HLe.refl _) (Hj m 0 t') ?_
  have:=((PN k (h'.take k)).trans (HG mh 0 ((h'.take k).map (UM k)))).append (c:=h'.drop k)
  rwa [List.take_append_drop] at this
theorem HH {modes news:FuncId->Bool}{n fuel:Nat}{F:DD}{f:FuncId}{args:List EV}{σ σ':AL}{v:EV}{s:Scr}{ow:List Prop}(mh k:Nat)(hm:P.follows .mixedOrders=true)(hF:KOk F)(he:CW P f=true)
  (h:HQ (yD mh k (HO (BE P G modes news n F) P G fuel f args σ s.start))=some ((v,σ'),ow)) (hq:eqL (HO (BE P G modes news n F) P G fuel f args σ s.start)=eqR (HO (BE P G modes news n F) P G fuel f args σ s.start))
  (hl:(Nat.ble σ.length σ'.length && σ'.all (Px σ'.length) && v.refs.all fun r=>Decidable.decide (r<σ'.length))=true)
  (ho:AllP ow):SemF P G f args σ v σ':=by
 simp only [Bool.and_eq_true] at hl
 obtain ⟨⟨l1,l2⟩,l3⟩:=hl
 cases hr:HO (BE P G modes news n F) P G fuel f args σ s.start with
 | none=>rw [hr] at h; cases h
 | some q=>
  obtain ⟨⟨v',h'⟩,s'⟩:=q
  rw [hr] at h hq
  simp only [yD,HQ,Option.some.injEq,Prod.mk.injEq] at h
  obtain ⟨⟨rfl,rfl⟩,rfl⟩:=h
  have hs:=Iw (Hk G modes news hm n F hF) hm he hr ⟨LB hq,ho⟩
  refine SemF.trunc (g:=h'.drop k) ?_ (Nat.le_of_ble_eq_true l1) l2 l3
  refine hs.weaken (VLes.refl _) (HLe.refl _) (VLe.refl _) ?_
  have:=((PN k (h'.take k)).trans (HG mh 0 ((h'.take k).map (UM k)))).append (c:=h'.drop k)
  rwa [List.take_append_drop] at this
end
end Go.Ev
namespace Go.Ev
def HI (σ:AL)(L:List Nat):List Nat->Option AL
 | []=>some []
 | r :: rs=>match σ[r]? with
  | some .dead=>(HI σ L rs).map (.dead :: ·)
  | some .free=>(HI σ L rs).map (.dead :: ·)
  | some o=>if o.frz && o.refs.all (L.contains ·) then (HI σ L rs).map (o.ren (L.idxOf ·) :: ·) else none
  | none=>none
def M0 (L:List Nat)(v:EV):EV:=if v.refs.all (L.contains ·) then v.ren (L.idxOf ·) else .undef
def Q1 (m:Nat)(L:List Nat):Bool:=(List.range m).all fun i=>match L[i]? with | some j=>Nat.beq i j | none=>false
theorem Nq {m:Nat}{L:List Nat}(h:Q1 m L=true):m<=L.length/\∀ i,i<m->L.getD i 0=i:=by
 have h1:∀ i,i<m->L[i]? =some i:=by
  intro i hi
  have:=List.all_eq_true.1 h i (by simpa using hi)
  split at this
  ·rename_i j hj; rw [hj,Nat.eq_of_beq_eq_true this]
  ·cases this
 refine ⟨?_,fun i hi=>by rw [List.getD_eq_getElem?_getD,h1 i hi]; rfl⟩
 cases m with
 | zero=>omega
 | succ m=>
  have:=h1 m (by omega)
  have:=(List.getElem?_eq_some_iff.1 this).1
  omega
theorem LC {σ:AL}{L:List Nat}:∀ (rs:List Nat) (s:AL),HI σ L rs=some s->
  s.length=rs.length/\∀ (i:Nat) (o:EObj),s[i]? =some o->o=.dead∨∃ r o0,rs[i]? =some r/\σ[r]? =some o0/\o0.frz=true/\(∀ r'∈o0.refs,r'∈L)/\o=o0.ren (L.idxOf ·):=by
 intro rs
 induction rs with
 | nil=>
  intro s h
  simp only [HI,Option.some.injEq] at h
  subst h
  exact ⟨rfl,fun i o h=>by simp at h⟩
 | cons x rs ih=>
  intro s h
  have dead:(HI σ L rs).map (EObj.dead :: ·)=some s->s.length=(x :: rs).length/\∀ (i:Nat) (o:EObj),s[i]? =some o->o=.dead∨∃ r o0,(x :: rs)[i]? =some r/\σ[r]? =some o0/\o0.frz=true/\(∀ r'∈o0.refs,r'∈L)/\o=o0.ren (L.idxOf ·):=by
   intro h
   cases hf:HI σ L rs with
   | none=>rw [hf] at h; cases h
   | some s'=>
    rw [hf] at h
    simp only [Option.map_some,Option.some.injEq] at h
    subst h
    obtain ⟨h1,h2⟩:=ih _ hf
    refine ⟨by simp [h1],fun i o ho=>?_⟩
    cases i with
    | zero=>simp only [List.getElem?_cons_zero,Option.some.injEq] at ho; exact .inl ho.symm
    | succ i=>simpa using h2 i o (by simpa using ho)
  unfold HI at h
  split at h
  ·exact dead h
  ·exact dead h
  ·rename_i o _ _ ho
   split at h
   ·rename_i hc
    simp only [Bool.and_eq_true,List.all_eq_true,List.contains_iff_mem] at hc
    cases hf:HI σ L rs with
    | none=>rw [hf] at h; cases h
    | some s'=>
     rw [hf] at h
     simp only [Option.map_some,Option.some.injEq] at h
     subst h
     obtain ⟨h1,h2⟩:=ih _ hf
     refine ⟨by simp [h1],fun i o' ho'=>?_⟩
     cases i with
     | zero=>simp only [List.getElem?_cons_zero,Option.some.injEq] at ho'; exact .inr ⟨x,o,by simp,ho,hc.1,hc.2,ho'.symm⟩
     | succ i=>simpa using h2 i o' (by simpa using ho')
   ·cases h
  ·cases h
theorem Re {K:KM}{σ s:AL}{w:World}(hR:Rel K σ w){L:List Nat}(hnd:L.Nodup)(h:HI σ L L=some s):Rel (K.loc L) s w/\∀ b,Owned (K.loc L) s b->Owned K σ b:=by
 obtain ⟨h1,h2⟩:=LC L s h
 have hget:∀ i o,s[i]? =some o->o=.dead∨∃ r o0,L[i]? =some r/\L.getD i 0=r/\L.idxOf r=i/\r∈L/\σ[r]? =some o0/\o0.frz=true/\(∀ r'∈o0.refs,r'∈L)/\o=o0.ren (L.idxOf ·):=by
  intro i o hi
  rcases h2 i o hi with rfl | ⟨r,o0,q1,q2,q3,q4,rfl⟩
  ·exact .inl rfl
  ·obtain ⟨hlt,rfl⟩:=List.getElem?_eq_some_iff.1 q1
   exact .inr ⟨L[i],o0,q1,by rw [List.getD_eq_getElem?_getD,q1]; rfl,hnd.idxOf_getElem i hlt,List.getElem_mem hlt,q2,q3,q4,rfl⟩
 have hown:∀ b,Owned (K.loc L) s b->Owned K σ b:=by
  rintro b ⟨i,o,hi,hlv,hb⟩
  rcases hget i o hi with rfl | ⟨r,o0,a1,a2,a3,a4,a5,a6,a7,rfl⟩
  ·cases hlv
  ·rw [ER] at hlv
   exact ⟨r,o0,a5,hlv,by simpa only [KM.loc,a2] using hb⟩
 refine ⟨⟨fun i o hi=>?_,fun i i' o1 o2 hi hi' l1 l2 hb=>?_,fun b hb=>hR.notF b (hown b hb),fun i o hi ht=>?_,hR.Flt,fun i ha=>by rw [h1]; exact ha.1⟩,hown⟩
 ·rcases hget i o hi with rfl | ⟨r,o0,a1,a2,a3,a4,a5,a6,a7,rfl⟩
  ·trivial
  ·have:=OR.ren (K:=K) (K':=K.loc L) (ρ:=(L.idxOf ·)) rfl a6 (hR.obj r o0 a5) (FX a4) fun r' hr'=>FX (a7 r' hr')
   simpa only [a3] using this
 ·rcases hget i o1 hi with rfl | ⟨r,o0,a1,a2,a3,a4,a5,a6,a7,rfl⟩
  ·cases l1
  rcases hget i' o2 hi' with rfl | ⟨r',p0,b1,b2,b3,b4,b5,b6,b7,rfl⟩
  ·cases l2
  rw [ER] at l1 l2
  have:=hR.inj r r' o0 p0 a5 b5 l1 l2 (by simpa only [KM.loc,a2,b2] using hb)
  rw [<-a3,<-b3,this]
 ·rcases hget i o hi with rfl | ⟨r,o0,a1,a2,a3,a4,a5,a6,a7,rfl⟩
  ·cases ht
  ·have:=hR.lt r o0 a5 (GR a6)
   simpa only [KM.loc,a2] using this
def At (K0:KM)(σ0:AL)(w0:World)(ds0:List Deferred)(t:List EV)(σ:AL)(a:Act)(w:World):Prop:=
 ∃ K bs,Ext K0 σ0 w0 K σ w/\Rel K σ w/\VRs K w t a.tmps/\Marks K σ w0 w ds0 a.defers bs
theorem At.ren {K0:KM}{σ0:AL}{w0:World}{ds0:List Deferred}{t:List EV}{σ s:AL}{a:Act}{w:World}(h:At K0 σ0 w0 ds0 t σ a w){m:Nat}{L:List Nat}(hm:σ0.length<=m)(hal:∀ r,K0.al r->r<m)(hfix:Q1 m L=true)(hnd:L.Nodup)
  (hr:HI σ L L=some s):At K0 σ0 w0 ds0 (t.map (M0 L)) s a w:=by
 obtain ⟨K,bs,h1,h2,h3,h4,h5,h6⟩:=h
 obtain ⟨f1,f2⟩:=Nq hfix
 obtain ⟨r1,r2⟩:=Re h2 hnd hr
 have hs:s.length=L.length:=(LC L s hr).1
 refine ⟨K.loc L,bs,⟨by omega,fun r ha=>⟨by have:=hal r ha; omega,by rw [f2 r (hal r ha)]; exact h1.al r ha⟩,fun r ha=>by simp only [KM.loc,f2 r (hal r ha)]; exact h1.blk r ha,h1.F,h1.F',fun b hb=>h1.own b (r2 b hb),h1.stay,h1.size,h1.os,h1.tape,h1.output⟩,r1,⟨by simp [h3.1],fun i a1 b1=>?_⟩,h4,h5,fun b hb=>let ⟨x,y,z,u⟩:=h6 b hb; ⟨x,y,fun ho=>z (r2 b ho),u⟩⟩
 rw [List.getElem_map]
 have:=h3.2 i (by simpa using a1) b1
 unfold M0
 split
 ·rename_i hall
  exact VR.ren (K:=K) (K':=K.loc L) rfl this fun r hr=>FX (by simpa using List.all_eq_true.1 hall r hr)
 ·exact .pure _ _ (.undef _)
theorem At.weaken {K0:KM}{σ0:AL}{w0:World}{ds0:List Deferred}{t t':List EV}{σ s:AL}{a:Act}{w:World}(h:At K0 σ0 w0 ds0 t σ a w)(ht:VLes t t')(hh:HLe σ s):At K0 σ0 w0 ds0 t' s a w:=by
 obtain ⟨K,bs,h1,h2,h3,h4,h5,h6⟩:=h
 exact ⟨K,bs,h1.weaken (HLe.refl _) hh,hh.rel h2,ht.vrs h3,h4,h5,fun b hb=>let ⟨x,y,z,u⟩:=h6 b hb; ⟨x,y,fun ho=>z (hh.owned ho),u⟩⟩
section
variable {P:Program}{G:Nat->Option (List EV)}
def SemLR (P:Program)(G:Nat->Option (List EV))(rnd:Bool)(m:Nat)(c:Code)(t:List EV)(σ:AL)(r:RC):Prop:=
 ∀ (ro:Option Nat) (K0:KM) (σ0:AL) (w0:World) (ds0:List Deferred) (a:Act) (w:World),(ro.isSome=true->rnd=true)->σ0.length<=m->Rel K0 σ0 w0->GOk G K0.F w0->At K0 σ0 w0 ds0 t σ a w->
  wpL ro P c (PostC K0 σ0 w0 ds0 r) a w
theorem SemLR.toL {rnd:Bool}{m:Nat}{c:Code}{t:List EV}{σ:AL}{r:RC}(h:SemLR P G rnd m c t σ r)(hm:Nat.ble σ.length m=true):SemL P G rnd c t σ r:=
 fun ro K w a hro hR hG hv=>h ro K σ w a.defers a w hro (Nat.le_of_ble_eq_true hm) hR hG ⟨K,[],Ext.refl _ _ _,hR,hv,Marks.none⟩
theorem PostC.at {K0 K:KM}{σ0 σ:AL}{w0 w:World}{ds0:List Deferred}{a0:Act}{bs:List Nat}{r:RC}(h1:Ext K0 σ0 w0 K σ w)(h2:Rel K0 σ0 w0)(hM:Marks K σ w0 w ds0 a0.defers bs){e:Exit}{a:Act}{w':World}
  (h:PostC K σ w a0.defers r e a w'):r.1.same e/\At K0 σ0 w0 ds0 r.2.1 r.2.2 a w':=by
 have main:(∃ K' bs,Ext K σ w K' r.2.2 w'/\Rel K' r.2.2 w'/\VRs K' w' r.2.1 a.tmps/\Marks K' r.2.2 w w' a0.defers a.defers bs)->At K0 σ0 w0 ds0 r.2.1 r.2.2 a w':=by
  rintro ⟨K',bs',h3,h4,h5,h6⟩
  exact ⟨K',bs'++bs,h1.trans h3,h4,h5,Marks.trans h1.size h3 hM h6⟩
 cases e with
 | outgrown=>exact h.elim
 | normal=>exact ⟨h.1,main h.2⟩
 | exit i=>exact ⟨h.1,main h.2⟩
 | goto l=>exact ⟨h.1,main h.2⟩
 | ret=>exact ⟨h.1,main h.2⟩
 | panic c=>exact ⟨h.1,main h.2⟩
theorem At.post {K0:KM}{σ0:AL}{w0:World}{ds0:List Deferred}{r:RC}{e:Exit}{a:Act}{w:World}(hs:r.1.same e)(h:At K0 σ0 w0 ds0 r.2.1 r.2.2 a w):PostC K0 σ0 w0 ds0 r e a w:=by
 cases e with
 | outgrown=>obtain ⟨ex,t,s⟩:=r; cases ex<;>exact hs.elim
 | normal=>exact ⟨hs,h⟩
 | exit i=>exact ⟨hs,h⟩
 | goto l=>exact ⟨hs,h⟩
 | ret=>exact ⟨hs,h⟩
 | panic c=>exact ⟨hs,h⟩
def FO (m:Nat)(L:List Nat):Bool:=Q1 m L && decide L.Nodup
theorem PostC.normalQ {K:KM}{σ:AL}{w:World}{ds:List Deferred}{t:List EV}{s:AL}{next:Act->World->Prop}{Q:Exit->Act->World->Prop}
  (hn:∀ K' w' a' bs,Ext K σ w K' s w'->Rel K' s w'->VRs K' w' t a'.tmps->Marks K' s w w' ds a'.defers bs->next a' w') {e:Exit} {a:Act} {w':World}
  (hp:PostC K σ w ds (.normal,t,s) e a w'):Exit.then next Q e a w':=by
 cases e with
 | outgrown=>exact hp.elim
 | normal=>obtain ⟨_,K',bs,e1,h3,h4,h5⟩:=hp; exact hn K' w' a bs e1 h3 h4 h5
 | exit i=>exact hp.1.elim
 | goto l=>exact hp.1.elim
 | ret=>exact hp.1.elim
 | panic c=>exact hp.1.elim
theorem SemLR.step {rnd:Bool}{m:Nat}{c:Code}{t t1 t2:List EV}{σ s1 s2 s3:AL}{r:RC}(L:List Nat)(h:SemC P G rnd c t σ (.normal,t1,s1))(hL:FO m L=true)(hr:HI s1 L L=some s2)
  (ht:VLes (t1.map (M0 L)) t2) (hh:HLe s2 s3) (hl:SemLR P G rnd m c t2 s3 r):SemLR P G rnd m c t σ r:=by
 simp only [FO,Bool.and_eq_true,decide_eq_true_eq] at hL
 intro ro K0 σ0 w0 ds0 a w hro hm hR hG hA
 obtain ⟨K,bs,e1,r1,v1,m1⟩:=hA
 refine PH (wpIn_mono (h ro K w a hro r1 (hG.ext e1 hR) v1) fun e a' w' hp=>PostC.normalQ (fun K' w'' a'' bs' e2 r2 v2 m2=>?_) hp)
 have hA2:At K0 σ0 w0 ds0 t1 s1 a'' w'':=⟨K',bs'++bs,e1.trans e2,r2,v2,Marks.trans e1.size e2 m1 m2⟩
 have hA3:=(hA2.ren hm (fun r ha=>Nat.lt_of_lt_of_le (hR.alt r ha) hm) hL.1 hL.2 hr).weaken ht hh
 exact Ii (hl ro K0 σ0 w0 ds0 a'' w'' hro hm hR hG hA3) fun e a w hq=>hq
theorem SemLR.last {rnd:Bool}{m:Nat}{c:Code}{t t1 t2:List EV}{σ s1 s2 s3:AL}{ex:EX}(L:List Nat)(h:SemC P G rnd c t σ (ex,t1,s1))(hex:ex≠.normal)(hL:FO m L=true)(hr:HI s1 L L=some s2)
  (ht:VLes (t1.map (M0 L)) t2) (hh:HLe s2 s3):SemLR P G rnd m c t σ (ex,t2,s3):=by
 simp only [FO,Bool.and_eq_true,decide_eq_true_eq] at hL
 intro ro K0 σ0 w0 ds0 a w hro hm hR hG hA
 obtain ⟨K,bs,e1,r1,v1,m1⟩:=hA
 refine PH (wpIn_mono (h ro K w a hro r1 (hG.ext e1 hR) v1) fun e a' w' hp=>?_)
 have hp2:PostC K0 σ0 w0 ds0 (ex,t2,s3) e a' w':=by
  obtain ⟨q1,q2⟩:=PostC.at e1 hR m1 hp
  exact At.post q1 ((q2.ren hm (fun r ha=>Nat.lt_of_lt_of_le (hR.alt r ha) hm) hL.1 hL.2 hr).weaken ht hh)
 exact hp2.other hex
theorem SemCL.ren {rnd:Bool}{c:Code}{t t1 t2:List EV}{σ s1 s2 s3:AL}{ex:EX}(L:List Nat)(h:SemCL P G rnd c t σ (ex,t1,s1))(hL:FO σ.length L=true)(hr:HI s1 L L=some s2)
  (ht:VLes (t1.map (M0 L)) t2) (hh:HLe s2 s3):SemCL P G rnd c t σ (ex,t2,s3):=by
 simp only [FO,Bool.and_eq_true,decide_eq_true_eq] at hL
 have main:∀ {K:KM} {w:World} {a:Act} {e:Exit} {a':Act} {w':World},Rel K σ w->PostC K σ w a.defers (ex,t1,s1) e a' w'->PostC K σ w a.defers (ex,t2,s3) e a' w':=by
  intro K w a e a' w' hR hp
  obtain ⟨q1,q2⟩:=PostC.at (Ext.refl K σ w) hR (Marks.none (ds:=a.defers)) (a0:=a) hp
  exact At.post q1 ((q2.ren (Nat.le_refl _) (fun r ha=>hR.alt r ha) hL.1 hL.2 hr).weaken ht hh)
 exact ⟨fun ro K w a hro hR hG hv=>wpIn_mono (h.1 ro K w a hro hR hG hv) fun _ _ _ hp=>main hR hp,
  fun b hb ro K w a hro hR hG hv=>Ii (h.2 b hb ro K w a hro hR hG hv) fun _ _ _ hp=>main hR hp⟩
def PX (m mh:Nat)(L:List Nat):Option (RC×FkS)->Option (RC×FkS)
 | some ((ex,t,h),s)=>match HI h L L with
  | some h'=>some ((ex,Nj m 0 (t.map (M0 L)),My mh 0 h'),s)
  | none=>none
 | none=>none
theorem SP {modes news:FuncId->Bool}{n fuel:Nat}{F:DD}{rnd:Bool}{c:Code}{tmps t:List EV}{σ σ':AL}{ex:EX}{s:Scr}{ow:List Prop}(m mh:Nat)(L:List Nat)(hm:P.follows .mixedOrders=true)(hF:KOk F)
  (h:HQ (PX m mh L (Bu (BE P G modes news n F) P G rnd fuel c tmps σ s.start))=some ((ex,t,σ'),ow)) (hq:eqL (Bu (BE P G modes news n F) P G rnd fuel c tmps σ s.start)=eqR (Bu (BE P G modes news n F) P G rnd fuel c tmps σ s.start))
  (hL:FO σ.length L=true) (ho:AllP ow):SemCL P G rnd c tmps σ (ex,t,σ'):=by
 cases hr:Bu (BE P G modes news n F) P G rnd fuel c tmps σ s.start with
 | none=>rw [hr] at h; cases h
 | some q=>
  obtain ⟨⟨ex',t',h'⟩,s'⟩:=q
  rw [hr] at h hq
  cases hn:HI h' L L with
  | none=>simp only [PX,hn] at h; cases h
  | some h2=>
   simp only [PX,hn,HQ,Option.some.injEq,Prod.mk.injEq] at h
   obtain ⟨⟨rfl,rfl,rfl⟩,rfl⟩:=h
   have hs:=(ES (Hk G modes news hm n F hF) hm rnd fuel c tmps σ _ _ _ hr ⟨LB hq,ho⟩).2
   exact SemCL.ren L hs hL hn (Hj m 0 _) (HG mh 0 _)
theorem SemF.ren {f:FuncId}{args:List EV}{v v':EV}{σ s1 s2 s3:AL}(L:List Nat)(h:SemF P G f args σ v s1)(hL:FO σ.length L=true)(hr:HI s1 L L=some s2)(hv:VLe (M0 L v) v')(hh:HLe s2 s3):SemF P G f args σ v' s3:=by
 simp only [FO,Bool.and_eq_true,decide_eq_true_eq] at hL
 refine ⟨h.1,fun K w margs hR hG hargs=>(h.2 K w margs hR hG hargs).mono fun e w' hp=>?_⟩
 cases e with
 | outgrown=>exact hp
 | panicked _=>exact hp
 | returned mv=>
  obtain ⟨K',h3,h4,h5⟩:=hp
  obtain ⟨f1,f2⟩:=Nq hL.1
  obtain ⟨r1,r2⟩:=Re h4 hL.2 hr
  have hs:s2.length=L.length:=(LC L s2 hr).1
  have hal:∀ r,K.al r->r<σ.length:=hR.alt
  have e1:Ext K σ w (K'.loc L) s2 w':=⟨by omega,fun r ha=>⟨by have:=hal r ha; omega,by rw [f2 r (hal r ha)]; exact h3.al r ha⟩,fun r ha=>by simp only [KM.loc,f2 r (hal r ha)]; exact h3.blk r ha,h3.F,h3.F',fun b hb=>h3.own b (r2 b hb),h3.stay,h3.size,h3.os,h3.tape,h3.output⟩
  refine ⟨K'.loc L,e1.weaken (HLe.refl _) hh,hh.rel r1,hv _ _ _ ?_⟩
  unfold M0
  split
  ·rename_i hall
   exact VR.ren (K:=K') (K':=K'.loc L) rfl h5 fun r hr=>FX (by simpa using List.all_eq_true.1 hall r hr)
  ·exact .pure _ _ (.undef _)
def US (mh:Nat)(L:List Nat):Option ((EV×AL)×FkS)->Option ((EV×AL)×FkS)
 | some ((v,h),s)=>match HI h L L with
  | some h'=>some ((M0 L v,My mh 0 h'),s)
  | none=>none
 | none=>none
theorem P4 {modes news:FuncId->Bool}{n fuel:Nat}{F:DD}{f:FuncId}{args:List EV}{v:EV}{σ σ':AL}{s:Scr}{ow:List Prop}(mh:Nat)(L:List Nat)(hm:P.follows .mixedOrders=true)(hF:KOk F)(he:CW P f=true)
  (h:HQ (US mh L (HO (BE P G modes news n F) P G fuel f args σ s.start))=some ((v,σ'),ow)) (hq:eqL (HO (BE P G modes news n F) P G fuel f args σ s.start)=eqR (HO (BE P G modes news n F) P G fuel f args σ s.start))
  (hL:FO σ.length L=true) (ho:AllP ow):SemF P G f args σ v σ':=by
 cases hr:HO (BE P G modes news n F) P G fuel f args σ s.start with
 | none=>rw [hr] at h; cases h
 | some q=>
  obtain ⟨⟨v',h'⟩,s'⟩:=q
  rw [hr] at h hq
  cases hn:HI h' L L with
  | none=>simp only [US,hn] at h; cases h
  | some h2=>
   simp only [US,hn,HQ,Option.some.injEq,Prod.mk.injEq] at h
   obtain ⟨⟨rfl,rfl⟩,rfl⟩:=h
   have hs:=Iw (Hk G modes news hm n F hF) hm he hr ⟨LB hq,ho⟩
   exact SemF.ren L hs hL hn (VLe.refl _) (HG mh 0 _)
theorem OLe.rows {fr pf ex:Bool}{esz len:Nat}{row row':Nat->List EV}(hl:∀ i,i<len->(row' i).length=(row i).length)(h:∀ i,i<len->∀ j (h1:j<(row i).length) (h2:j<(row' i).length),BLe (row i)[j] (row' i)[j]):OLe (.arr fr pf esz ex len row) (.arr fr pf esz ex len row'):=by
 refine ⟨fun K w r ho=>?_,id,id⟩
 obtain ⟨h1,h2,c,e,fz,q2,q3,q4,q5,q6,q7,q8,q9,q10,q11⟩:=ho
 exact ⟨h1,h2,c,e,fz,q2,q3,q4,q5,q6,q7,q8,fun i hi=>(hl i hi).trans (q9 i hi),fun i hi j hj hc=>(h i hi j (by rw [<-hl i hi]; exact hj) hj).v K w _ (q10 i hi j (by rw [<-hl i hi]; exact hj) hc),
  fun hp i hi j hj hc=>(h i hi j (by rw [<-hl i hi]; exact hj) hj).p K.F w _ (q11 hp i hi j (by rw [<-hl i hi]; exact hj) hc)⟩
end
theorem SemL.toCL {P:Program}{G:Nat->Option (List EV)}{rnd:Bool}{c path:Code}{t:List EV}{σ:AL}{r:RC}(h:SemL P G rnd c t σ r)(hp:path=.loop c):SemCL P G rnd path t σ r:=by
 subst hp
 exact ⟨h.toC,fun b hb=>by cases hb; exact h⟩
end Go.Ev
namespace Go.Ev
section
variable {P:Program}{G:Nat->Option (List EV)}{rnd:Bool}{c:Code}
theorem SemL.ex {X:Type}(T:X->List EV)(H:X->AL)(n:Nat)(I:Nat->X->Prop)(R:RC->Prop)
  (step:∀ i x,i<n->I i x->(∃ x',I (i+1) x'/\SemC P G rnd c (T x) (H x) (.normal,T x',H x'))∨∃ r:RC,R r/\r.1≠.normal/\SemC P G rnd c (T x) (H x) r)
  (last:∀ x,I n x->∃ r:RC,R r/\r.1≠.normal/\SemC P G rnd c (T x) (H x) r):
  ∀ k i x,i+k=n->I i x->∃ r,R r/\SemL P G rnd c (T x) (H x) r
 | 0,i,x,h,hi=>by
  obtain rfl:i=n:=by omega
  obtain ⟨r,h1,h2,h3⟩:=last x hi
  exact ⟨r,h1,SemL.last h3 h2⟩
 | k+1,i,x,h,hi=>by
  rcases step i x (by omega) hi with ⟨x',h1,h2⟩ | ⟨r,h1,h2,h3⟩
  ·obtain ⟨r,h3,h4⟩:=SemL.ex T H n I R step last k (i+1) x' (by omega) h1
   exact ⟨r,h3,SemL.step h2 h4⟩
  ·exact ⟨r,h1,SemL.last h3 h2⟩
def SemCR (P:Program)(G:Nat->Option (List EV))(rnd:Bool)(m:Nat)(c:Code)(t:List EV)(σ:AL)(r:RC):Prop:=
 ∃ (L:List Nat) (t1:List EV) (s1 s2:AL),SemC P G rnd c t σ (r.1,t1,s1)/\FO m L=true/\HI s1 L L=some s2/\VLes (t1.map (M0 L)) r.2.1/\HLe s2 r.2.2
theorem SemLR.stepR {m:Nat}{t t2:List EV}{σ s3:AL}{r:RC}(h:SemCR P G rnd m c t σ (.normal,t2,s3))(hl:SemLR P G rnd m c t2 s3 r):SemLR P G rnd m c t σ r:=by
 obtain ⟨L,t1,s1,s2,h1,h2,h3,h4,h5⟩:=h
 exact SemLR.step L h1 h2 h3 h4 h5 hl
theorem SemLR.lastR {m:Nat}{t:List EV}{σ:AL}{r:RC}(h:SemCR P G rnd m c t σ r)(hr:r.1≠.normal):SemLR P G rnd m c t σ r:=by
 obtain ⟨L,t1,s1,s2,h1,h2,h3,h4,h5⟩:=h
 exact SemLR.last L h1 hr h2 h3 h4 h5
theorem VLe.trans' {a b c:EV}(h:VLe a b)(g:VLe b c):VLe a c:=fun K w mv x=>g K w mv (h K w mv x)
theorem VLes.trans' {a b c:List EV}(h:VLes a b)(g:VLes b c):VLes a c:=by
 induction h generalizing c with
 | nil=>exact g
 | cons h _ ih=>cases g with | cons g gs=>exact .cons (VLe.trans' h g) (ih gs)
theorem OLe.trans' {a b c:EObj}(h:OLe a b)(g:OLe b c):OLe a c:=⟨fun K w r x=>g.obj K w r (h.obj K w r x),fun x=>h.live (g.live x),fun x=>h.there (g.there x)⟩
theorem HLe.trans' {a b c:AL}(h:HLe a b)(g:HLe b c):HLe a c:=by
 induction h generalizing c with
 | nil=>exact g
 | cons h _ ih=>cases g with | cons g gs=>exact .cons (OLe.trans' h g) (ih gs)
theorem SemCR.weaken {m:Nat}{t t2 t3:List EV}{σ s2 s3:AL}{ex:EX}(h:SemCR P G rnd m c t σ (ex,t2,s2))(ht:VLes t2 t3)(hh:HLe s2 s3):SemCR P G rnd m c t σ (ex,t3,s3):=by
 obtain ⟨L,t1,s1,s0,h1,h2,h3,h4,h5⟩:=h
 exact ⟨L,t1,s1,s0,h1,h2,h3,h4.trans' ht,h5.trans' hh⟩
theorem SemLR.ex {X:Type}(m:Nat)(T:X->List EV)(H:X->AL)(n:Nat)(I:Nat->X->Prop)(R:RC->Prop)
  (step:∀ i x,i<n->I i x->(∃ x',I (i+1) x'/\SemCR P G rnd m c (T x) (H x) (.normal,T x',H x'))∨∃ r:RC,R r/\r.1≠.normal/\SemCR P G rnd m c (T x) (H x) r)
  (last:∀ x,I n x->∃ r:RC,R r/\r.1≠.normal/\SemCR P G rnd m c (T x) (H x) r):
  ∀ k i x,i+k=n->I i x->∃ r,R r/\SemLR P G rnd m c (T x) (H x) r
 | 0,i,x,h,hi=>by
  obtain rfl:i=n:=by omega
  obtain ⟨r,h1,h2,h3⟩:=last x hi
  exact ⟨r,h1,SemLR.lastR h3 h2⟩
 | k+1,i,x,h,hi=>by
  rcases step i x (by omega) hi with ⟨x',h1,h2⟩ | ⟨r,h1,h2,h3⟩
  ·obtain ⟨r,h3,h4⟩:=SemLR.ex m T H n I R step last k (i+1) x' (by omega) h1
   exact ⟨r,h3,SemLR.stepR h2 h4⟩
  ·exact ⟨r,h1,SemLR.lastR h3 h2⟩
theorem SemLR.all (m:Nat)(T:Nat->List EV)(H:Nat->AL)(n:Nat)(good bad:Nat->Prop)(R:Nat->RC)(E:RC)(hR:∀ i,(R i).1≠.normal)(hE:E.1≠.normal)
  (body:∀ i:Nat,∃ r:RC,SemCR P G rnd m c (T i) (H i) r/\((r=(.normal,T (i+1),H (i+1))/\i<n/\good i)∨(r=R i/\i<n/\bad i)∨(r=E/\n<=i))):
  (SemLR P G rnd m c (T 0) (H 0) E/\∀ i,i<n->good i)∨∃ i,i<n/\bad i/\(∀ j,j<i->good j)/\SemLR P G rnd m c (T 0) (H 0) (R i):=by
 have key:∀ k i,i+k=n->(∀ j,j<i->good j)->(SemLR P G rnd m c (T i) (H i) E/\∀ i,i<n->good i)∨∃ j,j<n/\bad j/\(∀ l,l<j->good l)/\SemLR P G rnd m c (T i) (H i) (R j):=by
  intro k
  induction k with
  | zero=>
   intro i hi hg
   obtain ⟨r,h,h1 | h1 | h1⟩:=body i
   ·omega
   ·omega
   ·obtain ⟨rfl,_⟩:=h1
    exact .inl ⟨SemLR.lastR h hE,fun j hj=>hg j (by omega)⟩
  | succ k ih=>
   intro i hi hg
   obtain ⟨r,h,h1 | h1 | h1⟩:=body i
   ·obtain ⟨rfl,_,hgi⟩:=h1
    rcases ih (i+1) (by omega) (fun j hj=>by
     rcases Nat.lt_or_ge j i with h' | h'
     ·exact hg j h'
     ·obtain rfl:j=i:=by omega
      exact hgi) with ⟨h2,h3⟩ | ⟨j,h2,h3,h4,h5⟩
    ·exact .inl ⟨SemLR.stepR h h2,h3⟩
    ·exact .inr ⟨j,h2,h3,h4,SemLR.stepR h h5⟩
   ·obtain ⟨rfl,hlt,hb⟩:=h1
    exact .inr ⟨i,hlt,hb,hg,SemLR.lastR h (hR i)⟩
   ·omega
 exact key n 0 (by omega) (fun j hj=>by omega)
theorem SemL.all (T:Nat->List EV)(H:Nat->AL)(n:Nat)(good bad:Nat->Prop)(R:Nat->RC)(E:RC)(hR:∀ i,(R i).1≠.normal)(hE:E.1≠.normal)
  (body:∀ i:Nat,∃ r:RC,SemC P G rnd c (T i) (H i) r/\((r=(.normal,T (i+1),H (i+1))/\i<n/\good i)∨(r=R i/\i<n/\bad i)∨(r=E/\n<=i))):
  (SemL P G rnd c (T 0) (H 0) E/\∀ i,i<n->good i)∨∃ i,i<n/\bad i/\(∀ j,j<i->good j)/\SemL P G rnd c (T 0) (H 0) (R i):=by
 have key:∀ k i,i+k=n->(∀ j,j<i->good j)->(SemL P G rnd c (T i) (H i) E/\∀ i,i<n->good i)∨∃ j,j<n/\bad j/\(∀ l,l<j->good l)/\SemL P G rnd c (T i) (H i) (R j):=by
  intro k
  induction k with
  | zero=>
   intro i hi hg
   obtain ⟨r,h,h1 | h1 | h1⟩:=body i
   ·omega
   ·omega
   ·obtain ⟨rfl,_⟩:=h1
    exact .inl ⟨SemL.last h hE,fun j hj=>hg j (by omega)⟩
  | succ k ih=>
   intro i hi hg
   obtain ⟨r,h,h1 | h1 | h1⟩:=body i
   ·obtain ⟨rfl,_,hgi⟩:=h1
    rcases ih (i+1) (by omega) (fun j hj=>by
     rcases Nat.lt_or_ge j i with h' | h'
     ·exact hg j h'
     ·obtain rfl:j=i:=by omega
      exact hgi) with ⟨h2,h3⟩ | ⟨j,h2,h3,h4,h5⟩
    ·exact .inl ⟨SemL.step h h2,h3⟩
    ·exact .inr ⟨j,h2,h3,h4,SemL.step h h5⟩
   ·obtain ⟨rfl,hlt,hb⟩:=h1
    exact .inr ⟨i,hlt,hb,hg,SemL.last h (hR i)⟩
   ·omega
 exact key n 0 (by omega) (fun j hj=>by omega)
theorem SemLR.cl {m:Nat}{path:Code}{t:List EV}{σ:AL}{r:RC}(h:SemLR P G rnd m c t σ r)(hm:Nat.ble σ.length m=true)(hp:path=.loop c):SemCL P G rnd path t σ r:=
 (h.toL hm).toCL hp
theorem J2 {modes news:FuncId->Bool}{n fuel:Nat}{F:DD}{tmps t:List EV}{σ σ':AL}{ex:EX}{s:Scr}{ow:List Prop}(m mh:Nat)(L:List Nat)(k:Nat)(hm:P.follows .mixedOrders=true)(hF:KOk F)
  (h:HQ (PX m mh L (Bu (BE P G modes news n F) P G rnd fuel c tmps σ s.start))=some ((ex,t,σ'),ow)) (hq:eqL (Bu (BE P G modes news n F) P G rnd fuel c tmps σ s.start)=eqR (Bu (BE P G modes news n F) P G rnd fuel c tmps σ s.start))
  (hL:FO k L=true) (ho:AllP ow):SemCR P G rnd k c tmps σ (ex,t,σ'):=by
 cases hr:Bu (BE P G modes news n F) P G rnd fuel c tmps σ s.start with
 | none=>rw [hr] at h; cases h
 | some q=>
  obtain ⟨⟨ex',t',h'⟩,s'⟩:=q
  rw [hr] at h hq
  cases hn:HI h' L L with
  | none=>simp only [PX,hn] at h; cases h
  | some h2=>
   simp only [PX,hn,HQ,Option.some.injEq,Prod.mk.injEq] at h
   obtain ⟨⟨rfl,rfl,rfl⟩,rfl⟩:=h
   have hs:=(ES (Hk G modes news hm n F hF) hm rnd fuel c tmps σ _ _ _ hr ⟨LB hq,ho⟩).2
   exact ⟨L,t',h',h2,hs.1,hL,hn,Hj m 0 _,HG mh 0 _⟩
end
end Go.Ev
namespace Go.Ev
open Go.Proofs.Tryz (prog)
set_option maxRecDepth 100000
set_option maxHeartbeats 0
abbrev iv (n:Int):EV:=.int .i64 n
abbrev ov (c:List EV):EObj:=.var false true c
abbrev oA (e:Nat)(x:Bool)(l:Nat)(r:Nat->List EV):EObj:=.arr false true e x l r
abbrev oD:EObj:=.dead
abbrev bv (b:Bool):EV:=.bool b
abbrev xN:EX:=.normal
abbrev xL (n:Nat):EX:=.leave n
abbrev sl (a:Bool)(e l:Nat)(r:Nat->List EV):EV:=.isl a e l r
abbrev tu (l:List EV):EV:=.tuple l
abbrev pt (r k:Nat):EV:=.ptr r k
abbrev ag (l:List EV):EV:=.agg l
abbrev sv (s:ByteArray):EV:=.str s
abbrev pv (l:List EV)(k:Nat):EV:=.ip l k
abbrev fc (f:FuncId)(a b:List EV):EV:=.func (.func f) a b
noncomputable abbrev sP:=SemP prog globs'
noncomputable abbrev sF:=SemF prog globs'
noncomputable abbrev sC:=SemC prog globs' false
noncomputable abbrev sL:=SemCL prog globs' false
noncomputable abbrev sR:=SemCR prog globs' false
noncomputable abbrev sLR:=SemLR prog globs' false
abbrev u8 (n:Int):EV:=.int .u8 n
abbrev s0:EV:=.isl false 0 0 (fun _=>[])
def dgQ (n:Nat):Q:=bif Nat.beq n 10 then .dec true else bif Nat.beq n 11 then .dec false else bif Nat.beq n 12 then .no else .kn 0 n
def dSf:Nat->Nat->List (Nat×Q)->List (Nat×Q)
 | 0,_,l=>l
 | n+1,c,l=>bif Nat.ble c 1 then l else bif Nat.beq (Nat.mod c 16) 14 then dSf n (Nat.div c 65536) ((Nat.mod (Nat.div c 256) 256,dgQ (Nat.mod (Nat.div c 16) 16)) :: l) else dSf n (Nat.div c 16) ((0,dgQ (Nat.mod c 16)) :: l)
abbrev dS (c:Nat):List (Nat×Q):=dSf 300 c []
theorem bT (b:Bool):b=true∨b=false:=Bool.eq_false_or_eq_true b
theorem kO {F:List (Bool×Bool)}(h:∀ p∈F,p.1=p.2):KOk [F]:=KOk.one h
theorem kz {v:List (Bool×Bool)}{b d:Bool}(hb:b=d)(h:∀ p∈v,p.1=p.2):∀ p∈(b,d) :: v,p.1=p.2:=X5 hb h
section
variable {α:Type}{A B:α->Prop}{r:α}
theorem e1 (h:A r)(g:B r:=by first | exact .inl ⟨rfl,by simp_all,by simp_all<;>omega⟩ | exact .inr (.inl ⟨rfl,by simp_all,by first | (simp_all; done) | (simp_all<;>omega)⟩) | exact .inr (.inr ⟨rfl,by simp_all⟩)):∃ r,A r/\B r:=⟨r,h,g⟩
theorem e2 (h:A r)(g:B r:=by (intro hb; first | exact absurd hb (by decide) | (simp_all<;>omega) | (simp_all; done))):∃ r,A r/\B r:=⟨r,h,g⟩
theorem e3 (h:A r)(g:B r:=by first | exact .inl ⟨rfl,by simp_all⟩ | exact .inr ⟨rfl,by simp_all⟩):∃ r,A r/\B r:=⟨r,h,g⟩
theorem e4 (h:A r)(g:B r:=by first | exact .inl ⟨_,_,rfl,by simp_all⟩ | exact .inr (.inl ⟨_,_,rfl,by simp_all⟩) | exact .inr (.inr ⟨rfl,by simp_all⟩)):∃ r,A r/\B r:=⟨r,h,g⟩
theorem e5 (h:A r)(g:B r:=by first | exact .inl ⟨rfl,by simp_all⟩ | exact .inr (.inl ⟨rfl,by simp_all⟩) | exact .inr (.inr ⟨rfl,by simp_all⟩)):∃ r,A r/\B r:=⟨r,h,g⟩
theorem e6 (h:A r)(g:B r:=by first | exact .inl ⟨rfl,by simp_all,by simp_all⟩ | exact .inr (.inl ⟨rfl,by simp_all,by simp_all⟩) | exact .inr (.inr ⟨rfl,by simp_all⟩)):∃ r,A r/\B r:=⟨r,h,g⟩
theorem e7 (h:A r)(g:B r:=by simp_all<;>omega):∃ r,A r/\B r:=⟨r,h,g⟩
theorem e8 (h:A r)(g:B r:=by first | exact .inl ⟨_,by simp_all,rfl⟩ | exact .inr ⟨rfl,by simp_all⟩):∃ r,A r/\B r:=⟨r,h,g⟩
theorem e9 (h:A r)(g:B r:=by first | exact .inl ⟨_,rfl⟩ | exact .inr rfl):∃ r,A r/\B r:=⟨r,h,g⟩
theorem e10 (h:A r)(g:B r:=by first | exact .inl ⟨_,rfl,by simp_all⟩ | exact .inr rfl):∃ r,A r/\B r:=⟨r,h,g⟩
theorem e11 (h:A r)(g:B r:=by first | exact .inl ⟨_,rfl,by simp_all⟩ | exact .inr ⟨rfl,by simp_all⟩):∃ r,A r/\B r:=⟨r,h,g⟩
end
theorem iO {p:Prop}(h:p:=by (simp only [inB,Ke,PJ,Qx,PK,PL,PM,Bool.cond_true_left,Bool.cond_false_left,Bool.cond_true_right,Bool.cond_false_right,Bool.not_not,Bool.not_and,Bool.not_or,Bool.and_eq_true,Bool.or_eq_true,Bool.and_eq_false_imp,Bool.or_eq_false_iff,Bool.not_eq_true',Bool.not_eq_false',decide_eq_true_eq,decide_eq_false_iff_not,beq_iff_eq,bne_iff_ne,beq_eq_false_iff_ne,ne_eq,Decidable.not_not,Int.toNat_natCast] at* <;>omega)):p:=h
section
variable {l:List Prop}(p:Prop)
theorem oF (t:AllP l)(h:p:=by (intros; simp only [inB,Ke,PJ,Qx,PK,PL,PM,Bool.cond_true_left,Bool.cond_false_left,Bool.cond_true_right,Bool.cond_false_right,Bool.not_not,Bool.not_and,Bool.not_or,Bool.and_eq_true,Bool.or_eq_true,Bool.and_eq_false_imp,Bool.or_eq_false_iff,Bool.not_eq_true',Bool.not_eq_false',decide_eq_true_eq,decide_eq_false_iff_not,beq_iff_eq,bne_iff_ne,beq_eq_false_iff_ne,ne_eq,Decidable.not_not,Int.toNat_natCast] at* <;>omega)):AllP (p :: l):=.cons h t
theorem oG (t:AllP l)(h:p:=by (intros; simp_all [inB]<;>omega)):AllP (p :: l):=.cons h t
theorem oI (t:AllP l)(h:p:=by (simp only [inB,Ke,PJ,Qx,PK,PL,PM,Bool.cond_true_left,Bool.cond_false_left,Bool.cond_true_right,Bool.cond_false_right,Bool.not_not,Bool.not_and,Bool.not_or,Bool.and_eq_true,Bool.or_eq_true,Bool.and_eq_false_imp,Bool.or_eq_false_iff,Bool.not_eq_true',Bool.not_eq_false',decide_eq_true_eq,decide_eq_false_iff_not,beq_iff_eq,bne_iff_ne,beq_eq_false_iff_ne,ne_eq,Decidable.not_not,Int.toNat_natCast] at* <;>omega)):AllP (p :: l):=.cons h t
theorem oJ (t:AllP l)(h:p:=by simp_all [inB]<;>omega):AllP (p :: l):=.cons h t
theorem oL (t:AllP l)(h:p:=by exact Bool.and_eq_true_iff.2 ⟨decide_eq_true (by omega),decide_eq_true (by omega)⟩):AllP (p :: l):=.cons h t
theorem oT (h:p)(t:AllP l):AllP (p :: l):=.cons h t
end
theorem kP (F:DD)(s:Scr){f:FuncId}{args:List EV}{v:EV}{ow:List Prop}(hF:KOk F)(ho:AllP ow)(he:CW prog f=true:=by kernel_rfl)(h:HQ (FN (BE prog globs' pures news 60 F) prog globs' 100000 f args s.start)=some (v,ow):=by kernel_rfl)(hq:eqL (FN (BE prog globs' pures news 60 F) prog globs' 100000 f args s.start)=eqR (FN (BE prog globs' pures news 60 F) prog globs' 100000 f args s.start):=by kernel_rfl):SemP prog globs' f args v:=Np B7 hF he h hq ho
theorem kF (F:DD)(s:Scr){f:FuncId}{args:List EV}{v:EV}{σ σ':AL}{ow:List Prop}(hF:KOk F)(ho:AllP ow)(mh:Nat)(L:List Nat)(he:CW prog f=true:=by kernel_rfl)(h:HQ (US mh L (HO (BE prog globs' pures news 60 F) prog globs' 100000 f args σ s.start))=some ((v,σ'),ow):=by kernel_rfl)(hq:eqL (HO (BE prog globs' pures news 60 F) prog globs' 100000 f args σ s.start)=eqR (HO (BE prog globs' pures news 60 F) prog globs' 100000 f args σ s.start):=by kernel_rfl)(hL:FO σ.length L=true:=by kernel_rfl):SemF prog globs' f args σ v σ':=P4 mh L B7 hF he h hq hL ho
theorem kR (F:DD)(s:Scr){rnd:Bool}{c:Code}{tmps t:List EV}{σ σ':AL}{ex:EX}{ow:List Prop}(hF:KOk F)(ho:AllP ow)(m mh:Nat)(L:List Nat)(k:Nat)(h:HQ (PX m mh L (Bu (BE prog globs' pures news 60 F) prog globs' rnd 100000 c tmps σ s.start))=some (((ex,t,σ')),ow):=by kernel_rfl)(hq:eqL (Bu (BE prog globs' pures news 60 F) prog globs' rnd 100000 c tmps σ s.start)=eqR (Bu (BE prog globs' pures news 60 F) prog globs' rnd 100000 c tmps σ s.start):=by kernel_rfl)(hL:FO k L=true:=by kernel_rfl):SemCR prog globs' rnd k c tmps σ (ex,t,σ'):=J2 m mh L k B7 hF h hq hL ho
theorem kL (F:DD)(s:Scr){rnd:Bool}{c:Code}{tmps t:List EV}{σ σ':AL}{ex:EX}{ow:List Prop}(hF:KOk F)(ho:AllP ow)(m mh:Nat)(L:List Nat)(h:HQ (PX m mh L (Bu (BE prog globs' pures news 60 F) prog globs' rnd 100000 c tmps σ s.start))=some (((ex,t,σ')),ow):=by kernel_rfl)(hq:eqL (Bu (BE prog globs' pures news 60 F) prog globs' rnd 100000 c tmps σ s.start)=eqR (Bu (BE prog globs' pures news 60 F) prog globs' rnd 100000 c tmps σ s.start):=by kernel_rfl)(hL:FO σ.length L=true:=by kernel_rfl):SemCL prog globs' rnd c tmps σ (ex,t,σ'):=SP m mh L B7 hF h hq hL ho
theorem kC (F:DD)(s:Scr){rnd:Bool}{c:Code}{tmps t:List EV}{σ σ':AL}{ex:EX}{ow:List Prop}(hF:KOk F)(ho:AllP ow)(m mh k:Nat)(h:HQ (Vd m mh k (Bu (BE prog globs' pures news 60 F) prog globs' rnd 100000 c tmps σ s.start))=some (((ex,t,σ')),ow):=by kernel_rfl)(hq:eqL (Bu (BE prog globs' pures news 60 F) prog globs' rnd 100000 c tmps σ s.start)=eqR (Bu (BE prog globs' pures news 60 F) prog globs' rnd 100000 c tmps σ s.start):=by kernel_rfl)(hl:(Nat.ble σ.length σ'.length && σ'.all (Px σ'.length) && t.all fun v=>v.refs.all fun r=>Decidable.decide (r<σ'.length))=true:=by kernel_rfl):SemC prog globs' rnd c tmps σ (ex,t,σ'):=P3 m mh k B7 hF h hq hl ho
theorem kPm (modes news:FuncId->Bool)(F:DD)(s:Scr){f:FuncId}{args:List EV}{v:EV}{ow:List Prop}(hF:KOk F)(ho:AllP ow)(he:CW prog f=true:=by kernel_rfl)(h:HQ (FN (BE prog globs' modes news 60 F) prog globs' 100000 f args s.start)=some (v,ow):=by kernel_rfl)(hq:eqL (FN (BE prog globs' modes news 60 F) prog globs' 100000 f args s.start)=eqR (FN (BE prog globs' modes news 60 F) prog globs' 100000 f args s.start):=by kernel_rfl):SemP prog globs' f args v:=Np B7 hF he h hq ho
theorem kFm (modes news:FuncId->Bool)(F:DD)(s:Scr){f:FuncId}{args:List EV}{v:EV}{σ σ':AL}{ow:List Prop}(hF:KOk F)(ho:AllP ow)(mh:Nat)(L:List Nat)(he:CW prog f=true:=by kernel_rfl)(h:HQ (US mh L (HO (BE prog globs' modes news 60 F) prog globs' 100000 f args σ s.start))=some ((v,σ'),ow):=by kernel_rfl)(hq:eqL (HO (BE prog globs' modes news 60 F) prog globs' 100000 f args σ s.start)=eqR (HO (BE prog globs' modes news 60 F) prog globs' 100000 f args σ s.start):=by kernel_rfl)(hL:FO σ.length L=true:=by kernel_rfl):SemF prog globs' f args σ v σ':=P4 mh L B7 hF he h hq hL ho
theorem kRm (modes news:FuncId->Bool)(F:DD)(s:Scr){rnd:Bool}{c:Code}{tmps t:List EV}{σ σ':AL}{ex:EX}{ow:List Prop}(hF:KOk F)(ho:AllP ow)(m mh:Nat)(L:List Nat)(k:Nat)(h:HQ (PX m mh L (Bu (BE prog globs' modes news 60 F) prog globs' rnd 100000 c tmps σ s.start))=some (((ex,t,σ')),ow):=by kernel_rfl)(hq:eqL (Bu (BE prog globs' modes news 60 F) prog globs' rnd 100000 c tmps σ s.start)=eqR (Bu (BE prog globs' modes news 60 F) prog globs' rnd 100000 c tmps σ s.start):=by kernel_rfl)(hL:FO k L=true:=by kernel_rfl):SemCR prog globs' rnd k c tmps σ (ex,t,σ'):=J2 m mh L k B7 hF h hq hL ho
theorem kLm (modes news:FuncId->Bool)(F:DD)(s:Scr){rnd:Bool}{c:Code}{tmps t:List EV}{σ σ':AL}{ex:EX}{ow:List Prop}(hF:KOk F)(ho:AllP ow)(m mh:Nat)(L:List Nat)(h:HQ (PX m mh L (Bu (BE prog globs' modes news 60 F) prog globs' rnd 100000 c tmps σ s.start))=some (((ex,t,σ')),ow):=by kernel_rfl)(hq:eqL (Bu (BE prog globs' modes news 60 F) prog globs' rnd 100000 c tmps σ s.start)=eqR (Bu (BE prog globs' modes news 60 F) prog globs' rnd 100000 c tmps σ s.start):=by kernel_rfl)(hL:FO σ.length L=true:=by kernel_rfl):SemCL prog globs' rnd c tmps σ (ex,t,σ'):=SP m mh L B7 hF h hq hL ho
theorem kCm (modes news:FuncId->Bool)(F:DD)(s:Scr){rnd:Bool}{c:Code}{tmps t:List EV}{σ σ':AL}{ex:EX}{ow:List Prop}(hF:KOk F)(ho:AllP ow)(m mh k:Nat)(h:HQ (Vd m mh k (Bu (BE prog globs' modes news 60 F) prog globs' rnd 100000 c tmps σ s.start))=some (((ex,t,σ')),ow):=by kernel_rfl)(hq:eqL (Bu (BE prog globs' modes news 60 F) prog globs' rnd 100000 c tmps σ s.start)=eqR (Bu (BE prog globs' modes news 60 F) prog globs' rnd 100000 c tmps σ s.start):=by kernel_rfl)(hl:(Nat.ble σ.length σ'.length && σ'.all (Px σ'.length) && t.all fun v=>v.refs.all fun r=>Decidable.decide (r<σ'.length))=true:=by kernel_rfl):SemC prog globs' rnd c tmps σ (ex,t,σ'):=P3 m mh k B7 hF h hq hl ho
def wi (n l m:Int):Bool:=bif decide (n>=l) then decide (n<=m) else false
structure RowD where
 club:Int
 played:Int
 won:Int
 drawn:Int
 lost:Int
 for':Int
 against:Int
 awayFor:Int
 awayWon:Int
 cards:Int
 points:Int
 deriving Inhabited,DecidableEq
structure PlaceD where
 rank:Int
 by':Int
 zone:ByteArray
 row:RowD
 deriving Inhabited
structure TableD where
 season:Int
 comp:Int
 nn:Bool
 len:Nat
 ps:Nat->PlaceD
def RowD.cells (r:RowD):List EV:=[.int .i64 r.club,.int .i64 r.played,.int .i64 r.won,.int .i64 r.drawn,.int .i64 r.lost,.int .i64 r.for',.int .i64 r.against,.int .i64 r.awayFor,.int .i64 r.awayWon,.int .i64 r.cards,.int .i64 r.points]
def PlaceD.cells (p:PlaceD):List EV:=[.int .i64 p.rank,.int .i64 p.by',.str p.zone,.int .i64 p.row.club,.int .i64 p.row.played,.int .i64 p.row.won,.int .i64 p.row.drawn,.int .i64 p.row.lost,.int .i64 p.row.for',.int .i64 p.row.against,.int .i64 p.row.awayFor,.int .i64 p.row.awayWon,.int .i64 p.row.cards,.int .i64 p.row.points]
def TableD.ev (t:TableD):EV:=.agg [.int .i64 t.season,.int .i64 t.comp,.isl t.nn 14 t.len fun i=>(t.ps i).cells]
def RowD.ok (r:RowD):Bool:=bif !wi r.played 0 9999 then false else bif !wi r.won 0 9999 then false else bif !wi r.drawn 0 9999 then false else bif !wi r.lost 0 9999 then false else bif !wi r.for' 0 9999 then false else bif !wi r.against 0 9999 then false else bif !wi r.awayFor 0 9999 then false else bif !wi r.awayWon 0 9999 then false else bif !wi r.cards 0 9999 then false else bif wi r.club 0 191 then wi r.points (-99999) 99999 else false
def seen (ps:Nat->PlaceD)(i:Int):List (EV×EV):=(List.range i.toNat).map fun j=>(.int .i64 (ps j).row.club,.bool true)
def Hl (ps:Nat->PlaceD)(i x:Int):Bool:=(List.range i.toNat).any fun j=>(ps j).row.club==x
def Rf (t:TableD)(i:Int):Bool:=bif !bif bif Decidable.decide (i>0) then (t.ps i.toNat).rank==(t.ps (i - 1).toNat).rank else false then bif (t.ps i.toNat).by'==0 then Decidable.decide ((t.ps i.toNat).row.club>(t.ps (i - 1).toNat).row.club) else false else bif (t.ps i.toNat).rank==i+1 then bif i==0 then bif (t.ps i.toNat).by'==0 then true else false else wi (t.ps i.toNat).by' 1 12 else false then true else bif Decidable.decide (((t.ps i.toNat).zone.size:Int)>24) then true else bif !(t.ps i.toNat).row.ok then true else bif Hl t.ps i (t.ps i.toNat).row.club then true else false
def ET (t:TableD):Nat->Nat->Bool
 | _,0=>true
 | n,k+1=>bif Rf t n then false else ET t (n+1) k
def TableD.good (t:TableD):Bool:=ET t 0 t.len
def TableD.obj (t:TableD):EObj:=.var false true [.int .i64 t.season,.int .i64 t.comp,.isl t.nn 14 t.len fun i=>(t.ps i).cells]
structure ResD where
 season:Int
 comp:Int
 home:Int
 away:Int
 hg:Int
 ag:Int
 hp:Int
 ap:Int
 hc:Int
 ac:Int
 day:Int
 forfeit:Bool
 both:Bool
 deriving Inhabited
def ResD.cells (r:ResD):List EV:=[.int .i64 r.season,.int .i64 r.comp,.int .i64 r.home,.int .i64 r.away,.int .i64 r.hg,.int .i64 r.ag,.int .i64 r.hp,.int .i64 r.ap,.int .i64 r.hc,.int .i64 r.ac,.int .i64 r.day,.bool r.forfeit,.bool r.both]
structure ZoneD where
 name:ByteArray
 frm:Int
 upto:Int
 deriving Inhabited
def ZoneD.cells (z:ZoneD):List EV:=[.str z.name,.int .i64 z.frm,.int .i64 z.upto]
structure CondV where
 kind:Int
 var:Int
 n:Int
 nn:Bool
 len:Nat
 row:Nat->List EV
 deriving Inhabited
def CondV.cells (c:CondV):List EV:=[.int .i64 c.kind,.int .i64 c.var,.int .i64 c.n,.isl c.nn 4 c.len c.row]
structure StepV where
 kind:Int
 by_:Int
 cond:CondV
 n1:Bool
 l1:Nat
 r1:Nat->List EV
 n2:Bool
 l2:Nat
 r2:Nat->List EV
 deriving Inhabited
def StepV.cells (s:StepV):List EV:=[.int .i64 s.kind,.int .i64 s.by_,.int .i64 s.cond.kind,.int .i64 s.cond.var,.int .i64 s.cond.n,.isl s.cond.nn 4 s.cond.len s.cond.row,.isl s.n1 8 s.l1 s.r1,.isl s.n2 8 s.l2 s.r2]
structure RulesV where
 name:ByteArray
 win:Int
 draw:Int
 loss:Int
 onn:Bool
 on:Nat
 orow:Nat->List EV
 znn:Bool
 zn:Nat
 zs:Nat->ZoneD
def RulesV.cells (r:RulesV):List EV:=[.str r.name,.int .i64 r.win,.int .i64 r.draw,.int .i64 r.loss,.isl r.onn 8 r.on r.orow,.isl r.znn 3 r.zn fun i=>(r.zs i).cells]
abbrev Cw (a0:Int):=decide (a0>=0)
theorem UT (s:Int)(c:Int):sP 132 [iv s,iv c] (bv (bif decide (s>=0) then bif decide (s<64) then bif decide (c>=0) then decide (c<16) else false else false else false)):=
 kP [] (.mk [] [(3,.fork true (Cw s) 16 3 0 0 (.mk [] [(0,.fork false (decide (s<64)) 16 3 0 0 (.mk [] [(0,.fork false (Cw c) 16 3 0 0 (.mk (dS 17592204010017) [] [] [] []) (.mk (dS 17592204010017) [] [] [] []))] [] [] []) (.mk (dS 268435729) [] [] [] []))] [] [] []) (.mk (dS 65536) [] [] [] []))] [] [] []) KOk.nil .nil
theorem yE (s:Int):sP 119 [iv s] (bv (bif decide (s>=0) then decide (s<192) else false)):=
 kP [] (.mk [] [(3,.fork true (Cw s) 4 1 0 0 (.mk (dS 65536) [] [] [] []) (.mk (dS 65536) [] [] [] []))] [] [] []) KOk.nil .nil
theorem UU (s:Int):sP 173 [iv s] (bv (bif decide (s>=-99) then decide (s<=99) else false)):=
 kP [] (.mk [] [(3,.fork true (decide (s>=-99)) 4 1 0 0 (.mk (dS 4096) [] [] [] []) (.mk (dS 4096) [] [] [] []))] [] [] []) KOk.nil .nil
abbrev B1 (a0:Int)(a1:Int):=decide (a0<a1)
theorem Rg (s:Int)(c:Int):sP 66 [iv s,iv c] (bv (B1 s c)):=
 kP [] (.mk [] [(3,.fork true (s != s) 0 19 0 0 (.mk (dS 4295015355) [] [] [] []) (.mk (dS 65536) [] [] [] []))] [] [] []) KOk.nil (oF ((s != s)=true->(!c != c)=false) (oF ((s != s)=true->(!c != c)=false) (oF ((s != s)=true->(!c != c)=false) (oF ((s != s)=true->(!c != c)=false) .nil))))
theorem ACi (a:Int)(b:Int)(n:Int):sP 214 [ag [iv a,iv b],iv n] (bv (bif decide (n>=a) then decide (n<=b) else false)):=
 kP [] (.mk [] [(3,.fork true (decide (n>=a)) 16 7 0 1 (.mk (dS 1048576) [] [] [] []) (.mk (dS 1048576) [] [] [] []))] [] [] []) KOk.nil .nil
theorem YX (n:Int):sP 87 [iv n] (bv (bif decide (n<0) then true else decide (n>9999))):=
 kP [] (.mk [] [(3,.fork true (decide (n<0)) 4 1 0 0 (.mk (dS 4096) [] [] [] []) (.mk (dS 4096) [] [] [] []))] [] [] []) KOk.nil .nil
abbrev Nr (a0:Int)(a1:Int)(a2:Int)(a3:Int):=[iv a0,iv a1,iv a2,iv a3]
abbrev SQ (a0:Int)(a1:Int)(a2:Int)(a3:Int):=Nr a0 a1 a2 a3
abbrev AS (a0:Int)(a1:Int)(a2:Int)(a3:Int):=SQ a0 a1 a2 a3
theorem Ve (v:Int)(a:Int)(b:Int)(c:Int)(d:Int):sP 215 [iv v,ag (AS a b c d)] (iv (bif v==1 then a else bif v==2 then b else bif v==3 then c else d)):=
 kP [] (.mk [] [(0,.fork true (v==1) 16 0 0 0 (.mk (dS 16) [] [] [] []) (.mk [] [(0,.fork false (v==2) 16 0 0 0 (.mk (dS 257) [] [] [] []) (.mk [] [(0,.fork false (v==3) 16 0 0 0 (.mk (dS 4114) [] [] [] []) (.mk (dS 4114) [] [] [] []))] [] [] []))] [] [] []))] [] [] []) KOk.nil .nil
abbrev D9:=dS 0x10000011111222222
theorem Vf (c:CondV):sP 294 [ag c.cells] (bv (bif c.kind==0 then bif c.var==0 then bif c.n==0 then (↑c.len:Int)==0 else false else false else false)):=
 kP [] (.mk [] [(3,.fork true (c.kind==0) 4 3 0 1 (.mk [] [(0,.fork false (c.var==0) 4 3 0 1 (.mk [] [(0,.fork false (c.n==0) 4 3 0 1 (.mk (D9) [] [] [] []) (.mk (D9) [] [] [] []))] [] [] []) (.mk (dS 1099511697681) [] [] [] []))] [] [] []) (.mk (dS 1048576) [] [] [] []))] [] [] []) KOk.nil .nil
def Bo (s c:Int):Bool:=bif decide (s>=0) then bif decide (s<64) then bif decide (c>=0) then decide (c<16) else false else false else false
def C8 (s:Int):Bool:=bif decide (s>=0) then decide (s<192) else false
def wvB (s:Int):Bool:=bif decide (s>=-99) then decide (s<=99) else false
def hasB (a b n:Int):Bool:=bif decide (n>=a) then decide (n<=b) else false
def FP (n:Int):Bool:=bif decide (n<0) then true else decide (n>9999)
theorem GB {s c:Int}(h:Bo s c=true):(0<=s/\s<64)/\(0<=c/\c<16):=by
 unfold Bo at h
 simp only [Bool.cond_false_right,Bool.and_eq_true,decide_eq_true_eq] at h
 omega
theorem EU {s:Int}(h:C8 s=true):0<=s/\s<192:=by
 unfold C8 at h
 simp only [Bool.cond_false_right,Bool.and_eq_true,decide_eq_true_eq] at h
 omega
theorem GC (s c:Int):sP 132 [EV.int IntKind.i64 s,EV.int IntKind.i64 c] (EV.bool (Bo s c)):=UT s c
theorem HJ (s:Int):sP 119 [EV.int IntKind.i64 s] (EV.bool (C8 s)):=yE s
theorem LD (s:Int):sP 173 [EV.int IntKind.i64 s] (EV.bool (wvB s)):=UU s
theorem D0 (a b n:Int):sP 214 [EV.agg [EV.int IntKind.i64 a,EV.int IntKind.i64 b],EV.int IntKind.i64 n] (EV.bool (hasB a b n)):=ACi a b n
theorem Ns (n:Int):sP 87 [EV.int IntKind.i64 n] (EV.bool (FP n)):=YX n
def AO (v a b c d:Int):Int:=bif v==1 then a else bif v==2 then b else bif v==3 then c else d
theorem Bx (v a b c d:Int):sP 215 [EV.int IntKind.i64 v,EV.agg [EV.int IntKind.i64 a,EV.int IntKind.i64 b,EV.int IntKind.i64 c,EV.int IntKind.i64 d]] (EV.int IntKind.i64 (AO v a b c d)):=Ve v a b c d
noncomputable def ixT (m:Int)(n:Nat)(w:Nat->Int)(i:Int):List EV:=frame 19 [(0,.isl true 1 n fun i=>[.int .i64 (w i)]),(1,.func (.func 228) [] [.ip [.int .i64 m] 0]),(6,.isl true 1 n fun i=>[.int .i64 (w i)]),(7,.int .i64 n),(8,.int .i64 i)]
abbrev SR (a0:Int)(a1:Nat):=[[(decide (a0<↑a1),false)]]
abbrev Bl (a0:Int)(a1:Nat):=decide (a0<↑a1)
abbrev SS (a0:Int)(a1:Nat):=(decide (a0<↑a1),true)
noncomputable abbrev Ec:=cB (cR (cL (cR (AB prog 157))))
noncomputable abbrev Cx (a0:Int):RC:=(EX.ret,(frame 19 [(4,iv a0)]),[])
abbrev SU (a0:Int)(a1:Nat):=(decide (a0<↑a1))=true
abbrev Di (a0:Nat->Int)(a1:Int):=decide (a0 a1.toNat<0)
abbrev SV (a0:Int)(a1:Nat):=SR a0 a1
abbrev SW (a0:Int)(a1:Nat):=(Bl a0 a1)=false
abbrev SX (a0:Int)(a1:Nat):=(SS a0 a1)
abbrev SY (a0:Int)(a1:Nat):=SU a0 a1
abbrev Ae (a0:Int)(a1:Nat):=SV a0 a1
abbrev Af (a0:Int)(a1:Nat):=SW a0 a1
abbrev AG (a0:Int)(a1:Nat):=SX a0 a1
abbrev AH (a0:Int)(a1:Nat):=SY a0 a1
section
variable (m:Int)(n:Nat)(w:Nat->Int)(i:Int)(h0:0<=i)(h3:n<=100000)
include m n w i h0 h3
theorem yF (q0:AH i n)(q1:(bif decide (w i.toNat<0) then true else decide (w i.toNat>m))=true):sC (cB (Ec)) (ixT m n w i) [] (Cx i):=
 kC [[AG i n,(bif decide (w i.toNat<0) then true else decide (w i.toNat>m),true)]] (.mk (dS 257) [(10,.fork true (Di w i) 65536 2019 0 0 (.mk (dS 1703936) [] [] [] []) (.mk (dS 1703936) [] [] [] []))] [] [] []) (kO (kz q0 (kz q1 AD))) (oG ((Di w i)=true->(inB i n)=true) (oG ((Di w i)=false->(inB i n)=true) .nil)) 16 0 0
theorem yG (q0:AH i n)(q1:(bif decide (w i.toNat<0) then true else decide (w i.toNat>m))=false):sC (cB (Ec)) (ixT m n w i) [] (xN,(frame 19 [(0,sl true 1 n fun i=>[iv (w i)]),(1,fc (228) [] [pv [iv m] 0]),(6,sl true 1 n fun i=>[iv (w i)]),(7,iv ↑n),(8,iv (i+1))]),[]):=
 kC [[AG i n,(bif decide (w i.toNat<0) then true else decide (w i.toNat>m),false)]] (.mk (dS 4122) [(10,.fork true (Di w i) 65536 2019 0 0 (.mk (dS 1703936) [] [] [] []) (.mk (dS 1703936) [] [] [] []))] [] [] []) (kO (kz q0 (kz q1 AD))) (oI ((inR IntKind.i64 (i+1))=true) (oG ((Di w i)=true->(inB i n)=true) (oG ((Di w i)=false->(inB i n)=true) .nil))) 451 0 0
theorem yH (q0:Af i n):sC (cB (Ec)) (ixT m n w i) [] (xL 0,(frame 19 [(1,fc (228) [] [pv [iv m] 0])]),[]):=
 kC (Ae i n) (.mk (dS 16) [] [] [] []) (kO (kz q0 AD)) .nil 2 0 0
end
def outs (m:Int)(w:Nat->Int)(i:Nat):Bool:=bif Decidable.decide (w i<0) then true else Decidable.decide (w i>m)
def GK (m:Int)(w:Nat->Int):Nat->Nat->Option Nat
 | _,0=>none
 | i,k+1=>bif outs m w i then some i else GK m w (i+1) k
noncomputable def yI (m:Int):Option Nat->RC
 | none=>(EX.leave 0,frame 19 [(1,EV.func (Fn.func 228) [] [EV.ip [EV.int IntKind.i64 m] 0])],[])
 | some i=>(EX.ret,frame 19 [(4,EV.int IntKind.i64 i)],[])
theorem ixL (m:Int)(n:Nat)(w:Nat->Int)(h3:n<=100000):∀ (k i:Nat),i+k=n->SemL prog globs' false (cB (cB (cR (cL (cR (AB prog 157)))))) (ixT m n w i) [] (yI m (GK m w i k))
 | 0,i,h=>SemL.last (yH m n w i (by omega) h3 (by simp; omega)) (by intro h; cases h)
 | k+1,i,h=>by
  cases hb:outs m w i with
  | true=>
   have:=yF m n w i (by omega) h3 (by simp; omega) (by rw [Int.toNat_natCast]; exact hb)
   have e:GK m w i (k+1)=some i:=by simp [GK,hb]
   rw [e]
   exact SemL.last this (by intro h; cases h)
  | false=>
   have:=yG m n w i (by omega) h3 (by simp; omega) (by rw [Int.toNat_natCast]; exact hb)
   have e:GK m w i (k+1)=GK m w (i+1) k:=by simp [GK,hb]
   rw [e]
   exact SemL.step this (ixL m n w h3 k (i+1) (by omega))
abbrev FZ (a0:Int):=fc (228) [] [pv [iv a0] 0]
abbrev SZ (a0:Nat)(a1:Nat->Int):=sl true 1 a0 fun i=>[iv (a1 i)]
abbrev Sa (a0:Nat)(a1:Nat->Int):=SZ a0 a1
abbrev Bm (a0:Nat)(a1:Nat->Int):=Sa a0 a1
theorem ACj (m:Int)(n:Nat)(w:Nat->Int)(i:Nat)(ih:sL (Ec) (ixT m n w 0) [] ((xL 0,frame 19 [(1,fc (228) [] [pv [iv m] 0])],[]):RC)):sP 157 [Bm n w,FZ m] (iv (-1)):=
 kP [] (.mk [] [(6,.is 451 0 (xL 0,(frame 19 [(1,fc (228) [] [pv [iv m] 0])]),[]))] [] [] []) KOk.nil (.cons ih .nil)
theorem ACk (m:Int)(n:Nat)(w:Nat->Int)(i:Nat)(ih:sL (Ec) (ixT m n w 0) [] ((EX.ret,frame 19 [(4,iv (i:Int))],[]):RC)):sP 157 [Bm n w,FZ m] (iv ↑i):=
 kP [] (.mk [] [(6,.is 451 0 (EX.ret,(frame 19 [(4,iv ↑i)]),[]))] [] [] []) KOk.nil (.cons ih .nil)
theorem ACl (m:Int)(n:Nat)(w:Nat->Int)(i:Nat)(ih:sP 157 [Bm n w,FZ m] (iv (-1))):sP 86 [Bm n w,FZ m] (bv false):=
 kP [] (.mk [] [] [some (iv (-1))] [] []) KOk.nil (.cons ih .nil)
theorem ACm (m:Int)(n:Nat)(w:Nat->Int)(i:Nat)(ih:sP 157 [Bm n w,FZ m] (iv (i:Int))):sP 86 [Bm n w,FZ m] (bv true):=
 kP [] (.mk [] [] [some (iv ↑i)] [] []) KOk.nil (.cons ih .nil)
theorem yJ (m:Int)(n:Nat)(w:Nat->Int)(h3:n<=100000):SemP prog globs' 86 [EV.isl true 1 n fun (i:Nat)=>[EV.int IntKind.i64 (w i)],EV.func (Fn.func 228) [] [EV.ip [EV.int IntKind.i64 m] 0]] (EV.bool (GK m w 0 n).isSome):=by
 have h:=SemL.toCL (ixL m n w h3 n 0 (by omega)) (path:=cB (cR (cL (cR (AB prog 157))))) (by kernel_rfl)
 cases hx:GK m w 0 n with
 | none=>rw [hx] at h; exact ACl m n w 0 (ACj m n w 0 h)
 | some i=>rw [hx] at h; exact ACm m n w i (ACk m n w i h)
theorem Vg (s:Int)(c:Int)(h:Int)(a:Int)(q0:(!Bo s c)=true):sP 76 [ag (AS s c h a)] (iv 70):=
 kP [[(!Bo s c,true)]] (.mk (dS 1048576) [] [some (bv (Bo s c))] [] []) (kO (kz q0 AD)) (oT (sP 132 [iv s,iv c] (bv (Bo s c))) (GC _ _) .nil)
theorem Vh (s:Int)(c:Int)(h:Int)(a:Int)(q0:(!Bo s c)=false)(q1:(!C8 h)=true):sP 76 [ag (AS s c h a)] (iv 70):=
 kP [[(!Bo s c,false),(!C8 h,true)]] (.mk (dS 1099511697681) [] [some (bv (Bo s c)),some (bv (C8 h))] [] []) (kO (kz q0 (kz q1 AD))) (oT (sP 119 [iv h] (bv (C8 h))) (HJ _) (oT (sP 132 [iv s,iv c] (bv (Bo s c))) (GC _ _) .nil))
section
variable (s:Int)(c:Int)(h:Int)(a:Int)(q0:(!Bo s c)=false)(q1:(!C8 h)=false)
include s c h a q0 q1
theorem Vi (q2:(!C8 a)=true):sP 76 [ag (AS s c h a)] (iv 70):=
 kP [[(!Bo s c,false),(!C8 h,false),(!C8 a,true)]] (.mk (D9) [] [some (bv (Bo s c)),some (bv (C8 h)),some (bv (C8 a))] [] []) (kO (kz q0 (kz q1 (kz q2 AD)))) (oT (sP 119 [iv a] (bv (C8 a))) (HJ _) (oT (sP 119 [iv h] (bv (C8 h))) (HJ _) (oT (sP 132 [iv s,iv c] (bv (Bo s c))) (GC _ _) .nil)))
theorem Vj (q2:(!C8 a)=false)(q3:(h==a)=true):sP 76 [ag (AS s c h a)] (iv 70):=
 kP [[(!Bo s c,false),(!C8 h,false),(!C8 a,false),(h==a,true)]] (.mk (dS 0x100000111112222223) [] [some (bv (Bo s c)),some (bv (C8 h)),some (bv (C8 a))] [] []) (kO (kz q0 (kz q1 (kz q2 (kz q3 AD))))) (oT (sP 119 [iv a] (bv (C8 a))) (HJ _) (oT (sP 119 [iv h] (bv (C8 h))) (HJ _) (oT (sP 132 [iv s,iv c] (bv (Bo s c))) (GC _ _) .nil)))
theorem Vk (q2:(!C8 a)=false)(q3:(h==a)=false):sP 76 [ag (AS s c h a)] (iv 0):=
 kP [[(!Bo s c,false),(!C8 h,false),(!C8 a,false),(h==a,false)]] (.mk (dS 0x100000111112222223) [] [some (bv (Bo s c)),some (bv (C8 h)),some (bv (C8 a))] [] []) (kO (kz q0 (kz q1 (kz q2 (kz q3 AD))))) (oT (sP 119 [iv a] (bv (C8 a))) (HJ _) (oT (sP 119 [iv h] (bv (C8 h))) (HJ _) (oT (sP 132 [iv s,iv c] (bv (Bo s c))) (GC _ _) .nil)))
end
theorem yK (s:Int)(c:Int)(h:Int)(a:Int):∃ e,sP 76 [ag [iv s,iv c,iv h,iv a]] (iv e)/\(e=0->(0<=s/\s<64)/\(0<=c/\c<16)/\(0<=h/\h<192)/\(0<=a/\a<192)/\h≠a):=by
 rcases bT (!Bo s c) with q0 | q0
 ·exact ⟨_,(Vg s c h a q0),fun he=>by first | exact absurd he (by decide) | (have h1:=@GB s c (by simp_all); have h2:=@EU h (by simp_all); have h3:=@EU a (by simp_all); have h4:h≠a:=(by simp_all); omega)⟩
 ·rcases bT (!C8 h) with q1 | q1
  ·exact ⟨_,(Vh s c h a q0 q1),fun he=>by first | exact absurd he (by decide) | (have h1:=@GB s c (by simp_all); have h2:=@EU h (by simp_all); have h3:=@EU a (by simp_all); have h4:h≠a:=(by simp_all); omega)⟩
  ·rcases bT (!C8 a) with q2 | q2
   ·exact ⟨_,(Vi s c h a q0 q1 q2),fun he=>by first | exact absurd he (by decide) | (have h1:=@GB s c (by simp_all); have h2:=@EU h (by simp_all); have h3:=@EU a (by simp_all); have h4:h≠a:=(by simp_all); omega)⟩
   ·rcases bT (h==a) with q3 | q3
    ·exact ⟨_,(Vj s c h a q0 q1 q2 q3),fun he=>by first | exact absurd he (by decide) | (have h1:=@GB s c (by simp_all); have h2:=@EU h (by simp_all); have h3:=@EU a (by simp_all); have h4:h≠a:=(by simp_all); omega)⟩
    ·exact ⟨_,(Vk s c h a q0 q1 q2 q3),fun he=>by first | exact absurd he (by decide) | (have h1:=@GB s c (by simp_all); have h2:=@EU h (by simp_all); have h3:=@EU a (by simp_all); have h4:h≠a:=(by simp_all); omega)⟩
theorem YY (m:Int)(n:Nat)(w:Nat->Int)(b:Bool)(ih:sP 86 [Bm n w,FZ m] (bv b)):sP 174 [iv m,Bm n w] (bv !b):=
 kP [[]] (.mk [] [] [some (bv b)] [] []) (kO AD) (.cons ih .nil)
abbrev Ax (a0:ResD):=IntKind.i64.wrap (a0.hp+a0.ap)>0
abbrev BY (a0:ResD):=!bif a0.forfeit then bif bif a0.both then bif a0.hg==0 then a0.ag==0 else false else bif bif a0.ag==3 then bif a0.hg==3 then a0.hg==0 else a0.hg==0 else bif a0.hg==3 then false else false then true else bif a0.ag==3 then bif a0.hg==3 then a0.ag==0 else false else bif a0.hg==3 then a0.ag==0 else false then IntKind.i64.wrap (IntKind.i64.wrap (IntKind.i64.wrap (a0.hp+a0.ap)+a0.hc)+a0.ac)==0 else false else !a0.both
abbrev DG:=dS 4294971665
abbrev Nt (a0:ResD):=bif a0.ag==3 then bif a0.hg==3 then a0.hg==0 else a0.hg==0 else bif a0.hg==3 then false else false
abbrev Ed:=dS 0x100000000000011111111222222
abbrev Nu (a0:ResD):=bif a0.both then bif a0.hg==0 then a0.ag==0 else false else bif bif a0.ag==3 then bif a0.hg==3 then a0.hg==0 else a0.hg==0 else bif a0.hg==3 then false else false then true else bif a0.ag==3 then bif a0.hg==3 then a0.ag==0 else false else bif a0.hg==3 then a0.ag==0 else false
abbrev Aj (a0:Int)(a1:Bool)(a2:Bool)(a3:Bool):=bif a0 != 0 then true else bif !a1 then true else bif !a2 then true else !a3
theorem YZ (r:ResD)(eg:Int)(b4:Bool)(b2:Bool)(b1:Bool)(ihg:sP 76 [ag [iv r.season,iv r.comp,iv r.home,iv r.away]] (iv eg))(ih4:sP 174 [iv 99,sl true 1 4 fun i=>[[iv r.hg],[iv r.ag],[iv r.hp],[iv r.ap]].getD (0+i) []] (bv b4))(ih2:sP 174 [iv 120,sl true 1 2 fun i=>[[iv r.hc],[iv r.ac]].getD (0+i) []] (bv b2))(ih1:sP 174 [iv 1048576,sl true 1 1 fun i=>[[iv r.day]].getD (0+i) []] (bv b1)):sP 99 [ag r.cells] (iv (bif bif eg != 0 then true else bif !b4 then true else bif !b2 then true else !b1 then 1 else bif bif decide (r.comp<8) then decide (Ax r) else false then 1 else bif !bif r.forfeit then bif bif r.both then bif r.hg==0 then r.ag==0 else false else bif bif r.ag==3 then bif r.hg==3 then r.hg==0 else r.hg==0 else bif r.hg==3 then false else false then true else bif r.ag==3 then bif r.hg==3 then r.ag==0 else false else bif r.hg==3 then r.ag==0 else false then IntKind.i64.wrap (IntKind.i64.wrap (IntKind.i64.wrap (r.hp+r.ap)+r.hc)+r.ac)==0 else false else !r.both then 1 else 0)):=
 kP [] (.mk [] [(0,.fork true (Aj eg b4 b2 b1) 4 0 0 0 (.mk (dS 16) [(4,.fork true (eg != 0) 274877906944 7 0 1 (.mk (dS 281474976710656) [] [some (iv eg)] [] []) (.mk [] [(0,.fork false (!b4) 274877906944 7 0 3 (.mk (dS 0x100000000000011111111) [] [some (iv eg),some (bv b4)] [] []) (.mk [] [(0,.fork false (!b2) 274877906944 7 0 7 (.mk (Ed) [] [some (iv eg),some (bv b4),some (bv b2)] [] []) (.mk (Ed) [] [some (iv eg),some (bv b4),some (bv b2),some (bv b1)] [] []))] [] [] []))] [] [] []))] [] [] []) (.mk [] [(0,.fork false (bif decide (r.comp<8) then decide (Ax r) else false) 4 0 0 0 (.mk (dS 4289) [(4,.fork true (eg != 0) 274877906944 7 0 1 (.mk (dS 281474976710656) [] [some (iv eg)] [] []) (.mk [] [(0,.fork false (!b4) 274877906944 7 0 3 (.mk (dS 0x100000000000011111111) [] [some (iv eg),some (bv b4)] [] []) (.mk [] [(0,.fork false (!b2) 274877906944 7 0 7 (.mk (Ed) [] [some (iv eg),some (bv b4),some (bv b2)] [] []) (.mk (Ed) [] [some (iv eg),some (bv b4),some (bv b2),some (bv b1)] [] []))] [] [] []))] [] [] [])),(6,.fork true (decide (r.comp<8)) 2251799813685248 17317308137487 0 1 (.mk (dS 4096) [] [] [] []) (.mk (dS 4096) [] [] [] []))] [] [] []) (.mk [] [(0,.fork false (BY r) 4 0 0 0 (.mk (dS 68626) [(4,.fork true (eg != 0) 274877906944 7 0 1 (.mk (dS 281474976710656) [] [some (iv eg)] [] []) (.mk [] [(0,.fork false (!b4) 274877906944 7 0 3 (.mk (dS 0x100000000000011111111) [] [some (iv eg),some (bv b4)] [] []) (.mk [] [(0,.fork false (!b2) 274877906944 7 0 7 (.mk (Ed) [] [some (iv eg),some (bv b4),some (bv b2)] [] []) (.mk (Ed) [] [some (iv eg),some (bv b4),some (bv b2),some (bv b1)] [] []))] [] [] []))] [] [] [])),(6,.fork true (decide (r.comp<8)) 2251799813685248 17317308137487 0 1 (.mk (dS 4096) [] [] [] []) (.mk (dS 4096) [] [] [] [])),(7,.fork true (r.forfeit) 16 141880705570308111 0 1 (.mk (dS 16) [(2,.fork true (r.ag==3) 0 141880705570308159 16 1 (.mk [] [(0,.fork false (r.hg==3) 0 141880705570308159 16 1 (.mk (DG) [] [] [] []) (.mk (DG) [] [] [] []))] [] [] []) (.mk [] [(0,.fork false (r.hg==3) 0 141880705570308159 16 1 (.mk (DG) [] [] [] []) (.mk (DG) [] [] [] []))] [] [] [])),(3,.fork true (r.both) 16 56668539675141312872495 16 1 (.mk (dS 16) [(3,.fork true (r.hg==0) 16 9652517232866260387102767 0 17 (.mk (dS 69539471584) [] [] [] []) (.mk (dS 16977408) [] [] [] []))] [] [] []) (.mk (dS 16) [(1,.fork true (Nt r) 16 56668539675141312872495 0 17 (.mk (dS 16977408) [] [] [] []) (.mk (dS 69539471584) [] [] [] []))] [] [] [])),(0,.fork true (Nu r) 16 56668539675141312872495 0 17 (.mk (dS 17592387374080) [] [] [] []) (.mk (dS 68719476736) [] [] [] []))] [] [] []) (.mk (dS 16) [] [] [] []))] [] [] []) (.mk (dS 68626) [(4,.fork true (eg != 0) 274877906944 7 0 1 (.mk (dS 281474976710656) [] [some (iv eg)] [] []) (.mk [] [(0,.fork false (!b4) 274877906944 7 0 3 (.mk (dS 0x100000000000011111111) [] [some (iv eg),some (bv b4)] [] []) (.mk [] [(0,.fork false (!b2) 274877906944 7 0 7 (.mk (Ed) [] [some (iv eg),some (bv b4),some (bv b2)] [] []) (.mk (Ed) [] [some (iv eg),some (bv b4),some (bv b2),some (bv b1)] [] []))] [] [] []))] [] [] [])),(6,.fork true (decide (r.comp<8)) 2251799813685248 17317308137487 0 1 (.mk (dS 4096) [] [] [] []) (.mk (dS 4096) [] [] [] [])),(7,.fork true (r.forfeit) 16 141880705570308111 0 1 (.mk (dS 16) [(2,.fork true (r.ag==3) 0 141880705570308159 16 1 (.mk [] [(0,.fork false (r.hg==3) 0 141880705570308159 16 1 (.mk (DG) [] [] [] []) (.mk (DG) [] [] [] []))] [] [] []) (.mk [] [(0,.fork false (r.hg==3) 0 141880705570308159 16 1 (.mk (DG) [] [] [] []) (.mk (DG) [] [] [] []))] [] [] [])),(3,.fork true (r.both) 16 56668539675141312872495 16 1 (.mk (dS 16) [(3,.fork true (r.hg==0) 16 9652517232866260387102767 0 17 (.mk (dS 69539471584) [] [] [] []) (.mk (dS 16977408) [] [] [] []))] [] [] []) (.mk (dS 16) [(1,.fork true (Nt r) 16 56668539675141312872495 0 17 (.mk (dS 16977408) [] [] [] []) (.mk (dS 69539471584) [] [] [] []))] [] [] [])),(0,.fork true (Nu r) 16 56668539675141312872495 0 17 (.mk (dS 17592387374080) [] [] [] []) (.mk (dS 68719476736) [] [] [] []))] [] [] []) (.mk (dS 16) [] [] [] []))] [] [] []))] [] [] []))] [] [] []))] [] [] []) KOk.nil (oT ((Aj eg b4 b2 b1)=true->((eg != 0)=true->sP 76 [ag [iv r.season,iv r.comp,iv r.home,iv r.away]] (iv eg))) (fun _=>(fun _=>ihg)) (oT ((Aj eg b4 b2 b1)=true->((eg != 0)=false->((!b4)=true->sP 174 [iv 99,sl true 1 4 fun i=>[[iv r.hg],[iv r.ag],[iv r.hp],[iv r.ap]].getD (0+i) []] (bv b4)))) (fun _=>(fun _=>(fun _=>ih4))) (oT ((Aj eg b4 b2 b1)=true->((eg != 0)=false->((!b4)=true->sP 76 [ag [iv r.season,iv r.comp,iv r.home,iv r.away]] (iv eg)))) (fun _=>(fun _=>(fun _=>ihg))) (oT ((Aj eg b4 b2 b1)=true->((eg != 0)=false->((!b4)=false->((!b2)=true->sP 174 [iv 120,sl true 1 2 fun i=>[[iv r.hc],[iv r.ac]].getD (0+i) []] (bv b2))))) (fun _=>(fun _=>(fun _=>(fun _=>ih2)))) (oT ((Aj eg b4 b2 b1)=true->((eg != 0)=false->((!b4)=false->((!b2)=true->sP 174 [iv 99,sl true 1 4 fun i=>[[iv r.hg],[iv r.ag],[iv r.hp],[iv r.ap]].getD (0+i) []] (bv b4))))) (fun _=>(fun _=>(fun _=>(fun _=>ih4)))) (oT ((Aj eg b4 b2 b1)=true->((eg != 0)=false->((!b4)=false->((!b2)=true->sP 76 [ag [iv r.season,iv r.comp,iv r.home,iv r.away]] (iv eg))))) (fun _=>(fun _=>(fun _=>(fun _=>ihg)))) (oT ((Aj eg b4 b2 b1)=true->((eg != 0)=false->((!b4)=false->((!b2)=false->sP 174 [iv 1048576,sl true 1 1 fun i=>[[iv r.day]].getD (0+i) []] (bv b1))))) (fun _=>(fun _=>(fun _=>(fun _=>ih1)))) (oT ((Aj eg b4 b2 b1)=true->((eg != 0)=false->((!b4)=false->((!b2)=false->sP 174 [iv 120,sl true 1 2 fun i=>[[iv r.hc],[iv r.ac]].getD (0+i) []] (bv b2))))) (fun _=>(fun _=>(fun _=>(fun _=>ih2)))) (oT ((Aj eg b4 b2 b1)=true->((eg != 0)=false->((!b4)=false->((!b2)=false->sP 174 [iv 99,sl true 1 4 fun i=>[[iv r.hg],[iv r.ag],[iv r.hp],[iv r.ap]].getD (0+i) []] (bv b4))))) (fun _=>(fun _=>(fun _=>(fun _=>ih4)))) (oT ((Aj eg b4 b2 b1)=true->((eg != 0)=false->((!b4)=false->((!b2)=false->sP 76 [ag [iv r.season,iv r.comp,iv r.home,iv r.away]] (iv eg))))) (fun _=>(fun _=>(fun _=>(fun _=>ihg)))) (oT ((Aj eg b4 b2 b1)=false->((bif decide (r.comp<8) then decide (Ax r) else false)=true->((eg != 0)=true->sP 76 [ag [iv r.season,iv r.comp,iv r.home,iv r.away]] (iv eg)))) (fun _=>(fun _=>(fun _=>ihg))) (oT ((Aj eg b4 b2 b1)=false->((bif decide (r.comp<8) then decide (Ax r) else false)=true->((eg != 0)=false->((!b4)=true->sP 174 [iv 99,sl true 1 4 fun i=>[[iv r.hg],[iv r.ag],[iv r.hp],[iv r.ap]].getD (0+i) []] (bv b4))))) (fun _=>(fun _=>(fun _=>(fun _=>ih4)))) (oT ((Aj eg b4 b2 b1)=false->((bif decide (r.comp<8) then decide (Ax r) else false)=true->((eg != 0)=false->((!b4)=true->sP 76 [ag [iv r.season,iv r.comp,iv r.home,iv r.away]] (iv eg))))) (fun _=>(fun _=>(fun _=>(fun _=>ihg)))) (oT ((Aj eg b4 b2 b1)=false->((bif decide (r.comp<8) then decide (Ax r) else false)=true->((eg != 0)=false->((!b4)=false->((!b2)=true->sP 174 [iv 120,sl true 1 2 fun i=>[[iv r.hc],[iv r.ac]].getD (0+i) []] (bv b2)))))) (fun _=>(fun _=>(fun _=>(fun _=>(fun _=>ih2))))) (oT ((Aj eg b4 b2 b1)=false->((bif decide (r.comp<8) then decide (Ax r) else false)=true->((eg != 0)=false->((!b4)=false->((!b2)=true->sP 174 [iv 99,sl true 1 4 fun i=>[[iv r.hg],[iv r.ag],[iv r.hp],[iv r.ap]].getD (0+i) []] (bv b4)))))) (fun _=>(fun _=>(fun _=>(fun _=>(fun _=>ih4))))) (oT ((Aj eg b4 b2 b1)=false->((bif decide (r.comp<8) then decide (Ax r) else false)=true->((eg != 0)=false->((!b4)=false->((!b2)=true->sP 76 [ag [iv r.season,iv r.comp,iv r.home,iv r.away]] (iv eg)))))) (fun _=>(fun _=>(fun _=>(fun _=>(fun _=>ihg))))) (oT ((Aj eg b4 b2 b1)=false->((bif decide (r.comp<8) then decide (Ax r) else false)=true->((eg != 0)=false->((!b4)=false->((!b2)=false->sP 174 [iv 1048576,sl true 1 1 fun i=>[[iv r.day]].getD (0+i) []] (bv b1)))))) (fun _=>(fun _=>(fun _=>(fun _=>(fun _=>ih1))))) (oT ((Aj eg b4 b2 b1)=false->((bif decide (r.comp<8) then decide (Ax r) else false)=true->((eg != 0)=false->((!b4)=false->((!b2)=false->sP 174 [iv 120,sl true 1 2 fun i=>[[iv r.hc],[iv r.ac]].getD (0+i) []] (bv b2)))))) (fun _=>(fun _=>(fun _=>(fun _=>(fun _=>ih2))))) (oT ((Aj eg b4 b2 b1)=false->((bif decide (r.comp<8) then decide (Ax r) else false)=true->((eg != 0)=false->((!b4)=false->((!b2)=false->sP 174 [iv 99,sl true 1 4 fun i=>[[iv r.hg],[iv r.ag],[iv r.hp],[iv r.ap]].getD (0+i) []] (bv b4)))))) (fun _=>(fun _=>(fun _=>(fun _=>(fun _=>ih4))))) (oT ((Aj eg b4 b2 b1)=false->((bif decide (r.comp<8) then decide (Ax r) else false)=true->((eg != 0)=false->((!b4)=false->((!b2)=false->sP 76 [ag [iv r.season,iv r.comp,iv r.home,iv r.away]] (iv eg)))))) (fun _=>(fun _=>(fun _=>(fun _=>(fun _=>ihg))))) (oT ((Aj eg b4 b2 b1)=false->((bif decide (r.comp<8) then decide (Ax r) else false)=false->((BY r)=true->((eg != 0)=true->sP 76 [ag [iv r.season,iv r.comp,iv r.home,iv r.away]] (iv eg))))) (fun _=>(fun _=>(fun _=>(fun _=>ihg)))) (oT ((Aj eg b4 b2 b1)=false->((bif decide (r.comp<8) then decide (Ax r) else false)=false->((BY r)=true->((eg != 0)=false->((!b4)=true->sP 174 [iv 99,sl true 1 4 fun i=>[[iv r.hg],[iv r.ag],[iv r.hp],[iv r.ap]].getD (0+i) []] (bv b4)))))) (fun _=>(fun _=>(fun _=>(fun _=>(fun _=>ih4))))) (oT ((Aj eg b4 b2 b1)=false->((bif decide (r.comp<8) then decide (Ax r) else false)=false->((BY r)=true->((eg != 0)=false->((!b4)=true->sP 76 [ag [iv r.season,iv r.comp,iv r.home,iv r.away]] (iv eg)))))) (fun _=>(fun _=>(fun _=>(fun _=>(fun _=>ihg))))) (oT ((Aj eg b4 b2 b1)=false->((bif decide (r.comp<8) then decide (Ax r) else false)=false->((BY r)=true->((eg != 0)=false->((!b4)=false->((!b2)=true->sP 174 [iv 120,sl true 1 2 fun i=>[[iv r.hc],[iv r.ac]].getD (0+i) []] (bv b2))))))) (fun _=>(fun _=>(fun _=>(fun _=>(fun _=>(fun _=>ih2)))))) (oT ((Aj eg b4 b2 b1)=false->((bif decide (r.comp<8) then decide (Ax r) else false)=false->((BY r)=true->((eg != 0)=false->((!b4)=false->((!b2)=true->sP 174 [iv 99,sl true 1 4 fun i=>[[iv r.hg],[iv r.ag],[iv r.hp],[iv r.ap]].getD (0+i) []] (bv b4))))))) (fun _=>(fun _=>(fun _=>(fun _=>(fun _=>(fun _=>ih4)))))) (oT ((Aj eg b4 b2 b1)=false->((bif decide (r.comp<8) then decide (Ax r) else false)=false->((BY r)=true->((eg != 0)=false->((!b4)=false->((!b2)=true->sP 76 [ag [iv r.season,iv r.comp,iv r.home,iv r.away]] (iv eg))))))) (fun _=>(fun _=>(fun _=>(fun _=>(fun _=>(fun _=>ihg)))))) (oT ((Aj eg b4 b2 b1)=false->((bif decide (r.comp<8) then decide (Ax r) else false)=false->((BY r)=true->((eg != 0)=false->((!b4)=false->((!b2)=false->sP 174 [iv 1048576,sl true 1 1 fun i=>[[iv r.day]].getD (0+i) []] (bv b1))))))) (fun _=>(fun _=>(fun _=>(fun _=>(fun _=>(fun _=>ih1)))))) (oT ((Aj eg b4 b2 b1)=false->((bif decide (r.comp<8) then decide (Ax r) else false)=false->((BY r)=true->((eg != 0)=false->((!b4)=false->((!b2)=false->sP 174 [iv 120,sl true 1 2 fun i=>[[iv r.hc],[iv r.ac]].getD (0+i) []] (bv b2))))))) (fun _=>(fun _=>(fun _=>(fun _=>(fun _=>(fun _=>ih2)))))) (oT ((Aj eg b4 b2 b1)=false->((bif decide (r.comp<8) then decide (Ax r) else false)=false->((BY r)=true->((eg != 0)=false->((!b4)=false->((!b2)=false->sP 174 [iv 99,sl true 1 4 fun i=>[[iv r.hg],[iv r.ag],[iv r.hp],[iv r.ap]].getD (0+i) []] (bv b4))))))) (fun _=>(fun _=>(fun _=>(fun _=>(fun _=>(fun _=>ih4)))))) (oT ((Aj eg b4 b2 b1)=false->((bif decide (r.comp<8) then decide (Ax r) else false)=false->((BY r)=true->((eg != 0)=false->((!b4)=false->((!b2)=false->sP 76 [ag [iv r.season,iv r.comp,iv r.home,iv r.away]] (iv eg))))))) (fun _=>(fun _=>(fun _=>(fun _=>(fun _=>(fun _=>ihg)))))) (oT ((Aj eg b4 b2 b1)=false->((bif decide (r.comp<8) then decide (Ax r) else false)=false->((BY r)=false->((eg != 0)=true->sP 76 [ag [iv r.season,iv r.comp,iv r.home,iv r.away]] (iv eg))))) (fun _=>(fun _=>(fun _=>(fun _=>ihg)))) (oT ((Aj eg b4 b2 b1)=false->((bif decide (r.comp<8) then decide (Ax r) else false)=false->((BY r)=false->((eg != 0)=false->((!b4)=true->sP 174 [iv 99,sl true 1 4 fun i=>[[iv r.hg],[iv r.ag],[iv r.hp],[iv r.ap]].getD (0+i) []] (bv b4)))))) (fun _=>(fun _=>(fun _=>(fun _=>(fun _=>ih4))))) (oT ((Aj eg b4 b2 b1)=false->((bif decide (r.comp<8) then decide (Ax r) else false)=false->((BY r)=false->((eg != 0)=false->((!b4)=true->sP 76 [ag [iv r.season,iv r.comp,iv r.home,iv r.away]] (iv eg)))))) (fun _=>(fun _=>(fun _=>(fun _=>(fun _=>ihg))))) (oT ((Aj eg b4 b2 b1)=false->((bif decide (r.comp<8) then decide (Ax r) else false)=false->((BY r)=false->((eg != 0)=false->((!b4)=false->((!b2)=true->sP 174 [iv 120,sl true 1 2 fun i=>[[iv r.hc],[iv r.ac]].getD (0+i) []] (bv b2))))))) (fun _=>(fun _=>(fun _=>(fun _=>(fun _=>(fun _=>ih2)))))) (oT ((Aj eg b4 b2 b1)=false->((bif decide (r.comp<8) then decide (Ax r) else false)=false->((BY r)=false->((eg != 0)=false->((!b4)=false->((!b2)=true->sP 174 [iv 99,sl true 1 4 fun i=>[[iv r.hg],[iv r.ag],[iv r.hp],[iv r.ap]].getD (0+i) []] (bv b4))))))) (fun _=>(fun _=>(fun _=>(fun _=>(fun _=>(fun _=>ih4)))))) (oT ((Aj eg b4 b2 b1)=false->((bif decide (r.comp<8) then decide (Ax r) else false)=false->((BY r)=false->((eg != 0)=false->((!b4)=false->((!b2)=true->sP 76 [ag [iv r.season,iv r.comp,iv r.home,iv r.away]] (iv eg))))))) (fun _=>(fun _=>(fun _=>(fun _=>(fun _=>(fun _=>ihg)))))) (oT ((Aj eg b4 b2 b1)=false->((bif decide (r.comp<8) then decide (Ax r) else false)=false->((BY r)=false->((eg != 0)=false->((!b4)=false->((!b2)=false->sP 174 [iv 1048576,sl true 1 1 fun i=>[[iv r.day]].getD (0+i) []] (bv b1))))))) (fun _=>(fun _=>(fun _=>(fun _=>(fun _=>(fun _=>ih1)))))) (oT ((Aj eg b4 b2 b1)=false->((bif decide (r.comp<8) then decide (Ax r) else false)=false->((BY r)=false->((eg != 0)=false->((!b4)=false->((!b2)=false->sP 174 [iv 120,sl true 1 2 fun i=>[[iv r.hc],[iv r.ac]].getD (0+i) []] (bv b2))))))) (fun _=>(fun _=>(fun _=>(fun _=>(fun _=>(fun _=>ih2)))))) (oT ((Aj eg b4 b2 b1)=false->((bif decide (r.comp<8) then decide (Ax r) else false)=false->((BY r)=false->((eg != 0)=false->((!b4)=false->((!b2)=false->sP 174 [iv 99,sl true 1 4 fun i=>[[iv r.hg],[iv r.ag],[iv r.hp],[iv r.ap]].getD (0+i) []] (bv b4))))))) (fun _=>(fun _=>(fun _=>(fun _=>(fun _=>(fun _=>ih4)))))) (oT ((Aj eg b4 b2 b1)=false->((bif decide (r.comp<8) then decide (Ax r) else false)=false->((BY r)=false->((eg != 0)=false->((!b4)=false->((!b2)=false->sP 76 [ag [iv r.season,iv r.comp,iv r.home,iv r.away]] (iv eg))))))) (fun _=>(fun _=>(fun _=>(fun _=>(fun _=>(fun _=>ihg)))))) .nil))))))))))))))))))))))))))))))))))))))))
def I0 (m:Int)(l:List Int):Bool:=(GK m (fun i=>l.getD i 0) 0 l.length).isSome
theorem MG (m:Int)(w:Nat->Int):∀ (k i:Nat),(GK m w i k).isSome=false->∀ j,i<=j->j<i+k->0<=w j/\w j<=m
 | 0,i,_,j,h1,h2=>by omega
 | k+1,i,h,j,h1,h2=>by
  unfold GK at h
  cases hb:outs m w i with
  | true=>rw [hb] at h; cases h
  | false=>
   rw [hb] at h
   have h:=MG m w k (i+1) h
   by_cases hj:j=i
   ·subst hj
    unfold outs at hb
    simp only [Bool.cond_true_left,Bool.or_eq_false_iff,decide_eq_false_iff_not] at hb
    omega
   ·exact h j (by omega) (by omega)
theorem M5 {m:Int}{l:List Int}(h:(!I0 m l)=true):∀ x∈l,0<=x/\x<=m:=by
 intro x hx
 obtain ⟨j,hj,rfl⟩:=List.mem_iff_getElem.1 hx
 have:=MG m _ _ _ (by simpa [I0] using h) j (by omega) (by omega)
 simpa [List.getD_eq_getElem?_getD,hj] using this
theorem PY (m:Int)(l:List Int)(rows:List (List EV))(hl:l.length<=100)(hr:rows=l.map fun x=>[EV.int .i64 x])(n:Nat)(hn:n=l.length):
  sP 174 [EV.int .i64 m,EV.isl true 1 n fun i=>rows.getD (0+i) []] (EV.bool (!I0 m l)):=by
 subst hr hn
 have h:=YY m l.length (fun i=>l.getD i 0) _ (yJ m l.length (fun i=>l.getD i 0) (by omega))
 refine h.weaken (.cons (.refl _) (.cons (PLe.isl fun i hi=>?_) .nil)) (.refl _)
 simp [List.getD_eq_getElem?_getD,hi]
structure ResD.Ok (r:ResD):Prop where
 season:0<=r.season/\r.season<64
 comp:0<=r.comp/\r.comp<16
 home:0<=r.home/\r.home<192
 away:0<=r.away/\r.away<192
 two:r.home≠r.away
 hg:0<=r.hg/\r.hg<=99
 ag:0<=r.ag/\r.ag<=99
 hc:0<=r.hc/\r.hc<=120
 ac:0<=r.ac/\r.ac<=120
theorem Il (r:ResD):∃ e,sP 99 [EV.agg r.cells] (EV.int .i64 e)/\(e=0->r.Ok):=by
 obtain ⟨eg,hg,hgo⟩:=yK r.season r.comp r.home r.away
 have h4:=PY 99 [r.hg,r.ag,r.hp,r.ap] _ (by simp) rfl 4 rfl
 have h2:=PY 120 [r.hc,r.ac] _ (by simp) rfl 2 rfl
 have h1:=PY 1048576 [r.day] _ (by simp) rfl 1 rfl
 refine ⟨_,YZ r eg _ _ _ hg h4 h2 h1,fun he=>?_⟩
 cases hc:(bif eg != 0 then true else bif !!I0 99 [r.hg,r.ag,r.hp,r.ap] then true else bif !!I0 120 [r.hc,r.ac] then true else !!I0 1048576 [r.day]) with
 | true=>rw [hc] at he; cases he
 | false=>
  simp only [Bool.cond_true_left,Bool.or_eq_false_iff,bne_eq_false_iff_eq,Bool.not_not] at hc
  obtain ⟨a,b,c,d⟩:=hc
  obtain ⟨g1,g2,g3,g4,g5⟩:=hgo a
  have h4:=M5 (m:=99) (l:=[r.hg,r.ag,r.hp,r.ap]) (by rw [b]; rfl)
  have h2:=M5 (m:=120) (l:=[r.hc,r.ac]) (by rw [c]; rfl)
  exact ⟨g1,g2,g3,g4,g5,h4 _ (by simp),h4 _ (by simp),h2 _ (by simp),h2 _ (by simp)⟩
abbrev nums (nn:Bool)(n:Nat)(w:Nat->Int):EV:=.isl nn 1 n fun i=>[.int .i64 (w i)]
noncomputable def acT (nn:Bool)(n:Nat)(w:Nat->Int)(i:Int):List EV:=frame 43 [(0,nums nn n w),(16,nums nn n w),(17,.int .i64 n),(18,.int .i64 i)]
noncomputable def ifT (nn:Bool)(n:Nat)(w:Nat->Int)(i:Int):List EV:=frame 40 [(0,nums nn n w),(5,nums nn n w),(6,.int .i64 n),(7,.int .i64 i)]
noncomputable def ofT (nn:Bool)(n:Nat)(w:Nat->Int)(i:Int):List EV:=frame 19 [(0,nums nn n w),(1,.func (.func 87) [] []),(6,nums nn n w),(7,.int .i64 n),(8,.int .i64 i)]
noncomputable def idT (nn:Bool)(n:Nat)(w:Nat->Int)(c i:Int):List EV:=frame 19 [(0,nums nn n w),(1,.int .i64 c),(6,nums nn n w),(7,.int .i64 n),(8,.int .i64 i)]
noncomputable def naT (s:ByteArray)(i:Int):List EV:=frame 50 [(0,.str s),(24,.int .i64 s.size),(25,.int .i64 i)]
noncomputable abbrev GU:=cB (cB (cR (cL (cR (AB prog 97)))))
noncomputable abbrev I1 (a0:Bool)(a1:Nat)(a2:Nat->Int):RC:=(EX.ret,(frame 40 [(0,sl a0 1 a1 fun i=>[iv (a2 i)]),(2,bv false)]),[])
abbrev EA (a0:Nat->Int)(a1:Int):=(decide (a0 a1.toNat>=192),false)
noncomputable abbrev I2:RC:=(EX.ret,(frame 43 [(4,bv false)]),[])
noncomputable abbrev GV:=cB (cB (cR (cL (cR (cR (AB prog 85))))))
abbrev GW (a0:Int):=(decide (a0>0),true)
abbrev Ap (a0:Int):=decide (a0>0)
abbrev Fa (a0:Nat->Int)(a1:Int):=a0 a1.toNat>=192
abbrev DH (a0:Nat->Int)(a1:Int):=(decide (a0 a1.toNat<0),false)
abbrev Fb (a0:Nat->Int)(a1:Int):=(decide (Fa a0 a1))=false
abbrev Dj (a0:Nat->Int)(a1:Int):=(Di a0 a1)=false
section
variable (nn:Bool)(n:Nat)(w:Nat->Int)(i:Int)(h0:0<=i)(h3:n<=100000)
include nn n w i h0 h3
theorem yL (q0:AH i n)(q1:(Di w i)=true):sC (GV) (acT nn n w i) ([]) I2:=
 kC [[AG i n,(decide (w i.toNat<0),true)]] (.mk (dS 1089809) [] [] [] []) (kO (kz q0 (kz q1 AD))) (oJ ((inB i n)=true) .nil) 16 0 0
theorem yM (q0:AH i n)(q1:Dj w i)(q2:(decide (Fa w i))=true):sC (GV) (acT nn n w i) ([]) I2:=
 kC [[AG i n,(DH w i),(decide (Fa w i),true)]] (.mk (dS 1142747701794) [] [] [] []) (kO (kz q0 (kz q1 (kz q2 AD)))) (oJ ((inB i n)=true) .nil) 16 0 0
theorem yN (q0:AH i n)(q1:Dj w i)(q2:Fb w i)(q3:(Ap i)=true)(q4:(decide (w i.toNat<=w (i - 1).toNat))=true):sC (GV) (acT nn n w i) ([]) I2:=
 kC [[AG i n,(DH w i),(EA w i),(GW i),(decide (w i.toNat<=w (i - 1).toNat),true)]] (.mk (dS 0x10a1112223333a3a332324) [] [] [] []) (kO (kz q0 (kz q1 (kz q2 (kz q3 (kz q4 AD)))))) (oJ ((inB (i - 1) n)=true) (oI ((inR IntKind.i64 (i - 1))=true) (oJ ((inB i n)=true) .nil))) 16 0 0
theorem yO (q0:AH i n)(q1:Dj w i)(q2:Fb w i)(q3:(Ap i)=true)(q4:(decide (w i.toNat<=w (i - 1).toNat))=false):sC (GV) (acT nn n w i) ([]) (xN,(frame 43 [(0,sl nn 1 n fun i=>[iv (w i)]),(16,sl nn 1 n fun i=>[iv (w i)]),(17,iv ↑n),(18,iv (i+1))]),[]):=
 kC [[AG i n,(DH w i),(EA w i),(GW i),(decide (w i.toNat<=w (i - 1).toNat),false)]] (.mk (dS 0x10a1112223333a3a332324a) [] [] [] []) (kO (kz q0 (kz q1 (kz q2 (kz q3 (kz q4 AD)))))) (oI ((inR IntKind.i64 (i+1))=true) (oJ ((inB (i - 1) n)=true) (oI ((inR IntKind.i64 (i - 1))=true) (oJ ((inB i n)=true) .nil)))) 458753 0 0
theorem yP (q0:AH i n)(q1:Dj w i)(q2:Fb w i)(q3:(Ap i)=false):sC (GV) (acT nn n w i) ([]) (xN,(frame 43 [(0,sl nn 1 n fun i=>[iv (w i)]),(16,sl nn 1 n fun i=>[iv (w i)]),(17,iv ↑n),(18,iv (i+1))]),[]):=
 kC [[AG i n,(DH w i),(EA w i),(decide (i>0),false)]] (.mk (dS 0x10a111222333333323201ae) [] [] [] []) (kO (kz q0 (kz q1 (kz q2 (kz q3 AD))))) (oI ((inR IntKind.i64 (i+1))=true) (oJ ((inB i n)=true) .nil)) 458753 0 0
theorem yQ (q0:Af i n):sC (GV) (acT nn n w i) ([]) (xL 0,(frame 43 []),[]):=
 kC (Ae i n) (.mk (dS 16) [] [] [] []) (kO (kz q0 AD)) .nil 0 0 0
theorem acB:∃ r_:RC,sC (cB (cB (cR (cL (cR (cR (AB prog 85))))))) (acT nn n w i) ([]) r_/\((r_=(xN,acT nn n w (i+1),[])/\i<n/\(0<=w i.toNat/\w i.toNat<192/\(0<i->w (i - 1).toNat<w i.toNat)))∨(r_=(EX.ret,frame 43 [(4,bv false)],[])/\i<n/\True)∨(r_=(xL 0,frame 43 [],[])/\n<=i)):=by
 rcases bT (decide (i<↑n)) with q0 | q0
 ·rcases bT (decide (w i.toNat<0)) with q1 | q1
  ·exact e1 (yL nn n w i h0 h3 q0 q1)
  ·rcases bT (decide (w i.toNat>=192)) with q2 | q2
   ·exact e1 (yM nn n w i h0 h3 q0 q1 q2)
   ·rcases bT (decide (i>0)) with q3 | q3
    ·rcases bT (decide (w i.toNat<=w (i - 1).toNat)) with q4 | q4
     ·exact e1 (yN nn n w i h0 h3 q0 q1 q2 q3 q4)
     ·exact e1 (yO nn n w i h0 h3 q0 q1 q2 q3 q4)
    ·exact e1 (yP nn n w i h0 h3 q0 q1 q2 q3)
 ·exact e1 (yQ nn n w i h0 h3 q0)
theorem yR (q0:AH i n)(q1:(Di w i)=true):sC (GU) (ifT nn n w i) ([]) (I1 nn n w):=
 kC [[AG i n,(decide (w i.toNat<0),true)]] (.mk (dS 1089809) [] [] [] []) (kO (kz q0 (kz q1 AD))) (oJ ((inB i n)=true) .nil) 5 0 0
theorem yS (q0:AH i n)(q1:Dj w i)(q2:(decide (Fa w i))=true):sC (GU) (ifT nn n w i) ([]) (I1 nn n w):=
 kC [[AG i n,(DH w i),(decide (Fa w i),true)]] (.mk (dS 1142747701794) [] [] [] []) (kO (kz q0 (kz q1 (kz q2 AD)))) (oJ ((inB i n)=true) .nil) 5 0 0
end
section
variable (nn:Bool)(n:Nat)(w:Nat->Int)(i:Int)(h0:0<=i)(h3:n<=100000)(q0:AH i n)(q1:Dj w i)(q2:Fb w i)
include nn n w i h0 h3 q0 q1 q2
theorem yT (q3:(Ap i)=true)(q4:(decide (w (i - 1).toNat>=w i.toNat))=true):sC (GU) (ifT nn n w i) ([]) (I1 nn n w):=
 kC [[AG i n,(DH w i),(EA w i),(GW i),(decide (w (i - 1).toNat>=w i.toNat),true)]] (.mk (dS 0x10a111222333a3a3332324) [] [] [] []) (kO (kz q0 (kz q1 (kz q2 (kz q3 (kz q4 AD)))))) (oJ ((inB (i - 1) n)=true) (oI ((inR IntKind.i64 (i - 1))=true) (oJ ((inB i n)=true) .nil))) 5 0 0
theorem yU (q3:(Ap i)=true)(q4:(decide (w (i - 1).toNat>=w i.toNat))=false):sC (GU) (ifT nn n w i) ([]) (xN,(frame 40 [(0,sl nn 1 n fun i=>[iv (w i)]),(5,sl nn 1 n fun i=>[iv (w i)]),(6,iv ↑n),(7,iv (i+1))]),[]):=
 kC [[AG i n,(DH w i),(EA w i),(GW i),(decide (w (i - 1).toNat>=w i.toNat),false)]] (.mk (dS 0x10a111222333a3a3332324a) [] [] [] []) (kO (kz q0 (kz q1 (kz q2 (kz q3 (kz q4 AD)))))) (oI ((inR IntKind.i64 (i+1))=true) (oJ ((inB (i - 1) n)=true) (oI ((inR IntKind.i64 (i - 1))=true) (oJ ((inB i n)=true) .nil)))) 225 0 0
theorem yV (q3:(Ap i)=false):sC (GU) (ifT nn n w i) ([]) (xN,(frame 40 [(0,sl nn 1 n fun i=>[iv (w i)]),(5,sl nn 1 n fun i=>[iv (w i)]),(6,iv ↑n),(7,iv (i+1))]),[]):=
 kC [[AG i n,(DH w i),(EA w i),(decide (i>0),false)]] (.mk (dS 0x10a111222333333323201ae) [] [] [] []) (kO (kz q0 (kz q1 (kz q2 (kz q3 AD))))) (oI ((inR IntKind.i64 (i+1))=true) (oJ ((inB i n)=true) .nil)) 225 0 0
end
noncomputable abbrev DI:RC:=(xL 0,(frame 19 []),[])
section
variable (nn:Bool)(n:Nat)(w:Nat->Int)(i:Int)(h0:0<=i)(h3:n<=100000)
include nn n w i h0 h3
theorem yW (q0:Af i n):sC (GU) (ifT nn n w i) ([]) (xL 0,(frame 40 [(0,sl nn 1 n fun i=>[iv (w i)])]),[]):=
 kC (Ae i n) (.mk (dS 16) [] [] [] []) (kO (kz q0 AD)) .nil 1 0 0
theorem ifB:∃ r_:RC,sC (cB (cB (cR (cL (cR (AB prog 97)))))) (ifT nn n w i) ([]) r_/\((r_=(xN,ifT nn n w (i+1),[])/\i<n/\(0<=w i.toNat/\w i.toNat<192/\(0<i->w (i - 1).toNat<w i.toNat)))∨(r_=(EX.ret,frame 40 [(0,nums nn n w),(2,bv false)],[])/\i<n/\¬ (0<=w i.toNat/\w i.toNat<192/\(0<i->w (i - 1).toNat<w i.toNat)))∨(r_=(xL 0,frame 40 [(0,nums nn n w)],[])/\n<=i)):=by
 rcases bT (decide (i<↑n)) with q0 | q0
 ·rcases bT (decide (w i.toNat<0)) with q1 | q1
  ·exact e1 (yR nn n w i h0 h3 q0 q1)
  ·rcases bT (decide (w i.toNat>=192)) with q2 | q2
   ·exact e1 (yS nn n w i h0 h3 q0 q1 q2)
   ·rcases bT (decide (i>0)) with q3 | q3
    ·rcases bT (decide (w (i - 1).toNat>=w i.toNat)) with q4 | q4
     ·exact e1 (yT nn n w i h0 h3 q0 q1 q2 q3 q4)
     ·exact e1 (yU nn n w i h0 h3 q0 q1 q2 q3 q4)
    ·exact e1 (yV nn n w i h0 h3 q0 q1 q2 q3)
 ·exact e1 (yW nn n w i h0 h3 q0)
theorem yX (q0:AH i n)(q1:(FP (w i.toNat))=true):sC (cB (Ec)) (ofT nn n w i) ([]) (Cx i):=
 kC [[AG i n,(FP (w i.toNat),true)]] (.mk (dS 4257) [] [some (bv (FP (w i.toNat)))] [] []) (kO (kz q0 (kz q1 AD))) (oT (sP 87 [iv (w i.toNat)] (bv (FP (w i.toNat)))) (Ns _) (oJ ((inB i n)=true) .nil)) 16 0 0
theorem yY (q0:AH i n)(q1:(FP (w i.toNat))=false):sC (cB (Ec)) (ofT nn n w i) ([]) (xN,(frame 19 [(0,sl nn 1 n fun i=>[iv (w i)]),(1,fc (87) [] []),(6,sl nn 1 n fun i=>[iv (w i)]),(7,iv ↑n),(8,iv (i+1))]),[]):=
 kC [[AG i n,(FP (w i.toNat),false)]] (.mk (dS 68122) [] [some (bv (FP (w i.toNat)))] [] []) (kO (kz q0 (kz q1 AD))) (oI ((inR IntKind.i64 (i+1))=true) (oT (sP 87 [iv (w i.toNat)] (bv (FP (w i.toNat)))) (Ns _) (oJ ((inB i n)=true) .nil))) 451 0 0
theorem yZ (q0:Af i n):sC (cB (Ec)) (ofT nn n w i) ([]) DI:=
 kC (Ae i n) (.mk (dS 16) [] [] [] []) (kO (kz q0 AD)) .nil 0 0 0
theorem ofB:∃ r_:RC,sC (cB (cB (cR (cL (cR (AB prog 157)))))) (ofT nn n w i) ([]) r_/\((r_=(xN,ofT nn n w (i+1),[])/\i<n/\(FP (w i.toNat)=false))∨(r_=(EX.ret,frame 19 [(4,iv i)],[])/\i<n/\(FP (w i.toNat)=true))∨(r_=(xL 0,frame 19 [],[])/\n<=i)):=by
 rcases bT (decide (i<↑n)) with q0 | q0
 ·rcases bT (FP (w i.toNat)) with q1 | q1
  ·exact e1 (yX nn n w i h0 h3 q0 q1)
  ·exact e1 (yY nn n w i h0 h3 q0 q1)
 ·exact e1 (yZ nn n w i h0 h3 q0)
end
noncomputable abbrev Ee:=cB (cR (cL (cR (AB prog 69))))
section
variable (nn:Bool)(n:Nat)(w:Nat->Int)(c:Int)(i:Int)(h0:0<=i)(h3:n<=100000)
include nn n w c i h0 h3
theorem y0 (q0:AH i n)(q1:(c==w i.toNat)=true):sC (cB (Ee)) (idT nn n w c i) ([]) (Cx i):=
 kC [[AG i n,(c==w i.toNat,true)]] (.mk (dS 4257) [] [] [] []) (kO (kz q0 (kz q1 AD))) (oJ ((inB i n)=true) .nil) 16 0 0
theorem y3 (q0:AH i n)(q1:(c==w i.toNat)=false):sC (cB (Ee)) (idT nn n w c i) ([]) (xN,(frame 19 [(0,sl nn 1 n fun i=>[iv (w i)]),(1,iv c),(6,sl nn 1 n fun i=>[iv (w i)]),(7,iv ↑n),(8,iv (i+1))]),[]):=
 kC [[AG i n,(c==w i.toNat,false)]] (.mk (dS 68122) [] [] [] []) (kO (kz q0 (kz q1 AD))) (oI ((inR IntKind.i64 (i+1))=true) (oJ ((inB i n)=true) .nil)) 451 0 0
theorem y4 (q0:Af i n):sC (cB (Ee)) (idT nn n w c i) ([]) DI:=
 kC (Ae i n) (.mk (dS 16) [] [] [] []) (kO (kz q0 AD)) .nil 0 0 0
theorem idB:∃ r_:RC,sC (cB (cB (cR (cL (cR (AB prog 69)))))) (idT nn n w c i) ([]) r_/\((r_=(xN,idT nn n w c (i+1),[])/\i<n/\(¬ c=w i.toNat))∨(r_=(EX.ret,frame 19 [(4,iv i)],[])/\i<n/\(c=w i.toNat))∨(r_=(xL 0,frame 19 [],[])/\n<=i)):=by
 rcases bT (decide (i<↑n)) with q0 | q0
 ·rcases bT (c==w i.toNat) with q1 | q1
  ·exact e1 (y0 nn n w c i h0 h3 q0 q1)
  ·exact e1 (y3 nn n w c i h0 h3 q0 q1)
 ·exact e1 (y4 nn n w c i h0 h3 q0)
end
noncomputable abbrev LF:=cB (cB (cR (cL (cR (cR (AB prog 158))))))
abbrev Nv (a0:ByteArray)(a1:Int):=bif decide ((↑(a0.data.getD a1.toNat 0).toNat:Int)<97) then bif decide ((↑(a0.data.getD a1.toNat 0).toNat:Int)<48) then (↑(a0.data.getD a1.toNat 0).toNat:Int) != 95 else bif decide ((↑(a0.data.getD a1.toNat 0).toNat:Int)>57) then (↑(a0.data.getD a1.toNat 0).toNat:Int) != 95 else false else bif decide ((↑(a0.data.getD a1.toNat 0).toNat:Int)>122) then (↑(a0.data.getD a1.toNat 0).toNat:Int) != 95 else false
abbrev CZ (a0:ByteArray)(a1:Int):=decide ((↑(a0.data.getD a1.toNat 0).toNat:Int)>122)
abbrev Ca (a0:ByteArray)(a1:Int):=a0.data.getD a1.toNat 0
abbrev Ef (a0:ByteArray)(a1:Int):=decide ((↑(a0.data.getD a1.toNat 0).toNat:Int)<48)
abbrev Eg (a0:ByteArray)(a1:Int):=decide ((↑(a0.data.getD a1.toNat 0).toNat:Int)>57)
abbrev Cb (a0:ByteArray)(a1:Int):=decide ((↑(a0.data.getD a1.toNat 0).toNat:Int)<97)
theorem y5 (s:ByteArray)(i:Int)(h0:0<=i)(h3:s.size<=100000)(q0:(decide (i<↑s.size))=true)(q1:(Nv s i)=true):sC (LF) (naT s i) ([]) (EX.ret,(frame 50 [(2,bv false)]),[]):=
 kC [[(decide (i<↑s.size),true),(bif decide ((↑(Ca s i).toNat:Int)<97) then bif decide ((↑(Ca s i).toNat:Int)<48) then (↑(Ca s i).toNat:Int) != 95 else bif decide ((↑(Ca s i).toNat:Int)>57) then (↑(Ca s i).toNat:Int) != 95 else false else bif decide ((↑(Ca s i).toNat:Int)>122) then (↑(Ca s i).toNat:Int) != 95 else false,true)]] (.mk (dS 4257) [(12,.fork true (Cb s i) 281474976710656 2130706457 0 0 (.mk [] [(0,.fork false (Ef s i) 281474976710656 2130706457 0 0 (.mk (dS 281475813540126) [] [] [] []) (.mk [] [(0,.fork false (Eg s i) 281474976710656 2130706457 0 0 (.mk (dS 0x1000031e1011e012e22) [] [] [] []) (.mk (dS 0x1000031e1011e012e22) [] [] [] []))] [] [] []))] [] [] []) (.mk [] [(0,.fork false (CZ s i) 281474976710656 2130706457 0 0 (.mk (dS 72058769703115434) [] [] [] []) (.mk (dS 4295037201) [] [] [] []))] [] [] []))] [] [] []) (kO (kz q0 (kz q1 AD))) (oF ((Cb s i)=false->((CZ s i)=true->(Eg s i)=true)) (oF ((Cb s i)=false->((CZ s i)=true->(Eg s i)=true)) (oF ((Cb s i)=false->((CZ s i)=true->(Eg s i)=true)) (oF ((Cb s i)=false->((CZ s i)=true->(Ef s i)=false)) (oF ((Cb s i)=false->((CZ s i)=true->(Ef s i)=false)) (oF ((Cb s i)=false->((CZ s i)=true->(Ef s i)=false)) (oJ ((inB i s.size)=true) .nil))))))) 4 0 0
theorem y6 (s:ByteArray)(i:Int)(h0:0<=i)(h3:s.size<=100000)(q0:(decide (i<↑s.size))=true)(q1:(Nv s i)=false):sC (LF) (naT s i) ([]) (xN,(frame 50 [(0,sv s),(24,iv ↑s.size),(25,iv (i+1))]),[]):=
 kC [[(decide (i<↑s.size),true),(bif decide ((↑(Ca s i).toNat:Int)<97) then bif decide ((↑(Ca s i).toNat:Int)<48) then (↑(Ca s i).toNat:Int) != 95 else bif decide ((↑(Ca s i).toNat:Int)>57) then (↑(Ca s i).toNat:Int) != 95 else false else bif decide ((↑(Ca s i).toNat:Int)>122) then (↑(Ca s i).toNat:Int) != 95 else false,false)]] (.mk (dS 68122) [(12,.fork true (Cb s i) 281474976710656 2130706457 0 0 (.mk [] [(0,.fork false (Ef s i) 281474976710656 2130706457 0 0 (.mk (dS 281475813540126) [] [] [] []) (.mk [] [(0,.fork false (Eg s i) 281474976710656 2130706457 0 0 (.mk (dS 0x1000031e1011e012e22) [] [] [] []) (.mk (dS 0x1000031e1011e012e22) [] [] [] []))] [] [] []))] [] [] []) (.mk [] [(0,.fork false (CZ s i) 281474976710656 2130706457 0 0 (.mk (dS 72058769703115434) [] [] [] []) (.mk (dS 4295037201) [] [] [] []))] [] [] []))] [] [] []) (kO (kz q0 (kz q1 AD))) (oI ((inR IntKind.i64 (i+1))=true) (oF ((Cb s i)=false->((CZ s i)=true->(Eg s i)=true)) (oF ((Cb s i)=false->((CZ s i)=true->(Eg s i)=true)) (oF ((Cb s i)=false->((CZ s i)=true->(Eg s i)=true)) (oF ((Cb s i)=false->((CZ s i)=true->(Ef s i)=false)) (oF ((Cb s i)=false->((CZ s i)=true->(Ef s i)=false)) (oF ((Cb s i)=false->((CZ s i)=true->(Ef s i)=false)) (oJ ((inB i s.size)=true) .nil)))))))) 50331649 0 0
theorem y7 (s:ByteArray)(i:Int)(h0:0<=i)(h3:s.size<=100000)(q0:(decide (i<↑s.size))=false):sC (LF) (naT s i) ([]) (xL 0,(frame 50 []),[]):=
 kC [[(decide (i<↑s.size),false)]] (.mk (dS 16) [] [] [] []) (kO (kz q0 AD)) .nil 0 0 0
theorem naB (s:ByteArray)(i:Int)(h0:0<=i)(h3:s.size<=100000):∃ r_:RC,sC (cB (cB (cR (cL (cR (cR (AB prog 158))))))) (naT s i) ([]) r_/\((r_=(xN,naT s (i+1),[])/\i<s.size/\True)∨(r_=(EX.ret,frame 50 [(2,bv false)],[])/\i<s.size/\True)∨(r_=(xL 0,frame 50 [],[])/\s.size<=i)):=by
 rcases bT (decide (i<↑s.size)) with q0 | q0
 ·rcases bT (bif decide ((↑(s.data.getD i.toNat 0).toNat:Int)<97) then bif decide ((↑(s.data.getD i.toNat 0).toNat:Int)<48) then (↑(s.data.getD i.toNat 0).toNat:Int) != 95 else bif decide ((↑(s.data.getD i.toNat 0).toNat:Int)>57) then (↑(s.data.getD i.toNat 0).toNat:Int) != 95 else false else bif decide ((↑(s.data.getD i.toNat 0).toNat:Int)>122) then (↑(s.data.getD i.toNat 0).toNat:Int) != 95 else false) with q1 | q1
  ·exact e1 (y5 s i h0 h3 q0 q1)
  ·exact e1 (y6 s i h0 h3 q0 q1)
 ·exact e1 (y7 s i h0 h3 q0)
abbrev Nw (a0:Bool)(a1:Nat)(a2:Nat->Int):=sl a0 1 a1 fun i=>[iv (a2 i)]
abbrev Sb (a0:Bool)(a1:Nat)(a2:Nat->Int):=Nw a0 a1 a2
abbrev AA (a0:Bool)(a1:Nat)(a2:Nat->Int):=Sb a0 a1 a2
theorem acF (nn:Bool)(n:Nat)(w:Nat->Int)(k:Int)(b:Bool)(h3:n<=100000)(ih1:b=true->sL (cB (cR (cL (cR (cR (AB prog 85)))))) (acT nn n w 0) ([]) ((xL 0,frame 43 [],[]):RC))(ih2:b=false->sL (cB (cR (cL (cR (cR (AB prog 85)))))) (acT nn n w 0) ([]) ((EX.ret,frame 43 [(4,bv false)],[]):RC)):sP 85 [AA nn n w,iv k] (bv (bif bif decide (↑n<k) then true else decide ((↑n:Int)>24) then false else bif b then true else false)):=
 kP [] (.mk [] [(0,.fork true (bif decide (↑n<k) then true else decide ((↑n:Int)>24)) 16 0 0 0 (.mk (dS 16) [(4,.fork true (decide (↑n<k)) 32768 19 0 0 (.mk (dS 65536) [] [] [] []) (.mk (dS 65536) [] [] [] []))] [] [] []) (.mk [] [(0,.fork false (b) 16 0 0 0 (.mk (dS 16) [(4,.fork true (decide (↑n<k)) 32768 19 0 0 (.mk (dS 65536) [] [] [] []) (.mk (dS 65536) [] [] [] [])),(6,.is 458753 0 (xL 0,(frame 43 []),[]))] [] [] []) (.mk (dS 16) [(4,.fork true (decide (↑n<k)) 32768 19 0 0 (.mk (dS 65536) [] [] [] []) (.mk (dS 65536) [] [] [] [])),(6,.is 458753 0 I2)] [] [] []))] [] [] []))] [] [] []) KOk.nil (oT ((bif decide (↑n<k) then true else decide ((↑n:Int)>24))=false->((b)=true->sL (cB (cR (cL (cR (cR (AB prog 85)))))) (frame 43 [(0,sl nn 1 n fun i=>[iv (w i)]),(16,sl nn 1 n fun i=>[iv (w i)]),(17,iv ↑n),(18,iv 0)]) [] (xL 0,(frame 43 []),[]))) (fun _=>(fun _=>(ih1 (by assumption)))) (oT ((bif decide (↑n<k) then true else decide ((↑n:Int)>24))=false->((b)=false->sL (cB (cR (cL (cR (cR (AB prog 85)))))) (frame 43 [(0,sl nn 1 n fun i=>[iv (w i)]),(16,sl nn 1 n fun i=>[iv (w i)]),(17,iv ↑n),(18,iv 0)]) [] (EX.ret,(frame 43 [(4,bv false)]),[]))) (fun _=>(fun _=>(ih2 (by assumption)))) .nil))
theorem ifF (nn:Bool)(n:Nat)(w:Nat->Int)(b:Bool)(h3:n<=100000)(ih1:b=true->sL (cB (cR (cL (cR (AB prog 97))))) (ifT nn n w 0) ([]) ((xL 0,frame 40 [(0,nums nn n w)],[]):RC))(ih2:b=false->sL (cB (cR (cL (cR (AB prog 97))))) (ifT nn n w 0) ([]) ((EX.ret,frame 40 [(0,nums nn n w),(2,bv false)],[]):RC)):sP 97 [AA nn n w] (bv (bif b then bif decide ((↑n:Int)>=1) then decide ((↑n:Int)<=24) else false else false)):=
 kP [] (.mk [] [(0,.fork true (b) 4 0 0 0 (.mk [] [(6,.is 225 0 (xL 0,(frame 40 [(0,sl nn 1 n fun i=>[iv (w i)])]),[])),(1,.fork true (decide ((↑n:Int)>=1)) 4 1 0 0 (.mk (dS 65536) [] [] [] []) (.mk (dS 65536) [] [] [] []))] [] [] []) (.mk [] [(6,.is 225 0 (I1 nn n w))] [] [] []))] [] [] []) KOk.nil (oT ((b)=true->sL (cB (cR (cL (cR (AB prog 97))))) (frame 40 [(0,sl nn 1 n fun i=>[iv (w i)]),(5,sl nn 1 n fun i=>[iv (w i)]),(6,iv ↑n),(7,iv 0)]) [] (xL 0,(frame 40 [(0,sl nn 1 n fun i=>[iv (w i)])]),[])) (fun _=>(ih1 (by assumption))) (oT ((b)=false->sL (cB (cR (cL (cR (AB prog 97))))) (frame 40 [(0,sl nn 1 n fun i=>[iv (w i)]),(5,sl nn 1 n fun i=>[iv (w i)]),(6,iv ↑n),(7,iv 0)]) [] (EX.ret,(frame 40 [(0,sl nn 1 n fun i=>[iv (w i)]),(2,bv false)]),[])) (fun _=>(ih2 (by assumption))) .nil))
abbrev GX (a0:Bool)(a1:Int):=iv (bif a0 then -1 else a1)
theorem ofF (nn:Bool)(n:Nat)(w:Nat->Int)(x:Int)(b:Bool)(h3:n<=100000)(ih1:b=true->sL (cB (cR (cL (cR (AB prog 157))))) (ofT nn n w 0) ([]) ((xL 0,frame 19 [],[]):RC))(ih2:b=false->sL (cB (cR (cL (cR (AB prog 157))))) (ofT nn n w 0) ([]) ((EX.ret,frame 19 [(4,iv x)],[]):RC)):sP 157 [AA nn n w,fc (87) [] []] (GX b x):=
 kP [] (.mk [] [(0,.fork true (b) 16 0 0 0 (.mk [] [(6,.is 451 0 DI)] [] [] []) (.mk [] [(6,.is 451 0 (Cx x))] [] [] []))] [] [] []) KOk.nil (oT ((b)=true->sL (cB (cR (cL (cR (AB prog 157))))) (frame 19 [(0,sl nn 1 n fun i=>[iv (w i)]),(1,fc (87) [] []),(6,sl nn 1 n fun i=>[iv (w i)]),(7,iv ↑n),(8,iv 0)]) [] (xL 0,(frame 19 []),[])) (fun _=>(ih1 (by assumption))) (oT ((b)=false->sL (cB (cR (cL (cR (AB prog 157))))) (frame 19 [(0,sl nn 1 n fun i=>[iv (w i)]),(1,fc (87) [] []),(6,sl nn 1 n fun i=>[iv (w i)]),(7,iv ↑n),(8,iv 0)]) [] (EX.ret,(frame 19 [(4,iv x)]),[])) (fun _=>(ih2 (by assumption))) .nil))
theorem idF (nn:Bool)(n:Nat)(w:Nat->Int)(c:Int)(x:Int)(b:Bool)(h3:n<=100000)(ih1:b=true->sL (cB (cR (cL (cR (AB prog 69))))) (idT nn n w c 0) ([]) ((xL 0,frame 19 [],[]):RC))(ih2:b=false->sL (cB (cR (cL (cR (AB prog 69))))) (idT nn n w c 0) ([]) ((EX.ret,frame 19 [(4,iv x)],[]):RC)):sP 69 [AA nn n w,iv c] (GX b x):=
 kP [] (.mk [] [(0,.fork true (b) 16 0 0 0 (.mk [] [(6,.is 451 0 DI)] [] [] []) (.mk [] [(6,.is 451 0 (Cx x))] [] [] []))] [] [] []) KOk.nil (oT ((b)=true->sL (cB (cR (cL (cR (AB prog 69))))) (frame 19 [(0,sl nn 1 n fun i=>[iv (w i)]),(1,iv c),(6,sl nn 1 n fun i=>[iv (w i)]),(7,iv ↑n),(8,iv 0)]) [] (xL 0,(frame 19 []),[])) (fun _=>(ih1 (by assumption))) (oT ((b)=false->sL (cB (cR (cL (cR (AB prog 69))))) (frame 19 [(0,sl nn 1 n fun i=>[iv (w i)]),(1,iv c),(6,sl nn 1 n fun i=>[iv (w i)]),(7,iv ↑n),(8,iv 0)]) [] (EX.ret,(frame 19 [(4,iv x)]),[])) (fun _=>(ih2 (by assumption))) .nil))
abbrev DJ (a0:ByteArray):=decide ((↑(a0.data.getD 0 0).toNat:Int)<97)
abbrev CB (a0:ByteArray):=decide ((↑a0.size:Int)<1)
abbrev CC (a0:ByteArray):=decide ((↑a0.size:Int)>24)
theorem naF (s:ByteArray)(b:Bool)(h3:s.size<=100000)(ih1:b=true->sL (cB (cR (cL (cR (cR (AB prog 158)))))) (naT s 0) ([]) ((xL 0,frame 50 [],[]):RC))(ih2:b=false->sL (cB (cR (cL (cR (cR (AB prog 158)))))) (naT s 0) ([]) ((EX.ret,frame 50 [(2,bv false)],[]):RC)):sP 158 [sv s] (bv (bif bif decide ((↑s.size:Int)<1) then true else bif decide ((↑s.size:Int)>24) then true else bif decide ((↑(s.data.getD 0 0).toNat:Int)<97) then true else decide ((↑(s.data.getD 0 0).toNat:Int)>122) then false else bif b then true else false)):=
 kP [] (.mk [] [(0,.fork true (bif decide ((↑s.size:Int)<1) then true else bif decide ((↑s.size:Int)>24) then true else bif decide ((↑(s.data.getD 0 0).toNat:Int)<97) then true else decide ((↑(s.data.getD 0 0).toNat:Int)>122)) 4 0 0 0 (.mk (dS 16) [(4,.fork true (CB s) 4194304 5 0 0 (.mk (dS 65536) [] [] [] []) (.mk [] [(0,.fork false (CC s) 4194304 5 0 0 (.mk (DG) [] [] [] []) (.mk [] [(0,.fork false (DJ s) 4194304 5 0 0 (.mk (dS 4503604359668258) [] [] [] []) (.mk (dS 72057669754694178) [] [] [] []))] [] [] []))] [] [] []))] [] [] []) (.mk [] [(0,.fork false (b) 4 0 0 0 (.mk (dS 16) [(4,.fork true (CB s) 4194304 5 0 0 (.mk (dS 65536) [] [] [] []) (.mk [] [(0,.fork false (CC s) 4194304 5 0 0 (.mk (DG) [] [] [] []) (.mk [] [(0,.fork false (DJ s) 4194304 5 0 0 (.mk (dS 4503604359668258) [] [] [] []) (.mk (dS 72057669754694178) [] [] [] []))] [] [] []))] [] [] [])),(6,.is 50331649 0 (xL 0,(frame 50 []),[]))] [] [] []) (.mk (dS 16) [(4,.fork true (CB s) 4194304 5 0 0 (.mk (dS 65536) [] [] [] []) (.mk [] [(0,.fork false (CC s) 4194304 5 0 0 (.mk (DG) [] [] [] []) (.mk [] [(0,.fork false (DJ s) 4194304 5 0 0 (.mk (dS 4503604359668258) [] [] [] []) (.mk (dS 72057669754694178) [] [] [] []))] [] [] []))] [] [] [])),(6,.is 50331649 0 (EX.ret,(frame 50 [(2,bv false)]),[]))] [] [] []))] [] [] []))] [] [] []) KOk.nil (oG ((bif decide ((↑s.size:Int)<1) then true else bif decide ((↑s.size:Int)>24) then true else bif decide ((↑(s.data.getD 0 0).toNat:Int)<97) then true else decide ((↑(s.data.getD 0 0).toNat:Int)>122))=true->((CB s)=false->((CC s)=false->((DJ s)=true->(inB 0 s.size)=true)))) (oG ((bif decide ((↑s.size:Int)<1) then true else bif decide ((↑s.size:Int)>24) then true else bif decide ((↑(s.data.getD 0 0).toNat:Int)<97) then true else decide ((↑(s.data.getD 0 0).toNat:Int)>122))=true->((CB s)=false->((CC s)=false->((DJ s)=false->(inB 0 s.size)=true)))) (oG ((bif decide ((↑s.size:Int)<1) then true else bif decide ((↑s.size:Int)>24) then true else bif decide ((↑(s.data.getD 0 0).toNat:Int)<97) then true else decide ((↑(s.data.getD 0 0).toNat:Int)>122))=true->((CB s)=false->((CC s)=false->((DJ s)=false->(inB 0 s.size)=true)))) (oT ((bif decide ((↑s.size:Int)<1) then true else bif decide ((↑s.size:Int)>24) then true else bif decide ((↑(s.data.getD 0 0).toNat:Int)<97) then true else decide ((↑(s.data.getD 0 0).toNat:Int)>122))=false->((b)=true->sL (cB (cR (cL (cR (cR (AB prog 158)))))) (frame 50 [(0,sv s),(24,iv ↑s.size),(25,iv 0)]) [] (xL 0,(frame 50 []),[]))) (fun _=>(fun _=>(ih1 (by assumption)))) (oG ((bif decide ((↑s.size:Int)<1) then true else bif decide ((↑s.size:Int)>24) then true else bif decide ((↑(s.data.getD 0 0).toNat:Int)<97) then true else decide ((↑(s.data.getD 0 0).toNat:Int)>122))=false->((b)=true->((CB s)=false->((CC s)=false->((DJ s)=true->(inB 0 s.size)=true))))) (oG ((bif decide ((↑s.size:Int)<1) then true else bif decide ((↑s.size:Int)>24) then true else bif decide ((↑(s.data.getD 0 0).toNat:Int)<97) then true else decide ((↑(s.data.getD 0 0).toNat:Int)>122))=false->((b)=true->((CB s)=false->((CC s)=false->((DJ s)=false->(inB 0 s.size)=true))))) (oG ((bif decide ((↑s.size:Int)<1) then true else bif decide ((↑s.size:Int)>24) then true else bif decide ((↑(s.data.getD 0 0).toNat:Int)<97) then true else decide ((↑(s.data.getD 0 0).toNat:Int)>122))=false->((b)=true->((CB s)=false->((CC s)=false->((DJ s)=false->(inB 0 s.size)=true))))) (oT ((bif decide ((↑s.size:Int)<1) then true else bif decide ((↑s.size:Int)>24) then true else bif decide ((↑(s.data.getD 0 0).toNat:Int)<97) then true else decide ((↑(s.data.getD 0 0).toNat:Int)>122))=false->((b)=false->sL (cB (cR (cL (cR (cR (AB prog 158)))))) (frame 50 [(0,sv s),(24,iv ↑s.size),(25,iv 0)]) [] (EX.ret,(frame 50 [(2,bv false)]),[]))) (fun _=>(fun _=>(ih2 (by assumption)))) (oG ((bif decide ((↑s.size:Int)<1) then true else bif decide ((↑s.size:Int)>24) then true else bif decide ((↑(s.data.getD 0 0).toNat:Int)<97) then true else decide ((↑(s.data.getD 0 0).toNat:Int)>122))=false->((b)=false->((CB s)=false->((CC s)=false->((DJ s)=true->(inB 0 s.size)=true))))) (oG ((bif decide ((↑s.size:Int)<1) then true else bif decide ((↑s.size:Int)>24) then true else bif decide ((↑(s.data.getD 0 0).toNat:Int)<97) then true else decide ((↑(s.data.getD 0 0).toNat:Int)>122))=false->((b)=false->((CB s)=false->((CC s)=false->((DJ s)=false->(inB 0 s.size)=true))))) (oG ((bif decide ((↑s.size:Int)<1) then true else bif decide ((↑s.size:Int)>24) then true else bif decide ((↑(s.data.getD 0 0).toNat:Int)<97) then true else decide ((↑(s.data.getD 0 0).toNat:Int)>122))=false->((b)=false->((CB s)=false->((CC s)=false->((DJ s)=false->(inB 0 s.size)=true))))) .nil)))))))))))
theorem naG (s:ByteArray)(h3:24<s.size):sP 158 [sv s] (bv false):=
 kP [] (.mk (dS 7444605610) [] [] [] []) KOk.nil (oI ((CC s)=true) (oI ((CC s)=true) (oI ((CC s)=true) (oI ((CC s)=true) (oI ((CB s)=false) (oI ((CB s)=false) (oI ((CB s)=false) (oI ((CB s)=false) .nil))))))))
abbrev Nx (a0:Bool)(a1:Nat)(a2:Nat->Int):=nums a0 a1 a2
abbrev Sc (a0:Bool)(a1:Nat)(a2:Nat->Int):=Nx a0 a1 a2
abbrev AM (a0:Bool)(a1:Nat)(a2:Nat->Int):=Sc a0 a1 a2
theorem ctF (nn:Bool)(n:Nat)(w:Nat->Int)(c:Int)(x:Int)(h3:n<=100000)(ih:sP 69 [AM nn n w,iv c] (iv x)):sP 35 [AA nn n w,iv c] (bv (Cw x)):=
 kP [] (.mk [] [] [some (iv x)] [] []) KOk.nil (.cons ih .nil)
theorem cfF (nn:Bool)(n:Nat)(w:Nat->Int)(x:Int)(h3:n<=100000)(ih:sP 157 [AM nn n w,fc (87) [] []] (iv x)):sP 86 [AA nn n w,fc (87) [] []] (bv (Cw x)):=
 kP [] (.mk [] [] [some (iv x)] [] []) KOk.nil (.cons ih .nil)
theorem amF (nn:Bool)(n:Nat)(w:Nat->Int)(c:Int)(b:Bool)(ih:sP 35 [AM nn n w,iv c] (bv b)):sP 90 [iv c,pv [AA nn n w] 0] (bv b):=
 kP [] (.mk [] [] [some (bv b)] [] []) KOk.nil (.cons ih .nil)
theorem Ya (nn:Bool)(n:Nat)(w:Nat->Int):sP 49 [AA nn n w] (fc (90) [] [pv [AA nn n w] 0]):=
 kP [] (.mk [] [] [] [] []) KOk.nil .nil
def Inc (n:Nat)(w:Nat->Int):Prop:=∀ i,i<n->0<=w i/\w i<192/\(0<i->w (i - 1)<w i)
theorem Inc.lt {n:Nat}{w:Nat->Int}(h:Inc n w):∀ {i j},i<j->j<n->w i<w j:=by
 intro i j hij hj
 induction j with
 | zero=>omega
 | succ j ih=>
  have:=(h (j+1) hj).2.2 (by omega)
  rcases Nat.lt_or_ge i j with h' | h'
  ·have:=ih h' (by omega)
   simp only [Nat.add_sub_cancel] at*
   omega
  ·obtain rfl:i=j:=by omega
   simpa using this
theorem Inc.inj {n:Nat}{w:Nat->Int}(h:Inc n w){i j:Nat}(hi:i<n)(hj:j<n)(he:w i=w j):i=j:=by
 rcases Nat.lt_trichotomy i j with h' | h' | h'
 ·have:=h.lt h' hj; omega
 ·exact h'
 ·have:=h.lt h' hi; omega
theorem P5 (nn:Bool)(n:Nat)(w:Nat->Int)(k:Int)(h3:n<=100000):∃ b,sP 85 [nums nn n w,EV.int .i64 k] (EV.bool b)/\(b=true->k<=n/\n<=24/\Inc n w):=by
 have H:=SemL.all (P:=prog) (G:=globs') (rnd:=false) (c:=cB (cB (cR (cL (cR (cR (AB prog 85))))))) (fun i=>acT nn n w i) (fun _=>[]) n (fun i=>0<=w i/\w i<192/\(0<i->w (i - 1)<w i)) (fun _=>True)
  (fun _=>(EX.ret,frame 43 [(4,EV.bool false)],[])) (EX.leave 0,frame 43 [],[]) (fun _=>by simp) (by simp) (fun i=>by
   obtain ⟨r,h,h1⟩:=acB nn n w i (by omega) h3
   refine ⟨r,h,h1.imp (fun x=>⟨x.1,by omega,?_⟩) (Or.imp (fun x=>⟨x.1,by omega,trivial⟩) fun x=>⟨x.1,by omega⟩)⟩
   have h2:=x.2.2
   rw [Int.toNat_natCast] at h2
   refine ⟨h2.1,h2.2.1,fun hi=>?_⟩
   have h3:=h2.2.2 (by omega)
   rwa [show ((i:Int) - 1).toNat=i - 1 by omega] at h3)
 rcases H with ⟨h,hg⟩ | ⟨i,_,_,_,h⟩
 ·refine ⟨_,acF nn n w k true h3 (fun _=>h.toCL (by kernel_rfl)) (by intro h; cases h),fun hb=>?_⟩
  cases hk:(bif decide ((↑n:Int)<k) then true else decide ((↑n:Int)>24)) with
  | true=>rw [hk] at hb; cases hb
  | false=>
   simp only [Bool.cond_true_left,Bool.or_eq_false_iff,decide_eq_false_iff_not] at hk
   exact ⟨by omega,by omega,hg⟩
 ·refine ⟨_,acF nn n w k false h3 (by intro h; cases h) (fun _=>h.toCL (by kernel_rfl)),fun hb=>?_⟩
  cases hk:(bif decide ((↑n:Int)<k) then true else decide ((↑n:Int)>24))<;>rw [hk] at hb<;>cases hb
theorem Q2 (nn:Bool)(n:Nat)(w:Nat->Int)(h3:n<=100000):∃ b,sP 97 [nums nn n w] (EV.bool b)/\(Inc n w->1<=n->n<=24->b=true):=by
 have H:=SemL.all (P:=prog) (G:=globs') (rnd:=false) (c:=cB (cB (cR (cL (cR (AB prog 97)))))) (fun i=>ifT nn n w i) (fun _=>[]) n (fun _=>True) (fun i=>¬ (0<=w i/\w i<192/\(0<i->w (i - 1)<w i)))
  (fun _=>(EX.ret,frame 40 [(0,nums nn n w),(2,EV.bool false)],[])) (EX.leave 0,frame 40 [(0,nums nn n w)],[]) (fun _=>by simp) (by simp) (fun i=>by
   obtain ⟨r,h,h1⟩:=ifB nn n w i (by omega) h3
   refine ⟨r,h,h1.imp (fun x=>⟨x.1,by omega,trivial⟩) (Or.imp (fun x=>⟨x.1,by omega,fun hg=>x.2.2 ?_⟩) fun x=>⟨x.1,by omega⟩)⟩
   rw [Int.toNat_natCast]
   refine ⟨hg.1,hg.2.1,fun hi=>?_⟩
   rw [show ((i:Int) - 1).toNat=i - 1 by omega]
   exact hg.2.2 (by omega))
 rcases H with ⟨h,hg⟩ | ⟨i,hi,hb,_,h⟩
 ·refine ⟨_,ifF nn n w true h3 (fun _=>h.toCL (by kernel_rfl)) (by intro h; cases h),fun _ h1 h2=>?_⟩
  simp only [cond_true,Bool.cond_false_right,Bool.and_eq_true,decide_eq_true_eq]
  omega
 ·exact ⟨_,ifF nn n w false h3 (by intro h; cases h) (fun _=>h.toCL (by kernel_rfl)),fun hI _ _=>absurd (hI i hi) hb⟩
theorem Vl (nn:Bool)(n:Nat)(w:Nat->Int)(h3:n<=100000):∃ b,sP 86 [nums nn n w,EV.func (.func 87) [] []] (EV.bool b)/\(b=false->∀ i,i<n->0<=w i/\w i<=9999):=by
 have H:=SemL.all (P:=prog) (G:=globs') (rnd:=false) (c:=cB (cB (cR (cL (cR (AB prog 157)))))) (fun i=>ofT nn n w i) (fun _=>[]) n (fun i=>FP (w i)=false) (fun _=>True)
  (fun i=>(EX.ret,frame 19 [(4,EV.int .i64 i)],[])) (EX.leave 0,frame 19 [],[]) (fun _=>by simp) (by simp) (fun i=>by
   obtain ⟨r,h,h1⟩:=ofB nn n w i (by omega) h3
   exact ⟨r,h,h1.imp (fun x=>⟨x.1,by omega,by have:=x.2.2; rwa [Int.toNat_natCast] at this⟩) (Or.imp (fun x=>⟨x.1,by omega,trivial⟩) fun x=>⟨x.1,by omega⟩)⟩)
 rcases H with ⟨h,hg⟩ | ⟨i,hi,hb,_,h⟩
 ·refine ⟨_,cfF nn n w _ h3 (ofF nn n w 0 true h3 (fun _=>h.toCL (by kernel_rfl)) (by intro h; cases h)),fun _ i hi=>?_⟩
  have:=hg i hi
  unfold FP at this
  simp only [Bool.cond_true_left,Bool.or_eq_false_iff,decide_eq_false_iff_not] at this
  omega
 ·refine ⟨_,cfF nn n w _ h3 (ofF nn n w i false h3 (by intro h; cases h) (fun _=>h.toCL (by kernel_rfl))),fun hf=>?_⟩
  simp at hf
def inW (n:Nat)(w:Nat->Int)(c:Int):Bool:=(List.range n).any fun i=>w i==c
theorem Km {n:Nat}{w:Nat->Int}{c:Int}:inW n w c=true↔∃ i,i<n/\w i=c:=by
 simp [inW]
theorem UW (nn:Bool)(n:Nat)(w:Nat->Int)(c:Int)(h3:n<=100000):∃ x,sP 69 [nums nn n w,EV.int .i64 c] (EV.int .i64 x)/\decide (x>=0)=inW n w c:=by
 have H:=SemL.all (P:=prog) (G:=globs') (rnd:=false) (c:=cB (cB (cR (cL (cR (AB prog 69)))))) (fun i=>idT nn n w c i) (fun _=>[]) n (fun i=>¬ c=w i) (fun i=>c=w i)
  (fun i=>(EX.ret,frame 19 [(4,EV.int .i64 i)],[])) (EX.leave 0,frame 19 [],[]) (fun _=>by simp) (by simp) (fun i=>by
   obtain ⟨r,h,h1⟩:=idB nn n w c i (by omega) h3
   exact ⟨r,h,h1.imp (fun x=>⟨x.1,by omega,by have:=x.2.2; rwa [Int.toNat_natCast] at this⟩) (Or.imp (fun x=>⟨x.1,by omega,by have:=x.2.2; rwa [Int.toNat_natCast] at this⟩) fun x=>⟨x.1,by omega⟩)⟩)
 rcases H with ⟨h,hg⟩ | ⟨i,hi,hb,_,h⟩
 ·refine ⟨_,idF nn n w c 0 true h3 (fun _=>h.toCL (by kernel_rfl)) (by intro h; cases h),?_⟩
  cases hc:inW n w c with
  | false=>rfl
  | true=>
   obtain ⟨i,hi,he⟩:=Km.1 hc
   exact absurd he.symm (hg i hi)
 ·refine ⟨_,idF nn n w c i false h3 (by intro h; cases h) (fun _=>h.toCL (by kernel_rfl)),?_⟩
  rw [Km.2 ⟨i,hi,hb.symm⟩]
  simp
theorem PZ (nn:Bool)(n:Nat)(w:Nat->Int)(c:Int)(h3:n<=100000):sP 35 [nums nn n w,EV.int .i64 c] (EV.bool (inW n w c)):=by
 obtain ⟨x,h,hx⟩:=UW nn n w c h3
 rw [<-hx]
 exact ctF nn n w c x h3 h
theorem I3 (nn:Bool)(n:Nat)(w:Nat->Int)(c:Int)(h3:n<=100000):sP 90 [EV.int .i64 c,EV.ip [nums nn n w] 0] (EV.bool (inW n w c)):=
 amF nn n w c _ (PZ nn n w c h3)
theorem Ny (s:ByteArray):∃ b,sP 158 [EV.str s] (EV.bool b)/\(b=true->s.size<=24):=by
 by_cases hs:24<s.size
 ·exact ⟨false,naG s hs,by intro h; cases h⟩
 ·have H:=SemL.all (P:=prog) (G:=globs') (rnd:=false) (c:=cB (cB (cR (cL (cR (cR (AB prog 158))))))) (fun i=>naT s i) (fun _=>[]) s.size (fun _=>True) (fun _=>True)
   (fun i=>(EX.ret,frame 50 [(2,EV.bool false)],[])) (EX.leave 0,frame 50 [],[]) (fun _=>by simp) (by simp) (fun i=>by
    obtain ⟨r,h,h1⟩:=naB s i (by omega) (by omega)
    exact ⟨r,h,h1.imp (fun x=>⟨x.1,by omega,trivial⟩) (Or.imp (fun x=>⟨x.1,by omega,trivial⟩) fun x=>⟨x.1,by omega⟩)⟩)
  rcases H with ⟨h,hg⟩ | ⟨i,hi,hb,_,h⟩
  ·exact ⟨_,naF s true (by omega) (fun _=>h.toCL (by kernel_rfl)) (by intro h; cases h),fun _=>by omega⟩
  ·exact ⟨_,naF s false (by omega) (by intro h; cases h) (fun _=>h.toCL (by kernel_rfl)),fun _=>by omega⟩
def Kn:EV->EV->Bool
 | .int _ a,.int _ b=>a==b
 | .agg [.int _ a,.int _ b,.int _ c,.int _ d],.agg [.int _ a',.int _ b',.int _ c',.int _ d']=>a==a' && (b==b' && (c==c' && (d==d' && true)))
 | _,_=>false
def BF (k:EV)(es:List (EV×EV)):Bool:=es.any fun e=>Kn k e.1
def BD (k:EV)(es:List (EV×EV)):Nat:=es.findIdx fun e=>Kn k e.1
def intOf:EV->Int
 | .int _ v=>v
 | _=>0
def CY (k:EV)(es:List (EV×EV)):Int:=intOf ((es.getD (BD k es) (.undef,.undef)).2)
def EW (x:EV):Prop:=∃ k,x=.int .i64 k
def UX (x:EV):Prop:=∃ a b c d,x=.agg [.int .i64 a,.int .i64 b,.int .i64 c,.int .i64 d]
def Cu (x:EV):Prop:=∃ v,x=.int .i64 v
def J3 (x:EV):Prop:=x=.bool true
def MapOf (K V:EV->Prop)(es:List (EV×EV)):Prop:=∀ e∈es,K e.1/\V e.2
theorem MapOf.nil {K V:EV->Prop}:MapOf K V []:=fun _ h=>by cases h
theorem MapOf.app {K V:EV->Prop}{es:List (EV×EV)}{k v:EV}(h:MapOf K V es)(hk:K k)(hv:V v):MapOf K V (es++[(k,v)]):=by
 intro e he
 rcases List.mem_append.1 he with h' | h'
 ·exact h e h'
 ·obtain rfl:=List.mem_singleton.1 h'
  exact ⟨hk,hv⟩
theorem MapOf.set {K V:EV->Prop}{es:List (EV×EV)}{k v:EV}{i:Nat}(h:MapOf K V es)(hk:K k)(hv:V v):MapOf K V (es.set i (k,v)):=by
 intro e he
 rcases List.mem_or_eq_of_mem_set he with h' | rfl
 ·exact h e h'
 ·exact ⟨hk,hv⟩
theorem MapOf.setVal {K V:EV->Prop}{es:List (EV×EV)}{x:EV}{i:Nat}(h:MapOf K V es)(hv:V x):MapOf K V (setVal es i x):=by
 induction es generalizing i with
 | nil=>intro e he; cases he
 | cons e es ih=>
  cases i with
  | zero=>
   intro e' he
   rcases List.mem_cons.1 he with rfl | he
   ·exact ⟨(h e (List.mem_cons_self ..)).1,hv⟩
   ·exact h e' (List.mem_cons_of_mem _ he)
  | succ i=>
   intro e' he
   rcases List.mem_cons.1 he with rfl | he
   ·exact h e' (List.mem_cons_self ..)
   ·exact ih (fun e he=>h e (List.mem_cons_of_mem _ he)) e' he
theorem Vm {k:EV}{es:List (EV×EV)}{i:Nat}{p:EV×EV}(h:BF k es=true):inB (BD k es:Int) (es.set i p).length=true:=by
 have hlt:BD k es<es.length:=List.findIdx_lt_length_of_exists (by simpa [BF] using h)
 simp only [inB,List.length_set,Bool.and_eq_true,decide_eq_true_eq]
 omega
theorem HK {P:Program}{kt:Go.TypeId}{k:EV}:∀ (es:List (EV×EV)) (i:Nat),(∀ e∈es,eqE P 40 kt k e.1=some (Kn k e.1))->
  (BF k es=true->Ai P kt k es i (some (i+BD k es,(es.getD (BD k es) (.undef,.undef)).2)))/\(BF k es=false->Ai P kt k es i none)
 | [],i,_=>⟨fun h=>by simp [BF] at h,fun _=>rfl⟩
 | e :: es,i,h=>by
  obtain ⟨h1,h2⟩:=HK es (i+1) fun e' he=>h e' (List.mem_cons_of_mem _ he)
  have h0:=h e (List.mem_cons_self ..)
  cases hb:Kn k e.1 with
  | true=>
   refine ⟨fun _=>⟨true,by rw [h0,hb],fun _=>?_,fun h=>by cases h⟩,fun h=>by simp [BF,hb] at h⟩
   simp [BD,List.findIdx_cons,hb]
  | false=>
   constructor
   ·intro hh
    refine ⟨false,by rw [h0,hb],(fun h=>by cases h),fun _=>?_⟩
    have:=h1 (by simpa [BF,hb] using hh)
    have e1:BD k (e :: es)=BD k es+1:=by simp [BD,List.findIdx_cons,hb]
    rw [e1]
    simpa [Nat.add_assoc,Nat.add_comm 1] using this
   ·intro hh
    exact ⟨false,by rw [h0,hb],(fun h=>by cases h),fun _=>h2 (by simpa [BF,hb] using hh)⟩
theorem Ko {k:EV}{es:List (EV×EV)}(h:BF k es=true):∃ e,es[BD k es]? =some e/\e∈es/\Kn k e.1=true:=by
 have hlt:BD k es<es.length:=List.findIdx_lt_length_of_exists (by simpa [BF] using h)
 refine ⟨es[BD k es],List.getElem?_eq_getElem hlt,List.getElem_mem hlt,?_⟩
 exact List.findIdx_getElem (w:=hlt)
theorem Vn (k k':Int):eqE prog 40 3 (.int .i64 k) (.int .i64 k')=some (k==k'):=by kernel_rfl
theorem Rh {V:EV->Prop}{es:List (EV×EV)}(h:MapOf EW V es)(k:Int):∀ e∈es,eqE prog 40 3 (.int .i64 k) e.1=some (Kn (.int .i64 k) e.1):=by
 intro e he
 obtain ⟨⟨k',hk⟩,_⟩:=h e he
 rw [hk]
 exact Vn k k'
theorem B2 {V:EV->Prop}{es:List (EV×EV)}(h:MapOf EW V es){k:Int}(hb:BF (.int .i64 k) es=false):Ai prog 3 (.int .i64 k) es 0 none:=
 (HK es 0 (Rh h k)).2 hb
theorem CD {es:List (EV×EV)}(h:MapOf EW Cu es){k:Int}(hb:BF (.int .i64 k) es=true):Ai prog 3 (.int .i64 k) es 0 (some (BD (.int .i64 k) es,.int .i64 (CY (.int .i64 k) es))):=by
 have:=(HK es 0 (Rh h k)).1 hb
 rw [Nat.zero_add] at this
 obtain ⟨e,h1,h2,_⟩:=Ko hb
 obtain ⟨_,v,hv⟩:=h e h2
 have e1:es.getD (BD (.int .i64 k) es) (.undef,.undef)=e:=by simp [List.getD_eq_getElem?_getD,h1]
 have e2:EV.int .i64 (CY (.int .i64 k) es)=e.2:=by unfold CY; rw [e1,hv]; rfl
 rw [e2,<-e1]
 exact this
theorem Sd {es:List (EV×EV)}(h:MapOf EW J3 es){k:Int}(hb:BF (.int .i64 k) es=true):Ai prog 3 (.int .i64 k) es 0 (some (BD (.int .i64 k) es,.bool true)):=by
 have:=(HK es 0 (Rh h k)).1 hb
 rw [Nat.zero_add] at this
 obtain ⟨e,h1,h2,_⟩:=Ko hb
 obtain ⟨_,hv⟩:=h e h2
 have e1:es.getD (BD (.int .i64 k) es) (.undef,.undef)=e:=by simp [List.getD_eq_getElem?_getD,h1]
 rw [e1,hv] at this
 exact this
theorem Dh {V:EV->Prop}{es:List (EV×EV)}(h:MapOf EW V es){k:Int}(hb:BF (.int .i64 k) es=true):sameAt es (BD (.int .i64 k) es) (.int .i64 k)=true:=by
 obtain ⟨e,h1,h2,h3⟩:=Ko hb
 obtain ⟨⟨k',hk⟩,_⟩:=h e h2
 unfold sameAt
 rw [h1]
 simp only [hk] at h3 ⊢
 have h3:(k==k')=true:=h3
 have:k=k':=by simpa using h3
 subst this
 simp [sameE]
abbrev ResD.key (r:ResD):EV:=.agg [.int .i64 r.season,.int .i64 r.comp,.int .i64 r.home,.int .i64 r.away]
theorem UY (a b c d a' b' c' d':Int):eqE prog 40 50 (.agg [.int .i64 a,.int .i64 b,.int .i64 c,.int .i64 d]) (.agg [.int .i64 a',.int .i64 b',.int .i64 c',.int .i64 d'])=some (a==a' && (b==b' && (c==c' && (d==d' && true)))):=by kernel_rfl
theorem X6 {V:EV->Prop}{es:List (EV×EV)}(h:MapOf UX V es)(a b c d:Int):∀ e∈es,eqE prog 40 50 (.agg [.int .i64 a,.int .i64 b,.int .i64 c,.int .i64 d]) e.1=some (Kn (.agg [.int .i64 a,.int .i64 b,.int .i64 c,.int .i64 d]) e.1):=by
 intro e he
 obtain ⟨⟨a',b',c',d',hk⟩,_⟩:=h e he
 rw [hk]
 exact UY a b c d a' b' c' d'
theorem Kp {V:EV->Prop}{es:List (EV×EV)}(h:MapOf UX V es){a b c d:Int}(hb:BF (.agg [.int .i64 a,.int .i64 b,.int .i64 c,.int .i64 d]) es=false):Ai prog 50 (.agg [.int .i64 a,.int .i64 b,.int .i64 c,.int .i64 d]) es 0 none:=
 (HK es 0 (X6 h a b c d)).2 hb
theorem Se {es:List (EV×EV)}(h:MapOf UX J3 es){a b c d:Int}(hb:BF (.agg [.int .i64 a,.int .i64 b,.int .i64 c,.int .i64 d]) es=true):Ai prog 50 (.agg [.int .i64 a,.int .i64 b,.int .i64 c,.int .i64 d]) es 0 (some (BD (.agg [.int .i64 a,.int .i64 b,.int .i64 c,.int .i64 d]) es,.bool true)):=by
 have:=(HK es 0 (X6 h a b c d)).1 hb
 rw [Nat.zero_add] at this
 obtain ⟨e,h1,h2,_⟩:=Ko hb
 obtain ⟨_,hv⟩:=h e h2
 have e1:es.getD (BD (.agg [.int .i64 a,.int .i64 b,.int .i64 c,.int .i64 d]) es) (.undef,.undef)=e:=by simp [List.getD_eq_getElem?_getD,h1]
 rw [e1,hv] at this
 exact this
noncomputable def arT (nn:Bool)(n:Nat)(rs:Nat->ResD)(n1:Bool)(m:Nat)(w:Nat->Int)(i:Int):List EV:=frame 63 [(0,EV.isl nn 13 n fun i=>(rs i).cells),(1,EV.func (Fn.func 90) [] [EV.ip [nums n1 m w] 0]),(5,EV.mm 0),(10,EV.isl nn 13 n fun i=>(rs i).cells),(11,EV.int .i64 n),(12,EV.int .i64 i)]
theorem mT {p:Prop}(h:p:=by repeat (first | assumption | (apply MapOf.setVal) | (apply MapOf.set) | (apply MapOf.app) | exact ⟨_,rfl⟩ | exact ⟨_,_,_,_,rfl⟩ | rfl)):p:=h
abbrev Sf (a0:Bool):=(!a0,false)
abbrev CO (a0:Nat->ResD)(a1:Int):=iv (a0 a1.toNat).away
abbrev CP (a0:Nat->ResD)(a1:Int):=iv (a0 a1.toNat).home
abbrev Sg (a0:Bool):=(!a0)=false
abbrev GY (a0:Nat->ResD)(a1:Int):=[iv (a0 a1.toNat).season,iv (a0 a1.toNat).comp,iv (a0 a1.toNat).home,iv (a0 a1.toNat).away]
noncomputable abbrev Fc:RC:=(EX.ret,(frame 63 [(4,bv false)]),[oD])
noncomputable abbrev Eh:=cB (cB (cR (cL (cR (cR (AB prog 89))))))
abbrev A8 (a0:List (EV×EV)):=EObj.map false true a0
abbrev I4 (a0:Nat->ResD)(a1:Int):=((a0 a1.toNat).comp != (a0 0).comp,false)
abbrev I5 (a0:Nat->ResD)(a1:Int):=((a0 a1.toNat).comp != (a0 0).comp)=false
abbrev EB (a0:Int):=(a0 != 0)=false
abbrev Hm (a0:Nat->ResD)(a1:Int):=((a0 a1.toNat).season != (a0 0).season,false)
abbrev Hn (a0:Nat->ResD)(a1:Int):=((a0 a1.toNat).season != (a0 0).season)=false
abbrev Sh (a0:Bool):=Sf a0
abbrev Si (a0:Bool):=Sg a0
abbrev A9 (a0:Bool):=Sh a0
abbrev BA (a0:Bool):=Si a0
section
variable (nn:Bool)(n:Nat)(rs:Nat->ResD)(n1:Bool)(m:Nat)(w:Nat->Int)(es:List (EV×EV))(i:Int)(e:Int)(b1:Bool)(b2:Bool)(h0:0<=i)(h3:n<=100000)(hes:MapOf UX J3 es)(ihe:sP 99 [ag (rs i.toNat).cells] (iv e))(ihh:sP 90 [CP rs i,pv [AM n1 m w] 0] (bv b1))(iha:sP 90 [CO rs i,pv [AM n1 m w] 0] (bv b2))
include nn n rs n1 m w es i e b1 b2 h0 h3 hes ihe ihh iha
theorem y8 (q0:AH i n)(q1:(e != 0)=true):sC (Eh) (arT nn n rs n1 m w i) ([A8 es]) Fc:=
 kC [[AG i n,(e != 0,true)]] (.mk (dS 18283962110225) [] [some (iv e)] [] []) (kO (kz q0 (kz q1 AD))) (.cons ihe (oJ ((inB i n)=true) .nil)) 16 0 1
theorem y9 (q0:AH i n)(q1:EB e)(q2:((rs i.toNat).season != (rs 0).season)=true):sC (Eh) (arT nn n rs n1 m w i) ([A8 es]) Fc:=
 kC [[AG i n,(e != 0,false),((rs i.toNat).season != (rs 0).season,true)]] (.mk (dS 0x10a1111a11111222222222) [] [some (iv e)] [] []) (kO (kz q0 (kz q1 (kz q2 AD)))) (oJ ((inB 0 n)=true) (.cons ihe (oJ ((inB i n)=true) .nil))) 16 0 1
theorem xA (q0:AH i n)(q1:EB e)(q2:Hn rs i)(q3:((rs i.toNat).comp != (rs 0).comp)=true):sC (Eh) (arT nn n rs n1 m w i) ([A8 es]) Fc:=
 kC [[AG i n,(e != 0,false),(Hm rs i),((rs i.toNat).comp != (rs 0).comp,true)]] (.mk (dS 0x10a1111a111112222a222223333) [] [some (iv e)] [] []) (kO (kz q0 (kz q1 (kz q2 (kz q3 AD))))) (oJ ((inB 0 n)=true) (oJ ((inB 0 n)=true) (.cons ihe (oJ ((inB i n)=true) .nil)))) 16 0 1
theorem xB (q0:AH i n)(q1:EB e)(q2:Hn rs i)(q3:I5 rs i)(q4:(BF (ag [iv (rs i.toNat).season,iv (rs i.toNat).comp,iv (rs i.toNat).home,iv (rs i.toNat).away]) es)=true):sC (Eh) (arT nn n rs n1 m w i) ([A8 es]) Fc:=
 kC [[AG i n,(e != 0,false),(Hm rs i),(I4 rs i),(BF (ag (GY rs i)) es,true)]] (.mk (dS 0x10a1111a111112222a222223333) [] [some (iv e)] [] [some (some (BD (ag (GY rs i)) es,bv true))]) (kO (kz q0 (kz q1 (kz q2 (kz q3 (kz q4 AD)))))) (oT (Ai prog 50 (ag [iv (rs i.toNat).season,iv (rs i.toNat).comp,iv (rs i.toNat).home,iv (rs i.toNat).away]) es 0 (some (BD (ag [iv (rs i.toNat).season,iv (rs i.toNat).comp,iv (rs i.toNat).home,iv (rs i.toNat).away]) es,bv true))) (Se mT (by assumption)) (oJ ((inB 0 n)=true) (oJ ((inB 0 n)=true) (.cons ihe (oJ ((inB i n)=true) .nil))))) 16 0 1
theorem xC (q0:AH i n)(q1:EB e)(q2:Hn rs i)(q3:I5 rs i)(q4:(BF (ag [iv (rs i.toNat).season,iv (rs i.toNat).comp,iv (rs i.toNat).home,iv (rs i.toNat).away]) es)=false)(q5:(!b1)=true):sC (Eh) (arT nn n rs n1 m w i) ([A8 es]) Fc:=
 kC [[AG i n,(e != 0,false),(Hm rs i),(I4 rs i),(BF (ag (GY rs i)) es,false),(!b1,true)]] (.mk (dS 0x10a1111a111112222a222223333065e55555) [] [some (iv e),some (bv b1)] [] [some (none)]) (kO (kz q0 (kz q1 (kz q2 (kz q3 (kz q4 (kz q5 AD))))))) (.cons ihh (oT (Ai prog 50 (ag [iv (rs i.toNat).season,iv (rs i.toNat).comp,iv (rs i.toNat).home,iv (rs i.toNat).away]) es 0 none) (Kp (V:=J3) mT (by assumption)) (oJ ((inB 0 n)=true) (oJ ((inB 0 n)=true) (.cons ihe (oJ ((inB i n)=true) .nil)))))) 16 0 1
theorem xD (q0:AH i n)(q1:EB e)(q2:Hn rs i)(q3:I5 rs i)(q4:(BF (ag [iv (rs i.toNat).season,iv (rs i.toNat).comp,iv (rs i.toNat).home,iv (rs i.toNat).away]) es)=false)(q5:BA b1)(q6:(!b2)=true):sC (Eh) (arT nn n rs n1 m w i) ([A8 es]) Fc:=
 kC [[AG i n,(e != 0,false),(Hm rs i),(I4 rs i),(BF (ag (GY rs i)) es,false),A9 b1,(!b2,true)]] (.mk (dS 0x10a1111a111112222a222223333065e555556) [] [some (iv e),some (bv b1),some (bv b2)] [] [some (none)]) (kO (kz q0 (kz q1 (kz q2 (kz q3 (kz q4 (kz q5 (kz q6 AD)))))))) (.cons iha (.cons ihh (oT (Ai prog 50 (ag [iv (rs i.toNat).season,iv (rs i.toNat).comp,iv (rs i.toNat).home,iv (rs i.toNat).away]) es 0 none) (Kp (V:=J3) mT (by assumption)) (oJ ((inB 0 n)=true) (oJ ((inB 0 n)=true) (.cons ihe (oJ ((inB i n)=true) .nil))))))) 16 0 1
theorem xE (q0:AH i n)(q1:EB e)(q2:Hn rs i)(q3:I5 rs i)(q4:(BF (ag [iv (rs i.toNat).season,iv (rs i.toNat).comp,iv (rs i.toNat).home,iv (rs i.toNat).away]) es)=false)(q5:BA b1)(q6:BA b2):sC (Eh) (arT nn n rs n1 m w i) ([A8 es]) (xN,(frame 63 [(0,sl nn 13 n fun i=>(rs i).cells),(1,fc (90) [] [pv [AA n1 m w] 0]),(5,EV.mm 0),(10,sl nn 13 n fun i=>(rs i).cells),(11,iv ↑n),(12,iv (i+1))]),[EObj.map false true (es++[(ag (GY rs i),bv true)])]):=
 kC [[AG i n,(e != 0,false),(Hm rs i),(I4 rs i),(BF (ag (GY rs i)) es,false),A9 b1,A9 b2]] (.mk (dS 0x10a1111a111112222a222223333065e555556a) [] [some (iv e),some (bv b1),some (bv b2)] [] [some (none),some (none)]) (kO (kz q0 (kz q1 (kz q2 (kz q3 (kz q4 (kz q5 (kz q6 AD)))))))) (oI ((inR IntKind.i64 (i+1))=true) (oT (Ai prog 50 (ag [iv (rs i.toNat).season,iv (rs i.toNat).comp,iv (rs i.toNat).home,iv (rs i.toNat).away]) es 0 none) (Kp (V:=J3) mT (by assumption)) (.cons iha (.cons ihh (oT (Ai prog 50 (ag [iv (rs i.toNat).season,iv (rs i.toNat).comp,iv (rs i.toNat).home,iv (rs i.toNat).away]) es 0 none) (Kp (V:=J3) mT (by assumption)) (oJ ((inB 0 n)=true) (oJ ((inB 0 n)=true) (.cons ihe (oJ ((inB i n)=true) .nil))))))))) 7203 1 1
theorem xF (q0:Af i n):sC (Eh) (arT nn n rs n1 m w i) ([A8 es]) (xL 0,(frame 63 []),[oD]):=
 kC (Ae i n) (.mk (dS 16) [] [] [] []) (kO (kz q0 AD)) .nil 0 0 1
theorem arB:∃ r_:RC,sC (cB (cB (cR (cL (cR (cR (AB prog 89))))))) (arT nn n rs n1 m w i) [EObj.map false true es] r_/\((r_=(xN,arT nn n rs n1 m w (i+1),[EObj.map false true (es++[((rs i.toNat).key,bv true)])])/\i<n/\e=0/\(rs i.toNat).season=(rs 0).season/\(rs i.toNat).comp=(rs 0).comp/\b1=true/\b2=true)∨(r_=(EX.ret,frame 63 [(4,bv false)],[oD])/\i<n)∨(r_=(xL 0,frame 63 [],[oD])/\n<=i)):=by
 rcases bT (decide (i<↑n)) with q0 | q0
 ·rcases bT (e != 0) with q1 | q1
  ·exact e5 (y8 nn n rs n1 m w es i e b1 b2 h0 h3 hes ihe ihh iha q0 q1)
  ·rcases bT ((rs i.toNat).season != (rs 0).season) with q2 | q2
   ·exact e5 (y9 nn n rs n1 m w es i e b1 b2 h0 h3 hes ihe ihh iha q0 q1 q2)
   ·rcases bT ((rs i.toNat).comp != (rs 0).comp) with q3 | q3
    ·exact e5 (xA nn n rs n1 m w es i e b1 b2 h0 h3 hes ihe ihh iha q0 q1 q2 q3)
    ·rcases bT (BF (ag [iv (rs i.toNat).season,iv (rs i.toNat).comp,iv (rs i.toNat).home,iv (rs i.toNat).away]) es) with q4 | q4
     ·exact e5 (xB nn n rs n1 m w es i e b1 b2 h0 h3 hes ihe ihh iha q0 q1 q2 q3 q4)
     ·rcases bT (!b1) with q5 | q5
      ·exact e5 (xC nn n rs n1 m w es i e b1 b2 h0 h3 hes ihe ihh iha q0 q1 q2 q3 q4 q5)
      ·rcases bT (!b2) with q6 | q6
       ·exact e5 (xD nn n rs n1 m w es i e b1 b2 h0 h3 hes ihe ihh iha q0 q1 q2 q3 q4 q5 q6)
       ·exact e5 (xE nn n rs n1 m w es i e b1 b2 h0 h3 hes ihe ihh iha q0 q1 q2 q3 q4 q5 q6)
 ·exact e5 (xF nn n rs n1 m w es i e b1 b2 h0 h3 hes ihe ihh iha q0)
end
abbrev LG (a0:Bool)(a1:Nat)(a2:Nat->ResD):=sl a0 13 a1 fun i=>(a2 i).cells
abbrev Sj (a0:Bool)(a1:Nat)(a2:Nat->ResD):=LG a0 a1 a2
abbrev AK (a0:Bool)(a1:Nat)(a2:Nat->ResD):=Sj a0 a1 a2
theorem arF (nn:Bool)(n:Nat)(rs:Nat->ResD)(n1:Bool)(m:Nat)(w:Nat->Int)(b:Bool)(h3:n<=100000)(ih1:b=true->sL (cB (cR (cL (cR (cR (AB prog 89)))))) (arT nn n rs n1 m w 0) ([EObj.map false true []]) ((xL 0,frame 63 [],[oD]):RC))(ih2:b=false->sL (cB (cR (cL (cR (cR (AB prog 89)))))) (arT nn n rs n1 m w 0) ([EObj.map false true []]) ((EX.ret,frame 63 [(4,bv false)],[oD]):RC)):sP 89 [AK nn n rs,fc (90) [] [pv [AA n1 m w] 0]] (bv (bif b then true else false)):=
 kP [] (.mk [] [(0,.fork true (b) 16 0 0 0 (.mk [] [(8,.is 7203 1 (xL 0,(frame 63 []),[oD]))] [] [] []) (.mk [] [(8,.is 7203 1 Fc)] [] [] []))] [] [] []) KOk.nil (oT ((b)=true->sL (cB (cR (cL (cR (cR (AB prog 89)))))) (frame 63 [(0,sl nn 13 n fun i=>(rs i).cells),(1,fc (90) [] [pv [sl n1 1 m fun i=>[iv (w i)]] 0]),(5,EV.mm 0),(10,sl nn 13 n fun i=>(rs i).cells),(11,iv ↑n),(12,iv 0)]) [EObj.map false true []] (xL 0,(frame 63 []),[oD])) (fun _=>(ih1 (by assumption))) (oT ((b)=false->sL (cB (cR (cL (cR (cR (AB prog 89)))))) (frame 63 [(0,sl nn 13 n fun i=>(rs i).cells),(1,fc (90) [] [pv [sl n1 1 m fun i=>[iv (w i)]] 0]),(5,EV.mm 0),(10,sl nn 13 n fun i=>(rs i).cells),(11,iv ↑n),(12,iv 0)]) [EObj.map false true []] (EX.ret,(frame 63 [(4,bv false)]),[oD])) (fun _=>(ih2 (by assumption))) .nil))
noncomputable def B5 (r:ResD):Int:=Classical.choose (Il r)
theorem J4 (r:ResD):sP 99 [EV.agg r.cells] (EV.int .i64 (B5 r)):=(Classical.choose_spec (Il r)).1
theorem LH {r:ResD}(h:B5 r=0):r.Ok:=(Classical.choose_spec (Il r)).2 h
noncomputable def gEs (rs:Nat->ResD)(i:Nat):List (EV×EV):=(List.range i).map fun j=>((rs j).key,EV.bool true)
theorem Vo (rs:Nat->ResD)(i:Nat):MapOf UX J3 (gEs rs i):=by
 intro e he
 simp only [gEs,List.mem_map] at he
 obtain ⟨j,_,rfl⟩:=he
 exact ⟨⟨_,_,_,_,rfl⟩,rfl⟩
theorem UZ (rs:Nat->ResD)(i:Nat):gEs rs i++[((rs i).key,EV.bool true)]=gEs rs (i+1):=by
 simp [gEs,List.range_succ]
structure ResIn (m:Nat) (w:Nat->Int) (r0 r:ResD):Prop where
 err:B5 r=0
 season:r.season=r0.season
 comp:r.comp=r0.comp
 home:inW m w r.home=true
 away:inW m w r.away=true
theorem NY (nn:Bool)(n:Nat)(rs:Nat->ResD)(n1:Bool)(m:Nat)(w:Nat->Int)(h3:n<=100000)(hm:m<=100000):
  ∃ b,sP 89 [EV.isl nn 13 n fun i=>(rs i).cells,EV.func (Fn.func 90) [] [EV.ip [nums n1 m w] 0]] (EV.bool b)/\(b=true->∀ i,i<n->ResIn m w (rs 0) (rs i)):=by
 have H:=SemL.all (P:=prog) (G:=globs') (rnd:=false) (c:=cB (cB (cR (cL (cR (cR (AB prog 89))))))) (fun i=>arT nn n rs n1 m w i) (fun i=>[EObj.map false true (gEs rs i)]) n (fun i=>ResIn m w (rs 0) (rs i)) (fun _=>True)
  (fun _=>(EX.ret,frame 63 [(4,EV.bool false)],[EObj.dead])) (EX.leave 0,frame 63 [],[EObj.dead]) (fun _=>by simp) (by simp) (fun i=>by
   obtain ⟨r,h,h1⟩:=arB nn n rs n1 m w (gEs rs i) i _ _ _ (by omega) h3 (Vo rs i) (J4 _) (I3 n1 m w _ hm) (I3 n1 m w _ hm)
   refine ⟨r,h,h1.imp (fun x=>⟨?_,by omega,?_⟩) (Or.imp (fun x=>⟨x.1,by omega,trivial⟩) fun x=>⟨x.1,by omega⟩)⟩
   ·rw [x.1,Int.toNat_natCast,UZ]; rfl
   ·obtain ⟨_,_,a,b,c,d,e⟩:=x
    rw [Int.toNat_natCast] at a b c d e
    exact ⟨a,b,c,d,e⟩)
 rcases H with ⟨h,hg⟩ | ⟨i,_,_,_,h⟩
 ·exact ⟨_,arF nn n rs n1 m w true h3 (fun _=>h.toCL (by kernel_rfl)) (by intro h; cases h),fun _=>hg⟩
 ·exact ⟨_,arF nn n rs n1 m w false h3 (by intro h; cases h) (fun _=>h.toCL (by kernel_rfl)),fun hb=>by simp at hb⟩
noncomputable def opT (n2:Bool)(m:Nat)(o:Nat->Int)(n3:Bool)(ln:Nat)(lw:Nat->Int)(n1:Bool)(w:Nat->Int)(i:Int):List EV:=frame 106 [(4,nums n2 m o),(6,nums n3 ln lw),(14,.ptr 3 0),(15,.int .i64 0),(51,nums n1 m w),(52,.int .i64 m),(53,.int .i64 i)]
noncomputable def opC (n0:Bool)(n:Nat)(rs:Nat->ResD)(n1:Bool)(m:Nat)(w:Nat->Int)(R:RulesV):EObj:=.var false false [.isl n0 13 n fun i=>(rs i).cells,nums n1 m w,.mm 1,.str R.name,.int .i64 R.win,.int .i64 R.draw,.int .i64 R.loss,.isl R.onn 8 R.on R.orow,.isl R.znn 3 R.zn fun i=>(R.zs i).cells,.mm 2]
abbrev Fe (a0:RulesV):=sl a0.znn 3 a0.zn fun i=>(a0.zs i).cells
abbrev Dk (a0:RulesV):=sl a0.onn 8 a0.on a0.orow
abbrev GZ (a0:Nat->Int)(a1:Nat):=[iv (a0 a1)]
abbrev Sk (a0:Nat->Int)(a1:Int):=iv (a0 a1.toNat)
noncomputable abbrev LI:=cR (cR (cR (cR (cR (cR (AB prog 48))))))
abbrev DY (a0:Bool)(a1:Nat)(a2:Nat->ResD)(a3:Bool)(a4:Nat)(a5:Nat->Int)(a6:RulesV):=EObj.var false false [LG a0 a1 a2,Nw a3 a4 a5,EV.mm 1,sv a6.name,iv a6.win,iv a6.draw,iv a6.loss,Dk a6,Fe a6,EV.mm 2]
abbrev Nz (a0:Nat->Int)(a1:Nat):=GZ a0 a1
abbrev Sl (a0:Nat->Int)(a1:Int):=Sk a0 a1
noncomputable abbrev Ho:=cB (cB (cR (cL (LI))))
abbrev BN (a0:Nat->Int)(a1:Nat):=Nz a0 a1
abbrev Ah (a0:Nat->Int)(a1:Int):=Sl a0 a1
section
variable (n0:Bool)(n:Nat)(rs:Nat->ResD)(n1:Bool)(m:Nat)(w:Nat->Int)(n2:Bool)(o:Nat->Int)(n3:Bool)(ln:Nat)(lw:Nat->Int)(R:RulesV)(e1:List (EV×EV))(e2:List (EV×EV))(i:Int)(h0:0<=i)(h3:m<=100000)(he1:MapOf EW Cu e1)(he2:MapOf EW Cu e2)
include n0 n rs n1 m w n2 o n3 ln lw R e1 e2 i h0 h3 he1 he2
theorem xG (q0:AH i m)(q1:(BF (iv (w i.toNat)) e1)=true)(q2:(BF (iv (w i.toNat)) e2)=true):sC (Ho) (opT n2 m o n3 ln lw n1 w i) ([.dead,.map false true e1,.map false true e2,opC n0 n rs n1 m w R]) (xN,(frame 106 [(4,sl n2 1 m fun i=>[iv (o i)]),(6,sl n3 1 ln fun i=>(BN lw i)),(14,pt 3 0),(15,iv 0),(51,sl n1 1 m fun i=>[iv (w i)]),(52,iv ↑m),(53,iv (i+1))]),[oD,EObj.map false true (e1.set (BD (Ah w i) e1) (iv (w i.toNat),iv (o i.toNat))),EObj.map false true (e2.set (BD (Ah w i) e2) (iv (w i.toNat),iv ↑ln)),DY n0 n rs n1 m w R]):=
 kC [[AG i m,(BF (Ah w i) e1,true),(BF (Ah w i) e2,true)]] (.mk (dS 17476266) [] [] [] [some (some (BD (Ah w i) e1,iv (CY (Ah w i) e1))),some (some (BD (Ah w i) e2,iv (CY (Ah w i) e2)))]) (kO (kz q0 (kz q1 (kz q2 AD)))) (oI ((inR IntKind.i64 (i+1))=true) (oT ((sameAt e2 (BD (iv (w i.toNat)) e2) (iv (w i.toNat)))=true) (by exact Dh (V:=Cu) (by assumption) (by assumption)) (oT (Ai prog 3 (iv (w i.toNat)) e2 0 (some (BD (iv (w i.toNat)) e2,iv (CY (iv (w i.toNat)) e2)))) (CD mT (by assumption)) (oT ((sameAt e1 (BD (iv (w i.toNat)) e1) (iv (w i.toNat)))=true) (by exact Dh (V:=Cu) (by assumption) (by assumption)) (oT (Ai prog 3 (iv (w i.toNat)) e1 0 (some (BD (iv (w i.toNat)) e1,iv (CY (iv (w i.toNat)) e1)))) (CD mT (by assumption)) (oJ ((inB i m)=true) (oJ ((inB i m)=true) .nil))))))) 15762598695845968 14 4
theorem xH (q0:AH i m)(q1:(BF (iv (w i.toNat)) e1)=true)(q2:(BF (iv (w i.toNat)) e2)=false):sC (Ho) (opT n2 m o n3 ln lw n1 w i) ([.dead,.map false true e1,.map false true e2,opC n0 n rs n1 m w R]) (xN,(frame 106 [(4,sl n2 1 m fun i=>[iv (o i)]),(6,sl n3 1 ln fun i=>(BN lw i)),(14,pt 3 0),(15,iv 0),(51,sl n1 1 m fun i=>[iv (w i)]),(52,iv ↑m),(53,iv (i+1))]),[oD,EObj.map false true (e1.set (BD (Ah w i) e1) (iv (w i.toNat),iv (o i.toNat))),EObj.map false true (e2++[(iv (w i.toNat),iv ↑ln)]),DY n0 n rs n1 m w R]):=
 kC [[AG i m,(BF (Ah w i) e1,true),(BF (Ah w i) e2,false)]] (.mk (dS 1092266) [] [] [] [some (some (BD (Ah w i) e1,iv (CY (Ah w i) e1))),some (none)]) (kO (kz q0 (kz q1 (kz q2 AD)))) (oI ((inR IntKind.i64 (i+1))=true) (oT (Ai prog 3 (iv (w i.toNat)) e2 0 none) (B2 (V:=Cu) mT (by assumption)) (oT ((sameAt e1 (BD (iv (w i.toNat)) e1) (iv (w i.toNat)))=true) (by exact Dh (V:=Cu) (by assumption) (by assumption)) (oT (Ai prog 3 (iv (w i.toNat)) e1 0 (some (BD (iv (w i.toNat)) e1,iv (CY (iv (w i.toNat)) e1)))) (CD mT (by assumption)) (oJ ((inB i m)=true) (oJ ((inB i m)=true) .nil)))))) 15762598695845968 14 4
theorem xI (q0:AH i m)(q1:(BF (iv (w i.toNat)) e1)=false)(q2:(BF (iv (w i.toNat)) e2)=true):sC (Ho) (opT n2 m o n3 ln lw n1 w i) ([.dead,.map false true e1,.map false true e2,opC n0 n rs n1 m w R]) (xN,(frame 106 [(4,sl n2 1 m fun i=>[iv (o i)]),(6,sl n3 1 ln fun i=>(BN lw i)),(14,pt 3 0),(15,iv 0),(51,sl n1 1 m fun i=>[iv (w i)]),(52,iv ↑m),(53,iv (i+1))]),[oD,EObj.map false true (e1++[(iv (w i.toNat),iv (o i.toNat))]),EObj.map false true (e2.set (BD (Ah w i) e2) (iv (w i.toNat),iv ↑ln)),DY n0 n rs n1 m w R]):=
 kC [[AG i m,(BF (Ah w i) e1,false),(BF (Ah w i) e2,true)]] (.mk (dS 1092266) [] [] [] [some (none),some (some (BD (Ah w i) e2,iv (CY (Ah w i) e2)))]) (kO (kz q0 (kz q1 (kz q2 AD)))) (oI ((inR IntKind.i64 (i+1))=true) (oT ((sameAt e2 (BD (iv (w i.toNat)) e2) (iv (w i.toNat)))=true) (by exact Dh (V:=Cu) (by assumption) (by assumption)) (oT (Ai prog 3 (iv (w i.toNat)) e2 0 (some (BD (iv (w i.toNat)) e2,iv (CY (iv (w i.toNat)) e2)))) (CD mT (by assumption)) (oT (Ai prog 3 (iv (w i.toNat)) e1 0 none) (B2 (V:=Cu) mT (by assumption)) (oJ ((inB i m)=true) (oJ ((inB i m)=true) .nil)))))) 15762598695845968 14 4
theorem xJ (q0:AH i m)(q1:(BF (iv (w i.toNat)) e1)=false)(q2:(BF (iv (w i.toNat)) e2)=false):sC (Ho) (opT n2 m o n3 ln lw n1 w i) ([.dead,.map false true e1,.map false true e2,opC n0 n rs n1 m w R]) (xN,(frame 106 [(4,sl n2 1 m fun i=>[iv (o i)]),(6,sl n3 1 ln fun i=>(BN lw i)),(14,pt 3 0),(15,iv 0),(51,sl n1 1 m fun i=>[iv (w i)]),(52,iv ↑m),(53,iv (i+1))]),[oD,EObj.map false true (e1++[(iv (w i.toNat),iv (o i.toNat))]),EObj.map false true (e2++[(iv (w i.toNat),iv ↑ln)]),DY n0 n rs n1 m w R]):=
 kC [[AG i m,(BF (Ah w i) e1,false),(BF (Ah w i) e2,false)]] (.mk (dS 68266) [] [] [] [some (none),some (none)]) (kO (kz q0 (kz q1 (kz q2 AD)))) (oI ((inR IntKind.i64 (i+1))=true) (oT (Ai prog 3 (iv (w i.toNat)) e2 0 none) (B2 (V:=Cu) mT (by assumption)) (oT (Ai prog 3 (iv (w i.toNat)) e1 0 none) (B2 (V:=Cu) mT (by assumption)) (oJ ((inB i m)=true) (oJ ((inB i m)=true) .nil))))) 15762598695845968 14 4
theorem xK (q0:Af i m):sC (Ho) (opT n2 m o n3 ln lw n1 w i) ([.dead,.map false true e1,.map false true e2,opC n0 n rs n1 m w R]) (xL 0,(frame 106 [(4,sl n2 1 m fun i=>[iv (o i)]),(6,sl n3 1 ln fun i=>(BN lw i)),(14,pt 3 0),(15,iv 0)]),[oD,A8 e1,A8 e2,DY n0 n rs n1 m w R]):=
 kC (Ae i m) (.mk (dS 16) [] [] [] []) (kO (kz q0 AD)) .nil 49232 14 4
theorem opB:∃ r_:RC,sC (cB (cB (cR (cL (cR (cR (cR (cR (cR (cR (AB prog 48))))))))))) (opT n2 m o n3 ln lw n1 w i) [.dead,.map false true e1,.map false true e2,opC n0 n rs n1 m w R] r_/\((∃ e1' e2',r_=(xN,opT n2 m o n3 ln lw n1 w (i+1),[.dead,.map false true e1',.map false true e2',opC n0 n rs n1 m w R])/\i<m/\MapOf EW Cu e1'/\MapOf EW Cu e2')∨(r_=(xL 0,frame 106 [(4,nums n2 m o),(6,nums n3 ln lw),(14,.ptr 3 0),(15,.int .i64 0)],[.dead,.map false true e1,.map false true e2,opC n0 n rs n1 m w R])/\m<=i)):=by
 rcases bT (decide (i<↑m)) with q0 | q0
 ·rcases bT (BF (iv (w i.toNat)) e1) with q1 | q1
  ·rcases bT (BF (iv (w i.toNat)) e2) with q2 | q2
   ·exact ⟨_,(xG n0 n rs n1 m w n2 o n3 ln lw R e1 e2 i h0 h3 he1 he2 q0 q1 q2),by first | exact .inl ⟨_,_,rfl,by simp_all,mT,mT⟩ | exact .inr ⟨rfl,by simp_all⟩⟩
   ·exact ⟨_,(xH n0 n rs n1 m w n2 o n3 ln lw R e1 e2 i h0 h3 he1 he2 q0 q1 q2),by first | exact .inl ⟨_,_,rfl,by simp_all,mT,mT⟩ | exact .inr ⟨rfl,by simp_all⟩⟩
  ·rcases bT (BF (iv (w i.toNat)) e2) with q2 | q2
   ·exact ⟨_,(xI n0 n rs n1 m w n2 o n3 ln lw R e1 e2 i h0 h3 he1 he2 q0 q1 q2),by first | exact .inl ⟨_,_,rfl,by simp_all,mT,mT⟩ | exact .inr ⟨rfl,by simp_all⟩⟩
   ·exact ⟨_,(xJ n0 n rs n1 m w n2 o n3 ln lw R e1 e2 i h0 h3 he1 he2 q0 q1 q2),by first | exact .inl ⟨_,_,rfl,by simp_all,mT,mT⟩ | exact .inr ⟨rfl,by simp_all⟩⟩
 ·exact ⟨_,(xK n0 n rs n1 m w n2 o n3 ln lw R e1 e2 i h0 h3 he1 he2 q0),by first | exact .inl ⟨_,_,rfl,by simp_all,mT,mT⟩ | exact .inr ⟨rfl,by simp_all⟩⟩
end
noncomputable abbrev Ga (a0:Bool)(a1:Nat)(a2:Nat->Int)(a3:Int):=frame 106 [(14,.ptr 3 0),(15,.int .i64 0),(19,.mm 4),(76,nums a0 a1 a2),(77,.int .i64 a1),(78,.int .i64 a3)]
noncomputable abbrev I6:RC:=(EX.ret,(frame 106 [(14,EV.nilp),(15,iv 220)]),[oD,oD,oD,oD,oD])
noncomputable abbrev Gb:=cB (cB (cR (cL (cR (cR (LI))))))
section
variable (n0:Bool)(n:Nat)(rs:Nat->ResD)(n1:Bool)(m:Nat)(w:Nat->Int)(n2:Bool)(m2:Nat)(o:Nat->Int)(n3:Bool)(ln:Nat)(lw:Nat->Int)(R:RulesV)(e1:List (EV×EV))(e2:List (EV×EV))(e4:List (EV×EV))(i:Int)(h0:0<=i)(h3:ln<=100000)(he2:MapOf EW Cu e2)(he4:MapOf EW J3 e4)
include n0 n rs n1 m w n2 m2 o n3 ln lw R e1 e2 e4 i h0 h3 he2 he4
theorem xM (q0:AH i ln)(q1:(Di lw i)=true):sC (Gb) (Ga n3 ln lw i) ([.dead,.map false true e1,.map false true e2,opC n0 n rs n1 m w R,.map false true e4]) I6:=
 kC [[AG i ln,(decide (lw i.toNat<0),true)]] (.mk (dS 1089809) [] [] [] []) (kO (kz q0 (kz q1 AD))) (oJ ((inB i ln)=true) .nil) 49152 0 5
theorem xO (q0:AH i ln)(q1:Dj lw i)(q2:(decide (Fa lw i))=true):sC (Gb) (Ga n3 ln lw i) ([.dead,.map false true e1,.map false true e2,opC n0 n rs n1 m w R,.map false true e4]) I6:=
 kC [[AG i ln,(DH lw i),(decide (Fa lw i),true)]] (.mk (dS 71421731362) [] [] [] []) (kO (kz q0 (kz q1 (kz q2 AD)))) (oJ ((inB i ln)=true) .nil) 49152 0 5
theorem xP (q0:AH i ln)(q1:Dj lw i)(q2:Fb lw i)(q3:(BF (iv (lw i.toNat)) e4)=true):sC (Gb) (Ga n3 ln lw i) ([.dead,.map false true e1,.map false true e2,opC n0 n rs n1 m w R,.map false true e4]) I6:=
 kC [[AG i ln,(DH lw i),(EA lw i),(BF (Ah lw i) e4,true)]] (.mk (dS 71421731362) [] [] [] [some (some (BD (Ah lw i) e4,bv true))]) (kO (kz q0 (kz q1 (kz q2 (kz q3 AD))))) (oT (Ai prog 3 (iv (lw i.toNat)) e4 0 (some (BD (iv (lw i.toNat)) e4,bv true))) (Sd mT (by assumption)) (oJ ((inB i ln)=true) .nil)) 49152 0 5
theorem xQ (q0:AH i ln)(q1:Dj lw i)(q2:Fb lw i)(q3:(BF (iv (lw i.toNat)) e4)=false)(q4:(BF (iv (lw i.toNat)) e2)=true):sC (Gb) (Ga n3 ln lw i) ([.dead,.map false true e1,.map false true e2,opC n0 n rs n1 m w R,.map false true e4]) (xN,(frame 106 [(14,pt 3 0),(15,iv 0),(19,EV.mm 4),(76,sl n3 1 ln fun i=>(BN lw i)),(77,iv ↑ln),(78,iv (i+1))]),[oD,A8 e1,EObj.map false true (setVal (e2.set (BD (Ah lw i) e2) (iv (lw i.toNat),iv (CY (Ah lw i) e2))) (BD (Ah lw i) e2) (iv i)),DY n0 n rs n1 m w R,EObj.map false true (e4++[(iv (lw i.toNat),bv true)])]):=
 kC [[AG i ln,(DH lw i),(EA lw i),(BF (Ah lw i) e4,false),(BF (Ah lw i) e2,true)]] (.mk (dS 0x10a111222201aeaa) [] [] [] [some (none),some (none),some (some (BD (Ah lw i) e2,iv (CY (Ah lw i) e2)))]) (kO (kz q0 (kz q1 (kz q2 (kz q3 (kz q4 AD)))))) (oI ((inR IntKind.i64 (i+1))=true) (oT ((inB (↑(BD (iv (lw i.toNat)) e2):Int) (e2.set (BD (iv (lw i.toNat)) e2) (iv (lw i.toNat),iv (CY (iv (lw i.toNat)) e2))).length)=true) (by exact Vm (by assumption)) (oT ((sameAt e2 (BD (iv (lw i.toNat)) e2) (iv (lw i.toNat)))=true) (by exact Dh (V:=Cu) (by assumption) (by assumption)) (oT (Ai prog 3 (iv (lw i.toNat)) e2 0 (some (BD (iv (lw i.toNat)) e2,iv (CY (iv (lw i.toNat)) e2)))) (CD mT (by assumption)) (oT (Ai prog 3 (iv (lw i.toNat)) e4 0 none) (B2 (V:=J3) mT (by assumption)) (oT (Ai prog 3 (iv (lw i.toNat)) e4 0 none) (B2 (V:=J3) mT (by assumption)) (oJ ((inB i ln)=true) .nil))))))) 528905046081400264507392 30 5
theorem xR (q0:AH i ln)(q1:Dj lw i)(q2:Fb lw i)(q3:(BF (iv (lw i.toNat)) e4)=false)(q4:(BF (iv (lw i.toNat)) e2)=false):sC (Gb) (Ga n3 ln lw i) ([.dead,.map false true e1,.map false true e2,opC n0 n rs n1 m w R,.map false true e4]) (xN,(frame 106 [(14,pt 3 0),(15,iv 0),(19,EV.mm 4),(76,sl n3 1 ln fun i=>(BN lw i)),(77,iv ↑ln),(78,iv (i+1))]),[oD,A8 e1,EObj.map false true (setVal (e2++[(iv (lw i.toNat),iv 0)]) e2.length (iv i)),DY n0 n rs n1 m w R,EObj.map false true (e4++[(iv (lw i.toNat),bv true)])]):=
 kC [[AG i ln,(DH lw i),(EA lw i),(BF (Ah lw i) e4,false),(BF (Ah lw i) e2,false)]] (.mk (dS 74891113384647402) [] [] [] [some (none),some (none),some (none)]) (kO (kz q0 (kz q1 (kz q2 (kz q3 (kz q4 AD)))))) (oI ((inR IntKind.i64 (i+1))=true) (oJ ((inB (↑e2.length:Int) (e2++[(iv (lw i.toNat),iv 0)]).length)=true) (oT (Ai prog 3 (iv (lw i.toNat)) e2 0 none) (B2 (V:=Cu) mT (by assumption)) (oT (Ai prog 3 (iv (lw i.toNat)) e4 0 none) (B2 (V:=J3) mT (by assumption)) (oT (Ai prog 3 (iv (lw i.toNat)) e4 0 none) (B2 (V:=J3) mT (by assumption)) (oJ ((inB i ln)=true) .nil)))))) 528905046081400264507392 30 5
theorem xS (q0:Af i ln):sC (Gb) (Ga n3 ln lw i) ([.dead,.map false true e1,.map false true e2,opC n0 n rs n1 m w R,.map false true e4]) (xL 2,(frame 106 [(14,pt 3 0),(15,iv 0)]),[oD,A8 e1,A8 e2,DY n0 n rs n1 m w R,oD]):=
 kC (Ae i ln) (.mk (dS 16) [] [] [] []) (kO (kz q0 AD)) .nil 49152 14 5
theorem opD:∃ r_:RC,sC (cB (cB (cR (cL (cR (cR (cR (cR (cR (cR (cR (cR (AB prog 48))))))))))))) (frame 106 [(14,.ptr 3 0),(15,.int .i64 0),(19,.mm 4),(76,nums n3 ln lw),(77,.int .i64 ln),(78,.int .i64 i)]) [.dead,.map false true e1,.map false true e2,opC n0 n rs n1 m w R,.map false true e4] r_/\((∃ e2' e4',r_=(xN,frame 106 [(14,.ptr 3 0),(15,.int .i64 0),(19,.mm 4),(76,nums n3 ln lw),(77,.int .i64 ln),(78,.int .i64 (i+1))],[.dead,.map false true e1,.map false true e2',opC n0 n rs n1 m w R,.map false true e4'])/\i<ln/\MapOf EW Cu e2'/\MapOf EW J3 e4')∨(r_=(EX.ret,frame 106 [(14,.nilp),(15,.int .i64 220)],[.dead,.dead,.dead,.dead,.dead])/\i<ln)∨(r_=(xL 2,frame 106 [(14,.ptr 3 0),(15,.int .i64 0)],[.dead,.map false true e1,.map false true e2,opC n0 n rs n1 m w R,.dead])/\ln<=i)):=by
 rcases bT (decide (i<↑ln)) with q0 | q0
 ·rcases bT (decide (lw i.toNat<0)) with q1 | q1
  ·exact ⟨_,(xM n0 n rs n1 m w n2 m2 o n3 ln lw R e1 e2 e4 i h0 h3 he2 he4 q0 q1),by first | exact .inl ⟨_,_,rfl,by simp_all,mT,mT⟩ | exact .inr (.inl ⟨rfl,by simp_all⟩) | exact .inr (.inr ⟨rfl,by simp_all⟩)⟩
  ·rcases bT (decide (lw i.toNat>=192)) with q2 | q2
   ·exact ⟨_,(xO n0 n rs n1 m w n2 m2 o n3 ln lw R e1 e2 e4 i h0 h3 he2 he4 q0 q1 q2),by first | exact .inl ⟨_,_,rfl,by simp_all,mT,mT⟩ | exact .inr (.inl ⟨rfl,by simp_all⟩) | exact .inr (.inr ⟨rfl,by simp_all⟩)⟩
   ·rcases bT (BF (iv (lw i.toNat)) e4) with q3 | q3
    ·exact ⟨_,(xP n0 n rs n1 m w n2 m2 o n3 ln lw R e1 e2 e4 i h0 h3 he2 he4 q0 q1 q2 q3),by first | exact .inl ⟨_,_,rfl,by simp_all,mT,mT⟩ | exact .inr (.inl ⟨rfl,by simp_all⟩) | exact .inr (.inr ⟨rfl,by simp_all⟩)⟩
    ·rcases bT (BF (iv (lw i.toNat)) e2) with q4 | q4
     ·exact ⟨_,(xQ n0 n rs n1 m w n2 m2 o n3 ln lw R e1 e2 e4 i h0 h3 he2 he4 q0 q1 q2 q3 q4),by first | exact .inl ⟨_,_,rfl,by simp_all,mT,mT⟩ | exact .inr (.inl ⟨rfl,by simp_all⟩) | exact .inr (.inr ⟨rfl,by simp_all⟩)⟩
     ·exact ⟨_,(xR n0 n rs n1 m w n2 m2 o n3 ln lw R e1 e2 e4 i h0 h3 he2 he4 q0 q1 q2 q3 q4),by first | exact .inl ⟨_,_,rfl,by simp_all,mT,mT⟩ | exact .inr (.inl ⟨rfl,by simp_all⟩) | exact .inr (.inr ⟨rfl,by simp_all⟩)⟩
 ·exact ⟨_,(xS n0 n rs n1 m w n2 m2 o n3 ln lw R e1 e2 e4 i h0 h3 he2 he4 q0),by first | exact .inl ⟨_,_,rfl,by simp_all,mT,mT⟩ | exact .inr (.inl ⟨rfl,by simp_all⟩) | exact .inr (.inr ⟨rfl,by simp_all⟩)⟩
end
abbrev Dl (a0:Bool)(a1:Nat)(a2:Nat->ResD)(a3:Bool)(a4:Nat)(a5:Nat->Int)(a6:List (EV×EV))(a7:RulesV)(a8:List (EV×EV)):=[sl a0 13 a1 fun i=>(a2 i).cells,sl a3 1 a4 fun i=>[iv (a5 i)],EV.im a6,sv a7.name,iv a7.win,iv a7.draw,iv a7.loss,sl a7.onn 8 a7.on a7.orow,sl a7.znn 3 a7.zn fun i=>(a7.zs i).cells,EV.im a8]
abbrev Sm (a0:Bool):=(a0)=false
abbrev N0 (a0:Bool)(a1:Nat)(a2:Nat->ResD)(a3:Bool)(a4:Nat)(a5:Nat->Int)(a6:List (EV×EV))(a7:RulesV)(a8:List (EV×EV)):=pv (Dl a0 a1 a2 a3 a4 a5 a6 a7 a8) 0
abbrev Sn (a0:Bool):=Sm a0
abbrev Aq (a0:Bool)(a1:Nat)(a2:Nat->ResD)(a3:Bool)(a4:Nat)(a5:Nat->Int)(a6:List (EV×EV))(a7:RulesV)(a8:List (EV×EV)):=N0 a0 a1 a2 a3 a4 a5 a6 a7 a8
abbrev Av (a0:Bool):=Sn a0
section
variable (n0:Bool)(n:Nat)(rs:Nat->ResD)(n1:Bool)(m:Nat)(w:Nat->Int)(n2:Bool)(o:Nat->Int)(n3:Bool)(ln:Nat)(lw:Nat->Int)(R:RulesV)(k:Int)(b85:Bool)(bO:Bool)(eR:Int)(bR:Bool)(e1:List (EV×EV))(e2:List (EV×EV))(e3:List (EV×EV))(b:Bool)(ih85:sP 85 [AM n1 m w,iv k] (bv b85))(ihR:sP 88 [ag R.cells] (iv eR))(ihA:sP 89 [AK n0 n rs,fc (90) [] [.ip [AM n1 m w] 0]] (bv bR))(ihO:sP 86 [AM n2 m o,fc (87) [] []] (bv bO))(ih12:sL (cB (cR (cL (LI)))) (opT n2 m o n3 ln lw n1 w 0) [.dead,.map false true [],.map false true [],opC n0 n rs n1 m w R] ((xL 0,frame 106 [(4,nums n2 m o),(6,nums n3 ln lw),(14,.ptr 3 0),(15,.int .i64 0)],[.dead,.map false true e1,.map false true e2,opC n0 n rs n1 m w R]):RC))(ih1:b=true->sL (cB (cR (cL (cR (cR (cR (cR (cR (cR (cR (cR (AB prog 48)))))))))))) (frame 106 [(14,.ptr 3 0),(15,.int .i64 0),(19,.mm 4),(76,nums n3 ln lw),(77,.int .i64 ln),(78,.int .i64 0)]) ([.dead,.map false true e1,.map false true e2,opC n0 n rs n1 m w R,.map false true []]) ((xL 2,frame 106 [(14,.ptr 3 0),(15,.int .i64 0)],[.dead,.map false true e1,.map false true e3,opC n0 n rs n1 m w R,.dead]):RC))(ih2:b=false->sL (cB (cR (cL (cR (cR (cR (cR (cR (cR (cR (cR (AB prog 48)))))))))))) (frame 106 [(14,.ptr 3 0),(15,.int .i64 0),(19,.mm 4),(76,nums n3 ln lw),(77,.int .i64 ln),(78,.int .i64 0)]) ([.dead,.map false true e1,.map false true e2,opC n0 n rs n1 m w R,.map false true []]) ((EX.ret,frame 106 [(14,.nilp),(15,.int .i64 220)],[.dead,.dead,.dead,.dead,.dead]):RC))
include n0 n rs n1 m w n2 o n3 ln lw R k b85 bO eR bR e1 e2 e3 b ih85 ihR ihA ihO ih12 ih1 ih2
theorem xT (q0:(!b85)=true):sP 48 [AK n0 n rs,AA n1 m w,iv k,fc (90) [] [pv [AA n1 m w] 0],AA n2 m o,ag R.cells,AA n3 ln lw] (tu [EV.nilp,iv 190]):=
 kP [[(!b85,true)]] (.mk (dS 16) [] [some (bv b85)] [] []) (kO (kz q0 AD)) (.cons ih85 .nil)
theorem xU (q0:BA b85)(q1:((↑m:Int) != (↑m:Int))=true):sP 48 [AK n0 n rs,AA n1 m w,iv k,fc (90) [] [pv [AA n1 m w] 0],AA n2 m o,ag R.cells,AA n3 ln lw] (tu [EV.nilp,iv 1]):=
 kP [[(A9 b85),((↑m:Int) != (↑m:Int),true)]] (.mk (dS 65809) [] [some (bv b85)] [] []) (kO (kz q0 (kz q1 AD))) (.cons ih85 .nil)
theorem xV (q0:BA b85)(q1:((↑m:Int) != (↑m:Int))=false)(q2:(bO)=true):sP 48 [AK n0 n rs,AA n1 m w,iv k,fc (90) [] [pv [AA n1 m w] 0],AA n2 m o,ag R.cells,AA n3 ln lw] (tu [EV.nilp,iv 1]):=
 kP [[(A9 b85),((↑m:Int) != (↑m:Int),false),(bO,true)]] (.mk (dS 1052946) [] [some (bv b85),some (bv bO)] [] []) (kO (kz q0 (kz q1 (kz q2 AD)))) (.cons ihO (.cons ih85 .nil))
theorem xW (q0:BA b85)(q1:((↑m:Int) != (↑m:Int))=false)(q2:Av bO)(q3:(eR != 0)=true):sP 48 [AK n0 n rs,AA n1 m w,iv k,fc (90) [] [pv [AA n1 m w] 0],AA n2 m o,ag R.cells,AA n3 ln lw] (tu [EV.nilp,iv eR]):=
 kP [[(A9 b85),((↑m:Int) != (↑m:Int),false),(bO,false),(eR != 0,true)]] (.mk (dS 16847139) [] [some (bv b85),some (bv bO),some (iv eR)] [] []) (kO (kz q0 (kz q1 (kz q2 (kz q3 AD))))) (.cons ihR (.cons ihO (.cons ih85 .nil)))
theorem xX (q0:BA b85)(q1:((↑m:Int) != (↑m:Int))=false)(q2:Av bO)(q3:EB eR)(q4:(!bR)=true):sP 48 [AK n0 n rs,AA n1 m w,iv k,fc (90) [] [pv [AA n1 m w] 0],AA n2 m o,ag R.cells,AA n3 ln lw] (tu [EV.nilp,iv 190]):=
 kP [[(A9 b85),((↑m:Int) != (↑m:Int),false),(bO,false),(eR != 0,false),(!bR,true)]] (.mk (dS 269554228) [] [some (bv b85),some (bv bO),some (iv eR),some (bv bR)] [] []) (kO (kz q0 (kz q1 (kz q2 (kz q3 (kz q4 AD)))))) (.cons ihA (.cons ihR (.cons ihO (.cons ih85 .nil))))
theorem xY (q0:BA b85)(q1:((↑m:Int) != (↑m:Int))=false)(q2:Av bO)(q3:EB eR)(q4:BA bR)(q5:(b)=true):sP 48 [AK n0 n rs,AA n1 m w,iv k,fc (90) [] [pv [AA n1 m w] 0],AA n2 m o,ag R.cells,AA n3 ln lw] (tu [Aq n0 n rs n1 m w e1 R e3,iv 0]):=
 kP [[(A9 b85),((↑m:Int) != (↑m:Int),false),(bO,false),(eR != 0,false),A9 bR,(b,true)]] (.mk (dS 269554228) [(30,.is 15762598695845968 14 (xL 0,(frame 106 [(4,sl n2 1 m fun i=>[iv (o i)]),(6,sl n3 1 ln fun i=>(BN lw i)),(14,pt 3 0),(15,iv 0)]),[oD,A8 e1,A8 e2,DY n0 n rs n1 m w R])),(6,.is 528905046081400264507392 30 (xL 2,(frame 106 [(14,pt 3 0),(15,iv 0)]),[oD,A8 e1,A8 e3,DY n0 n rs n1 m w R,oD]))] [some (bv b85),some (bv bO),some (iv eR),some (bv bR)] [] []) (kO (kz q0 (kz q1 (kz q2 (kz q3 (kz q4 (kz q5 AD))))))) (.cons (ih1 (by assumption)) (.cons ih12 (.cons ihA (.cons ihR (.cons ihO (.cons ih85 .nil))))))
theorem xZ (q0:BA b85)(q1:((↑m:Int) != (↑m:Int))=false)(q2:Av bO)(q3:EB eR)(q4:BA bR)(q5:Av b):sP 48 [AK n0 n rs,AA n1 m w,iv k,fc (90) [] [pv [AA n1 m w] 0],AA n2 m o,ag R.cells,AA n3 ln lw] (tu [EV.nilp,iv 220]):=
 kP [[(A9 b85),((↑m:Int) != (↑m:Int),false),(bO,false),(eR != 0,false),A9 bR,(b,false)]] (.mk (dS 269554228) [(30,.is 15762598695845968 14 (xL 0,(frame 106 [(4,sl n2 1 m fun i=>[iv (o i)]),(6,sl n3 1 ln fun i=>(BN lw i)),(14,pt 3 0),(15,iv 0)]),[oD,A8 e1,A8 e2,DY n0 n rs n1 m w R])),(6,.is 528905046081400264507392 30 I6)] [some (bv b85),some (bv bO),some (iv eR),some (bv bR)] [] []) (kO (kz q0 (kz q1 (kz q2 (kz q3 (kz q4 (kz q5 AD))))))) (.cons (ih2 (by assumption)) (.cons ih12 (.cons ihA (.cons ihR (.cons ihO (.cons ih85 .nil))))))
theorem opF:∃ v,sP 48 [sl n0 13 n fun i=>(rs i).cells,nums n1 m w,iv k,fc (90) [] [.ip [nums n1 m w] 0],nums n2 m o,ag R.cells,nums n3 ln lw] v/\((∃ e,e≠0/\v=tu [.nilp,.int .i64 e])∨(v=tu [pv [sl n0 13 n fun i=>(rs i).cells,nums n1 m w,.im e1,.str R.name,.int .i64 R.win,.int .i64 R.draw,.int .i64 R.loss,.isl R.onn 8 R.on R.orow,.isl R.znn 3 R.zn fun i=>(R.zs i).cells,.im e3] 0,iv 0]/\b85=true/\bO=false/\eR=0/\bR=true/\b=true)):=by
 rcases bT (!b85) with q0 | q0
 ·exact e8 (xT n0 n rs n1 m w n2 o n3 ln lw R k b85 bO eR bR e1 e2 e3 b ih85 ihR ihA ihO ih12 ih1 ih2 q0)
 ·rcases bT ((↑m:Int) != (↑m:Int)) with q1 | q1
  ·exact e8 (xU n0 n rs n1 m w n2 o n3 ln lw R k b85 bO eR bR e1 e2 e3 b ih85 ihR ihA ihO ih12 ih1 ih2 q0 q1)
  ·rcases bT (bO) with q2 | q2
   ·exact e8 (xV n0 n rs n1 m w n2 o n3 ln lw R k b85 bO eR bR e1 e2 e3 b ih85 ihR ihA ihO ih12 ih1 ih2 q0 q1 q2)
   ·rcases bT (eR != 0) with q3 | q3
    ·exact e8 (xW n0 n rs n1 m w n2 o n3 ln lw R k b85 bO eR bR e1 e2 e3 b ih85 ihR ihA ihO ih12 ih1 ih2 q0 q1 q2 q3)
    ·rcases bT (!bR) with q4 | q4
     ·exact e8 (xX n0 n rs n1 m w n2 o n3 ln lw R k b85 bO eR bR e1 e2 e3 b ih85 ihR ihA ihO ih12 ih1 ih2 q0 q1 q2 q3 q4)
     ·rcases bT (b) with q5 | q5
      ·exact e8 (xY n0 n rs n1 m w n2 o n3 ln lw R k b85 bO eR bR e1 e2 e3 b ih85 ihR ihA ihO ih12 ih1 ih2 q0 q1 q2 q3 q4 q5)
      ·exact e8 (xZ n0 n rs n1 m w n2 o n3 ln lw R k b85 bO eR bR e1 e2 e3 b ih85 ihR ihA ihO ih12 ih1 ih2 q0 q1 q2 q3 q4 q5)
end
section
variable (n0:Bool)(n:Nat)(rs:Nat->ResD)(n1:Bool)(m:Nat)(w:Nat->Int)(n2:Bool)(o:Nat->Int)(n3:Bool)(ln:Nat)(lw:Nat->Int)(R:RulesV)(k:Int)(b85:Bool)(bO:Bool)(eR:Int)(bR:Bool)(e1:List (EV×EV))(e2:List (EV×EV))(e3:List (EV×EV))(b:Bool)(m2:Nat)(hm:m2≠m)(ih85:sP 85 [AM n1 m w,iv k] (bv b85))(ihR:sP 88 [ag R.cells] (iv eR))(ihA:sP 89 [AK n0 n rs,fc (90) [] [.ip [AM n1 m w] 0]] (bv bR))
include n0 n rs n1 m w n2 o n3 ln lw R k b85 bO eR bR e1 e2 e3 b m2 hm ih85 ihR ihA
theorem x0 (q0:(!b85)=true):sP 48 [AK n0 n rs,AA n1 m w,iv k,fc (90) [] [pv [AA n1 m w] 0],AA n2 m2 o,ag R.cells,AA n3 ln lw] (tu [EV.nilp,iv 190]):=
 kP [[(!b85,true)]] (.mk (dS 16) [] [some (bv b85)] [] []) (kO (kz q0 AD)) (.cons ih85 .nil)
theorem x4 (q0:BA b85):sP 48 [AK n0 n rs,AA n1 m w,iv k,fc (90) [] [pv [AA n1 m w] 0],AA n2 m2 o,ag R.cells,AA n3 ln lw] (tu [EV.nilp,iv 1]):=
 kP [[(A9 b85)]] (.mk (dS 68266) [] [some (bv b85)] [] []) (kO (kz q0 AD)) (oI (((↑m2:Int) != (↑m:Int))=true) (oI (((↑m2:Int) != (↑m:Int))=true) (oI (((↑m2:Int) != (↑m:Int))=true) (.cons ih85 .nil))))
theorem opG:∃ v,sP 48 [sl n0 13 n fun i=>(rs i).cells,nums n1 m w,iv k,fc (90) [] [.ip [nums n1 m w] 0],nums n2 m2 o,ag R.cells,nums n3 ln lw] v/\(∃ e,e≠0/\v=tu [.nilp,.int .i64 e]):=by
 rcases bT (!b85) with q0 | q0
 ·exact ⟨_,(x0 n0 n rs n1 m w n2 o n3 ln lw R k b85 bO eR bR e1 e2 e3 b m2 hm ih85 ihR ihA q0),⟨_,by decide,rfl⟩⟩
 ·exact ⟨_,(x4 n0 n rs n1 m w n2 o n3 ln lw R k b85 bO eR bR e1 e2 e3 b m2 hm ih85 ihR ihA q0),⟨_,by decide,rfl⟩⟩
end
noncomputable abbrev Hp (a0:Nat):=frame 19 [(2,EV.ms 0 1 0 a0 none)]
abbrev I7 (a0:Nat):=a0+1<4611686018427387904
noncomputable abbrev Hq:RC:=(xL 0,(frame 19 [(2,sl false 0 0 fun i=>[])]),[])
noncomputable abbrev Ff:=cB (cR (cL (cR (AB prog 213))))
abbrev LJ (a0:Nat):=decide ((a0+1)*16<=70368744177664) && decide (I7 a0)
section
variable (nn:Bool)(n:Nat)(ss:Nat->StepV)(i:Int)(k:Nat)(w:Nat->List EV)(h0:0<=i)(h3:n<=4294967296)(h4:k<=4294967296)
include nn n ss i k w h0 h3 h4
theorem x5 (q0:AH i n):sR 0 (cB (Ff)) (frame 19 [(0,sl nn 8 n fun i=>(ss i).cells),(2,.isl false 0 0 fun _=>[]),(5,sl nn 8 n fun i=>(ss i).cells),(6,.int .i64 n),(7,.int .i64 i)]) ([]) (xN,(frame 19 [(0,sl nn 8 n fun i=>(ss i).cells),(2,EV.ms 0 1 0 1 none),(5,sl nn 8 n fun i=>(ss i).cells),(6,iv ↑n),(7,iv (i+1))]),[oA 1 false 1 fun i_1=>[[EV.iface 372 (ag (ss i.toNat).cells)]].getD (0+i_1) []]):=
 kR [[AG i n]] (.mk (dS 17433262) [] [] [] []) (kO (kz q0 AD)) (oI ((inR IntKind.i64 (i+1))=true) (oJ ((inB i n)=true) .nil)) 229 1 [2] 0
theorem x6 (q0:Af i n):sR 0 (cB (Ff)) (frame 19 [(0,sl nn 8 n fun i=>(ss i).cells),(2,.isl false 0 0 fun _=>[]),(5,sl nn 8 n fun i=>(ss i).cells),(6,.int .i64 n),(7,.int .i64 i)]) ([]) Hq:=
 kR (Ae i n) (.mk (dS 16) [] [] [] []) (kO (kz q0 AD)) .nil 4 0 [] 0
theorem x7 (q0:AH i n):sR 0 (cB (Ff)) (frame 19 [(0,sl nn 8 n fun i=>(ss i).cells),(2,.ms 0 1 0 k none),(5,sl nn 8 n fun i=>(ss i).cells),(6,.int .i64 n),(7,.int .i64 i)]) ([oA 1 false k w]) (xN,(frame 19 [(0,sl nn 8 n fun i=>(ss i).cells),(2,EV.ms 0 1 0 (k+1) none),(5,sl nn 8 n fun i=>(ss i).cells),(6,iv ↑n),(7,iv (i+1))]),[oA 1 false (k+1) (AU k (fun i=>w (0+i)) fun i_1=>[[EV.iface 372 (ag (ss i.toNat).cells)]].getD (0+i_1) [])]):=
 kR [[AG i n]] (.mk (dS 68266) [] [] [] []) (kO (kz q0 AD)) (oI ((inR IntKind.i64 (i+1))=true) (oL ((LJ k)=true) (oJ ((inB i n)=true) .nil))) 229 1 [3] 0
theorem x8 (q0:Af i n):sR 0 (cB (Ff)) (frame 19 [(0,sl nn 8 n fun i=>(ss i).cells),(2,.ms 0 1 0 k none),(5,sl nn 8 n fun i=>(ss i).cells),(6,.int .i64 n),(7,.int .i64 i)]) ([oA 1 false k w]) (xL 0,(Hp k),[oA 1 false k w]):=
 kR (Ae i n) (.mk (dS 16) [] [] [] []) (kO (kz q0 AD)) .nil 4 1 [0] 0
end
noncomputable abbrev LK:RC:=(xL 0,frame 19 [(2,.isl false 0 0 fun _=>[])],[])
noncomputable abbrev LL (a0:Bool)(a1:Nat)(a2:Nat->StepV):=frame 19 [(0,sl a0 8 a1 fun i=>(a2 i).cells),(2,.isl false 0 0 fun _=>[]),(5,sl a0 8 a1 fun i=>(a2 i).cells),(6,.int .i64 a1),(7,.int .i64 0)]
abbrev CQ (a0:Bool)(a1:Nat)(a2:Nat->StepV):=sl a0 8 a1 fun i=>(a2 i).cells
abbrev BC:=sl false 0 0 fun i=>[]
theorem Yb (nn:Bool)(n:Nat)(ss:Nat->StepV)(ih:sL (Ff) (LL nn n ss) ([]) (LK:RC)):sP 213 [CQ nn n ss] (BC):=
 kP [[]] (.mk [] [(6,.is 229 0 Hq)] [] [] []) (kO AD) (.cons ih .nil)
abbrev Ei (a0:Nat->StepV)(a1:Nat):=[EV.iface 372 (ag (a0 a1).cells)]
noncomputable abbrev N3 (a0:Bool)(a1:Nat)(a2:Nat->StepV):=sL (Ff) (LL a0 a1 a2) ([]) ((xL 0,frame 19 [(2,.ms 0 1 0 a1 none)],[oA 1 false a1 fun i=>[.iface 372 (.agg (a2 i).cells)]]):RC)
theorem Yc (nn:Bool)(n:Nat)(ss:Nat->StepV)(ih:N3 nn n ss):sP 213 [CQ nn n ss] (sl true 1 n fun i=>[EV.iface 372 (ag (ss (0+i)).cells)]):=
 kP [[]] (.mk [] [(6,.is 229 0 (xL 0,(Hp n),[oA 1 false n fun i=>(Ei ss i)]))] [] [] []) (kO AD) (.cons ih .nil)
theorem Yd (nn:Bool)(n:Nat)(ss:Nat->StepV)(ih:sL (Ff) (LL nn n ss) ([]) (LK:RC)):sF 213 [CQ nn n ss] [] (BC) []:=
 kF [[]] (.mk [] [(6,.is 229 0 Hq)] [] [] []) (kO AD) (.cons ih .nil) 0 []
theorem Ye (nn:Bool)(n:Nat)(ss:Nat->StepV)(ih:N3 nn n ss):sF 213 [CQ nn n ss] [] (EV.ms 0 1 0 n none) [oA 1 false n fun i=>(Ei ss i)]:=
 kF [[]] (.mk [] [(6,.is 229 0 (xL 0,(Hp n),[oA 1 false n fun i=>(Ei ss i)]))] [] [] []) (kO AD) (.cons ih .nil) 1 [0]
noncomputable abbrev Gc:=cB (cR (cL (cR (AB prog 374))))
section
variable (nn:Bool)(n:Nat)(ss:Nat->CondV)(i:Int)(k:Nat)(w:Nat->List EV)(h0:0<=i)(h3:n<=4294967296)(h4:k<=4294967296)
include nn n ss i k w h0 h3 h4
theorem x9 (q0:AH i n):sR 0 (cB (Gc)) (frame 19 [(0,sl nn 4 n fun i=>(ss i).cells),(2,.isl false 0 0 fun _=>[]),(5,sl nn 4 n fun i=>(ss i).cells),(6,.int .i64 n),(7,.int .i64 i)]) ([]) (xN,(frame 19 [(0,sl nn 4 n fun i=>(ss i).cells),(2,EV.ms 0 1 0 1 none),(5,sl nn 4 n fun i=>(ss i).cells),(6,iv ↑n),(7,iv (i+1))]),[oA 1 false 1 fun i_1=>[[EV.iface 392 (ag (ss i.toNat).cells)]].getD (0+i_1) []]):=
 kR [[AG i n]] (.mk (dS 17433262) [] [] [] []) (kO (kz q0 AD)) (oI ((inR IntKind.i64 (i+1))=true) (oJ ((inB i n)=true) .nil)) 229 1 [2] 0
theorem wA (q0:Af i n):sR 0 (cB (Gc)) (frame 19 [(0,sl nn 4 n fun i=>(ss i).cells),(2,.isl false 0 0 fun _=>[]),(5,sl nn 4 n fun i=>(ss i).cells),(6,.int .i64 n),(7,.int .i64 i)]) ([]) Hq:=
 kR (Ae i n) (.mk (dS 16) [] [] [] []) (kO (kz q0 AD)) .nil 4 0 [] 0
theorem wB (q0:AH i n):sR 0 (cB (Gc)) (frame 19 [(0,sl nn 4 n fun i=>(ss i).cells),(2,.ms 0 1 0 k none),(5,sl nn 4 n fun i=>(ss i).cells),(6,.int .i64 n),(7,.int .i64 i)]) ([oA 1 false k w]) (xN,(frame 19 [(0,sl nn 4 n fun i=>(ss i).cells),(2,EV.ms 0 1 0 (k+1) none),(5,sl nn 4 n fun i=>(ss i).cells),(6,iv ↑n),(7,iv (i+1))]),[oA 1 false (k+1) (AU k (fun i=>w (0+i)) fun i_1=>[[EV.iface 392 (ag (ss i.toNat).cells)]].getD (0+i_1) [])]):=
 kR [[AG i n]] (.mk (dS 68266) [] [] [] []) (kO (kz q0 AD)) (oI ((inR IntKind.i64 (i+1))=true) (oL ((LJ k)=true) (oJ ((inB i n)=true) .nil))) 229 1 [3] 0
theorem wC (q0:Af i n):sR 0 (cB (Gc)) (frame 19 [(0,sl nn 4 n fun i=>(ss i).cells),(2,.ms 0 1 0 k none),(5,sl nn 4 n fun i=>(ss i).cells),(6,.int .i64 n),(7,.int .i64 i)]) ([oA 1 false k w]) (xL 0,(Hp k),[oA 1 false k w]):=
 kR (Ae i n) (.mk (dS 16) [] [] [] []) (kO (kz q0 AD)) .nil 4 1 [0] 0
end
noncomputable abbrev N4 (a0:Bool)(a1:Nat)(a2:Nat->CondV):=frame 19 [(0,sl a0 4 a1 fun i=>(a2 i).cells),(2,.isl false 0 0 fun _=>[]),(5,sl a0 4 a1 fun i=>(a2 i).cells),(6,.int .i64 a1),(7,.int .i64 0)]
abbrev So (a0:Bool)(a1:Nat)(a2:Nat->CondV):=sl a0 4 a1 fun i=>(a2 i).cells
abbrev Sp (a0:Bool)(a1:Nat)(a2:Nat->CondV):=So a0 a1 a2
abbrev A1 (a0:Bool)(a1:Nat)(a2:Nat->CondV):=Sp a0 a1 a2
theorem Yf (nn:Bool)(n:Nat)(ss:Nat->CondV)(ih:sL (Gc) (N4 nn n ss) ([]) (LK:RC)):sP 374 [A1 nn n ss] (BC):=
 kP [[]] (.mk [] [(6,.is 229 0 Hq)] [] [] []) (kO AD) (.cons ih .nil)
abbrev I8 (a0:Nat->CondV)(a1:Nat):=[EV.iface 392 (ag (a0 a1).cells)]
noncomputable abbrev Sq (a0:Bool)(a1:Nat)(a2:Nat->CondV):=sL (Gc) (N4 a0 a1 a2) ([]) ((xL 0,frame 19 [(2,.ms 0 1 0 a1 none)],[oA 1 false a1 fun i=>[.iface 392 (.agg (a2 i).cells)]]):RC)
theorem Yg (nn:Bool)(n:Nat)(ss:Nat->CondV)(ih:Sq nn n ss):sP 374 [A1 nn n ss] (sl true 1 n fun i=>[EV.iface 392 (ag (ss (0+i)).cells)]):=
 kP [[]] (.mk [] [(6,.is 229 0 (xL 0,(Hp n),[oA 1 false n fun i=>(I8 ss i)]))] [] [] []) (kO AD) (.cons ih .nil)
abbrev IP (s:StepV):EV:=.iface 372 (.agg s.cells)
abbrev HW (c:CondV):EV:=.iface 392 (.agg c.cells)
theorem wD (nn:Bool)(n:Nat)(ss:Nat->StepV)(h3:n<=1048576):∀ k i,i+1+k=n->sLR 0 (cB (cB (cR (cL (cR (AB prog 213))))))
  (frame 19 [(0,EV.isl nn 8 n fun i=>(ss i).cells),(2,.ms 0 1 0 (i+1) none),(5,EV.isl nn 8 n fun i=>(ss i).cells),(6,.int .i64 n),(7,.int .i64 ((i+1:Nat):Int))]) [EObj.arr false true 1 false (i+1) fun i=>[IP (ss i)]]
  (EX.leave 0,frame 19 [(2,.ms 0 1 0 n none)],[EObj.arr false true 1 false n fun i=>[IP (ss i)]])
 | 0,i,h=>by
  obtain rfl:n=i+1:=by omega
  exact SemLR.lastR (x8 nn (i+1) ss ((i+1:Nat):Int) (i+1) _ (by omega) (by omega) (by omega) (by simp)) (by simp)
 | k+1,i,h=>by
  refine SemLR.stepR (SemCR.weaken (x7 nn n ss ((i+1:Nat):Int) (i+1) _ (by omega) (by omega) (by omega) (by simp; omega)) (VLes.refl _) (.cons (OLe.arr fun j hj=>?_) .nil)) (wD nn n ss h3 k (i+1) (by omega))
  unfold AU
  split
  ·simp
  ·obtain rfl:j=i+1:=by omega
   simp
theorem wE (nn:Bool)(n:Nat)(ss:Nat->StepV)(h3:n<=1048576)(hn:0<n):sL (cB (cR (cL (cR (AB prog 213)))))
  (frame 19 [(0,EV.isl nn 8 n fun i=>(ss i).cells),(2,.isl false 0 0 fun _=>[]),(5,EV.isl nn 8 n fun i=>(ss i).cells),(6,.int .i64 n),(7,.int .i64 0)]) []
  (EX.leave 0,frame 19 [(2,.ms 0 1 0 n none)],[EObj.arr false true 1 false n fun i=>[IP (ss i)]]):=by
 refine SemLR.cl (m:=0) (c:=cB (cB (cR (cL (cR (AB prog 213)))))) ?_ rfl (by kernel_rfl)
 refine SemLR.stepR (SemCR.weaken (x5 nn n ss 0 0 (fun _=>[]) (by omega) (by omega) (by omega) (by simp; omega)) (VLes.refl _) (.cons (OLe.arr fun j hj=>?_) .nil)) (wD nn n ss h3 (n - 1) 0 (by omega))
 obtain rfl:j=0:=by omega
 simp
theorem wF (nn:Bool)(ss:Nat->StepV):sL (cB (cR (cL (cR (AB prog 213)))))
  (frame 19 [(0,EV.isl nn 8 0 fun i=>(ss i).cells),(2,.isl false 0 0 fun _=>[]),(5,EV.isl nn 8 0 fun i=>(ss i).cells),(6,.int .i64 (0:Nat)),(7,.int .i64 0)]) []
  (EX.leave 0,frame 19 [(2,.isl false 0 0 fun _=>[])],[]):=by
 refine SemLR.cl (m:=0) (c:=cB (cB (cR (cL (cR (AB prog 213)))))) ?_ rfl (by kernel_rfl)
 exact SemLR.lastR (x6 nn 0 ss 0 0 (fun _=>[]) (by omega) (by omega) (by omega) (by simp)) (by simp)
theorem P6 (nn:Bool)(n:Nat)(ss:Nat->StepV)(h3:n<=1048576):sP 213 [EV.isl nn 8 n fun i=>(ss i).cells] (EV.isl (!Nat.beq n 0) 1 n fun i=>[IP (ss i)]):=by
 match n,h3 with
 | 0,_=>exact (Yb nn 0 ss (wF nn ss)).res fun F w mv h=>by cases h; exact .isln _ _
 | n+1,h3=>exact (Yc nn (n+1) ss (wE nn (n+1) ss h3 (by omega))).res (PLe.isl fun i hi=>by rw [Nat.zero_add])
theorem Kq (nn:Bool)(n:Nat)(ss:Nat->StepV)(h3:n<=1048576)(hn:0<n):sF 213 [EV.isl nn 8 n fun i=>(ss i).cells] [] (EV.ms 0 1 0 n none) [EObj.arr false true 1 false n fun i=>[IP (ss i)]]:=Ye nn n ss (wE nn n ss h3 hn)
theorem I9 (nn:Bool)(ss:Nat->StepV):sF 213 [EV.isl nn 8 0 fun i=>(ss i).cells] [] (EV.isl false 0 0 fun _=>[]) []:=Yd nn 0 ss (wF nn ss)
theorem wG (nn:Bool)(n:Nat)(ss:Nat->CondV)(h3:n<=1048576):∀ k i,i+1+k=n->sLR 0 (cB (cB (cR (cL (cR (AB prog 374))))))
  (frame 19 [(0,EV.isl nn 4 n fun i=>(ss i).cells),(2,.ms 0 1 0 (i+1) none),(5,EV.isl nn 4 n fun i=>(ss i).cells),(6,.int .i64 n),(7,.int .i64 ((i+1:Nat):Int))]) [EObj.arr false true 1 false (i+1) fun i=>[HW (ss i)]]
  (EX.leave 0,frame 19 [(2,.ms 0 1 0 n none)],[EObj.arr false true 1 false n fun i=>[HW (ss i)]])
 | 0,i,h=>by
  obtain rfl:n=i+1:=by omega
  exact SemLR.lastR (wC nn (i+1) ss ((i+1:Nat):Int) (i+1) _ (by omega) (by omega) (by omega) (by simp)) (by simp)
 | k+1,i,h=>by
  refine SemLR.stepR (SemCR.weaken (wB nn n ss ((i+1:Nat):Int) (i+1) _ (by omega) (by omega) (by omega) (by simp; omega)) (VLes.refl _) (.cons (OLe.arr fun j hj=>?_) .nil)) (wG nn n ss h3 k (i+1) (by omega))
  unfold AU
  split
  ·simp
  ·obtain rfl:j=i+1:=by omega
   simp
theorem ACn (nn:Bool)(n:Nat)(ss:Nat->CondV)(h3:n<=1048576)(hn:0<n):sL (cB (cR (cL (cR (AB prog 374)))))
  (frame 19 [(0,EV.isl nn 4 n fun i=>(ss i).cells),(2,.isl false 0 0 fun _=>[]),(5,EV.isl nn 4 n fun i=>(ss i).cells),(6,.int .i64 n),(7,.int .i64 0)]) []
  (EX.leave 0,frame 19 [(2,.ms 0 1 0 n none)],[EObj.arr false true 1 false n fun i=>[HW (ss i)]]):=by
 refine SemLR.cl (m:=0) (c:=cB (cB (cR (cL (cR (AB prog 374)))))) ?_ rfl (by kernel_rfl)
 refine SemLR.stepR (SemCR.weaken (x9 nn n ss 0 0 (fun _=>[]) (by omega) (by omega) (by omega) (by simp; omega)) (VLes.refl _) (.cons (OLe.arr fun j hj=>?_) .nil)) (wG nn n ss h3 (n - 1) 0 (by omega))
 obtain rfl:j=0:=by omega
 simp
theorem ACo (nn:Bool)(ss:Nat->CondV):sL (cB (cR (cL (cR (AB prog 374)))))
  (frame 19 [(0,EV.isl nn 4 0 fun i=>(ss i).cells),(2,.isl false 0 0 fun _=>[]),(5,EV.isl nn 4 0 fun i=>(ss i).cells),(6,.int .i64 (0:Nat)),(7,.int .i64 0)]) []
  (EX.leave 0,frame 19 [(2,.isl false 0 0 fun _=>[])],[]):=by
 refine SemLR.cl (m:=0) (c:=cB (cB (cR (cL (cR (AB prog 374)))))) ?_ rfl (by kernel_rfl)
 exact SemLR.lastR (wA nn 0 ss 0 0 (fun _=>[]) (by omega) (by omega) (by omega) (by simp)) (by simp)
theorem P7 (nn:Bool)(n:Nat)(ss:Nat->CondV)(h3:n<=1048576):sP 374 [EV.isl nn 4 n fun i=>(ss i).cells] (EV.isl (!Nat.beq n 0) 1 n fun i=>[HW (ss i)]):=by
 match n,h3 with
 | 0,_=>exact (Yf nn 0 ss (ACo nn ss)).res fun F w mv h=>by cases h; exact .isln _ _
 | n+1,h3=>exact (Yg nn (n+1) ss (ACn nn (n+1) ss h3 (by omega))).res (PLe.isl fun i hi=>by rw [Nat.zero_add])
def Ri (f:FuncId):Bool:=f==213
abbrev EO (n:Nat)(ps:Nat->CondV):EV:=.isl (!Nat.beq n 0) 1 n fun i=>[HW (ps i)]
abbrev Dz (n:Nat)(ps:Nat->StepV):EV:=.isl (!Nat.beq n 0) 1 n fun i=>[IP (ps i)]
noncomputable def xcT (n:Nat)(ps:Nat->CondV)(i:Int):List EV:=frame 19 [(0,EO n ps),(1,.func (.func 272) [] []),(6,EO n ps),(7,.int .i64 n),(8,.int .i64 i)]
noncomputable def xsT (n:Nat)(ps:Nat->StepV)(i:Int):List EV:=frame 19 [(0,Dz n ps),(1,.func (.func 272) [] []),(6,Dz n ps),(7,.int .i64 n),(8,.int .i64 i)]
abbrev CE (a0:Nat)(a1:Nat->CondV):=sl (!a0.beq 0) 1 a0 fun i=>[EV.iface 392 (ag (a1 i).cells)]
theorem Pa (ck:Int)(cv:Int)(cn:Int)(cnn:Bool)(cl:Nat)(ps:Nat->CondV)(h3:cl<=1048576):sP 328 [ag [iv ck,iv cv,iv cn,A1 cnn cl ps]] (CE cl ps):=
 kP [] (.mk [] [] [some (CE cl ps)] [] []) KOk.nil (oT (sP 374 [sl cnn 4 cl fun i=>(ps i).cells] (sl (!cl.beq 0) 1 cl fun i=>[EV.iface 392 (ag (ps i).cells)])) (P7 _ _ _ h3) .nil)
abbrev JA:EV×AL:=(sl false 0 0 fun i=>[],[])
abbrev JB (a0:Nat)(a1:Nat->StepV):=(EV.ms 0 1 0 a0 none,[oA 1 false a0 fun i=>(Ei a1 i)])
section
variable (sk:Int)(sb:Int)(ck:Int)(cv:Int)(cn:Int)(cnn:Bool)(cl:Nat)(crow:Nat->List EV)(n1:Bool)(l1:Nat)(t:Nat->StepV)(n2:Bool)(l2:Nat)(e:Nat->StepV)(h1:l1<=1048576)(h2:l2<=1048576)(g1:0<l1)(g2:0<l2)
include sk sb ck cv cn cnn cl crow n1 l1 t n2 l2 e h1 h2 g1 g2
theorem Q3:sP 329 [ag [iv sk,iv sb,iv ck,iv cv,iv cn,sl cnn 4 cl crow,sl n1 8 0 fun i=>(t i).cells,sl n2 8 0 fun i=>(e i).cells]] (sl false 1 0 fun i=>[]):=
 kPm pures Ri [[]] (.mk [] [] [] [some (JA),some (JA)] []) (kO AD) (oT (sF 213 [sl n2 8 0 fun i=>(e i).cells] [] (sl false 0 0 fun i=>[]) []) (I9 _ _) (oT (sF 213 [sl n1 8 0 fun i=>(t i).cells] [] (sl false 0 0 fun i=>[]) []) (I9 _ _) .nil))
theorem Q4:sP 329 [ag [iv sk,iv sb,iv ck,iv cv,iv cn,sl cnn 4 cl crow,sl n1 8 0 fun i=>(t i).cells,CQ n2 l2 e]] (sl true 1 l2 fun i=>[EV.iface 372 (ag (e (0+(0+i))).cells)]):=
 kPm pures Ri [[]] (.mk (dS 427) [] [] [some (JA),some ((JB l2 e))] []) (kO AD) (oI ((decide (l2=0))=false) (oL ((decide (l2*16<=70368744177664) && decide (l2<4611686018427387904))=true) (oT (sF 213 [sl n2 8 l2 fun i=>(e i).cells] [] (EV.ms 0 1 0 l2 none) [oA 1 false l2 fun i=>[EV.iface 372 (ag (e i).cells)]]) (Kq _ _ _ (by assumption) (by assumption)) (oT (sF 213 [sl n1 8 0 fun i=>(t i).cells] [] (sl false 0 0 fun i=>[]) []) (I9 _ _) .nil))))
theorem Q5:sP 329 [ag [iv sk,iv sb,iv ck,iv cv,iv cn,sl cnn 4 cl crow,CQ n1 l1 t,sl n2 8 0 fun i=>(e i).cells]] (sl true 1 (l1+0) fun i=>AU l1 (fun i=>[EV.iface 372 (ag (t (0+i)).cells)]) (fun i=>[]) (0+i)):=
 kPm pures Ri [[]] (.mk (dS 26) [] [] [some ((JB l1 t)),some (JA)] []) (kO AD) (oL ((decide ((l1+0)*16<=70368744177664) && decide (l1+0<4611686018427387904))=true) (oT (sF 213 [sl n2 8 0 fun i=>(e i).cells] [] (sl false 0 0 fun i=>[]) []) (I9 _ _) (oT (sF 213 [sl n1 8 l1 fun i=>(t i).cells] [] (EV.ms 0 1 0 l1 none) [oA 1 false l1 fun i=>[EV.iface 372 (ag (t i).cells)]]) (Kq _ _ _ (by assumption) (by assumption)) .nil)))
theorem Q6:sP 329 [ag [iv sk,iv sb,iv ck,iv cv,iv cn,sl cnn 4 cl crow,CQ n1 l1 t,CQ n2 l2 e]] (sl true 1 (l1+l2) fun i=>AU l1 (fun i=>[EV.iface 372 (ag (t (0+i)).cells)]) (fun i=>[EV.iface 372 (ag (e (0+i)).cells)]) (0+i)):=
 kPm pures Ri [[]] (.mk (dS 26) [] [] [some ((JB l1 t)),some ((JB l2 e))] []) (kO AD) (oL ((decide ((l1+l2)*16<=70368744177664) && decide (l1+l2<4611686018427387904))=true) (oT (sF 213 [sl n2 8 l2 fun i=>(e i).cells] [] (EV.ms 0 1 0 l2 none) [oA 1 false l2 fun i=>[EV.iface 372 (ag (e i).cells)]]) (Kq _ _ _ (by assumption) (by assumption)) (oT (sF 213 [sl n1 8 l1 fun i=>(t i).cells] [] (EV.ms 0 1 0 l1 none) [oA 1 false l1 fun i=>[EV.iface 372 (ag (t i).cells)]]) (Kq _ _ _ (by assumption) (by assumption)) .nil)))
end
def EY (l1:Nat)(t e:Nat->StepV)(i:Nat):StepV:=if i<l1 then t i else e (i - l1)
theorem J5 (sk sb ck cv cn:Int)(cnn:Bool)(cl:Nat)(crow:Nat->List EV)(n1:Bool)(l1:Nat)(t:Nat->StepV)(n2:Bool)(l2:Nat)(e:Nat->StepV)(h1:l1<=1048576)(h2:l2<=1048576):
  sP 329 [EV.agg [EV.int .i64 sk,EV.int .i64 sb,EV.int .i64 ck,EV.int .i64 cv,EV.int .i64 cn,EV.isl cnn 4 cl crow,EV.isl n1 8 l1 fun i=>(t i).cells,EV.isl n2 8 l2 fun i=>(e i).cells]] (Dz (l1+l2) (EY l1 t e)):=by
 have nil:∀ (a b:Nat) (r r':Nat->List EV),PLe (.isl false a 0 r) (.isl false b 0 r'):=fun a b r r' F w mv h=>by cases h; exact .isln _ _
 match l1,l2,h1,h2 with
 | 0,0,h1,h2=>exact (Q3 sk sb ck cv cn cnn cl crow n1 1 t n2 1 e (by omega) (by omega) (by omega) (by omega)).res (nil _ _ _ _)
 | 0,l2+1,h1,h2=>
  refine (Q4 sk sb ck cv cn cnn cl crow n1 1 t n2 (l2+1) e (by omega) h2 (by omega) (by omega)).res ?_
  rw [show 0+(l2+1)=l2+1 by omega]
  exact PLe.isl fun i hi=>by simp [EY]
 | l1+1,0,h1,h2=>
  refine (Q5 sk sb ck cv cn cnn cl crow n1 (l1+1) t n2 1 e h1 (by omega) (by omega) (by omega)).res ?_
  exact PLe.isl fun i hi=>by
   have:i<l1+1:=by omega
   simp [EY,AU,this]
 | l1+1,l2+1,h1,h2=>
  refine (Q6 sk sb ck cv cn cnn cl crow n1 (l1+1) t n2 (l2+1) e h1 h2 (by omega) (by omega)).res ?_
  exact PLe.isl fun i hi=>by
   unfold EY AU
   simp only [Nat.zero_add]
   split<;>rfl
theorem xcI (c:CondV)(b:Bool)(ih:sP 296 [HW c] (bv b)):sP 272 [EV.iface 392 (ag c.cells)] (bv !b):=
 kP [] (.mk [] [] [some (bv b)] [] []) KOk.nil (.cons ih .nil)
abbrev AEd (a0:Nat->Bool)(a1:Int):=bv (a0 a1.toNat)
noncomputable abbrev Gd:=cB (cB (cR (cL (cR (AB prog 295)))))
section
variable (n:Nat)(ps:Nat->CondV)(v:Nat->Bool)(i:Int)(h0:0<=i)(h3:n<=1048576)(ih:∀ j,j<n->sP 272 [HW (ps j)] (bv (v j)))
include n ps v i h0 h3 ih
theorem wH (q0:AH i n)(q1:(v i.toNat)=true):sC (Gd) (xcT n ps i) ([]) (Cx i):=
 kC [[AG i n,(v i.toNat,true)]] (.mk (dS 4257) [] [some (AEd v i)] [] []) (kO (kz q0 (kz q1 AD))) (oT (sP 272 [EV.iface 392 (ag (ps i.toNat).cells)] (bv (v i.toNat))) (ih _ (by simp_all<;>omega)) (oJ ((inB i n)=true) .nil)) 16 0 0
theorem wI (q0:AH i n)(q1:(v i.toNat)=false):sC (Gd) (xcT n ps i) ([]) (xN,(frame 19 [(0,sl (!n.beq 0) 1 n fun i=>(I8 ps i)),(1,fc (272) [] []),(6,sl (!n.beq 0) 1 n fun i=>(I8 ps i)),(7,iv ↑n),(8,iv (i+1))]),[]):=
 kC [[AG i n,(v i.toNat,false)]] (.mk (dS 68122) [] [some (AEd v i)] [] []) (kO (kz q0 (kz q1 AD))) (oI ((inR IntKind.i64 (i+1))=true) (oT (sP 272 [EV.iface 392 (ag (ps i.toNat).cells)] (bv (v i.toNat))) (ih _ (by simp_all<;>omega)) (oJ ((inB i n)=true) .nil))) 451 0 0
theorem wJ (q0:Af i n):sC (Gd) (xcT n ps i) ([]) DI:=
 kC (Ae i n) (.mk (dS 16) [] [] [] []) (kO (kz q0 AD)) .nil 0 0 0
theorem xcB:∃ r_:RC,sC (cB (cB (cR (cL (cR (AB prog 295)))))) (xcT n ps i) ([]) r_/\((r_=(xN,xcT n ps (i+1),[])/\i<n/\(v i.toNat=false))∨(r_=(EX.ret,frame 19 [(4,iv i)],[])/\i<n/\(v i.toNat=true))∨(r_=(xL 0,frame 19 [],[])/\n<=i)):=by
 rcases bT (decide (i<↑n)) with q0 | q0
 ·rcases bT (v i.toNat) with q1 | q1
  ·exact e1 (wH n ps v i h0 h3 ih q0 q1)
  ·exact e1 (wI n ps v i h0 h3 ih q0 q1)
 ·exact e1 (wJ n ps v i h0 h3 ih q0)
end
abbrev DZ:=fc (272) [] []
theorem xcX (n:Nat)(ps:Nat->CondV)(x:Int)(b:Bool)(h3:n<=1048576)(ih1:b=true->sL (cB (cR (cL (cR (AB prog 295))))) (xcT n ps 0) ([]) ((xL 0,frame 19 [],[]):RC))(ih2:b=false->sL (cB (cR (cL (cR (AB prog 295))))) (xcT n ps 0) ([]) ((EX.ret,frame 19 [(4,iv x)],[]):RC)):sP 295 [CE n ps,DZ] (GX b x):=
 kP [] (.mk [] [(0,.fork true (b) 16 0 0 0 (.mk [] [(6,.is 451 0 DI)] [] [] []) (.mk [] [(6,.is 451 0 (Cx x))] [] [] []))] [] [] []) KOk.nil (oT ((b)=true->sL (cB (cR (cL (cR (AB prog 295))))) (frame 19 [(0,sl (!n.beq 0) 1 n fun i=>[EV.iface 392 (ag (ps i).cells)]),(1,fc (272) [] []),(6,sl (!n.beq 0) 1 n fun i=>[EV.iface 392 (ag (ps i).cells)]),(7,iv ↑n),(8,iv 0)]) [] (xL 0,(frame 19 []),[])) (fun _=>(ih1 (by assumption))) (oT ((b)=false->sL (cB (cR (cL (cR (AB prog 295))))) (frame 19 [(0,sl (!n.beq 0) 1 n fun i=>[EV.iface 392 (ag (ps i).cells)]),(1,fc (272) [] []),(6,sl (!n.beq 0) 1 n fun i=>[EV.iface 392 (ag (ps i).cells)]),(7,iv ↑n),(8,iv 0)]) [] (EX.ret,(frame 19 [(4,iv x)]),[])) (fun _=>(ih2 (by assumption))) .nil))
theorem xcC (n:Nat)(ps:Nat->CondV)(x:Int)(ih:sP 295 [EO n ps,DZ] (iv x)):sP 271 [CE n ps,DZ] (bv (Cw x)):=
 kP [] (.mk [] [] [some (iv x)] [] []) KOk.nil (.cons ih .nil)
theorem xsI (c:StepV)(b:Bool)(ih:sP 296 [IP c] (bv b)):sP 272 [EV.iface 372 (ag c.cells)] (bv !b):=
 kP [] (.mk [] [] [some (bv b)] [] []) KOk.nil (.cons ih .nil)
section
variable (n:Nat)(ps:Nat->StepV)(v:Nat->Bool)(i:Int)(h0:0<=i)(h3:n<=1048576)(ih:∀ j,j<n->sP 272 [IP (ps j)] (bv (v j)))
include n ps v i h0 h3 ih
theorem wK (q0:AH i n)(q1:(v i.toNat)=true):sC (Gd) (xsT n ps i) ([]) (Cx i):=
 kC [[AG i n,(v i.toNat,true)]] (.mk (dS 4257) [] [some (AEd v i)] [] []) (kO (kz q0 (kz q1 AD))) (oT (sP 272 [EV.iface 372 (ag (ps i.toNat).cells)] (bv (v i.toNat))) (ih _ (by simp_all<;>omega)) (oJ ((inB i n)=true) .nil)) 16 0 0
theorem wL (q0:AH i n)(q1:(v i.toNat)=false):sC (Gd) (xsT n ps i) ([]) (xN,(frame 19 [(0,sl (!n.beq 0) 1 n fun i=>(Ei ps i)),(1,fc (272) [] []),(6,sl (!n.beq 0) 1 n fun i=>(Ei ps i)),(7,iv ↑n),(8,iv (i+1))]),[]):=
 kC [[AG i n,(v i.toNat,false)]] (.mk (dS 68122) [] [some (AEd v i)] [] []) (kO (kz q0 (kz q1 AD))) (oI ((inR IntKind.i64 (i+1))=true) (oT (sP 272 [EV.iface 372 (ag (ps i.toNat).cells)] (bv (v i.toNat))) (ih _ (by simp_all<;>omega)) (oJ ((inB i n)=true) .nil))) 451 0 0
theorem wM (q0:Af i n):sC (Gd) (xsT n ps i) ([]) DI:=
 kC (Ae i n) (.mk (dS 16) [] [] [] []) (kO (kz q0 AD)) .nil 0 0 0
theorem xsB:∃ r_:RC,sC (cB (cB (cR (cL (cR (AB prog 295)))))) (xsT n ps i) ([]) r_/\((r_=(xN,xsT n ps (i+1),[])/\i<n/\(v i.toNat=false))∨(r_=(EX.ret,frame 19 [(4,iv i)],[])/\i<n/\(v i.toNat=true))∨(r_=(xL 0,frame 19 [],[])/\n<=i)):=by
 rcases bT (decide (i<↑n)) with q0 | q0
 ·rcases bT (v i.toNat) with q1 | q1
  ·exact e1 (wK n ps v i h0 h3 ih q0 q1)
  ·exact e1 (wL n ps v i h0 h3 ih q0 q1)
 ·exact e1 (wM n ps v i h0 h3 ih q0)
end
abbrev Cy (a0:Nat)(a1:Nat->StepV):=sl (!a0.beq 0) 1 a0 fun i=>[EV.iface 372 (ag (a1 i).cells)]
theorem xsX (n:Nat)(ps:Nat->StepV)(x:Int)(b:Bool)(h3:n<=1048576)(ih1:b=true->sL (cB (cR (cL (cR (AB prog 295))))) (xsT n ps 0) ([]) ((xL 0,frame 19 [],[]):RC))(ih2:b=false->sL (cB (cR (cL (cR (AB prog 295))))) (xsT n ps 0) ([]) ((EX.ret,frame 19 [(4,iv x)],[]):RC)):sP 295 [Cy n ps,DZ] (GX b x):=
 kP [] (.mk [] [(0,.fork true (b) 16 0 0 0 (.mk [] [(6,.is 451 0 DI)] [] [] []) (.mk [] [(6,.is 451 0 (Cx x))] [] [] []))] [] [] []) KOk.nil (oT ((b)=true->sL (cB (cR (cL (cR (AB prog 295))))) (frame 19 [(0,sl (!n.beq 0) 1 n fun i=>[EV.iface 372 (ag (ps i).cells)]),(1,fc (272) [] []),(6,sl (!n.beq 0) 1 n fun i=>[EV.iface 372 (ag (ps i).cells)]),(7,iv ↑n),(8,iv 0)]) [] (xL 0,(frame 19 []),[])) (fun _=>(ih1 (by assumption))) (oT ((b)=false->sL (cB (cR (cL (cR (AB prog 295))))) (frame 19 [(0,sl (!n.beq 0) 1 n fun i=>[EV.iface 372 (ag (ps i).cells)]),(1,fc (272) [] []),(6,sl (!n.beq 0) 1 n fun i=>[EV.iface 372 (ag (ps i).cells)]),(7,iv ↑n),(8,iv 0)]) [] (EX.ret,(frame 19 [(4,iv x)]),[])) (fun _=>(ih2 (by assumption))) .nil))
theorem xsC (n:Nat)(ps:Nat->StepV)(x:Int)(ih:sP 295 [Dz n ps,DZ] (iv x)):sP 271 [Cy n ps,DZ] (bv (Cw x)):=
 kP [] (.mk [] [] [some (iv x)] [] []) KOk.nil (.cons ih .nil)
abbrev Fg (a0:Nat):=(decide ((↑a0:Int)>0),false)
abbrev Cz (a0:Int):=(a0==0)=true
abbrev Da (a0:Nat):=(decide ((↑a0:Int)>0),true)
abbrev Sr (a0:Int):=(a0==4,false)
abbrev DK (a0:Int):=(a0==1)=true
abbrev BQ (a0:Int)(a1:Int)(a2:Int)(a3:Bool)(a4:Nat)(a5:Nat->CondV):=[EV.iface 392 (ag [iv a0,iv a1,iv a2,sl a3 4 a4 fun i=>(a5 i).cells])]
abbrev JC (a0:Nat):=decide ((↑a0:Int)>0)
abbrev Ss (a0:Int):=(a0==0,true)
abbrev Cc (a0:Int):=(a0==4)=false
abbrev BG (a0:Int):=(a0==1)=false
abbrev C0 (a0:Int):=(a0==0,false)
abbrev St (a0:Int):=(a0==1,false)
abbrev C1 (a0:Int):=(a0==0)=false
abbrev Fh (a0:Nat):=(JC a0)=false
abbrev BZ (a0:Int):=(Sr a0)
abbrev Db (a0:Nat):=(JC a0)=true
abbrev Su (a0:Int):=(St a0)
abbrev BJ (a0:Int):=(Ss a0)
abbrev Ar (a0:Int):=Su a0
section
variable (ck:Int)(cv:Int)(cn:Int)(cnn:Bool)(cl:Nat)(ps:Nat->CondV)(b:Bool)(h3:cl<=1048576)(ih:sP 271 [EO cl ps,DZ] (bv b))(q0:Cz cv)
include ck cv cn cnn cl ps b h3 ih q0
theorem Vp (q1:DK ck):sP 296 (BQ ck cv cn cnn cl ps) (bv false):=
 kP [[BJ cv,(ck==1,true)]] (.mk (dS 72354462179244987) [] [] [] []) (kO (kz q0 (kz q1 AD))) (oI ((decide (cv>=1))=false) (oI ((decide (cv>=1))=false) (oI ((decide (cv>=1))=false) (oI ((decide (cv>=1))=false) (oI ((decide (cv>=1))=false) .nil)))))
theorem Vq (q1:BG ck)(q2:(ck==4)=true)(q3:Cz cn)(q4:((↑cl:Int)==1)=true):sP 296 (BQ ck cv cn cnn cl ps) (bv !b):=
 kP [[BJ cv,Ar ck,(ck==4,true),BJ cn,((↑cl:Int)==1,true)]] (.mk (dS 0x1010e00001233333344444) [] [some (CE cl ps),some (bv b)] [] []) (kO (kz q0 (kz q1 (kz q2 (kz q3 (kz q4 AD)))))) (.cons ih (oT (sP 328 [ag [iv ck,iv cv,iv cn,sl cnn 4 cl fun i=>(ps i).cells]] (sl (!cl.beq 0) 1 cl fun i=>[EV.iface 392 (ag (ps i).cells)])) (Pa _ _ _ _ _ _ h3) .nil))
theorem Vr (q1:BG ck)(q2:(ck==4)=true)(q3:Cz cn)(q4:((↑cl:Int)==1)=false):sP 296 (BQ ck cv cn cnn cl ps) (bv false):=
 kP [[BJ cv,Ar ck,(ck==4,true),BJ cn,((↑cl:Int)==1,false)]] (.mk (dS 0x1010e00001233333344444) [] [] [] []) (kO (kz q0 (kz q1 (kz q2 (kz q3 (kz q4 AD)))))) .nil
theorem Vs (q1:BG ck)(q2:(ck==4)=true)(q3:C1 cn):sP 296 (BQ ck cv cn cnn cl ps) (bv false):=
 kP [[BJ cv,Ar ck,(ck==4,true),(C0 cn)]] (.mk (dS 0x1010e000012333333) [] [] [] []) (kO (kz q0 (kz q1 (kz q2 (kz q3 AD))))) .nil
theorem Vt (q1:BG ck)(q2:Cc ck)(q3:(ck==2)=true)(q4:Cz cn)(q5:Db cl)(q6:(decide ((↑cl:Int)<=16))=true):sP 296 (BQ ck cv cn cnn cl ps) (bv !b):=
 kP [[BJ cv,Ar ck,BZ ck,(ck==2,true),BJ cn,(Da cl),(decide ((↑cl:Int)<=16),true)]] (.mk (dS 0x1010e0000123344444455555566666) [] [some (CE cl ps),some (bv b)] [] []) (kO (kz q0 (kz q1 (kz q2 (kz q3 (kz q4 (kz q5 (kz q6 AD)))))))) (.cons ih (oT (sP 328 [ag [iv ck,iv cv,iv cn,sl cnn 4 cl fun i=>(ps i).cells]] (sl (!cl.beq 0) 1 cl fun i=>[EV.iface 392 (ag (ps i).cells)])) (Pa _ _ _ _ _ _ h3) .nil))
theorem Vu (q1:BG ck)(q2:Cc ck)(q3:(ck==2)=true)(q4:Cz cn)(q5:Db cl)(q6:(decide ((↑cl:Int)<=16))=false):sP 296 (BQ ck cv cn cnn cl ps) (bv false):=
 kP [[BJ cv,Ar ck,BZ ck,(ck==2,true),BJ cn,(Da cl),(decide ((↑cl:Int)<=16),false)]] (.mk (dS 0x1010e0000123344444455555566666) [] [] [] []) (kO (kz q0 (kz q1 (kz q2 (kz q3 (kz q4 (kz q5 (kz q6 AD)))))))) .nil
theorem Vv (q1:BG ck)(q2:Cc ck)(q3:(ck==2)=true)(q4:Cz cn)(q5:Fh cl):sP 296 (BQ ck cv cn cnn cl ps) (bv false):=
 kP [[BJ cv,Ar ck,BZ ck,(ck==2,true),BJ cn,(Fg cl)]] (.mk (dS 0x1010e00001233444444555555) [] [] [] []) (kO (kz q0 (kz q1 (kz q2 (kz q3 (kz q4 (kz q5 AD))))))) .nil
theorem Vw (q1:BG ck)(q2:Cc ck)(q3:(ck==2)=true)(q4:C1 cn):sP 296 (BQ ck cv cn cnn cl ps) (bv false):=
 kP [[BJ cv,Ar ck,BZ ck,(ck==2,true),(C0 cn)]] (.mk (dS 0x1010e00001233444444) [] [] [] []) (kO (kz q0 (kz q1 (kz q2 (kz q3 (kz q4 AD)))))) .nil
end
abbrev DL (a0:Int):=(a0==3,false)
abbrev Sv (a0:Int):=(a0==2,false)
abbrev Bp (a0:Int):=(Sv a0)
section
variable (ck:Int)(cv:Int)(cn:Int)(cnn:Bool)(cl:Nat)(ps:Nat->CondV)(b:Bool)(h3:cl<=1048576)(ih:sP 271 [EO cl ps,DZ] (bv b))(q0:Cz cv)(q1:BG ck)(q2:Cc ck)(q3:(ck==2)=false)
include ck cv cn cnn cl ps b h3 ih q0 q1 q2 q3
theorem Vx (q4:(ck==3)=true)(q5:Cz cn)(q6:Db cl)(q7:(decide ((↑cl:Int)<=16))=true):sP 296 (BQ ck cv cn cnn cl ps) (bv !b):=
 kP [[BJ cv,Ar ck,BZ ck,Bp ck,(ck==3,true),BJ cn,(Da cl),(decide ((↑cl:Int)<=16),true)]] (.mk (dS 0x1010e0000123455555566666677777) [] [some (CE cl ps),some (bv b)] [] []) (kO (kz q0 (kz q1 (kz q2 (kz q3 (kz q4 (kz q5 (kz q6 (kz q7 AD))))))))) (.cons ih (oT (sP 328 [ag [iv ck,iv cv,iv cn,sl cnn 4 cl fun i=>(ps i).cells]] (sl (!cl.beq 0) 1 cl fun i=>[EV.iface 392 (ag (ps i).cells)])) (Pa _ _ _ _ _ _ h3) .nil))
theorem Vy (q4:(ck==3)=true)(q5:Cz cn)(q6:Db cl)(q7:(decide ((↑cl:Int)<=16))=false):sP 296 (BQ ck cv cn cnn cl ps) (bv false):=
 kP [[BJ cv,Ar ck,BZ ck,Bp ck,(ck==3,true),BJ cn,(Da cl),(decide ((↑cl:Int)<=16),false)]] (.mk (dS 0x1010e0000123455555566666677777) [] [] [] []) (kO (kz q0 (kz q1 (kz q2 (kz q3 (kz q4 (kz q5 (kz q6 (kz q7 AD))))))))) .nil
theorem Ua (q4:(ck==3)=true)(q5:Cz cn)(q6:Fh cl):sP 296 (BQ ck cv cn cnn cl ps) (bv false):=
 kP [[BJ cv,Ar ck,BZ ck,Bp ck,(ck==3,true),BJ cn,(Fg cl)]] (.mk (dS 0x1010e00001234555555666666) [] [] [] []) (kO (kz q0 (kz q1 (kz q2 (kz q3 (kz q4 (kz q5 (kz q6 AD)))))))) .nil
theorem Ub (q4:(ck==3)=true)(q5:C1 cn):sP 296 (BQ ck cv cn cnn cl ps) (bv false):=
 kP [[BJ cv,Ar ck,BZ ck,Bp ck,(ck==3,true),(C0 cn)]] (.mk (dS 0x1010e00001234555555) [] [] [] []) (kO (kz q0 (kz q1 (kz q2 (kz q3 (kz q4 (kz q5 AD))))))) .nil
theorem Uc (q4:(ck==3)=false):sP 296 (BQ ck cv cn cnn cl ps) (bv false):=
 kP [[BJ cv,Ar ck,BZ ck,Bp ck,(DL ck)]] (.mk (dS 282634617885236) [] [] [] []) (kO (kz q0 (kz q1 (kz q2 (kz q3 (kz q4 AD)))))) .nil
end
abbrev AEy (a0:Int):=(decide (a0>=0),true)
abbrev Fi (a0:Int):=(decide (a0>=1),true)
abbrev Fj (a0:Int):=(decide (a0>=1))=true
section
variable (ck:Int)(cv:Int)(cn:Int)(cnn:Bool)(cl:Nat)(ps:Nat->CondV)(b:Bool)(h3:cl<=1048576)(ih:sP 271 [EO cl ps,DZ] (bv b))
include ck cv cn cnn cl ps b h3 ih
theorem Ud (q0:C1 cv)(q1:DK ck)(q2:Fj cv)(q3:(decide (cv<=4))=true)(q4:(Cw cn)=true)(q5:(decide (cn<=64))=true):sP 296 (BQ ck cv cn cnn cl ps) (bv ((↑cl:Int)==0)):=
 kP [[(C0 cv),(ck==1,true),(Fi cv),(decide (cv<=4),true),(AEy cn),(decide (cn<=64),true)]] (.mk (dS 0x1010e00001222223333344444555555) [] [] [] []) (kO (kz q0 (kz q1 (kz q2 (kz q3 (kz q4 (kz q5 AD))))))) .nil
theorem Ue (q0:C1 cv)(q1:DK ck)(q2:Fj cv)(q3:(decide (cv<=4))=true)(q4:(Cw cn)=true)(q5:(decide (cn<=64))=false):sP 296 (BQ ck cv cn cnn cl ps) (bv false):=
 kP [[(C0 cv),(ck==1,true),(Fi cv),(decide (cv<=4),true),(AEy cn),(decide (cn<=64),false)]] (.mk (dS 0x1010e00001222223333344444555555) [] [] [] []) (kO (kz q0 (kz q1 (kz q2 (kz q3 (kz q4 (kz q5 AD))))))) .nil
theorem Uf (q0:C1 cv)(q1:DK ck)(q2:Fj cv)(q3:(decide (cv<=4))=true)(q4:(Cw cn)=false):sP 296 (BQ ck cv cn cnn cl ps) (bv false):=
 kP [[(C0 cv),(ck==1,true),(Fi cv),(decide (cv<=4),true),(decide (cn>=0),false)]] (.mk (dS 0x1010e00001222223333344444) [] [] [] []) (kO (kz q0 (kz q1 (kz q2 (kz q3 (kz q4 AD)))))) .nil
theorem Ug (q0:C1 cv)(q1:DK ck)(q2:Fj cv)(q3:(decide (cv<=4))=false):sP 296 (BQ ck cv cn cnn cl ps) (bv false):=
 kP [[(C0 cv),(ck==1,true),(Fi cv),(decide (cv<=4),false)]] (.mk (dS 0x1010e000012222233333) [] [] [] []) (kO (kz q0 (kz q1 (kz q2 (kz q3 AD))))) .nil
theorem Uh (q0:C1 cv)(q1:DK ck)(q2:(decide (cv>=1))=false):sP 296 (BQ ck cv cn cnn cl ps) (bv false):=
 kP [[(C0 cv),(ck==1,true),(decide (cv>=1),false)]] (.mk (dS 72354462178615842) [] [] [] []) (kO (kz q0 (kz q1 (kz q2 AD)))) .nil
theorem Ui (q0:C1 cv)(q1:BG ck)(q2:(ck==4)=true):sP 296 (BQ ck cv cn cnn cl ps) (bv false):=
 kP [[(C0 cv),Ar ck,(ck==4,true)]] (.mk (dS 1104041476114) [] [] [] []) (kO (kz q0 (kz q1 (kz q2 AD)))) .nil
theorem Uj (q0:C1 cv)(q1:BG ck)(q2:Cc ck)(q3:(ck==2)=true):sP 296 (BQ ck cv cn cnn cl ps) (bv false):=
 kP [[(C0 cv),Ar ck,BZ ck,(ck==2,true)]] (.mk (dS 282634617885235) [] [] [] []) (kO (kz q0 (kz q1 (kz q2 (kz q3 AD))))) .nil
theorem Uk (q0:C1 cv)(q1:BG ck)(q2:Cc ck)(q3:(ck==2)=false)(q4:(ck==3)=true):sP 296 (BQ ck cv cn cnn cl ps) (bv false):=
 kP [[(C0 cv),Ar ck,BZ ck,Bp ck,(ck==3,true)]] (.mk (dS 282634617885236) [] [] [] []) (kO (kz q0 (kz q1 (kz q2 (kz q3 (kz q4 AD)))))) .nil
theorem Ul (q0:C1 cv)(q1:BG ck)(q2:Cc ck)(q3:(ck==2)=false)(q4:(ck==3)=false):sP 296 (BQ ck cv cn cnn cl ps) (bv false):=
 kP [[(C0 cv),Ar ck,BZ ck,Bp ck,(DL ck)]] (.mk (dS 282634617885236) [] [] [] []) (kO (kz q0 (kz q1 (kz q2 (kz q3 (kz q4 AD)))))) .nil
theorem wN:∃ b_,sP 296 [EV.iface 392 (ag [iv ck,iv cv,iv cn,sl cnn 4 cl fun i=>(ps i).cells])] (bv b_)/\(b_=true->(ck=1/\cl=0)∨((ck=4/\cl=1∨(ck=2∨ck=3)/\0<cl/\cl<=16)/\b=false)):=by
 rcases bT (cv==0) with q0 | q0
 ·rcases bT (ck==1) with q1 | q1
  ·exact e2 (Vp ck cv cn cnn cl ps b h3 ih q0 q1)
  ·rcases bT (ck==4) with q2 | q2
   ·rcases bT (cn==0) with q3 | q3
    ·rcases bT ((↑cl:Int)==1) with q4 | q4
     ·exact e2 (Vq ck cv cn cnn cl ps b h3 ih q0 q1 q2 q3 q4)
     ·exact e2 (Vr ck cv cn cnn cl ps b h3 ih q0 q1 q2 q3 q4)
    ·exact e2 (Vs ck cv cn cnn cl ps b h3 ih q0 q1 q2 q3)
   ·rcases bT (ck==2) with q3 | q3
    ·rcases bT (cn==0) with q4 | q4
     ·rcases bT (decide ((↑cl:Int)>0)) with q5 | q5
      ·rcases bT (decide ((↑cl:Int)<=16)) with q6 | q6
       ·exact e2 (Vt ck cv cn cnn cl ps b h3 ih q0 q1 q2 q3 q4 q5 q6)
       ·exact e2 (Vu ck cv cn cnn cl ps b h3 ih q0 q1 q2 q3 q4 q5 q6)
      ·exact e2 (Vv ck cv cn cnn cl ps b h3 ih q0 q1 q2 q3 q4 q5)
     ·exact e2 (Vw ck cv cn cnn cl ps b h3 ih q0 q1 q2 q3 q4)
    ·rcases bT (ck==3) with q4 | q4
     ·rcases bT (cn==0) with q5 | q5
      ·rcases bT (decide ((↑cl:Int)>0)) with q6 | q6
       ·rcases bT (decide ((↑cl:Int)<=16)) with q7 | q7
        ·exact e2 (Vx ck cv cn cnn cl ps b h3 ih q0 q1 q2 q3 q4 q5 q6 q7)
        ·exact e2 (Vy ck cv cn cnn cl ps b h3 ih q0 q1 q2 q3 q4 q5 q6 q7)
       ·exact e2 (Ua ck cv cn cnn cl ps b h3 ih q0 q1 q2 q3 q4 q5 q6)
      ·exact e2 (Ub ck cv cn cnn cl ps b h3 ih q0 q1 q2 q3 q4 q5)
     ·exact e2 (Uc ck cv cn cnn cl ps b h3 ih q0 q1 q2 q3 q4)
 ·rcases bT (ck==1) with q1 | q1
  ·rcases bT (decide (cv>=1)) with q2 | q2
   ·rcases bT (decide (cv<=4)) with q3 | q3
    ·rcases bT (decide (cn>=0)) with q4 | q4
     ·rcases bT (decide (cn<=64)) with q5 | q5
      ·exact e2 (Ud ck cv cn cnn cl ps b h3 ih q0 q1 q2 q3 q4 q5)
      ·exact e2 (Ue ck cv cn cnn cl ps b h3 ih q0 q1 q2 q3 q4 q5)
     ·exact e2 (Uf ck cv cn cnn cl ps b h3 ih q0 q1 q2 q3 q4)
    ·exact e2 (Ug ck cv cn cnn cl ps b h3 ih q0 q1 q2 q3)
   ·exact e2 (Uh ck cv cn cnn cl ps b h3 ih q0 q1 q2)
  ·rcases bT (ck==4) with q2 | q2
   ·exact e2 (Ui ck cv cn cnn cl ps b h3 ih q0 q1 q2)
   ·rcases bT (ck==2) with q3 | q3
    ·exact e2 (Uj ck cv cn cnn cl ps b h3 ih q0 q1 q2 q3)
    ·rcases bT (ck==3) with q4 | q4
     ·exact e2 (Uk ck cv cn cnn cl ps b h3 ih q0 q1 q2 q3 q4)
     ·exact e2 (Ul ck cv cn cnn cl ps b h3 ih q0 q1 q2 q3 q4)
end
abbrev EC (a0:Int)(a1:Int)(a2:Int)(a3:Int)(a4:Int)(a5:Bool)(a6:Nat)(a7:Nat->List EV)(a8:Bool)(a9:Nat)(a10:Nat->StepV)(a11:Bool)(a12:Nat)(a13:Nat->StepV):=[EV.iface 372 (ag [iv a0,iv a1,iv a2,iv a3,iv a4,sl a5 4 a6 a7,sl a8 8 a9 fun i=>(a10 i).cells,sl a11 8 a12 fun i=>(a13 i).cells])]
section
variable (sk:Int)(sb:Int)(ck:Int)(cv:Int)(cn:Int)(cnn:Bool)(cl:Nat)(crow:Nat->List EV)(n1:Bool)(l1:Nat)(t:Nat->StepV)(n2:Bool)(l2:Nat)(e:Nat->StepV)(bz:Bool)(bc:Bool)(bI:Bool)(h1:l1<=1048576)(h2:l2<=1048576)(ihz:sP 294 [ag [iv ck,iv cv,iv cn,sl cnn 4 cl crow]] (bv bz))(ihc:sP 296 [EV.iface 392 (ag [iv ck,iv cv,iv cn,sl cnn 4 cl crow])] (bv bc))(ihI:sP 271 [Dz (l1+l2) (EY l1 t e),DZ] (bv bI))
include sk sb ck cv cn cnn cl crow n1 l1 t n2 l2 e bz bc bI h1 h2 ihz ihc ihI
theorem Vz (q0:DK sk)(q1:Fj sb)(q2:(decide (sb<=12))=true)(q3:(bz)=true):sP 296 (EC sk sb ck cv cn cnn cl crow n1 l1 t n2 l2 e) (bv ((↑(l1+l2):Int)==0)):=
 kP [[(sk==1,true),(Fi sb),(decide (sb<=12),true),(bz,true)]] (.mk (dS 0x1020e1111122233333) [] [some (bv bz),some (sl (!(l1+l2).beq 0) 1 (l1+l2) fun i=>[EV.iface 372 (ag (EY l1 t e i).cells)])] [] []) (kO (kz q0 (kz q1 (kz q2 (kz q3 AD))))) (oT (sP 329 [ag [iv sk,iv sb,iv ck,iv cv,iv cn,sl cnn 4 cl crow,sl n1 8 l1 fun i=>(t i).cells,sl n2 8 l2 fun i=>(e i).cells]] (sl (!(l1+l2).beq 0) 1 (l1+l2) fun i=>[EV.iface 372 (ag (EY l1 t e i).cells)])) (J5 _ _ _ _ _ _ _ _ _ _ _ _ _ _ h1 h2) (.cons ihz .nil))
theorem V0 (q0:DK sk)(q1:Fj sb)(q2:(decide (sb<=12))=true)(q3:Av bz):sP 296 (EC sk sb ck cv cn cnn cl crow n1 l1 t n2 l2 e) (bv false):=
 kP [[(sk==1,true),(Fi sb),(decide (sb<=12),true),(bz,false)]] (.mk (dS 0x1020e1111122233333) [] [some (bv bz)] [] []) (kO (kz q0 (kz q1 (kz q2 (kz q3 AD))))) (.cons ihz .nil)
theorem V1 (q0:DK sk)(q1:Fj sb)(q2:(decide (sb<=12))=false):sP 296 (EC sk sb ck cv cn cnn cl crow n1 l1 t n2 l2 e) (bv false):=
 kP [[(sk==1,true),(Fi sb),(decide (sb<=12),false)]] (.mk (dS 283734415839778) [] [] [] []) (kO (kz q0 (kz q1 (kz q2 AD)))) .nil
theorem V2 (q0:DK sk)(q1:(decide (sb>=1))=false):sP 296 (EC sk sb ck cv cn cnn cl crow n1 l1 t n2 l2 e) (bv false):=
 kP [[(sk==1,true),(decide (sb>=1),false)]] (.mk (dS 69271097617) [] [] [] []) (kO (kz q0 (kz q1 AD))) .nil
theorem V3 (q0:BG sk)(q1:(sk==2)=true)(q2:Cz sb)(q3:(bc)=true)(q4:Db l1):sP 296 (EC sk sb ck cv cn cnn cl crow n1 l1 t n2 l2 e) (bv !bI):=
 kP [[Ar sk,(sk==2,true),BJ sb,(bc,true),(Da l1)]] (.mk (dS 0x1020e1222233333344444) [] [some (bv bc),some (sl (!(l1+l2).beq 0) 1 (l1+l2) fun i=>[EV.iface 372 (ag (EY l1 t e i).cells)]),some (bv bI)] [] []) (kO (kz q0 (kz q1 (kz q2 (kz q3 (kz q4 AD)))))) (.cons ihI (oT (sP 329 [ag [iv sk,iv sb,iv ck,iv cv,iv cn,sl cnn 4 cl crow,sl n1 8 l1 fun i=>(t i).cells,sl n2 8 l2 fun i=>(e i).cells]] (sl (!(l1+l2).beq 0) 1 (l1+l2) fun i=>[EV.iface 372 (ag (EY l1 t e i).cells)])) (J5 _ _ _ _ _ _ _ _ _ _ _ _ _ _ h1 h2) (.cons ihc .nil)))
theorem V4 (q0:BG sk)(q1:(sk==2)=true)(q2:Cz sb)(q3:(bc)=true)(q4:Fh l1):sP 296 (EC sk sb ck cv cn cnn cl crow n1 l1 t n2 l2 e) (bv false):=
 kP [[Ar sk,(sk==2,true),BJ sb,(bc,true),(Fg l1)]] (.mk (dS 0x1020e1222233333344444) [] [some (bv bc)] [] []) (kO (kz q0 (kz q1 (kz q2 (kz q3 (kz q4 AD)))))) (.cons ihc .nil)
theorem V5 (q0:BG sk)(q1:(sk==2)=true)(q2:Cz sb)(q3:Av bc):sP 296 (EC sk sb ck cv cn cnn cl crow n1 l1 t n2 l2 e) (bv false):=
 kP [[Ar sk,(sk==2,true),BJ sb,(bc,false)]] (.mk (dS 0x1020e12222333333) [] [some (bv bc)] [] []) (kO (kz q0 (kz q1 (kz q2 (kz q3 AD))))) (.cons ihc .nil)
theorem V6 (q0:BG sk)(q1:(sk==2)=true)(q2:C1 sb):sP 296 (EC sk sb ck cv cn cnn cl crow n1 l1 t n2 l2 e) (bv false):=
 kP [[Ar sk,(sk==2,true),(C0 sb)]] (.mk (dS 69271101986) [] [] [] []) (kO (kz q0 (kz q1 (kz q2 AD)))) .nil
theorem V7 (q0:BG sk)(q1:(sk==2)=false):sP 296 (EC sk sb ck cv cn cnn cl crow n1 l1 t n2 l2 e) (bv false):=
 kP [[Ar sk,Bp sk]] (.mk (dS 1056993) [] [] [] []) (kO (kz q0 (kz q1 AD))) .nil
theorem wO:∃ b_,sP 296 [EV.iface 372 (ag [iv sk,iv sb,iv ck,iv cv,iv cn,sl cnn 4 cl crow,sl n1 8 l1 fun i=>(t i).cells,sl n2 8 l2 fun i=>(e i).cells])] (bv b_)/\(b_=true->(sk=1/\1<=sb/\sb<=12/\l1+l2=0)∨(sk=2/\bc=true/\0<l1/\bI=false)):=by
 rcases bT (sk==1) with q0 | q0
 ·rcases bT (decide (sb>=1)) with q1 | q1
  ·rcases bT (decide (sb<=12)) with q2 | q2
   ·rcases bT (bz) with q3 | q3
    ·exact e2 (Vz sk sb ck cv cn cnn cl crow n1 l1 t n2 l2 e bz bc bI h1 h2 ihz ihc ihI q0 q1 q2 q3)
    ·exact e2 (V0 sk sb ck cv cn cnn cl crow n1 l1 t n2 l2 e bz bc bI h1 h2 ihz ihc ihI q0 q1 q2 q3)
   ·exact e2 (V1 sk sb ck cv cn cnn cl crow n1 l1 t n2 l2 e bz bc bI h1 h2 ihz ihc ihI q0 q1 q2)
  ·exact e2 (V2 sk sb ck cv cn cnn cl crow n1 l1 t n2 l2 e bz bc bI h1 h2 ihz ihc ihI q0 q1)
 ·rcases bT (sk==2) with q1 | q1
  ·rcases bT (sb==0) with q2 | q2
   ·rcases bT (bc) with q3 | q3
    ·rcases bT (decide ((↑l1:Int)>0)) with q4 | q4
     ·exact e2 (V3 sk sb ck cv cn cnn cl crow n1 l1 t n2 l2 e bz bc bI h1 h2 ihz ihc ihI q0 q1 q2 q3 q4)
     ·exact e2 (V4 sk sb ck cv cn cnn cl crow n1 l1 t n2 l2 e bz bc bI h1 h2 ihz ihc ihI q0 q1 q2 q3 q4)
    ·exact e2 (V5 sk sb ck cv cn cnn cl crow n1 l1 t n2 l2 e bz bc bI h1 h2 ihz ihc ihI q0 q1 q2 q3)
   ·exact e2 (V6 sk sb ck cv cn cnn cl crow n1 l1 t n2 l2 e bz bc bI h1 h2 ihz ihc ihI q0 q1 q2)
  ·exact e2 (V7 sk sb ck cv cn cnn cl crow n1 l1 t n2 l2 e bz bc bI h1 h2 ihz ihc ihI q0 q1)
end
end Go.Ev
namespace Go.Ev
inductive BLs:List EV->List EV->Prop where
 | nil:BLs [] []
 | cons {x y:EV} {xs ys:List EV} (h:BLe x y) (t:BLs xs ys):BLs (x :: xs) (y :: ys)
theorem BLs.refl:∀ xs,BLs xs xs
 | []=>.nil
 | x :: xs=>.cons (BLe.refl x) (BLs.refl xs)
theorem BLs.len {xs ys:List EV}(h:BLs xs ys):ys.length=xs.length:=by
 induction h with
 | nil=>rfl
 | cons _ _ ih=>simp [ih]
theorem BLs.get {xs ys:List EV}(h:BLs xs ys):∀ i (h1:i<xs.length) (h2:i<ys.length),BLe xs[i] ys[i]:=by
 induction h with
 | nil=>intro i h; simp at h
 | cons h _ ih=>
  intro i h1 h2
  cases i with
  | zero=>exact h
  | succ i=>exact ih i (by simpa using h1) (by simpa using h2)
theorem BLs.agg {xs ys:List EV}(h:BLs xs ys):BLe (.agg xs) (.agg ys):=BLe.agg h.len h.get
theorem BLe.isl {nn:Bool}{esz len:Nat}{row row':Nat->List EV}(h:∀ i,i<len->row i=row' i):BLe (.isl nn esz len row) (.isl nn esz len row'):=⟨PLe.isl h,VLe.isl h⟩
end Go.Ev
namespace Go.Ev
open Go.Proofs.Tryz (prog)
set_option maxRecDepth 100000
set_option maxHeartbeats 0
def TreeC:Nat->CondV->Prop
 | 0,_=>False
 | n+1,c=>c.len<=1048576/\∃ ps:Nat->CondV,∀ i,i<c.len->c.row i=(ps i).cells/\TreeC n (ps i)
def TreeS:Nat->StepV->Prop
 | 0,_=>False
 | n+1,s=>TreeC (n+1) s.cond/\s.l1<=500000/\s.l2<=500000/\(∃ ps:Nat->StepV,∀ i,i<s.l1->s.r1 i=(ps i).cells/\TreeS n (ps i))/\∃ ps:Nat->StepV,∀ i,i<s.l2->s.r2 i=(ps i).cells/\TreeS n (ps i)
def M6:Nat->CondV->Prop
 | 0,_=>False
 | n+1,c=>(c.kind=1/\c.len=0)∨((c.kind=4/\c.len=1∨(c.kind=2∨c.kind=3)/\0<c.len/\c.len<=16)/\∃ ps:Nat->CondV,∀ i,i<c.len->c.row i=(ps i).cells/\M6 n (ps i))
def GoodS:Nat->StepV->Prop
 | 0,_=>False
 | n+1,s=>(s.kind=1/\1<=s.by_/\s.by_<=12/\s.l1=0/\s.l2=0)∨(s.kind=2/\M6 (n+1) s.cond/\s.l1<=500000/\s.l2<=500000/\(∃ ps:Nat->StepV,∀ i,i<s.l1->s.r1 i=(ps i).cells/\GoodS n (ps i))/\∃ ps:Nat->StepV,∀ i,i<s.l2->s.r2 i=(ps i).cells/\GoodS n (ps i))
theorem V8 (n:Nat)(ps:Nat->CondV)(h3:n<=1048576)(v:Nat->Bool)(ih:∀ j,j<n->sP 296 [HW (ps j)] (EV.bool (v j))):
  ∃ b,sP 271 [EO n ps,EV.func (.func 272) [] []] (EV.bool b)/\(b=false->∀ j,j<n->v j=true):=by
 have H:=SemL.all (P:=prog) (G:=globs') (rnd:=false) (c:=cB (cB (cR (cL (cR (AB prog 295)))))) (fun i=>xcT n ps i) (fun _=>[]) n (fun i=>(!v i)=false) (fun i=>(!v i)=true)
  (fun i=>(EX.ret,frame 19 [(4,EV.int .i64 i)],[])) (EX.leave 0,frame 19 [],[]) (fun _=>by simp) (by simp) (fun i=>by
   obtain ⟨r,h,h1⟩:=xcB n ps (fun j=>!v j) i (by omega) h3 (fun j hj=>xcI _ _ (ih j hj))
   exact ⟨r,h,h1.imp (fun x=>⟨x.1,by omega,by have:=x.2.2; rwa [Int.toNat_natCast] at this⟩) (Or.imp (fun x=>⟨x.1,by omega,by have:=x.2.2; rwa [Int.toNat_natCast] at this⟩) fun x=>⟨x.1,by omega⟩)⟩)
 rcases H with ⟨h,hg⟩ | ⟨i,hi,hb,_,h⟩
 ·exact ⟨_,xcC n ps _ (xcX n ps 0 true h3 (fun _=>h.toCL (by kernel_rfl)) (by intro h; cases h)),fun _ j hj=>by simpa using hg j hj⟩
 ·exact ⟨_,xcC n ps _ (xcX n ps i false h3 (by intro h; cases h) (fun _=>h.toCL (by kernel_rfl))),fun hb=>by simp at hb⟩
theorem Rj (n:Nat)(ps:Nat->StepV)(h3:n<=1048576)(v:Nat->Bool)(ih:∀ j,j<n->sP 296 [IP (ps j)] (EV.bool (v j))):
  ∃ b,sP 271 [Dz n ps,EV.func (.func 272) [] []] (EV.bool b)/\(b=false->∀ j,j<n->v j=true):=by
 have H:=SemL.all (P:=prog) (G:=globs') (rnd:=false) (c:=cB (cB (cR (cL (cR (AB prog 295)))))) (fun i=>xsT n ps i) (fun _=>[]) n (fun i=>(!v i)=false) (fun i=>(!v i)=true)
  (fun i=>(EX.ret,frame 19 [(4,EV.int .i64 i)],[])) (EX.leave 0,frame 19 [],[]) (fun _=>by simp) (by simp) (fun i=>by
   obtain ⟨r,h,h1⟩:=xsB n ps (fun j=>!v j) i (by omega) h3 (fun j hj=>xsI _ _ (ih j hj))
   exact ⟨r,h,h1.imp (fun x=>⟨x.1,by omega,by have:=x.2.2; rwa [Int.toNat_natCast] at this⟩) (Or.imp (fun x=>⟨x.1,by omega,by have:=x.2.2; rwa [Int.toNat_natCast] at this⟩) fun x=>⟨x.1,by omega⟩)⟩)
 rcases H with ⟨h,hg⟩ | ⟨i,hi,hb,_,h⟩
 ·exact ⟨_,xsC n ps _ (xsX n ps 0 true h3 (fun _=>h.toCL (by kernel_rfl)) (by intro h; cases h)),fun _ j hj=>by simpa using hg j hj⟩
 ·exact ⟨_,xsC n ps _ (xsX n ps i false h3 (by intro h; cases h) (fun _=>h.toCL (by kernel_rfl))),fun hb=>by simp at hb⟩
theorem Kr {c:CondV}{ps:Nat->CondV}(h:∀ i,i<c.len->c.row i=(ps i).cells):BLs c.cells [.int .i64 c.kind,.int .i64 c.var,.int .i64 c.n,.isl c.nn 4 c.len fun i=>(ps i).cells]:=
 .cons (BLe.refl _) (.cons (BLe.refl _) (.cons (BLe.refl _) (.cons (BLe.isl fun i hi=>h i hi) .nil)))
theorem PLe.iface {t:Nat}{x y:EV}(h:PLe x y):PLe (.iface t x) (.iface t y):=by
 intro F w mv hp
 cases hp with
 | iface _ _ mv h'=>exact .iface _ _ _ (h F w mv h')
theorem M7:∀ (n:Nat) (c:CondV),TreeC n c->∃ b,sP 296 [HW c] (EV.bool b)/\(b=true->M6 n c)
 | 0,_,h=>h.elim
 | n+1,c,h=>by
  obtain ⟨hl,ps,hps⟩:=h
  have hv:∀ i,∃ b,i<c.len->sP 296 [HW (ps i)] (EV.bool b)/\(b=true->M6 n (ps i)):=fun i=>by
   by_cases hi:i<c.len
   ·obtain ⟨b,h⟩:=M7 n (ps i) (hps i hi).2
    exact ⟨b,fun _=>h⟩
   ·exact ⟨false,fun h=>absurd h hi⟩
  obtain ⟨v,hv⟩:=Classical.axiomOfChoice hv
  obtain ⟨b,hb,hbv⟩:=V8 c.len ps hl v (fun j hj=>(hv j hj).1)
  obtain ⟨x,hx,hxg⟩:=wN c.kind c.var c.n c.nn c.len ps b hl hb
  refine ⟨x,hx.weaken (.cons (PLe.iface (BLs.agg (Kr fun i hi=>(hps i hi).1)).p) .nil) (.refl _),fun h=>?_⟩
  rcases hxg h with h1 | ⟨h1,h2⟩
  ·exact .inl h1
  ·exact .inr ⟨h1,ps,fun i hi=>⟨(hps i hi).1,(hv i hi).2 (hbv h2 i hi)⟩⟩
theorem N5 (c:CondV):∃ b,sP 294 [EV.agg c.cells] (EV.bool b):=⟨_,Vf c⟩
theorem M8:∀ (n:Nat) (s:StepV),TreeS n s->∃ b,sP 296 [IP s] (EV.bool b)/\(b=true->GoodS n s)
 | 0,_,h=>h.elim
 | n+1,s,h=>by
  obtain ⟨hc,h1,h2,⟨ps,hps⟩,qs,hqs⟩:=h
  obtain ⟨bc,hbc,hbcg⟩:=M7 (n+1) s.cond hc
  obtain ⟨bz,hbz⟩:=N5 s.cond
  have hv:∀ i,∃ b,i<s.l1+s.l2->sP 296 [IP (EY s.l1 ps qs i)] (EV.bool b)/\(b=true->GoodS n (EY s.l1 ps qs i)):=fun i=>by
   by_cases hi:i<s.l1+s.l2
   ·have ht:TreeS n (EY s.l1 ps qs i):=by
     unfold EY
     split
     ·exact (hps i ‹_›).2
     ·exact (hqs _ (by omega)).2
    obtain ⟨b,h⟩:=M8 n _ ht
    exact ⟨b,fun _=>h⟩
   ·exact ⟨false,fun h=>absurd h hi⟩
  obtain ⟨v,hv⟩:=Classical.axiomOfChoice hv
  have hI:∃ b,sP 271 [Dz (s.l1+s.l2) (EY s.l1 ps qs),EV.func (.func 272) [] []] (EV.bool b)/\(b=false->∀ j,j<s.l1+s.l2->v j=true):=Rj _ _ (by omega) v (fun j hj=>(hv j hj).1)
  obtain ⟨bI,hbI,hbIv⟩:=hI
  obtain ⟨x,hx,hxg⟩:=wO s.kind s.by_ s.cond.kind s.cond.var s.cond.n s.cond.nn s.cond.len s.cond.row s.n1 s.l1 ps s.n2 s.l2 qs bz bc bI (by omega) (by omega) hbz hbc hbI
  refine ⟨x,hx.weaken (.cons (PLe.iface (BLs.agg (.cons (BLe.refl _) (.cons (BLe.refl _) (.cons (BLe.refl _) (.cons (BLe.refl _) (.cons (BLe.refl _) (.cons (BLe.refl _) (.cons (BLe.isl fun i hi=>(hps i hi).1) (.cons (BLe.isl fun i hi=>(hqs i hi).1) .nil))))))))).p) .nil) (.refl _),fun h=>?_⟩
  rcases hxg h with ⟨a,b,c,d⟩ | ⟨a,b,c,d⟩
  ·exact .inl ⟨a,b,c,by omega,by omega⟩
  ·refine .inr ⟨a,hbcg b,h1,h2,⟨ps,fun i hi=>⟨(hps i hi).1,?_⟩⟩,qs,fun i hi=>⟨(hqs i hi).1,?_⟩⟩
   ·have:=(hv i (by omega)).2 (hbIv d i (by omega))
    unfold EY at this
    rwa [if_pos hi] at this
   ·have:=(hv (s.l1+i) (by omega)).2 (hbIv d (s.l1+i) (by omega))
    unfold EY at this
    rwa [if_neg (by omega),show s.l1+i - s.l1=i by omega] at this
def By (f:FuncId):Bool:=pures f || f==270
def C9 (f:FuncId):Bool:=f==270
noncomputable def wcT (n:Nat)(ps:Nat->CondV)(d i:Int):List EV:=frame 83 [(0,.ptr 0 0),(2,.int .i64 d),(19,EO n ps),(20,.int .i64 n),(21,.int .i64 i)]
noncomputable def wsT (n:Nat)(ps:Nat->StepV)(d i:Int):List EV:=frame 83 [(0,.ptr 0 0),(2,.int .i64 d),(19,Dz n ps),(20,.int .i64 n),(21,.int .i64 i)]
abbrev cnt (a b:Int):EObj:=.var false true [.int .i64 a,.int .i64 b]
end Go.Ev
