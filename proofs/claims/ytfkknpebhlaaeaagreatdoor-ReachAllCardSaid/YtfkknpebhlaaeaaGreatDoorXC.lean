/- A part of the proof. -/
import Derived.Test.YtfkknpebhlaaeaaGreatDoorXB
import Derived.Test.YtfkknpebhlaaeaaGreatDoorXA
set_option linter.unusedSimpArgs false
set_option linter.unusedVariables false
set_option linter.unusedSectionVars false
namespace Go.Ev
def ES (s:EV->EV->Bool):List EV->List EV->Bool
 | [],[]=>true
 | x :: xs,y :: ys=>s x y && ES s xs ys
 | _,_=>false
def TA (s:EV->EV->Bool)(row row':Nat->List EV):Nat->Nat->Bool
 | _,0=>true
 | i,n+1=>ES s (row i) (row' i) && TA s row row' (i+1) n
def LF (s:EV->EV->Bool):List (EV×EV)->List (EV×EV)->Bool
 | [],[]=>true
 | x :: xs,y :: ys=>s x.1 y.1 && s x.2 y.2 && LF s xs ys
 | _,_=>false
def WE:Fn->Fn->Bool
 | .func f,.func g=>f==g
 | _,_=>false
def GF:Nat->EV->EV->Bool
 | 0,_,_=>false
 | n+1,x,y=>
  match x,y with
  | .int k a,.int k' b=>decide (k=k') && decide (a=b)
  | .bool a,.bool b=>a==b
  | .str a,.str b=>decide (a.data.toList=b.data.toList)
  | .uS nn esz len row,.uS nn' esz' len' row'=>nn==nn' && esz==esz' && len==len' && TA (GF n) row row' 0 len
  | .agg a,.agg b=>ES (GF n) a b
  | .tuple a,.tuple b=>ES (GF n) a b
  | .aH,.aH | .cU,.cU | .dL,.dL | .dA,.dA=>true
  | .ip a k,.ip b k'=>k==k' && ES (GF n) a b
  | .im a,.im b=>LF (GF n) a b
  | .func fn a c,.func fn' a' c'=>WE fn fn' && ES (GF n) a a' && ES (GF n) c c'
  | .iface t v,.iface t' v'=>t==t' && GF n v v'
  | _,.undef=>true
  | _,_=>false
section
variable {s:EV->EV->Bool}
theorem ED:∀ {a b:List EV},ES s a b=true->a.length=b.length
 | [],[],_=>rfl
 | x :: xs,y :: ys,h=>by
  simp only [ES,uF] at h;simp [ED h.2]
 | [],_ :: _,h=>by simp [ES] at h
 | _ :: _,[],h=>by simp [ES] at h
theorem JJ:∀ {a b:List EV},ES s a b=true->∀ i (h1:i<a.length) (h2:i<b.length),s a[i] b[i]=true
 | [],_,_=>fun i h=>by simp at h
 | x :: xs,[],h=>by simp [ES] at h
 | x :: xs,y :: ys,h=>by
  simp only [ES,uF] at h;intro i h1 h2;cases i with
  | zero=>exact h.1
  | succ i=>simpa using JJ h.2 i (by simpa using h1) (by simpa using h2)
theorem Oy {row row':Nat->List EV}:∀ (n i:Nat),TA s row row' i n=true->∀ j,i<=j->j<i+n->ES s (row j) (row' j)=true
 | 0,i,_=>fun j h1 h2=>by omega
 | n+1,i,h=>by
  simp only [TA,uF] at h;intro j h1 h2;by_cases hj:j=i
  ·subst hj; exact h.1
  ·exact Oy n (i+1) h.2 j (by omega) (by omega)
theorem Oz:∀ {a b:List (EV×EV)},LF s a b=true->a.length=b.length
 | [],[],_=>rfl
 | x :: xs,y :: ys,h=>by
  simp only [LF,uF] at h;simp [Oz h.2]
 | [],_ :: _,h=>by simp [LF] at h
 | _ :: _,[],h=>by simp [LF] at h
theorem Ln:∀ {a b:List (EV×EV)},LF s a b=true->∀ i (h1:i<a.length) (h2:i<b.length),s a[i].1 b[i].1=true/\s a[i].2 b[i].2=true
 | [],_,_=>fun i h=>by simp at h
 | x :: xs,[],h=>by simp [LF] at h
 | x :: xs,y :: ys,h=>by
  simp only [LF,uF] at h;intro i h1 h2;cases i with
  | zero=>exact h.1
  | succ i=>simpa using Ln h.2 i (by simpa using h1) (by simpa using h2)
end
theorem WG {a b:ByteArray}(h:a.data.toList=b.data.toList):a=b:=by
 obtain ⟨⟨a⟩⟩:=a;obtain ⟨⟨b⟩⟩:=b;simp only at h;subst h;rfl
theorem RI:∀ (n:Nat) (x y:EV),GF n x y=true->aG x y:=by
 intro n;induction n with
 | zero=>intro x y h; simp [GF] at h
 | succ n ih=>
  intro x y h F w mv hp;have lst:∀ (a b:List EV) (mvs:Array Value),ES (GF n) a b=true->(∀ i (h:i<a.length) (h':i<mvs.size),PR F w a[i] mvs[i])->∀ i (h:i<b.length) (h':i<mvs.size),PR F w b[i] mvs[i]:=by
   intro a b mvs hs ha i h1 h2;have hl:=ED hs;exact ih _ _ (JJ hs i (by omega) h1) F w _ (ha i (by omega) h2)
  unfold GF at h;split at h
  ·simp only [uF,decide_eq_true_eq] at h;obtain ⟨rfl,rfl⟩:=h;exact hp
  ·simp only [beq_iff_eq] at h;subst h;exact hp
  ·simp only [decide_eq_true_eq] at h;rw [<-WG h];exact hp
  ·rename_i nn esz len row nn' esz' len' row';simp only [uF,beq_iff_eq] at h;obtain ⟨⟨⟨rfl,rfl⟩,rfl⟩,h⟩:=h;have hg:∀ i,i<len->ES (GF n) (row i) (row' i)=true:=fun i hi=>Oy len 0 h i (by omega) (by omega);cases hp with
   | bB=>exact .bB _ _
   | uS _ _ _ b o cap mv hF hcap sp hsp hl hc hv=>
    refine .uS esz len row' b o cap mv hF hcap sp hsp (fun i hi=>by rw [<-ED (hg i hi)]; exact hl i hi) hc fun i hi j hj=>?_;have hl':=ED (hg i hi);exact ih _ _ (JJ (hg i hi) j (by omega) hj) F w _ (hv i hi j (by omega))
  ·cases hp with
   | agg _ mcs hl h1 hv=>exact .agg _ mcs (by rw [<-ED h]; exact hl) h1 (lst _ _ mcs h hv)
  ·cases hp with
   | tuple _ mcs hl hv=>exact .tuple _ mcs (by rw [<-ED h]; exact hl) (lst _ _ mcs h hv)
  ·exact hp
  ·exact hp
  ·exact hp
  ·exact hp
  ·rename_i a k b k';simp only [uF,beq_iff_eq] at h;obtain ⟨rfl,h⟩:=h;have hl:=ED h;cases hp with
   | ip _ _ bb o mv hF hk hc hv=>
    refine .ip b k bb o mv hF (by omega) (fun j hj=>hc j (by omega)) fun j hj=>?_;exact ih _ _ (JJ h j (by omega) hj) F w _ (hv j (by omega))
  ·rename_i a b;have hl:=Oz h;cases hp with
   | im _ bb mes clock hF hm hle hk hv=>
    refine .im b bb mes clock hF hm (by omega) (fun i h1 h2=>?_) fun i h1 h2=>?_
    ·exact ih _ _ (Ln h i (by omega) h1).1 F w _ (hk i (by omega) h2)
    ·exact ih _ _ (Ln h i (by omega) h1).2 F w _ (hv i (by omega) h2)
  ·rename_i fn a c fn' a' c';simp only [uF] at h;obtain ⟨⟨h0,h1⟩,h2⟩:=h;have hfn:fn=fn':=by
    unfold WE at h0;split at h0
    ·simp only [beq_iff_eq] at h0; rw [h0]
    ·cases h0
   subst hfn;cases hp with
   | func _ _ _ mf mc l1 l2 v1 v2=>exact .func fn a' c' mf mc (by rw [<-ED h1]; exact l1) (by rw [<-ED h2]; exact l2) (lst _ _ mf h1 v1) (lst _ _ mc h2 v2)
  ·simp only [uF,beq_iff_eq] at h;obtain ⟨rfl,h⟩:=h;cases hp with
   | iface _ _ mv hv=>exact .iface _ _ mv (ih _ _ h F w mv hv)
  ·exact .undef _
  ·cases h
abbrev Ia:=List (FuncId×List EV×EV)
def G7:Ia->FuncId->List EV->Option EV
 | [],_,_=>none
 | (g,as_,v) :: t,f,args=>if f=g then (if ES (GF 40) args as_ then some v else G7 t f args) else G7 t f args
def Om (P:Program)(G:Nat->Option (List EV)):Ia->Prop
 | []=>True
 | (g,as_,v) :: t=>uY P G g as_ v/\Om P G t
theorem Nu:∀ {a b:List EV},ES (GF 40) a b=true->eJ a b
 | [],[],_=>.nil
 | x :: xs,y :: ys,h=>by
  simp only [ES,uF] at h;exact .cons (RI 40 x y h.1) (Nu h.2)
 | [],_ :: _,h=>by simp [ES] at h
 | _ :: _,[],h=>by simp [ES] at h
theorem Iy {P:Program}{G:Nat->Option (List EV)}:∀ (T:Ia),Om P G T->∀ f args v,G7 T f args=some v->uY P G f args v
 | [],_=>fun f args v h=>by simp [G7] at h
 | (g,as_,x) :: t,hT=>by
  intro f args v h;unfold G7 at h;split at h
  ·rename_i hf;subst hf;split at h
   ·rename_i hs;obtain rfl:=uC h;exact hT.1.weaken (Nu hs) (aG.refl _)
   ·exact Iy t hT.2 _ _ _ h
  ·exact Iy t hT.2 _ _ _ h
noncomputable def LG (P:Program)(G:Nat->Option (List EV))(T:Ia)(pures news:FuncId->Bool):Nat->Drv Unit
 | 0=>RH P G pures news 0
 | n+1=>{
   br:=pure,bJ:=fun b=>if b then pure () else M.fail,nw:=pure,mode:=fun f=>pure (pures f),fresh:=fun f=>pure (news f),room:=fun b=>pure (if b then 3 else 0)
   dC:=fun f args=>match G7 T f args with
    | some v=>pure v
    | none=>if Cc P f then EY (LG P G T pures news n) P G 100000 f args else M.fail
   bZ:=fun f args σ=>if Cc P f then Ie (LG P G T pures news n) P G 100000 f args σ else M.fail
   piece:=fun _ _ _ _=>pure none
   uX:=pure
   find:=fun _ _ _=>pure none
   round:=fun c t σ=>BX (LG P G T pures news n) P G true 100000 c t σ }
theorem WH {P:Program}(G:Nat->Option (List EV))(T:Ia)(hT:Om P G T)(pures news:FuncId->Bool)(hm:P.follows .mixedOrders=true):∀ n,dK (fun _:Unit=>True) P G (LG P G T pures news n):=by
 have hchk:∀ b:Bool,Ok (fun _:Unit=>True) (if b then pure () else M.fail:M Unit Unit) fun _=>b=true:=fun b=>Ok.ite (fun h=>Ok.pure h) fun _=>Ok.fail;intro n;induction n with
 | zero=>exact WD G pures news hm 0
 | succ n ih=>
  exact {
    br:=fun b=>Ok.pure rfl,bJ:=hchk,nw:=fun b=>Ok.pure id,mode:=fun f=>Ok.pure trivial,fresh:=fun f=>Ok.pure trivial,room:=fun _=>Ok.pure trivial
    dC:=fun f args=>by
     show Ok _ (match G7 T f args with | some v=>pure v | none=>if Cc P f then EY (LG P G T pures news n) P G 100000 f args else M.fail) _;split
     ·rename_i v hv;exact Ok.pure (Iy T hT f args v hv)
     ·exact Ok.ite (fun he s v s' h hv=>JD ih hm he h hv) fun _=>Ok.fail
    bZ:=fun f args=>fun σ=>Ok.ite (fun he s r s' h hv=>⟨trivial,LB ih hm he h hv⟩) fun _=>Ok.fail
    round:=fun c t σ=>(D7 ih hm true 100000 c t σ).mono fun r h=>h.1
    piece:=fun rnd c t σ=>Ok.pure (fun r h=>by cases h)
    uX:=fun q=>Ok.pure rfl,find:=fun _ _ _=>Ok.pure (fun r h=>by cases h) }
def Qb (v:EV):Option (EV×Unit)->Bool
 | some (x,_)=>GF 40 x v
 | none=>false
theorem Eg {P:Program}{G:Nat->Option (List EV)}{T:Ia}(hT:Om P G T){pures news:FuncId->Bool}{n fuel:Nat}{f:FuncId}{args:List EV}{v:EV}(hm:P.follows .mixedOrders=true)(he:Cc P f=true)
  (h:Qb v (EY (LG P G T pures news n) P G fuel f args ())=true):uY P G f args v:=by
 cases hr:EY (LG P G T pures news n) P G fuel f args () with
 | none=>rw [hr] at h; cases h
 | some r=>
  obtain ⟨x,u⟩:=r;rw [hr] at h;exact (JD (WH G T hT pures news hm n) hm he hr trivial).2.res (RI 40 x v h)
end Go.Ev
namespace Go.Ev
def F1:List EV:=[.int .u8 0,.int .u8 1,.int .u8 28,.int .u8 2,.int .u8 29,.int .u8 14,.int .u8 24,.int .u8 3,.int .u8 30,.int .u8 22,.int .u8 20,.int .u8 15,.int .u8 25,.int .u8 17,.int .u8 4,.int .u8 8,.int .u8 31,.int .u8 27,.int .u8 13,.int .u8 23,.int .u8 21,.int .u8 19,.int .u8 16,.int .u8 7,.int .u8 26,.int .u8 12,.int .u8 18,.int .u8 6,.int .u8 11,.int .u8 5,.int .u8 10,.int .u8 9]
def F2:List EV:=[.int .u8 0,.int .u8 1,.int .u8 56,.int .u8 2,.int .u8 57,.int .u8 49,.int .u8 28,.int .u8 3,.int .u8 61,.int .u8 58,.int .u8 42,.int .u8 50,.int .u8 38,.int .u8 29,.int .u8 17,.int .u8 4,.int .u8 62,.int .u8 47,.int .u8 59,.int .u8 36,.int .u8 45,.int .u8 43,.int .u8 51,.int .u8 22,.int .u8 53,.int .u8 39,.int .u8 33,.int .u8 30,.int .u8 24,.int .u8 18,.int .u8 12,.int .u8 5,.int .u8 63,.int .u8 55,.int .u8 48,.int .u8 27,.int .u8 60,.int .u8 41,.int .u8 37,.int .u8 16,.int .u8 46,.int .u8 35,.int .u8 44,.int .u8 21,.int .u8 52,.int .u8 32,.int .u8 23,.int .u8 11,.int .u8 54,.int .u8 26,.int .u8 40,.int .u8 15,.int .u8 34,.int .u8 20,.int .u8 31,.int .u8 10,.int .u8 25,.int .u8 14,.int .u8 19,.int .u8 9,.int .u8 13,.int .u8 8,.int .u8 7,.int .u8 6]
def Eb:List EV:=[.int .u64 1,.int .u64 10,.int .u64 100,.int .u64 1000,.int .u64 10000,.int .u64 100000,.int .u64 1000000,.int .u64 10000000,.int .u64 100000000,.int .u64 1000000000,.int .u64 10000000000,.int .u64 100000000000,.int .u64 1000000000000,.int .u64 10000000000000,.int .u64 100000000000000,.int .u64 1000000000000000,.int .u64 10000000000000000,.int .u64 100000000000000000,.int .u64 1000000000000000000,.int .u64 10000000000000000000]
def HI:List EV:=[.int .i64 0,.int .i64 0,.int .i64 2,.int .i64 24,.int .i64 0,.int .i64 46,.int .i64 0,.int .i64 1,.int .i64 2,.int .i64 24]
end Go.Ev
