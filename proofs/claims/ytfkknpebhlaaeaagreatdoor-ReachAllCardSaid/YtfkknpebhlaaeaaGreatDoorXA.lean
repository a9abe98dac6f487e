/- A part of the proof. -/
import Derived.Calls
import Derived.Laws.Sem
import Derived.Laws.World
import Derived.Orders
import Derived.OrdersIn
import Derived.Laws.Strings
import Derived.Laws.StructEq
import Derived.Laws.Tables
set_option linter.unusedSimpArgs false
set_option linter.unusedVariables false
set_option linter.unusedSectionVars false
namespace Go.Ev
theorem uL {p:Prop}[Decidable p](h:¬p):decide p=false:=decide_eq_false h
theorem uK {p:Prop}[Decidable p](h:p):decide p=true:=decide_eq_true h
theorem uJ (n:Nat):0+n=n:=Nat.zero_add n
theorem uG (n:Nat):((n:Int)).toNat=n:=rfl
theorem uF (a b:Bool):((a && b)=true)=(a=true/\b=true):=Bool.and_eq_true a b
theorem uE {α β:Type}(a:α)(w:World)(f:α->World->Result β):(Result.ok a w).andThen f=f a w:=rfl
theorem uD {α:Type _}{l:List α}{i:Nat}(h:i<l.length):l[i]? =some l[i]:=List.getElem?_eq_getElem h
theorem uC {α:Type _}{a b:α}(h:some a=some b):a=b:=Option.some.inj h
theorem uB {α:Type _}(a b:α):(some a=some b)=(a=b):=Option.some.injEq a b
theorem uA {α:Type _}{l:List α}{i:Nat}{a:α}:l.getD i a=l[i]?.getD a:=List.getD_eq_getElem?_getD
inductive EV where
 | undef
 | bool (b:Bool)
 | int (k:IntKind) (n:Int)
 | str (s:ByteArray)
 | aH
 | cU
 | dL
 | dA
 | ptr (r k:Nat)
 | pe (r esz i k:Nat)
 | ms (r esz off len:Nat) (cap:Option Nat)
 | mm (r:Nat)
 | it (r:Nat)
 | ip (cells:List EV) (k:Nat)
 | uS (nn:Bool) (esz len:Nat) (row:Nat->List EV)
 | im (es:List (EV×EV))
 | agg (cs:List EV)
 | tuple (vs:List EV)
 | func (fn:Fn) (first captured:List EV)
 | iface (t:TypeId) (v:EV)
 | raw (p:Option Addr) (len cap:Nat)
 deriving Inhabited
inductive fE where
 | free
 | dead
 | var (fr pf:Bool) (cells:List EV)
 | arr (fr pf:Bool) (esz:Nat) (exact:Bool) (len:Nat) (row:Nat->List EV)
 | map (fr pf:Bool) (es:List (EV×EV))
 | loop (st:LoopState) (tmps:List EV) (ps:Array Tmp) (assign body:Code) (pend:Option Code)
 | dfr
 | flat (fr:Bool) (len:Nat) (cell:Nat->EV) (over:List (Nat×EV))
 deriving Inhabited
abbrev AL:=List fE
def cellAt (w:World)(b i:Nat):Option Value:=
 match w.heap[b]? with
 | some (.cells c _ _)=>c[i]?
 | _=>none
theorem cell?_eq (w:World)(b i:Nat):w.cell? ⟨b,i,none⟩=cellAt w b i:=by
 unfold World.cell? cellAt;split<;>simp_all
theorem F5 {w w':World}{b:Nat}(h:w'.heap[b]? =w.heap[b]?)(i:Nat):cellAt w' b i=cellAt w b i:=by
 unfold cellAt; rw [h]
inductive PR (F:Nat->Prop) (w:World):EV->Value->Prop where
 | undef (v):PR F w .undef v
 | bool (b):PR F w (.bool b) (.bool b)
 | int (k n):PR F w (.int k n) (.int k n)
 | str (s):PR F w (.str s) (.string s)
 | aH:PR F w .aH (.pointer none)
 | cU:PR F w .cU (.map none)
 | dL:PR F w .dL .nilFunc
 | dA:PR F w .dA .nilIface
 | ip (cells:List EV) (k b o:Nat) (mv:Nat->Value) (hF:F b) (hk:k<cells.length)
   (hc:∀ j (_:j<cells.length),cellAt w b (o+j)=some (mv j)/\(mv j).oneCell'=true) (hv:∀ j (h:j<cells.length),PR F w cells[j] (mv j)):
   PR F w (.ip cells k) (.pointer (some ⟨b,o+k,none⟩))
 | bB (esz row):PR F w (.uS false esz 0 row) (.slice none 0 0)
 | uS (esz len:Nat) (row:Nat->List EV) (b o cap:Nat) (mv:Nat->Nat->Value) (hF:0<len->F b) (hcap:len<=cap)
   (sp:Option Nat) (hsp:0<len->sp=none)
   (hl:∀ i,i<len->(row i).length=esz)
   (hc:∀ i,i<len->∀ j,j<esz->cellAt w b (o+i*esz+j)=some (mv i j)/\(mv i j).oneCell'=true)
   (hv:∀ i,i<len->∀ j (h:j<(row i).length),PR F w (row i)[j] (mv i j)):
   PR F w (.uS true esz len row) (.slice (some ⟨b,o,sp⟩) len cap)
 | im (es:List (EV×EV)) (b:Nat) (mes:Array MapEntry) (clock:Nat) (hF:F b) (hm:w.heap[b]? =some (.map mes clock))
   (hl:es.length=mes.size) (hk:∀ i (h:i<es.length) (h':i<mes.size),PR F w es[i].1 mes[i].key)
   (hv:∀ i (h:i<es.length) (h':i<mes.size),PR F w es[i].2 mes[i].val):PR F w (.im es) (.map (some b))
 | agg (cs:List EV) (mcs:Array Value) (hl:cs.length=mcs.size) (h1:∀ i (h':i<mcs.size),(mcs[i]).oneCell'=true)
   (h:∀ i (h:i<cs.length) (h':i<mcs.size),PR F w cs[i] mcs[i]):PR F w (.agg cs) (.agg mcs)
 | tuple (cs:List EV) (mcs:Array Value) (hl:cs.length=mcs.size)
   (h:∀ i (h:i<cs.length) (h':i<mcs.size),PR F w cs[i] mcs[i]):PR F w (.tuple cs) (.tuple mcs)
 | func (fn:Fn) (first captured:List EV) (mf mc:Array Value) (hl:first.length=mf.size) (hl':captured.length=mc.size)
   (h:∀ i (h:i<first.length) (h':i<mf.size),PR F w first[i] mf[i])
   (h':∀ i (h:i<captured.length) (h':i<mc.size),PR F w captured[i] mc[i]):PR F w (.func fn first captured) (.func fn mf mc)
 | iface (t v mv) (h:PR F w v mv):PR F w (.iface t v) (.iface t mv)
 | raw (p len cap):PR F w (.raw p len cap) (.slice p len cap)
structure KM where
 vP:Nat->Nat
 off:Nat->Nat
 ext:Nat->Nat
 len:Nat->Nat
 al:Nat->Prop
 F:Nat->Prop
inductive VR (K:KM) (w:World):EV->Value->Prop where
 | pure (v mv) (h:PR K.F w v mv):VR K w v mv
 | ptr (r k) (ha:K.al r):VR K w (.ptr r k) (.pointer (some ⟨K.vP r,K.off r+k,none⟩))
 | pe (r esz i k) (ha:K.al r) (hi:i<K.len r):VR K w (.pe r esz i k) (.pointer (some ⟨K.vP r,K.off r+i*esz+k,none⟩))
 | ms (r esz off len cap mcap) (a:Addr) (ha:K.al r) (hle:len<=mcap) (hlen:off+len<=K.len r)
   (hcap:∀ c,cap=some c->mcap=c/\off+c<=K.len r)
   (hnone:cap=none->K.off r+(off+mcap)*esz=K.ext r)
   (haddr:mcap≠0->a=⟨K.vP r,K.off r+off*esz,none⟩):
   VR K w (.ms r esz off len cap) (.slice (some a) len mcap)
 | mm (r) (ha:K.al r):VR K w (.mm r) (.map (some (K.vP r)))
 | it (r) (ha:K.al r):VR K w (.it r) (.func (.yield (K.vP r)) #[] #[])
 | agg (cs:List EV) (mcs:Array Value) (hl:cs.length=mcs.size) (h1:∀ i (h':i<mcs.size),(mcs[i]).oneCell'=true)
   (h:∀ i (h:i<cs.length) (h':i<mcs.size),VR K w cs[i] mcs[i]):VR K w (.agg cs) (.agg mcs)
 | tuple (cs:List EV) (mcs:Array Value) (hl:cs.length=mcs.size)
   (h:∀ i (h:i<cs.length) (h':i<mcs.size),VR K w cs[i] mcs[i]):VR K w (.tuple cs) (.tuple mcs)
 | func (fn:Fn) (first captured:List EV) (mf mc:Array Value) (hl:first.length=mf.size) (hl':captured.length=mc.size)
   (h:∀ i (h:i<first.length) (h':i<mf.size),VR K w first[i] mf[i])
   (h':∀ i (h:i<captured.length) (h':i<mc.size),VR K w captured[i] mc[i]):VR K w (.func fn first captured) (.func fn mf mc)
 | iface (t v mv) (h:VR K w v mv):VR K w (.iface t v) (.iface t mv)
def aU (K:KM)(w:World)(vs:List EV)(mvs:Array Value):Prop:=
 vs.length=mvs.size/\∀ i (h:i<vs.length) (h':i<mvs.size),VR K w vs[i] mvs[i]
def Tl (F:Nat->Prop)(w w':World):Prop:=∀ b,F b->w'.heap[b]? =w.heap[b]?
theorem PR.mono {F F':Nat->Prop}{w w':World}(hF:∀ b,F b->F' b)(hs:Tl F w w'){v:EV}{mv:Value}(h:PR F w v mv):PR F' w' v mv:=by
 induction h with
 | undef v=>exact .undef v
 | bool b=>exact .bool b
 | int k n=>exact .int k n
 | str s=>exact .str s
 | aH=>exact .aH
 | cU=>exact .cU
 | dL=>exact .dL
 | dA=>exact .dA
 | ip cells k b o mv hb hk hc _ ih=>
  exact .ip cells k b o mv (hF _ hb) hk (fun j h=>by rw [F5 (hs b hb)]; exact hc j h) (fun j h=>ih j h)
 | bB esz row=>exact .bB esz row
 | uS esz len row b o cap mv hb hcap sp hsp hl hc _ ih=>
  exact .uS esz len row b o cap mv (fun h=>hF _ (hb h)) hcap sp hsp hl (fun i h j h'=>by rw [F5 (hs b (hb (by omega)))]; exact hc i h j h') (fun i h j h'=>ih i h j h')
 | im es b mes clock hb hm hl _ _ ihk ihv=>exact .im es b mes clock (hF _ hb) ((hs b hb).trans hm) hl ihk ihv
 | agg cs mcs hl h1 _ ih=>exact .agg cs mcs hl h1 ih
 | tuple cs mcs hl _ ih=>exact .tuple cs mcs hl ih
 | func fn a c mf mc hl hl' _ _ ih ih'=>exact .func fn a c mf mc hl hl' ih ih'
 | iface t v mv _ ih=>exact .iface t v mv ih
 | raw p len cap=>exact .raw p len cap
def EV.plain:EV->Bool
 | .undef | .bool _ | .int .. | .str _ | .aH | .cU | .dL | .dA | .ip .. | .uS .. | .im _ | .raw ..=>true
 | .ptr .. | .pe .. | .ms .. | .mm _ | .it _=>false
 | .agg cs=>go cs
 | .tuple cs=>go cs
 | .func _ a b=>go a && go b
 | .iface _ v=>v.plain
where
 go:List EV->Bool
  | []=>true
  | x :: xs=>x.plain && go xs
theorem Kl {cs:List EV}(h:EV.plain.go cs=true):∀ i (hi:i<cs.length),(cs[i]).plain=true:=by
 induction cs with
 | nil=>intro i hi; simp at hi
 | cons x xs ih=>
  simp only [EV.plain.go,uF] at h;intro i hi;cases i with
  | zero=>exact h.1
  | succ i=>exact ih h.2 i (by simpa using hi)
theorem VR.cN {K:KM}{w:World}{v:EV}{mv:Value}(h:VR K w v mv):v.plain=true->PR K.F w v mv:=by
 induction h with
 | pure v mv h=>exact fun _=>h
 | ptr r k=>intro h; simp [EV.plain] at h
 | pe=>intro h; simp [EV.plain] at h
 | ms=>intro h; simp [EV.plain] at h
 | mm r=>intro h; simp [EV.plain] at h
 | it r=>intro h; simp [EV.plain] at h
 | agg cs mcs hl h1 _ ih=>intro h; exact .agg cs mcs hl h1 fun i h1 h2=>ih i h1 h2 (Kl (by simpa [EV.plain] using h) i h1)
 | tuple cs mcs hl _ ih=>intro h; exact .tuple cs mcs hl fun i h1 h2=>ih i h1 h2 (Kl (by simpa [EV.plain] using h) i h1)
 | func fn a c mf mc hl hl' _ _ ih ih'=>
  intro h;simp only [EV.plain,uF] at h;exact .func fn a c mf mc hl hl' (fun i h1 h2=>ih i h1 h2 (Kl h.1 i h1)) (fun i h1 h2=>ih' i h1 h2 (Kl h.2 i h1))
 | iface t v mv _ ih=>intro h; exact .iface t v mv (ih (by simpa [EV.plain] using h))
def fE.live:fE->Bool
 | .free=>false
 | .dead=>false
 | .var fr _ _ | .arr fr _ _ _ _ _ | .map fr _ _=>!fr
 | .loop ..=>true
 | .dfr=>true
 | .flat fr _ _ _=>!fr
def fE.there:fE->Bool
 | .free=>false
 | .dead=>false
 | _=>true
def Ay:List (Nat×EV)->Nat->Option EV
 | [],_=>none
 | (u,v) :: rest,k=>if k=u then some v else Ay rest k
def OR (K:KM)(w:World)(r:Nat):fE->Prop
 | .free=>¬ K.al r
 | .dead=>True
 | .var fr pf cells=>K.al r/\K.off r=0/\∃ (c:Array Value) (e:TypeId),w.heap[K.vP r]? =some (.cells c e (0,0))/\c.size=cells.length/\
   K.ext r=c.size/\(∀ j (h:j<c.size),(c[j]).oneCell'=true)/\(fr=true->K.F (K.vP r))/\(∀ i (h:i<cells.length) (h':i<c.size),VR K w cells[i] c[i])/\
   (pf=true->∀ i (h:i<cells.length) (h':i<c.size),PR K.F w cells[i] c[i])
 | .arr fr pf esz exact len row=>K.al r/\K.len r=len/\∃ (c:Array Value) (e:TypeId) (fz:Nat×Nat),w.heap[K.vP r]? =some (.cells c e fz)/\
   (∀ j,j<c.size->(fz.1<=j && j<fz.2)=false)/\
   K.ext r=c.size/\(∀ j (h:j<c.size),(c[j]).oneCell'=true)/\K.off r+len*esz<=c.size/\(exact=true->K.off r+len*esz=c.size/\fz.1=fz.2)/\(fr=true->K.F (K.vP r))/\
   (∀ i,i<len->(row i).length=esz)/\
   (∀ i,i<len->∀ j (h:j<(row i).length) (h':K.off r+i*esz+j<c.size),VR K w (row i)[j] c[K.off r+i*esz+j])/\
   (pf=true->∀ i,i<len->∀ j (h:j<(row i).length) (h':K.off r+i*esz+j<c.size),PR K.F w (row i)[j] c[K.off r+i*esz+j])
 | .map fr pf es=>K.al r/\∃ (mes:Array MapEntry) (clock:Nat),w.heap[K.vP r]? =some (.map mes clock)/\es.length=mes.size/\(fr=true->K.F (K.vP r))/\
   (∀ i (h:i<es.length) (h':i<mes.size),VR K w es[i].1 mes[i].key/\VR K w es[i].2 mes[i].val)/\
   (∀ i (h:i<es.length) (h':i<mes.size),PR K.F w es[i].1 mes[i].key)/\
   (pf=true->∀ i (h:i<es.length) (h':i<mes.size),PR K.F w es[i].2 mes[i].val)/\
   clock=mes.size/\(∀ i (h:i<mes.size),(mes[i]).born=i)
 | .loop st tmps ps assign body pend=>K.al r/\∃ (fn:FuncId) (mt:Array Value) (d:Nat),w.heap[K.vP r]? =some (.loop { state:=st,pending:=pend,fn:=fn,tmps:=mt,params:=ps,assign:=assign,body:=body,defers:=d })/\
   tmps.length=mt.size/\∀ i (h:i<tmps.length) (h':i<mt.size),VR K w tmps[i] mt[i]
 | .dfr=>K.al r/\w.heap[K.vP r]? =some (.deferred (some []))
 | .flat fr len cell over=>K.al r/\K.off r=0/\K.len r=len/\0<len/\∃ (c:Array Value) (e:TypeId),w.heap[K.vP r]? =some (.cells c e (0,0))/\c.size=len/\
   K.ext r=c.size/\(∀ j (h:j<c.size),(c[j]).oneCell'=true)/\(fr=true->K.F (K.vP r))/\
   (∀ i (h:i<c.size),(∃ v,Ay over i=some v/\VR K w v c[i])∨(Ay over i=none/\PR K.F w (cell i) c[i]))
def aD (K:KM)(σ:AL)(b:Nat):Prop:=∃ r o,σ[r]? =some o/\o.live=true/\K.vP r=b
structure Rel (K:KM) (σ:AL) (w:World):Prop where
 obj:∀ r o,σ[r]? =some o->OR K w r o
 inj:∀ r r' o o',σ[r]? =some o->σ[r']? =some o'->o.live=true->o'.live=true->K.vP r=K.vP r'->r=r'
 cD:∀ b,aD K σ b->¬ K.F b
 lt:∀ r o,σ[r]? =some o->o.there=true->K.vP r<w.heap.size
 Flt:∀ b,K.F b->b<w.heap.size
 alt:∀ r,K.al r->r<σ.length
structure Ext (K:KM) (σ:AL) (w:World) (K':KM) (σ':AL) (w':World):Prop where
 len:σ.length<=σ'.length
 al:∀ r,K.al r->K'.al r
 vP:∀ r,K.al r->K'.vP r=K.vP r/\K'.off r=K.off r/\K'.ext r=K.ext r/\K'.len r=K.len r
 F:∀ b,K.F b->K'.F b
 F':∀ b,K'.F b->K.F b∨w.heap.size<=b∨aD K σ b
 own:∀ b,aD K' σ' b->w.heap.size<=b∨aD K σ b
 stay:∀ b,b<w.heap.size->¬ aD K σ b->w'.heap[b]? =w.heap[b]?
 size:w.heap.size<=w'.heap.size
 os:w'.os=w.os
 tape:w'.tape=w.tape
 output:w'.output=w.output
theorem Ext.refl (K:KM)(σ:AL)(w:World):Ext K σ w K σ w:=
 ⟨Nat.le_refl _,fun _ h=>h,fun _ _=>⟨rfl,rfl,rfl,rfl⟩,fun _ h=>h,fun _ h=>.inl h,fun _ h=>.inr h,fun _ _ _=>rfl,Nat.le_refl _,rfl,rfl,rfl⟩
theorem Ext.trans {K K' K'':KM}{σ σ' σ'':AL}{w w' w'':World}(h:Ext K σ w K' σ' w')(g:Ext K' σ' w' K'' σ'' w''):Ext K σ w K'' σ'' w'':=by
 refine ⟨Nat.le_trans h.len g.len,fun r hr=>g.al r (h.al r hr),?_,fun b hb=>g.F b (h.F b hb),?_,?_,?_,Nat.le_trans h.size g.size,g.os.trans h.os,g.tape.trans h.tape,g.output.trans h.output⟩
 ·intro r hr;obtain ⟨a1,a2,a3,a4⟩:=h.vP r hr;obtain ⟨b1,b2,b3,b4⟩:=g.vP r (h.al r hr);exact ⟨b1.trans a1,b2.trans a2,b3.trans a3,b4.trans a4⟩
 ·intro b hb;rcases g.F' b hb with h1 | h1 | h1
  ·exact h.F' b h1
  ·exact .inr (.inl (Nat.le_trans h.size h1))
  ·exact .inr (h.own b h1)
 ·intro b hb;rcases g.own b hb with h1 | h1
  ·exact .inl (Nat.le_trans h.size h1)
  ·exact h.own b h1
 ·intro b hb hn;rw [g.stay b (Nat.lt_of_lt_of_le hb h.size) (fun ho=>by rcases h.own b ho with h1 | h1; omega; exact hn h1),h.stay b hb hn]
theorem Ext.stayF {K K':KM}{σ σ':AL}{w w':World}(h:Ext K σ w K' σ' w')(hr:Rel K σ w):Tl K.F w w':=
 fun b hb=>h.stay b (hr.Flt b hb) (fun ho=>hr.cD b ho hb)
theorem PR.ext {K K':KM}{σ σ':AL}{w w':World}(h:Ext K σ w K' σ' w')(hr:Rel K σ w){v:EV}{mv:Value}(hv:PR K.F w v mv):PR K'.F w' v mv:=
 hv.mono h.F (h.stayF hr)
theorem VR.ext {K K':KM}{σ σ':AL}{w w':World}(h:Ext K σ w K' σ' w')(hr:Rel K σ w){v:EV}{mv:Value}(hv:VR K w v mv):VR K' w' v mv:=by
 induction hv with
 | pure v mv hp=>exact .pure v mv (hp.ext h hr)
 | ptr r k ha=>obtain ⟨h1,h2,h3,h4⟩:=h.vP r ha; rw [<-h1,<-h2]; exact .ptr r k (h.al r ha)
 | pe r esz i k ha hi=>obtain ⟨h1,h2,h3,h4⟩:=h.vP r ha; rw [<-h1,<-h2]; exact .pe r esz i k (h.al r ha) (h4▸hi)
 | ms r esz off len cap mcap a ha hle hlen hcap hnone haddr=>
  obtain ⟨h1,h2,h3,h4⟩:=h.vP r ha;exact .ms r esz off len cap mcap a (h.al r ha) hle (h4▸hlen) (fun c hc=>by rw [h4]; exact hcap c hc) (fun hn=>by rw [h2,h3]; exact hnone hn)
   (fun hm=>by rw [h1,h2]; exact haddr hm)
 | mm r ha=>obtain ⟨h1,h2,h3,h4⟩:=h.vP r ha; rw [<-h1]; exact .mm r (h.al r ha)
 | it r ha=>obtain ⟨h1,h2,h3,h4⟩:=h.vP r ha; rw [<-h1]; exact .it r (h.al r ha)
 | agg cs mcs hl h1 _ ih=>exact .agg cs mcs hl h1 ih
 | tuple cs mcs hl _ ih=>exact .tuple cs mcs hl ih
 | func fn a c mf mc hl hl' _ _ ih ih'=>exact .func fn a c mf mc hl hl' ih ih'
 | iface t v mv _ ih=>exact .iface t v mv ih
end Go.Ev
namespace Go.Ev
def M (S:Type)(α:Type):Type:=S->Option (α×S)
namespace M
variable {S α β:Type}
def pure (a:α):M S α:=fun s=>some (a,s)
def bind (m:M S α)(f:α->M S β):M S β:=fun s=>
 match m s with
 | some (a,s')=>f a s'
 | none=>none
instance:Monad (M S) where
 pure:=M.pure
 bind:=M.bind
def fail:M S α:=fun _=>none
def lift (x:Option α):M S α:=fun s=>match x with | some a=>some (a,s) | none=>none
end M
inductive EX where
 | normal
 | leave (id:Nat)
 | ret
 deriving Inhabited
noncomputable def Ry (l:List EV):Nat->EV:=List.rec (motive:=fun _=>Nat->EV) (fun _=>.undef) (fun v _ ih n=>Nat.rec (motive:=fun _=>EV) v (fun m _=>ih m) n) l
noncomputable def vQ (l:List EV)(v:EV):Nat->List EV:=List.rec (motive:=fun _=>Nat->List EV) (fun _=>[]) (fun a as ih n=>Nat.rec (motive:=fun _=>List EV) (v :: as) (fun m _=>a :: ih m) n) l
theorem GI (l:List EV)(n:Nat):Ry l n=l.getD n .undef:=by
 induction l generalizing n with
 | nil=>simp [Ry]
 | cons v l ih=>
  cases n with
  | zero=>rfl
  | succ n=>simp only [List.getD_cons_succ]; rw [<-ih]; rfl
theorem M3 (l:List EV)(v:EV)(n:Nat):vQ l v n=l.set n v:=by
 induction l generalizing n with
 | nil=>rfl
 | cons a l ih=>
  cases n with
  | zero=>rfl
  | succ n=>simp only [List.set_cons_succ]; rw [<-ih]; rfl
noncomputable section
abbrev eB:=List (Nat×fE)
inductive Eff where
 | eR (l:eB)
 | heap (σ:AL)
structure Drv (S:Type) where
 br:Bool->M S Bool
 bJ:Bool->M S Unit
 nw:Bool->M S Bool
 mode:FuncId->M S Bool
 dC:FuncId->List EV->M S EV
 fresh:FuncId->M S Bool
 room:Bool->M S Nat
 bZ:FuncId->List EV->AL->M S (EV×AL)
 piece:Bool->Code->List EV->AL->M S (Option (EX×List EV×AL))
 round:Code->List EV->AL->M S (EX×List EV×AL)
 uX:EV×Eff->M S (EV×Eff)
 find:Go.TypeId->EV->List (EV×EV)->M S (Option (Option (Nat×EV)))
def BP (P:Program)(t:TypeId):Option Nat:=(P.info? t).map (·.size)
def KJ (P:Program)(t:TypeId):Option Bool:=match P.underlying t with | some (.struct _) | some (.array _ _)=>some true | some _=>some false | none=>none
def EV.ofCell:Value->EV
 | .bool b=>.bool b
 | .int k n=>.int k n
 | .string s=>.str s
 | .pointer none=>.aH
 | .slice none 0 0=>.uS false 0 0 fun _=>[]
 | .map none=>.cU
 | .nilFunc=>.dL
 | .nilIface=>.dA
 | _=>.undef
def EV.ofValue:Value->EV
 | .agg cs=>.agg (cs.toList.map EV.ofCell)
 | .iface t v=>.iface t (EV.ofCell v)
 | v=>EV.ofCell v
def EV.cells:EV->Option (List EV)
 | .agg cs=>some cs
 | .undef | .tuple _=>none
 | v=>some [v]
def flat:Value->Bool
 | .agg cs=>cs.all Value.oneCell'
 | .tuple _=>false
 | _=>true
def zeroV (P:Program)(t:TypeId):Option EV:=(P.info? t).bind fun i=>i.zero.bind fun v=>if flat v then some (EV.ofValue v) else none
def G0 (P:Program)(t:TypeId):Option (List EV):=(P.info? t).bind fun i=>i.zero.bind fun v=>if flat v then some (v.cells.toList.map EV.ofCell) else none
def By (cells:List EV)(k n:Nat)(agg:Bool):Option EV:=
 if agg then if k+n<=cells.length then some (.agg ((cells.drop k).take n)) else none
 else cells[k]?
def DG (cells:List EV)(k:Nat)(vs:List EV):Option (List EV):=
 if k+vs.length<=cells.length then some (cells.take k++vs++cells.drop (k+vs.length)) else none
abbrev B5:=Nat->Option fE
section
variable {S:Type}(D:Drv S)(P:Program)
def Sz {S:Type}(D:Drv S)(k:Nat)(d:EV):List (Nat×EV)->M S EV
 | []=>pure d
 | (u,v) :: rest=>do if<-D.br (decide (k=u)) then pure v else Sz D k d rest
def Km {S:Type}(D:Drv S)(k:Nat)(x:EV):List (Nat×EV)->M S (Bool×List (Nat×EV))
 | []=>pure (false,[])
 | (u,v) :: rest=>do
  if<-D.br (decide (k=u)) then pure (true,(u,x) :: rest) else do
   let q<-Km D k x rest
   pure (q.1,(u,v) :: q.2)
def Vv (look:B5)(t:TypeId)(a:EV):M S EV:=do
 let n<-M.lift (BP P t)
 let g<-M.lift (KJ P t)
 match a with
 | .ip cells k=>M.lift (By cells k n g)
 | .ptr r k=>match look r with
  | some (.var _ _ cells)=>M.lift (By cells k n g)
  | _=>M.fail
 | .pe r esz i k=>match look r with
  | some (.arr _ _ esz' _ _ row)=>if esz=esz' then M.lift (By (row i) k n g) else M.fail
  | some (.flat _ len cell over)=>if esz=0/\n=1/\g=false then D.bJ (decide (k<len)) >>= fun _=>Sz D k (cell k) over else M.fail
  | _=>M.fail
 | _=>M.fail
def ZP (look:B5)(t:TypeId)(a:EV):Option EV:=
 match BP P t,KJ P t with
 | some n,some g=>match a with
  | .ip cells k=>By cells k n g
  | .ptr r k=>match look r with
   | some (.var _ _ cells)=>By cells k n g
   | _=>none
  | .pe r esz i k=>match look r with
   | some (.arr _ _ esz' _ _ row)=>if esz=esz' then By (row i) k n g else none
   | _=>none
  | _=>none
 | _,_=>none
def CB:List EV->Bool
 | []=>true
 | v :: vs=>v.plain && CB vs
def M4 (cell:Nat->EV)(k:Nat)(v:EV):Nat->EV:=fun j=>if j=k then v else cell j
def BC (row:Nat->List EV)(i:Nat)(c:List EV):Nat->List EV:=fun j=>if j=i then c else row j
def QB (esz:Nat)(cells:List EV)(k:Nat)(vs:List EV):Option (List EV):=
 bif Nat.beq k 0 && Nat.beq vs.length esz then some vs else DG cells k vs
def Rz (look:B5)(t:TypeId)(a v:EV):M S eB:=do
 let n<-M.lift (BP P t)
 let vs<-M.lift v.cells
 if vs.length≠n then M.fail else
 match a with
 | .ptr r k=>match look r with
  | some (.var false pf cells)=>do
   let cells'<-M.lift (DG cells k vs)
   pure [(r,.var false (pf && CB vs) cells')]
  | _=>M.fail
 | .pe r esz i k=>match look r with
  | some (.arr false pf esz' ex len row)=>
   if esz=esz' then do
    let c<-M.lift (QB esz (row i) k vs)
    pure [(r,.arr false (pf && CB vs) esz ex len (BC row i c))]
   else M.fail
  | some (.flat false len cell over)=>
   if esz=0/\n=1 then (do
    D.bJ (decide (k<len))
    let q<-Km D k (vs.headD .undef) over
    if q.1=true then pure [(r,.flat false len cell q.2)]
    else if (vs.headD .undef).plain then pure [(r,.flat false len (M4 cell k (vs.headD .undef)) over)] else pure [(r,.flat false len cell ((k,vs.headD .undef) :: over))])
   else M.fail
  | _=>M.fail
 | _=>M.fail
def QC (t:TypeId)(a:EV)(f:Nat):M S EV:=
 match P.underlying t with
 | some (.struct fields)=>match fields[f]? with
  | some fd=>do
   let n<-M.lift (BP P fd.type)
   if n=0 then M.fail else
   match a with
   | .ip cells k=>if k+fd.offset<cells.length then pure (.ip cells (k+fd.offset)) else M.fail
   | .ptr r k=>pure (.ptr r (k+fd.offset))
   | .pe r esz i k=>pure (.pe r esz i (k+fd.offset))
   | _=>M.fail
  | none=>M.fail
 | _=>M.fail
def pick:(n:Nat)->Nat->M S Nat
 | 0,x=>do D.bJ (x==0); pure 0
 | n+1,x=>do if<-D.br (x==n+1) then pure (n+1) else pick n x
def dG (i:Int)(n:Nat):Bool:=decide (0<=i) && decide (i<(n:Int))
def KS (t:TypeId)(x ix:EV):M S EV:=
 match ix with
 | .int _ i=>match P.underlying t with
  | some (.slice elem)=>do
   let n<-M.lift (BP P elem)
   match x with
   | .uS _ esz len row=>if esz≠n∨n=0 then M.fail else do
     D.bJ (dG i len)
     pure (.ip (row i.toNat) 0)
   | .ms r esz off len _=>if esz≠n then M.fail else do
     D.bJ (dG i len)
     pure (.pe r esz (off+i.toNat) 0)
   | _=>M.fail
  | some (.array len elem)=>do
   let n<-M.lift (BP P elem)
   D.bJ (dG i len)
   match x with
   | .pe r 0 i' k=>if n=1 then pure (.pe r 0 i' (k+i.toNat)) else M.fail
   | x=>do
   let j<-pick D (len - 1) i.toNat
   match x with
   | .ip cells k=>if k+j*n<cells.length then pure (.ip cells (k+j*n)) else M.fail
   | .ptr r k=>pure (.ptr r (k+j*n))
   | .pe r esz i' k=>pure (.pe r esz i' (k+j*n))
   | _=>M.fail
  | _=>M.fail
 | _=>M.fail
def R0 (t:TypeId)(x ix:EV):M S EV:=
 match ix with
 | .int _ i=>match P.underlying t,x with
  | some (.array len elem),.agg cs=>do
   let n<-M.lift (BP P elem)
   let g<-M.lift (KJ P elem)
   D.bJ (dG i len)
   let j<-pick D (len - 1) i.toNat
   M.lift (By cs (j*n) n g)
  | some .string,.str s=>do
   D.bJ (dG i s.size)
   pure (.int .u8 (s.data.getD i.toNat 0).toNat)
  | _,_=>M.fail
 | _=>M.fail
def inR (k:IntKind)(n:Int):Bool:=decide (k.min<=n) && decide (n<=k.max)
def Kn (k:IntKind)(n:Int):M S EV:=do
 if<-D.nw (inR k n) then pure (.int k n) else pure (.int k (k.wrap n))
def Xa (op:BinOp)(x y:EV):M S EV:=
 match x,y with
 | .int k a,.int k' b=>
  match op with
  | .shl=>do
   D.bJ (decide (0<=b))
   Kn D k (a*2 ^ (min b.toNat k.bits))
  | .shr=>do
   D.bJ (decide (0<=b))
   pure (.int k (a.fdiv (2 ^ (min b.toNat k.bits))))
  | _=>if k≠k' then M.fail else
   match op with
   | .add=>Kn D k (a+b)
   | .sub=>Kn D k (a - b)
   | .mul=>Kn D k (a*b)
   | .quo=>do
    D.bJ (b != 0)
    Kn D k (a.tdiv b)
   | .rem=>do
    D.bJ (b != 0)
    pure (.int k (a.tmod b))
   | .and=>pure (.int k (k.wrap (BitVec.ofInt k.bits a &&& BitVec.ofInt k.bits b).toNat))
   | .or=>pure (.int k (k.wrap (BitVec.ofInt k.bits a ||| BitVec.ofInt k.bits b).toNat))
   | .xor=>pure (.int k (k.wrap (BitVec.ofInt k.bits a ^^^ BitVec.ofInt k.bits b).toNat))
   | .andNot=>pure (.int k (k.wrap (BitVec.ofInt k.bits a &&& ~~~ (BitVec.ofInt k.bits b)).toNat))
   | .eql=>pure (.bool (a==b))
   | .neq=>pure (.bool (a != b))
   | .lss=>pure (.bool (a<b))
   | .leq=>pure (.bool (a<=b))
   | .gtr=>pure (.bool (a>b))
   | .geq=>pure (.bool (a>=b))
   | _=>M.fail
 | .str a,.str b=>
  match op with
  | .add=>do
   D.bJ (decide (a.size+b.size<2 ^ 63))
   pure (.str (a++b))
  | .eql=>pure (.bool (a.data.toList==b.data.toList))
  | .neq=>pure (.bool (!(a.data.toList==b.data.toList)))
  | .lss=>pure (.bool (Op.bytesLess a.data.toList b.data.toList))
  | .leq=>pure (.bool (Op.bytesLess a.data.toList b.data.toList || a.data.toList==b.data.toList))
  | .gtr=>pure (.bool (!(Op.bytesLess a.data.toList b.data.toList || a.data.toList==b.data.toList)))
  | .geq=>pure (.bool (!(Op.bytesLess a.data.toList b.data.toList)))
  | _=>M.fail
 | _,_=>M.fail
def eqF (P:Program)(eq:TypeId->EV->EV->Option Bool):List Field->List EV->List EV->Option Bool
 | [],_,_=>some true
 | f :: fs,xs,ys=>
  if f.name= "_" then eqF P eq fs xs ys else
  match BP P f.type,KJ P f.type with
  | some n,some g=>match By xs f.offset n g,By ys f.offset n g with
   | some x,some y=>match eq f.type x y,eqF P eq fs xs ys with
    | some a,some b=>some (a && b)
    | _,_=>none
   | _,_=>none
  | _,_=>none
def eqA (P:Program)(eq:TypeId->EV->EV->Option Bool)(elem:TypeId):Nat->Nat->List EV->List EV->Option Bool
 | 0,_,_,_=>some true
 | m+1,i,xs,ys=>
  match BP P elem,KJ P elem with
  | some n,some g=>match By xs (i*n) n g,By ys (i*n) n g with
   | some x,some y=>match eq elem x y,eqA P eq elem m (i+1) xs ys with
    | some a,some b=>some (a && b)
    | _,_=>none
   | _,_=>none
  | _,_=>none
def eqE (P:Program):(depth:Nat)->TypeId->EV->EV->Option Bool
 | 0,_,_,_=>none
 | d+1,t,x,y=>
  match P.underlying t,x,y with
  | some .bool,.bool a,.bool b=>some (a==b)
  | some (.int _),.int k a,.int k' b=>if k=k' then some (a==b) else none
  | some .string,.str a,.str b=>some (a==b)
  | some (.pointer _),.aH,.aH=>some true
  | some (.pointer _),.aH,.ip _ _ | some (.pointer _),.ip _ _,.aH=>some false
  | some (.pointer _),.aH,.ptr _ _ | some (.pointer _),.ptr _ _,.aH=>some false
  | some (.pointer _),.aH,.pe .. | some (.pointer _),.pe ..,.aH=>some false
  | some (.slice _),.uS nn _ _ _,.uS false _ _ _=>some (!nn)
  | some (.slice _),.uS false _ _ _,.uS true _ _ _=>some false
  | some (.slice _),.uS false _ _ _,.ms .. | some (.slice _),.ms ..,.uS false _ _ _=>some false
  | some (.map _ _),.cU,.cU=>some true
  | some (.map _ _),.cU,.mm _ | some (.map _ _),.mm _,.cU | some (.map _ _),.cU,.im _ | some (.map _ _),.im _,.cU=>some false
  | some (.func _ _ _),.dL,.dL=>some true
  | some (.func _ _ _),.dL,.func .. | some (.func _ _ _),.func ..,.dL=>some false
  | some (.interface _),.dA,.iface _ _ | some (.interface _),.iface _ _,.dA=>some false
  | some (.struct fields),.agg xs,.agg ys=>if P.stoodInHeld t then none else eqF P (eqE P d) fields.toList xs ys
  | some (.array len elem),.agg xs,.agg ys=>if (BP P elem).isSome then eqA P (eqE P d) elem len 0 xs ys else none
  | _,_,_=>none
def eEq (op:BinOp)(t:TypeId)(x y:EV):M S EV:=do
 let b<-M.lift (eqE P 40 t x y)
 match op,x with
 | .eql,.agg _=>if P.eqGuardType P.depth t then M.fail else pure (.bool b)
 | .neq,.agg _=>if P.eqGuardType P.depth t then M.fail else pure (.bool (!b))
 | .eql,_=>pure (.bool b)
 | .neq,_=>pure (.bool (!b))
 | _,_=>M.fail
def eUn (op:UnOp)(x:EV):M S EV:=
 match op,x with
 | .neg,.int k n=>Kn D k (0 - n)
 | .xor,.int k n=>pure (.int k (k.wrap (BitVec.ofInt k.bits (if k.signed then -1 else k.max) ^^^ BitVec.ofInt k.bits n).toNat))
 | .not,.bool b=>pure (.bool !b)
 | _,_=>M.fail
def KN (places:Nat->Option (Nat×Nat))(cells:List EV):List (Nat×EV)->Option (List EV)
 | []=>some cells
 | (i,v) :: rest=>match places i with
  | none=>none
  | some (off,size)=>match v.cells with
   | some vs=>if vs.length≠size then none else match DG cells off vs with
    | some cells'=>KN places cells' rest
    | none=>none
   | none=>none
def Ko (P:Program)(fields:Array Field):Option (List (Nat×Nat)):=
 fields.toList.mapM fun f=>(P.info? f.type).map fun i=>(f.offset,i.size)
def R3 (t:TypeId)(parts:List (Nat×EV)):M S EV:=do
 let z<-M.lift (G0 P t)
 match P.underlying t with
 | some (.struct fields)=>do
  let places<-M.lift (Ko P fields)
  let cs<-M.lift (KN (fun i=>places[i]?) z parts)
  pure (.agg cs)
 | some (.array _ elem)=>do
  let n<-M.lift (BP P elem)
  let cs<-M.lift (KN (fun i=>some (i*n,n)) z parts)
  pure (.agg cs)
 | _=>M.fail
def Tm:List (List EV)->List (Nat×EV)->Nat->Option (List (List EV))
 | rows,[],_=>some rows
 | rows,(i,v) :: rest,n=>match v.cells with
  | some vs=>if vs.length=n/\i<rows.length then Tm (rows.set i vs) rest n else none
  | none=>none
def allRows (rows:List (List EV)):Bool:=rows.all CB
def Ik (nm:Nat)(t:TypeId)(len:Nat)(parts:List (Nat×EV)):M S (EV×eB):=
 match P.underlying t with
 | some (.slice elem)=>do
  let n<-M.lift (BP P elem)
  let z<-M.lift (G0 P elem)
  if n=0∨z.length≠n∨len*n>2 ^ 24 then M.fail else
  let rows<-M.lift (Tm (List.replicate len z) parts n)
  pure (.ms nm n 0 len (some len),[(nm,.arr false (allRows rows) n true len fun i=>rows.getD i [])])
 | _=>M.fail
def Xb (P:Program)(t:TypeId):Bool:=
 match P.underlying t with
 | some (.array _ e)=>match P.underlying e with
  | some (.int .u8)=>true
  | _=>false
 | _=>false
def R4 (nm:Nat)(t:TypeId):M S (EV×eB):=do
 let z<-M.lift (G0 P t)
 if Xb P t && Nat.ble 1 z.length then pure (.pe nm 1 0 0,[(nm,.arr false (CB z) 1 true z.length fun i=>[z.getD i .undef])])
 else pure (.ptr nm 0,[(nm,.var false (CB z) z)])
def F6:Nat->List EV->List (Nat×EV)
 | _,[]=>[]
 | i,v :: vs=>match v with
  | .uS false _ 0 _=>F6 (i+1) vs
  | v=>(i,v) :: F6 (i+1) vs
def ZQ (nm:Nat)(v:EV):M S (EV×eB):=do
 let vs<-M.lift v.cells
 if Nat.ble 100 vs.length then pure (.pe nm 0 0 0,[(nm,.flat false vs.length (fun _=>.uS false 0 0 fun _=>[]) (F6 0 vs))])
 else pure (.ptr nm 0,[(nm,.var false (CB vs) vs)])
def rowsOf (look:B5):EV->Option (Nat×Nat×(Nat->List EV)×Bool)
 | .uS _ esz len row=>some (esz,len,row,true)
 | .ms r esz off len _=>match look r with
  | some (.arr _ pf esz' _ _ row)=>if esz=esz' then some (esz,len,(fun i=>row (off+i)),pf) else none
  | _=>none
 | .str s=>some (1,s.size,(fun i=>[.int .u8 (s.data.getD i 0).toNat]),true)
 | _=>none
def Ar (len:Nat)(row row':Nat->List EV):Nat->List EV:=fun i=>if i<len then row i else row' (i - len)
def Aw (off len:Nat)(row row':Nat->List EV):Nat->List EV:=fun i=>if i<off then row i else if i<off+len then row' (i - off) else row i
def QD (look:B5)(nm:Nat)(t:TypeId)(s x:EV):M S (EV×eB):=
 match P.underlying t with
 | some (.slice elem)=>do
  let n<-M.lift (BP P elem)
  let z<-M.lift (G0 P elem)
  if n=0∨z.length≠n then M.fail else
  let (esz,m,xrow,xpf)<-M.lift (rowsOf look x)
  if esz≠n/\m≠0 then M.fail else
  match s with
  | .uS false _ 0 _=>do
   D.bJ (decide (m*((P.info? elem).map (·.bytes)).getD 0<=2 ^ 46) && decide (m<2 ^ 62))
   if<-D.br (decide (m=0)) then pure (.uS false n 0 (fun _=>[]),[]) else
   pure (.ms nm n 0 m none,[(nm,.arr false xpf n false m xrow)])
  | .ms r esz off len cap=>match look r with
   | some (.arr false pf esz' ex olen row)=>
    if esz≠n∨esz'≠n then M.fail else do
    D.bJ (decide ((len+m)*((P.info? elem).map (·.bytes)).getD 0<=2 ^ 46) && decide (len+m<2 ^ 62))
    match cap with
    | some c=>do
     if<-D.br (decide (len+m<=c)) then
      pure (.ms r n off (len+m) (some c),[(r,.arr false (pf && xpf) n ex olen (Aw (off+len) m row xrow))])
     else
      pure (.ms nm n 0 (len+m) none,[(nm,.arr false (pf && xpf) n false (len+m) (Ar len (fun i=>row (off+i)) xrow))])
    | none=>
     pure (.ms nm n 0 (len+m) none,[(nm,.arr false (pf && xpf) n false (len+m) (Ar len (fun i=>row (off+i)) xrow)),(r,.dead)])
   | _=>M.fail
  | _=>M.fail
 | _=>M.fail
def R5 (look:B5)(t:TypeId)(x:EV):M S (EV×eB):=
 match P.underlying t,x with
 | some (.slice elem),.ms r esz off len _=>match look r with
  | some (.arr false pf esz' ex olen row)=>do
   let n<-M.lift (BP P elem)
   let z<-M.lift (G0 P elem)
   if n=0∨z.length≠n∨esz≠n∨esz'≠n then M.fail else
   pure (.undef,[(r,.arr false (pf && CB z) n ex olen (Aw off len row fun _=>z))])
  | _=>M.fail
 | _,_=>M.fail
def Vw (look:B5)(t:TypeId)(d x:EV):M S (EV×eB):=
 match x with
 | .str _=>M.fail
 | x=>
 match P.underlying t,d with
 | some (.slice elem),.ms r esz off len _=>match look r with
  | some (.arr false pf esz' ex olen row)=>do
   let n<-M.lift (BP P elem)
   let (xesz,m,xrow,xpf)<-M.lift (rowsOf look x)
   if n=0∨esz≠n∨esz'≠n∨(xesz≠n/\m≠0) then M.fail else
   if<-D.br (decide (m<=len)) then
    pure (.int .i64 m,[(r,.arr false (pf && xpf) n ex olen (Aw off m row xrow))])
   else
    pure (.int .i64 len,[(r,.arr false (pf && xpf) n ex olen (Aw off len row xrow))])
  | _=>M.fail
 | _,_=>M.fail
def KT (nm:Nat)(t:TypeId)(l c:EV):M S (EV×eB):=
 match P.underlying t,l,c with
 | some (.slice elem),.int _ l,.int _ c=>do
  let n<-M.lift (BP P elem)
  let z<-M.lift (G0 P elem)
  if n=0∨z.length≠n then M.fail else do
  D.bJ (decide (0<=l) && decide (l<=c) && decide (c*((P.info? elem).map (·.bytes)).getD 0<=2 ^ 46) && decide (c<2 ^ 62))
  pure (.ms nm n 0 l.toNat (some c.toNat),[(nm,.arr false (CB z) n true c.toNat fun _=>z)])
 | _,_,_=>M.fail
def Bg (x:Option EV)(dflt:Nat):Option Int:=
 match x with
 | none=>some dflt
 | some (.int _ i)=>some i
 | _=>none
def R6 (look:B5)(t:TypeId)(x:EV)(lo hi mx:Option EV):M S EV:=
 match P.underlying t,x with
 | some .string,.str s=>do
  if mx.isSome then M.fail else
  let h<-M.lift (Bg hi s.size)
  let l<-M.lift (Bg lo 0)
  D.bJ (decide (0<=l) && decide (l<=h) && decide (h<=s.size))
  pure (.str (s.extract l.toNat h.toNat))
 | some (.slice elem),.uS nn esz len row=>do
  let n<-M.lift (BP P elem)
  let h<-M.lift (Bg hi len)
  let l<-M.lift (Bg lo 0)
  let m<-M.lift (Bg mx len)
  if (nn=true/\esz≠n)∨(mx.isSome=true/\hi.isNone=true) then M.fail else do
  D.bJ (decide (0<=l) && decide (l<=h) && decide (h<=m) && decide (m<=len))
  pure (.uS nn esz (h.toNat - l.toNat) fun i=>row (l.toNat+i))
 | some (.slice elem),.ms r esz off len cap=>do
  let n<-M.lift (BP P elem)
  let h<-M.lift (Bg hi len)
  let l<-M.lift (Bg lo 0)
  if esz≠n∨(mx.isSome=true/\hi.isNone=true) then M.fail else
  match mx,cap with
  | none,some c=>do
   D.bJ (decide (0<=l) && decide (l<=h) && decide (h<=c))
   pure (.ms r esz (off+l.toNat) (h.toNat - l.toNat) (some (c - l.toNat)))
  | none,none=>do
   D.bJ (decide (0<=l) && decide (l<=h) && decide (h<=len))
   pure (.ms r esz (off+l.toNat) (h.toNat - l.toNat) none)
  | some m,_=>do
   let m<-M.lift (Bg (some m) 0)
   D.bJ (decide (0<=l) && decide (l<=h) && decide (h<=m) && decide (m<=len))
   pure (.ms r esz (off+l.toNat) (h.toNat - l.toNat) (some (m.toNat - l.toNat)))
 | some (.array cM elem),.pe r esz 0 0=>do
  let n<-M.lift (BP P elem)
  let h<-M.lift (Bg hi cM)
  let l<-M.lift (Bg lo 0)
  if mx.isSome∨esz≠n then M.fail else
  match look r with
  | some (.arr _ _ _ _ len _)=>if len≠cM then M.fail else do
   D.bJ (decide (0<=l) && decide (l<=h) && decide (h<=cM))
   pure (.ms r esz (0+l.toNat) (h.toNat - l.toNat) (some (cM - l.toNat)))
  | _=>M.fail
 | some (.array cM elem),.ip cells k=>do
  let n<-M.lift (BP P elem)
  let h<-M.lift (Bg hi cM)
  let l<-M.lift (Bg lo 0)
  if mx.isSome∨n=0∨k+cM*n>cells.length then M.fail else do
  D.bJ (decide (0<=l) && decide (l<=h) && decide (h<=cM))
  pure (.uS true n (h.toNat - l.toNat) fun i=>(cells.drop (k+(l.toNat+i)*n)).take n)
 | _,_=>M.fail
def Q2 (kt:TypeId)(k:EV):List (EV×EV)->Nat->M S (Option (Nat×EV))
 | [],_=>pure none
 | e :: es,i=>do
  let b<-M.lift (eqE P 40 kt k e.1)
  if<-D.br b then pure (some (i,e.2)) else Q2 kt k es (i+1)
def Q3 (kt:TypeId)(k:EV)(es:List (EV×EV)):M S (Option (Nat×EV)):=do
 match<-D.find kt k es with
 | some r=>pure r
 | none=>Q2 D P kt k es 0
def Il (P:Program):Nat->TypeId->EV->Bool
 | 0,_,_=>false
 | d+1,t,v=>
  match P.underlying t,v with
  | some (.int _),.int _ _=>true
  | some .string,.str _=>true
  | some .bool,.bool _=>true
  | some (.struct fields),.agg cs=>fields.toList.all fun f=>match BP P f.type,KJ P f.type with
   | some n,some g=>match By cs f.offset n g with
    | some x=>Il P d f.type x
    | none=>false
   | _,_=>false
  | some (.array len elem),.agg cs=>match BP P elem,KJ P elem with
   | some n,some g=>(List.range' 0 len).all fun i=>match By cs (i*n) n g with
    | some x=>Il P d elem x
    | none=>false
   | _,_=>false
  | _,_=>false
def entriesOf (look:B5):EV->Option (List (EV×EV))
 | .cU=>some []
 | .im es=>some es
 | .mm r=>match look r with
  | some (.map _ _ es)=>some es
  | _=>none
 | _=>none
def Yx (zv:EV):Option (Nat×EV)->EV
 | some (_,v)=>v
 | none=>zv
def QE (look:B5)(t:TypeId)(m k:EV)(ok:Bool):M S EV:=
 match P.underlying t with
 | some (.map kt et)=>do
  let es<-M.lift (entriesOf look m)
  let zv<-M.lift (zeroV P et)
  if Il P 3 kt k then do
   let r<-Q3 D P kt k es
   pure (if ok then .tuple [Yx zv r,.bool r.isSome] else Yx zv r)
  else M.fail
 | _=>M.fail
def bU:EV->EV->Bool
 | .int j a,.int k b=>decide (j=k) && a==b
 | .str a,.str b=>a==b
 | .bool a,.bool b=>a==b
 | .agg as,.agg bs=>go as bs
 | _,_=>false
where
 go:List EV->List EV->Bool
  | [],[]=>true
  | .int j a :: xs,.int k b :: ys=>decide (j=k) && a==b && go xs ys
  | .str a :: xs,.str b :: ys=>a==b && go xs ys
  | .bool a :: xs,.bool b :: ys=>a==b && go xs ys
  | _,_=>false
def sameAt (es:List (EV×EV))(i:Nat)(k:EV):Bool:=match es[i]? with
 | some e=>bU e.1 k
 | none=>false
def KU (look:B5)(t:TypeId)(m k v:EV):M S eB:=
 match P.underlying t,m with
 | some (.map kt _),.mm r=>match look r with
  | some (.map false pf es)=>
   if Il P 3 kt k && k.plain then do
    match<-Q3 D P kt k es with
    | some (i,_)=>do
      D.bJ (sameAt es i k)
      pure [(r,.map false (pf && v.plain) (es.set i (k,v)))]
    | none=>pure [(r,.map false (pf && v.plain) (es++[(k,v)]))]
   else M.fail
  | _=>M.fail
 | _,_=>M.fail
def A7:List (EV×EV)->Nat->EV->List (EV×EV)
 | [],_,_=>[]
 | e :: es,0,x=>(e.1,x) :: es
 | e :: es,n+1,x=>e :: A7 es n x
def Lc (look:B5)(t:TypeId)(m k:EV):M S (EV×eB):=
 match P.underlying t,m with
 | some (.map kt et),.mm r=>match look r with
  | some (.map false pf es)=>
   if Il P 3 kt k && k.plain then do
    match<-Q3 D P kt k es with
    | some (i,v)=>do
      D.bJ (sameAt es i k)
      pure (.tuple [v,.int .i64 i],[(r,.map false (pf && v.plain) (es.set i (k,v)))])
    | none=>do
      let z<-M.lift (zeroV P et)
      pure (.tuple [z,.int .i64 es.length],[(r,.map false (pf && z.plain) (es++[(k,z)]))])
   else M.fail
  | _=>M.fail
 | _,_=>M.fail
def Im (look:B5)(m s x:EV):M S eB:=
 match m,s with
 | .mm r,.int _ i=>match look r with
  | some (.map false pf es)=>do
   D.bJ (dG i es.length)
   pure [(r,.map false (pf && x.plain) (A7 es i.toNat x))]
  | _=>M.fail
 | _,_=>M.fail
def NS (look:B5)(nm:Nat)(src dst:TypeId)(x:EV):M S (EV×eB):=
 match P.underlying src,P.underlying dst,x with
 | some _,some (.int k),.int _ n=>do
  let v<-Kn D k n
  pure (v,[])
 | some _,some .string,.str s=>pure (.str s,[])
 | some .string,some (.slice e),.str s=>
  match P.underlying e with
  | some (.int .u8)=>do
   let n<-M.lift (BP P e)
   if n=1 then
    pure (.ms nm 1 0 s.size none,[(nm,.arr false true 1 false s.size fun i=>[.int .u8 (s.data.getD i 0).toNat])])
   else M.fail
  | _=>M.fail
 | some (.slice e),some .string,x=>
  match P.underlying e with
  | some (.int .u8)=>do
   let (esz,m,row,_)<-M.lift (rowsOf look x)
   if esz≠1/\m≠0 then M.fail else do
   D.bJ ((List.range m).all fun i=>match row i with | [.int .u8 _]=>true | _=>false)
   pure (.str ⟨((List.range m).map fun i=>match row i with | [.int .u8 n]=>UInt8.ofNat n.toNat | _=>0).toArray⟩,[])
  | _=>M.fail
 | some (.slice _),some (.slice e),.ms r esz off len cap=>
  match P.underlying e with
  | some (.int .u8)=>if (src==dst && Nat.ble 1 len)=true then
    match look r with
    | some (.arr false pf esz' true olen row)=>pure (.ms r esz off len cap,[(r,.arr false pf esz' false olen row)])
    | _=>M.fail
   else M.fail
  | _=>M.fail
 | _,_,_=>M.fail
def QF (x:EV)(asserted:TypeId)(ok:Bool):M S EV:=
 match P.underlying asserted,x with
 | some (.interface _),_=>M.fail
 | some _,.iface t v=>
  if t=asserted then pure (if ok then .tuple [v,.bool true] else v)
  else if ok then do
   let zv<-M.lift (zeroV P asserted)
   pure (.tuple [zv,.bool false])
  else M.fail
 | some _,.dA=>
  if ok then do
   let zv<-M.lift (zeroV P asserted)
   pure (.tuple [zv,.bool false])
  else M.fail
 | _,_=>M.fail
def ZR (look:B5)(t:TypeId)(x:EV):M S EV:=
 match P.underlying t,x with
 | some .string,.str s=>pure (.int .i64 s.size)
 | some (.array n _),_=>pure (.int .i64 n)
 | some (.slice _),.uS _ _ len _=>pure (.int .i64 len)
 | some (.slice _),.ms _ _ _ len _=>pure (.int .i64 len)
 | some (.map _ _),_=>do
  let es<-M.lift (entriesOf look x)
  pure (.int .i64 es.length)
 | _,_=>M.fail
def ZS:EV->EV->Option EV
 | .int k x,.int _ y=>some (.int k (if y<x then y else x))
 | _,_=>none
def ZT:EV->EV->Option EV
 | .int k x,.int _ y=>some (.int k (if y>x then y else x))
 | _,_=>none
def Kp (f:EV->EV->Option EV):EV->List EV->Option EV
 | x,[]=>some x
 | x,y :: ys=>match f x y with
  | some z=>Kp f z ys
  | none=>none
def Bu:fE->fE
 | .var _ pf c=>.var true pf c
 | .arr _ pf esz ex len row=>.arr true pf esz ex len row
 | .map _ pf es=>.map true pf es
 | .flat _ len cell over=>.flat true len cell over
 | .loop ..=>.dead
 | .dfr=>.dead
 | o=>o
def fE.cT:fE->Bool
 | .var .. | .arr .. | .map .. | .flat ..=>true
 | _=>false
def Dc (pv:EV->Option (EV×List Nat)):List EV->Option (List EV×List Nat)
 | []=>some ([],[])
 | x :: xs=>match pv x,Dc pv xs with
  | some (x,l),some (xs,l')=>some (x :: xs,l++l')
  | _,_=>none
def Kq (pv:EV->Option (EV×List Nat))(row:Nat->List EV):Nat->Nat->Option (List (List EV)×List Nat)
 | _,0=>some ([],[])
 | i,n+1=>match Dc pv (row i),Kq pv row (i+1) n with
  | some (c,l),some (cs,l')=>some (c :: cs,l++l')
  | _,_=>none
def Kr (pv:EV->Option (EV×List Nat)):List (EV×EV)->Option (List (EV×EV)×List Nat)
 | []=>some ([],[])
 | x :: xs=>match pv x.2,Kr pv xs with
  | some (y,l),some (xs,l')=>some ((x.1,y) :: xs,l++l')
  | _,_=>none
def Bh (look:B5):Nat->EV->Option (EV×List Nat)
 | 0,_=>none
 | n+1,v=>
  match v with
  | .ptr r k=>match look r with
   | some (.var _ true cells)=>if k<cells.length then some (.ip cells k,[r]) else none
   | some (.var _ false cells)=>if k<cells.length then (Dc (Bh look n) cells).map fun q=>(.ip q.1 k,r :: q.2) else none
   | _=>none
  | .pe r esz i k=>match look r with
   | some (.arr _ true esz' _ _ row)=>if esz=esz'/\k<(row i).length then some (.ip (row i) k,[r]) else none
   | some (.arr _ false esz' _ _ row)=>if esz=esz'/\k<(row i).length then (Dc (Bh look n) (row i)).map fun q=>(.ip q.1 k,r :: q.2) else none
   | _=>none
  | .ms r esz off len _=>match look r with
   | some (.arr _ true esz' _ _ row)=>if esz=esz' then some (.uS true esz len (fun i=>row (off+i)),[r]) else none
   | some (.arr _ false esz' _ _ row)=>if esz=esz' then (Kq (Bh look n) row off len).map fun q=>(.uS true esz len (fun i=>q.1.getD i []),r :: q.2) else none
   | _=>none
  | .mm r=>match look r with
   | some (.map _ true es)=>some (.im es,[r])
   | some (.map _ false es)=>(Kr (Bh look n) es).map fun q=>(.im q.1,r :: q.2)
   | _=>none
  | .it _=>none
  | .agg cs=>(Dc (Bh look n) cs).map fun q=>(.agg q.1,q.2)
  | .tuple cs=>(Dc (Bh look n) cs).map fun q=>(.tuple q.1,q.2)
  | .func fn a b=>match Dc (Bh look n) a,Dc (Bh look n) b with
   | some (a,l),some (b,l')=>some (.func fn a b,l++l')
   | _,_=>none
  | .iface t v=>(Bh look n v).map fun q=>(.iface t q.1,q.2)
  | v=>some (v,[])
def Vx (look:B5)(v:EV):Option (EV×List Nat):=Bh look 30 v
def KV (look:B5)(vs:List EV):Option (List EV×List Nat):=Dc (Bh look 30) vs
def aS (look:B5):List Nat->Option eB
 | []=>some []
 | r :: rs=>match look r,aS look rs with
  | some o,some u=>if o.cT then (if o.live then some ((r,Bu o) :: u) else some u) else none
  | _,_=>none
def EV.aX (ρ:Nat->Nat):EV->EV
 | .ptr r k=>.ptr (ρ r) k
 | .pe r esz i k=>.pe (ρ r) esz i k
 | .ms r esz off len cap=>.ms (ρ r) esz off len cap
 | .mm r=>.mm (ρ r)
 | .it r=>.it (ρ r)
 | .agg cs=>.agg (go cs)
 | .tuple cs=>.tuple (go cs)
 | .func fn a b=>.func fn (go a) (go b)
 | .iface t v=>.iface t (v.aX ρ)
 | v=>v
where
 go:List EV->List EV
  | []=>[]
  | x :: xs=>x.aX ρ :: go xs
def fE.aX (ρ:Nat->Nat):fE->fE
 | .var fr pf cells=>.var fr pf (cells.map (EV.aX ρ))
 | .arr fr pf esz ex len row=>.arr fr pf esz ex len (bif pf then row else fun i=>(row i).map (EV.aX ρ))
 | .map fr pf es=>.map fr pf (bif pf then es else es.map fun e=>(e.1,e.2.aX ρ))
 | .flat fr len cell over=>.flat fr len cell (over.map fun e=>(e.1,e.2.aX ρ))
 | o=>o
def EV.refs:EV->List Nat
 | .ptr r _ | .pe r _ _ _ | .ms r _ _ _ _ | .mm r | .it r=>[r]
 | .agg cs=>go cs
 | .tuple cs=>go cs
 | .func _ a b=>go a++go b
 | .iface _ v=>v.refs
 | _=>[]
where
 go:List EV->List Nat
  | []=>[]
  | x :: xs=>x.refs++go xs
def fE.refs:fE->List Nat
 | .var _ false cells=>cells.flatMap EV.refs
 | .arr _ false _ _ len row=>(List.range len).flatMap fun i=>(row i).flatMap EV.refs
 | .map _ false es=>es.flatMap fun e=>e.2.refs
 | .flat _ _ _ over=>over.flatMap fun e=>e.2.refs
 | _=>[]
def FI (look:B5):Nat->List Nat->List Nat->List Nat
 | 0,_,seen=>seen
 | _+1,[],seen=>seen
 | n+1,r :: todo,seen=>if seen.contains r then FI look n todo seen else
  match look r with
  | some o=>FI look n (o.refs++todo) (seen++[r])
  | none=>FI look n todo (seen++[r])
def uniq:List Nat->List Nat
 | []=>[]
 | x :: xs=>if (uniq xs).contains x then uniq xs else x :: uniq xs
def HK (look:B5)(L:List Nat):List Nat->Option AL
 | []=>some []
 | r :: rs=>match look r with
  | some o=>if o.cT && o.refs.all (L.contains ·) then (HK look L rs).map (o.aX (L.idxOf ·) :: ·) else none
  | none=>none
def D2 (look:B5)(σ:AL)(ok:Nat->Bool)(ρ:Nat->Nat):Nat->List Nat->Option eB
 | _,[]=>some []
 | i,r :: rs=>match look r,σ[i]? with
  | some o,some o'=>if o.live then
    (match o' with
     | .dead=>(D2 look σ ok ρ (i+1) rs).map ((r,.dead) :: ·)
     | o'=>if o'.cT && o'.refs.all ok then (D2 look σ ok ρ (i+1) rs).map ((r,o'.aX ρ) :: ·) else none)
   else D2 look σ ok ρ (i+1) rs
  | _,_=>none
def KW (σ:AL)(ok:Nat->Bool)(ρ:Nat->Nat):Nat->List Nat->Option eB
 | _,[]=>some []
 | nm,r :: rs=>match σ[r]? with
  | some o=>if o.cT && o.refs.all ok then (KW σ ok ρ (nm+1) rs).map ((nm,o.aX ρ) :: ·) else none
  | none=>none
def Be (L uX:List Nat)(nm r:Nat):Nat:=if r<L.length then L.getD r 0 else nm+uX.idxOf r
def Ks (σ:AL):Nat->Nat->List Nat
 | _,0=>[]
 | i,n+1=>(match σ[i]? with | some o=>o.refs | none=>[])++Ks σ (i+1) n
def R7 (look:B5)(nm k:Nat)(g:FuncId)(args:List EV):M S (EV×eB):=do
 let L:=uniq (FI look 1000 (EV.refs.go args) [])
 if (EV.refs.go args).all (L.contains ·) then do
  let σl<-M.lift (HK look L L)
  let (v,σ')<-D.bZ g (EV.aX.go (L.idxOf ·) args) σl
  let uX:=(uniq (FI (fun r=>σ'[r]?) 1000 (v.refs++Ks σ' 0 L.length) [])).filter fun r=>decide (L.length<=r)
  let ok:Nat->Bool:=fun r=>decide (r<L.length) || uX.contains r
  if uX.length<=k/\v.refs.all ok=true then do
   let u1<-M.lift (D2 look σ' ok (Be L uX nm) 0 L)
   let u2<-M.lift (KW σ' ok (Be L uX nm) nm uX)
   pure (v.aX (Be L uX nm),u1++u2)
  else M.fail
 else M.fail
def QG (look:B5)(nm k:Nat)(σ:Option AL)(g:FuncId)(args:List EV):M S (EV×Eff):=do
 if σ.isNone || (<-D.mode g) then do
  if<-D.fresh g then do
   let (v,u)<-R7 D look nm k g args
   pure (v,.eR u)
  else do
   let (pargs,rs)<-M.lift (KV look args)
   let u<-M.lift (aS look rs)
   let v<-D.dC g pargs
   pure (v,.eR u)
 else match σ with
  | some σ=>do
   let (v,σ')<-D.bZ g args σ
   pure (v,.heap σ')
  | none=>M.fail
def Ed (tmps:List EV):List Tmp->List EV->List EV
 | p :: ps,v :: vs=>Ed (tmps.set p v) ps vs
 | _,_=>tmps
def EX.jump:EX->Option Code
 | .normal=>none
 | .leave id=>some (.exit id)
 | .ret=>some .ret
def EX.ofJump:Option Code->Option EX
 | none=>some .normal
 | some (.exit id)=>some (.leave id)
 | some .ret=>some .ret
 | _=>none
theorem EX.ofJump_ok {p:Option Code}{ex:EX}(h:EX.ofJump p=some ex):ex.jump=p:=by
 unfold EX.ofJump at h;split at h<;>first | (obtain rfl:=uC h; rfl) | cases h
def R8 (r:Nat)(args:List EV)(σ:AL):M S (EV×AL):=
 match σ[r]? with
 | some (.loop .ready tmps ps assign body _)=>
  if args.length=ps.size then do
   let r1<-D.round assign (Ed tmps ps.toList args) σ
   match r1.1,r1.2.2[r]? with
   | .normal,some (.loop .ready tmps' ps' assign' body' pend')=>do
    let r2<-D.round body r1.2.1 (r1.2.2.set r (.loop .busy tmps' ps' assign' body' pend'))
    match r2.2.2[r]? with
    | some (.loop _ tmps'' ps'' assign'' body'' _)=>match r2.1 with
     | .normal=>pure (.bool true,r2.2.2.set r (.loop .ready tmps'' ps'' assign'' body'' none))
     | e=>pure (.bool false,r2.2.2.set r (.loop .done tmps'' ps'' assign'' body'' e.jump))
    | _=>M.fail
   | _,_=>M.fail
  else M.fail
 | _=>M.fail
def QH (look:B5)(nm k:Nat)(σ:Option AL)(f:EV)(args:List EV):M S (EV×Eff):=
 match f with
 | .func (.func g) first captured=>QG D look nm k σ g (first++args++captured)
 | .it r=>match σ with
  | some σ=>do
   let q<-R8 D r args σ
   pure (q.1,.heap q.2)
  | none=>M.fail
 | _=>M.fail
def QI (t:TypeId)(name:String):Option FuncId:=
 match P.info? t,P.underlying t with
 | some _,some (.pointer _)=>none
 | some i,some _=>match i.methods.find? (·.name==name) with
  | some m=>if m.path.isEmpty then match m.func with
   | some (f,false)=>some f
   | _=>none
   else none
  | none=>none
 | _,_=>none
def NT (look:B5)(nm k:Nat)(σ:Option AL)(recv:EV)(name:String)(args:List EV):M S (EV×Eff):=
 match recv with
 | .iface t v=>do
  let g<-M.lift (QI P t name)
  QG D look nm k σ g ([v]++args)
 | _=>M.fail
def quiet (m:M S EV):M S (EV×Eff):=do let v<-m; pure (v,.eR [])
def Vy (m:M S eB):M S (EV×Eff):=do let u<-m; pure (.undef,.eR u)
def both (m:M S (EV×eB)):M S (EV×Eff):=do let (v,u)<-m; pure (v,.eR u)
def NU (look:B5)(nm:Nat)(b:Builtin)(ts:Array TypeId)(args:List EV):M S (EV×Eff):=
 match b,args with
 | .len,[x]=>match ts[0]? with | some t=>quiet (ZR P look t x) | none=>M.fail
 | .append,[s,x]=>match ts[0]?,ts[1]? with
  | some t,some t'=>match P.underlying t' with
   | some (.int _)=>M.fail
   | some _=>both (QD D P look nm t s x)
   | none=>M.fail
  | _,_=>M.fail
 | .copy,[d,x]=>match ts[0]? with | some t=>both (Vw D P look t d x) | none=>M.fail
 | .clear,[x]=>match ts[0]? with | some t=>both (R5 P look t x) | none=>M.fail
 | .min,x :: xs=>quiet (M.lift (Kp ZS x xs))
 | .max,x :: xs=>quiet (M.lift (Kp ZT x xs))
 | _,_=>M.fail
def eOp (ev:Operand->EV)(look:B5)(nm k:Nat)(σ:Option AL)(o:Oper):M S (EV×Eff):=
 match o.op with
 | .move x | .assign x=>quiet (pure (ev x))
 | .pick c a b=>quiet (match ev c with
  | .bool t=>do if<-D.br t then pure (ev a) else pure (ev b)
  | _=>M.fail)
 | .alloc t=>both (R4 P nm t)
 | .box _ x=>both (ZQ nm (ev x))
 | .build t parts=>quiet (R3 P t (parts.toList.map fun (i,x)=>(i,ev x)))
 | .buildSlice t len parts=>both (Ik P nm t len (parts.toList.map fun (i,x)=>(i,ev x)))
 | .load t a=>quiet (Vv D P look t (ev a))
 | .store t a x=>Vy (Rz D P look t (ev a) (ev x))
 | .nilCheck x=>quiet (match ev x with
  | .ptr r k=>pure (.ptr r k)
  | .pe r esz i k=>pure (.pe r esz i k)
  | .ip c k=>pure (.ip c k)
  | .func (.func f) a b=>pure (.func (.func f) a b)
  | .iface t v=>pure (.iface t v)
  | _=>M.fail)
 | .binOp op t x y _=>quiet (match ev x,ev y with
  | .int k a,.int k' b=>Xa D op (.int k a) (.int k' b)
  | .str a,.str b=>Xa D op (.str a) (.str b)
  | a,b=>eEq P op t a b)
 | .unOp op _ x=>quiet (eUn D op (ev x))
 | .convert src dst x=>both (NS D P look nm src dst (ev x))
 | .makeInterface t x=>quiet (match P.underlying t with
  | some (.interface _)=>M.fail
  | some _=>pure (.iface t (ev x))
  | none=>M.fail)
 | .makeFunc fn first captured=>quiet (pure (.func fn (first.toList.map ev) (captured.toList.map ev)))
 | .makeMap _ none=>both (pure (.mm nm,[(nm,.map false true [])]))
 | .makeSlice t l c=>both (KT D P nm t (ev l) (ev c))
 | .slice t x lo hi mx=>quiet (R6 D P look t (ev x) (lo.map ev) (hi.map ev) (mx.map ev))
 | .fieldAddr t x f=>quiet (QC P t (ev x) f)
 | .field t x f=>quiet (match P.underlying t,ev x with
  | some (.struct fields),.agg cs=>match fields[f]? with
   | some fd=>do
    let n<-M.lift (BP P fd.type)
    let g<-M.lift (KJ P fd.type)
    M.lift (By cs fd.offset n g)
   | none=>M.fail
  | _,_=>M.fail)
 | .indexAddr t x ix=>quiet (KS D P t (ev x) (ev ix))
 | .index t x ix=>quiet (R0 D P t (ev x) (ev ix))
 | .lookup t x ix ok=>quiet (QE D P look t (ev x) (ev ix) ok)
 | .mapUpdate t m k x | .insert t m k x=>Vy (KU D P look t (ev m) (ev k) (ev x))
 | .mapEntry t m k=>both (Lc D P look t (ev m) (ev k))
 | .entryStore _ m s x=>Vy (Im D look (ev m) (ev s) (ev x))
 | .typeAssert x _ asserted ok=>quiet (QF P (ev x) asserted ok)
 | .extract t ix=>quiet (match ev t with
  | .tuple vs=>M.lift vs[ix]?
  | _=>M.fail)
 | .call c=>match c.callee with
  | .builtin b=>NU D P look nm b c.argTypes (c.args.toList.map ev)
  | .value f=>QH D look nm k σ (ev f) (c.args.toList.map ev)
  | .invoke r name=>NT D P look nm k σ (ev r) name (c.args.toList.map ev)
 | _=>M.fail
end
def Xc {S:Type}(D:Drv S)(P:Program)(ev:Operand->EV)(look:B5)(nm k:Nat)(σ:Option AL)(o:Oper):M S (EV×Eff):=do
 let q<-eOp D P ev look nm k σ o
 D.uX q
def FJ (G:Nat->Option (List EV))(tmps:List EV):Operand->EV
 | .tmp t=>Ry tmps t
 | .const v=>if flat v then EV.ofValue v else .undef
 | .global g=>match G g with | some c=>.ip c 0 | none=>.undef
 | .func f=>.func (.func f) [] []
def F7 (tmps:List EV)(dst:Option Tmp)(v:EV):List EV:=
 match dst with
 | some d=>vQ tmps v d
 | none=>tmps
def Al (σ:AL):eB->AL
 | []=>σ
 | (r,o) :: us=>Al (σ.set r o) us
def Eff.on (e:Eff)(σ:AL):AL:=
 match e with
 | .eR u=>Al σ u
 | .heap σ'=>σ'
def makes:Op->Bool
 | .alloc _ | .box .. | .buildSlice .. | .makeMap .. | .makeSlice .. | .convert ..=>true
 | .call { callee:=.builtin .append,.. }=>true
 | _=>false
def cF (k:Nat)(o:Op):Nat:=
 if makes o then 1 else match o with
  | .call { callee:=.builtin _,.. }=>0
  | .call _=>k
  | _=>0
def Xd (σ:AL)(o:Oper)(base:List Nat):List Nat:=
 match o.op with
 | .call { callee:=.builtin _,.. }=>base
 | .call _=>FI (fun r=>σ[r]?) 1000 base []
 | .load .. | .store .. | .lookup .. | .convert .. | .insert .. | .mapUpdate .. | .mapEntry .. | .entryStore .. | .slice ..=>base
 | _=>[]
section
variable {S:Type}(D:Drv S)(P:Program)(G:Nat->Option (List EV))
def Kt (ops:Array Oper)(tmps:List EV)(o:Oper):M S Bool:=
 match o.guard with
 | none=>pure true
 | some (j,want)=>match ((ops[j]?).bind (·.dst)).map fun d=>Ry tmps d with
  | some (.bool b)=>do
   let d<-D.br b
   pure (d==want)
  | some (.tuple [])=>pure false
  | _=>M.fail
def Ku:Op->Bool
 | .defer _=>true
 | _=>false
def KX (σ:AL)(nm k:Nat)(o:Oper):Bool:=
 !Ku o.op && (List.range (cF k o.op)).all fun i=>match σ[nm+i]? with | some .free=>true | _=>false
def Tn (k:Nat)(ops:Array Oper):List Oper->Nat->List EV->AL->M S (List EV×AL)
 | [],_,tmps,σ=>pure (tmps,σ)
 | o :: rest,nm,tmps,σ=>do
  if<-Kt D ops tmps o then
   (if KX σ nm k o then do
    let (v,e)<-Xc D P (FJ G tmps) (fun r=>σ[r]?) nm k (some σ) o
    Tn k ops rest (nm+cF k o.op) (F7 tmps o.dst v) (e.on σ)
   else M.fail)
  else Tn k ops rest (nm+cF k o.op) (F7 tmps o.dst (.tuple [])) σ
def DH (k:Nat):List Oper->Nat
 | []=>0
 | o :: rest=>cF k o.op+DH k rest
structure Rec where
 i:Nat
 run:Bool
 dst:Option Tmp
 looks:List Tmp
 reads:List Nat
 v:EV
 eR:eB
def Kv (uX:List Tmp)(tmps:List EV):Operand->EV
 | .tmp t=>if uX.contains t then Ry tmps t else .undef
 | x=>FJ G tmps x
def S0 (reads:List Nat)(σ:AL):B5:=fun r=>if reads.contains r then σ[r]? else none
def Hb (k:Nat)(ops:Array Oper):List Oper->Nat->Nat->List EV->AL->M S (List Rec)
 | [],_,_,_,_=>pure []
 | o :: rest,i,nm,tmps,σ=>do
  if<-Kt D ops tmps o then
   (if KX σ nm k o then do
    let reads:=List.range' nm (cF k o.op)++Xd σ o (o.op.operands.toList.flatMap fun x=>(Kv G (o.looksAt ops) tmps x).refs)
    let (v,e)<-Xc D P (Kv G (o.looksAt ops) tmps) (S0 reads σ) nm k none o
    match e with
    | .heap _=>M.fail
    | .eR u=>
     if u.all fun p=>decide (p.1<σ.length) then do
      let rs<-Hb k ops rest (i+1) (nm+cF k o.op) (F7 tmps o.dst v) (Al σ u)
      pure ({ i,run:=true,dst:=o.dst,looks:=o.looksAt ops,reads,v,eR:=u } :: rs)
     else M.fail
   else M.fail)
  else do
   let rs<-Hb k ops rest (i+1) (nm+cF k o.op) (F7 tmps o.dst (.tuple [])) σ
   pure ({ i,run:=false,dst:=o.dst,looks:=o.looksAt ops,reads:=[],v:=.tuple [],eR:=[] } :: rs)
def Rec.bW (a b:Rec):Bool:=
 (match a.dst with | some d=>b.looks.contains d || b.dst==some d | none=>false) ||
 (match b.dst with | some d=>a.looks.contains d | none=>false) ||
 (a.eR.any fun p=>b.reads.contains p.1 || b.eR.any fun q=>q.1==p.1) ||
 (b.eR.any fun p=>a.reads.contains p.1)
def FK:List Oper->Nat->Bool
 | [],_=>true
 | o :: os,i=>(o.after.toList.all fun e=>!Region.binds .any e || decide (e.on<i)) && FK os (i+1)
def QJ (bf:Array Nat)(rs:List Rec):Bool:=
 rs.all fun b=>(bf.getD b.i 0) % 2 ^ b.i==2 ^ b.i - 1 || rs.all fun a=>!(decide (a.i<b.i) && !(bf.getD b.i 0).testBit a.i) || !a.bW b
def D3 (tmps:List EV)(rs:List Rec):List EV:=rs.foldl (fun t r=>F7 t r.dst r.v) tmps
def Bk (σ:AL)(rs:List Rec):AL:=rs.foldl (fun s r=>Al s r.eR) σ
def NV (o:Oper)(tmps:List EV)(σ:AL):M S (List Nat):=
 match o.op with
 | .call { callee:=.builtin _,.. }=>pure []
 | .call { callee:=.value f,.. }=>match FJ G tmps f with
  | .func (.func g) _ _=>do
   if<-D.fresh g then pure [] else pure (FI (fun r=>σ[r]?) 1000 (o.op.operands.toList.flatMap fun x=>(FJ G tmps x).refs) [])
  | _=>pure (FI (fun r=>σ[r]?) 1000 (o.op.operands.toList.flatMap fun x=>(FJ G tmps x).refs) [])
 | .call _=>pure (FI (fun r=>σ[r]?) 1000 (o.op.operands.toList.flatMap fun x=>(FJ G tmps x).refs) [])
 | _=>pure []
def ZU (o:Oper)(tmps:List EV)(σ:AL):EV:=
 match o.op with
 | .move x | .assign x=>FJ G tmps x
 | .load t a=>(ZP P (fun r=>σ[r]?) t (FJ G tmps a)).getD .undef
 | .fieldAddr t x f=>match (QC P t (FJ G tmps x) f:M Unit EV) () with | some (v,_)=>v | none=>.undef
 | _=>.undef
def Kw:List Oper->List EV->AL->M S (List Nat)
 | [],_,_=>pure []
 | o :: rest,tmps,σ=>do
  let rs<-NV D G o tmps σ
  let rs'<-Kw rest (F7 tmps o.dst (ZU P G o tmps σ)) σ
  pure (rs++rs')
def Vz (σ:AL)(r:Nat):Bool:=match σ[r]? with | some o=>o.live | none=>false
def Kx (bf:Array Nat)(n k:Nat):Bool:=
 (List.range k).all (fun i=>(bf.getD k 0).testBit i) && (List.range n).all fun j=>!decide (k<j) || (bf.getD j 0).testBit k
def ZV (o:Oper):Bool:=
 match o.op with
 | .call { callee:=.builtin _,.. }=>false
 | .call _=>true
 | _=>false
def Q4 (bf:Array Nat)(n:Nat):List Oper->Nat->List Oper
 | [],_=>[]
 | o :: os,i=>if ZV o && Kx bf n i then [] else o :: Q4 bf n os (i+1)
def Oo (k:Nat)(ops:Array Oper)(bf:Array Nat):Nat->List Oper->Nat->Nat->List EV->AL->M S (List EV×AL)
 | 0,_,_,_,_,_=>M.fail
 | f+1,os,i,nm,tmps,σ=>do
  let seg:=Q4 bf ops.size os i
  let pre<-Kw D P G seg tmps σ
  let u<-M.lift (aS (fun r=>σ[r]?) (pre.filter (Vz σ)))
  let rs<-Hb D P G k ops seg i nm tmps (Al σ u)
  if QJ bf rs then
   match os.drop seg.length with
   | []=>pure (D3 tmps rs,Bk (Al σ u) rs)
   | o :: rest=>
    if Kx bf ops.size (i+seg.length) then do
     if<-Kt D ops (D3 tmps rs) o then
      (if KX (Bk (Al σ u) rs) (nm+DH k seg) k o then do
       let (v,e)<-Xc D P (FJ G (D3 tmps rs)) (fun r=>(Bk (Al σ u) rs)[r]?) (nm+DH k seg) k (some (Bk (Al σ u) rs)) o
       Oo k ops bf f rest (i+seg.length+1) (nm+DH k seg+cF k o.op) (F7 (D3 tmps rs) o.dst v) (e.on (Bk (Al σ u) rs))
      else M.fail)
     else Oo k ops bf f rest (i+seg.length+1) (nm+DH k seg+cF k o.op) (F7 (D3 tmps rs) o.dst (.tuple [])) (Bk (Al σ u) rs)
    else M.fail
  else M.fail
def QK (ops:Array Oper)(draw:Bool)(tmps:List EV)(σ:AL):M S (List EV×AL):=do
 let k<-D.room draw
 if draw then
  if FK ops.toList 0 then Oo D P G k ops (Region.before ops) (ops.size+1) ops.toList 0 σ.length tmps (σ++List.replicate (DH k ops.toList) .free) else M.fail
 else Tn D P G k ops ops.toList σ.length tmps (σ++List.replicate (DH k ops.toList) .free)
def BX (rnd:Bool):Nat->Code->List EV->AL->M S (EX×List EV×AL)
 | 0,_,_,_=>M.fail
 | n+1,c,tmps,σ=>do
  match<-D.piece rnd c tmps σ with
  | some r=>pure r
  | none=>
  match c with
  | .skip=>pure (.normal,tmps,σ)
  | .region _ ops draw=>do
   let r<-QK D P G ops draw tmps σ
   pure (.normal,r.1,r.2)
  | .seq x y=>do
   let r<-BX rnd n x tmps σ
   match r.1 with
   | .normal=>BX rnd n y r.2.1 r.2.2
   | _=>pure r
  | .cond c x y=>match FJ G tmps c with
   | .bool b=>do
    if<-D.br b then BX rnd n x tmps σ else BX rnd n y tmps σ
   | _=>M.fail
  | .block id c=>do
   let r<-BX rnd n c tmps σ
   match r.1 with
   | .leave i=>if i=id then pure (.normal,r.2.1,r.2.2) else pure r
   | _=>pure r
  | .exit id=>pure (.leave id,tmps,σ)
  | .scope c=>BX rnd n c tmps σ
  | .label _=>pure (.normal,tmps,σ)
  | .ret=>pure (.ret,tmps,σ)
  | .loop c=>do
   let r<-BX rnd n c tmps σ
   match r.1 with
   | .normal=>BX rnd n (.loop c) r.2.1 r.2.2
   | _=>pure r
  | .rangeFunc g ps assign body=>
   if rnd then M.fail else
   match FJ G tmps g with
   | .func (.func f) first captured=>do
    let r<-D.bZ f (first++[.it σ.length]++captured) ((σ++List.replicate 1 fE.free).set σ.length (.loop .ready tmps ps assign body none))
    match r.2[σ.length]? with
    | some (.loop st t' ps' x' y' pend)=>
     if st=.busy then M.fail else
     match EX.ofJump pend with
     | some ex=>pure (ex,tmps,r.2.set σ.length (.loop .exhausted t' ps' x' y' pend))
     | none=>M.fail
    | _=>M.fail
   | _=>M.fail
  | _=>M.fail
def JA (tmps:List EV)(σ:AL):ResultVar->Option EV
 | .tmp t=>some (Ry tmps t)
 | .cell a t=>match BP P t,KJ P t,Ry tmps a with
  | some n,some g,.ptr r k=>match σ[r]? with
   | some (.var _ _ cells)=>By cells k n g
   | _=>none
  | _,_,_=>none
def Io (fn:Func)(tmps:List EV)(σ:AL):Option EV:=
 match fn.results.toList.mapM (JA P tmps σ) with
 | some [v]=>some v
 | some vs=>some (.tuple vs)
 | none=>none
def Ie (fuel:Nat)(f:FuncId)(args:List EV)(σ:AL):M S (EV×AL):=
 match P.funcs[f]? with
 | some fn=>match fn.body with
  | some c=>do
   let r<-BX D P G false fuel c (args++List.replicate (fn.ntmps - args.length) .undef) σ
   match r.1 with
   | .leave _=>M.fail
   | _=>do
    let v<-M.lift (Io P fn r.2.1 r.2.2)
    pure (v,r.2.2)
  | none=>M.fail
 | none=>M.fail
def EY (fuel:Nat)(f:FuncId)(args:List EV):M S EV:=do
 let r<-Ie D P G fuel f args []
 let p<-M.lift (Vx (fun i=>r.2[i]?) r.1)
 let _<-M.lift (aS (fun i=>r.2[i]?) p.2)
 pure p.1
end
end
end Go.Ev
namespace Go.Ev
def Ok {S α:Type}(V:S->Prop)(m:M S α)(Φ:α->Prop):Prop:=∀ s a s',m s=some (a,s')->V s'->V s/\Φ a
section
variable {S α β:Type}{V:S->Prop}
theorem Ok.pure {a:α}{Φ:α->Prop}(h:Φ a):Ok V (Pure.pure a:M S α) Φ:=by
 intro s b s' he hv;have he':some (a,s)=some (b,s'):=he;simp only [uB,Prod.mk.injEq] at he';obtain ⟨rfl,rfl⟩:=he';exact ⟨hv,h⟩
theorem Ok.bind {m:M S α}{f:α->M S β}{Φ:α->Prop}{Ψ:β->Prop}(hm:Ok V m Φ)(hf:∀ a,Ok V (f a) fun b=>Φ a->Ψ b):Ok V (m >>= f) Ψ:=by
 intro s b s'' he hv;have he':(match m s with | some (a,s')=>f a s' | none=>none)=some (b,s''):=he;cases hms:m s with
 | none=>rw [hms] at he'; simp at he'
 | some x=>
  obtain ⟨a,s'⟩:=x;rw [hms] at he';obtain ⟨hv',hΨ⟩:=hf a s' b s'' he' hv;obtain ⟨hv0,hΦ⟩:=hm s a s' hms hv';exact ⟨hv0,hΨ hΦ⟩
theorem Ok.fail {Φ:α->Prop}:Ok V (M.fail:M S α) Φ:=fun s a s' he _=>by simp [M.fail] at he
theorem Ok.lift {x:Option α}{Φ:α->Prop}(h:∀ a,x=some a->Φ a):Ok V (M.lift x:M S α) Φ:=by
 intro s b s' he hv;cases x with
 | none=>simp [M.lift] at he
 | some a=>
  simp only [M.lift,uB,Prod.mk.injEq] at he;obtain ⟨rfl,rfl⟩:=he;exact ⟨hv,h _ rfl⟩
theorem Ok.dI {x:Option α}{f:α->M S β}{Ψ:β->Prop}(hf:∀ a,x=some a->Ok V (f a) Ψ):Ok V (M.lift x >>= f) Ψ:=by
 intro s b s' he hv;have he':(match (M.lift x:M S α) s with | some (a,s')=>f a s' | none=>none)=some (b,s'):=he;cases hx:x with
 | none=>rw [hx] at he'; simp [M.lift] at he'
 | some a=>rw [hx] at he'; exact hf a hx s b s' he' hv
theorem Ok.mono {m:M S α}{Φ Ψ:α->Prop}(hm:Ok V m Φ)(h:∀ a,Φ a->Ψ a):Ok V m Ψ:=
 fun s a s' he hv=>⟨(hm s a s' he hv).1,h a (hm s a s' he hv).2⟩
theorem Ok.ite {c:Prop}[Decidable c]{x y:M S α}{Φ:α->Prop}(hx:c->Ok V x Φ)(hy:¬ c->Ok V y Φ):Ok V (if c then x else y) Φ:=by
 split
 ·exact hx ‹_›
 ·exact hy ‹_›
end
def dY (G:Nat->Option (List EV))(F:Nat->Prop)(w:World):Prop:=
 ∀ g cells,G g=some cells->F g/\cells≠[]/\∃ mv:Nat->Value,∀ j (h:j<cells.length),cellAt w g j=some (mv j)/\(mv j).oneCell'=true/\PR F w cells[j] (mv j)
def PRs (F:Nat->Prop)(w:World)(vs:List EV)(mvs:Array Value):Prop:=
 vs.length=mvs.size/\∀ i (h:i<vs.length) (h':i<mvs.size),PR F w vs[i] mvs[i]
def BM (P:Program)(kt:TypeId)(k:EV):List (EV×EV)->Nat->Option (Nat×EV)->Prop
 | [],_,r=>r=none
 | e :: es,i,r=>∃ b,eqE P 40 kt k e.1=some b/\(b=true->r=some (i,e.2))/\(b=false->BM P kt k es (i+1) r)
def PostP (F:Nat->Prop)(w:World)(v:EV):Ending->World->Prop
 | .returned mv,w'=>∃ F':Nat->Prop,(∀ b,F b->F' b)/\(∀ b,F' b->F b∨w.heap.size<=b)/\(∀ b,F' b->b<w'.heap.size)/\
   (∀ b,b<w.heap.size->w'.heap[b]? =w.heap[b]?)/\w.heap.size<=w'.heap.size/\w'.os=w.os/\w'.tape=w.tape/\w'.output=w.output/\PR F' w' v mv
 | .outgrown,_=>False
 | .panicked _,_=>False
def NW (P:Program)(f:FuncId):Prop:=∃ fn,P.funcs[f]? =some fn/\fn.body.isSome=true/\(fn.name== "runtime.NumGoroutine")=false
def uY (P:Program)(G:Nat->Option (List EV))(f:FuncId)(args:List EV)(v:EV):Prop:=
 NW P f/\∀ (F:Nat->Prop) (w:World) (margs:Array Value),(∀ b,F b->b<w.heap.size)->dY G F w->PRs F w args margs->Calls P f margs w (PostP F w v)
def S1 (K:KM)(σ:AL)(w:World)(v:EV)(σ':AL):Ending->World->Prop
 | .returned mv,w'=>∃ K',Ext K σ w K' σ' w'/\Rel K' σ' w'/\VR K' w' v mv
 | .outgrown,_=>False
 | .panicked _,_=>False
def aA (P:Program)(G:Nat->Option (List EV))(f:FuncId)(args:List EV)(σ:AL)(v:EV)(σ':AL):Prop:=
 NW P f/\∀ (K:KM) (w:World) (margs:Array Value),Rel K σ w->dY G K.F w->aU K w args margs->Calls P f margs w (S1 K σ w v σ')
def EX.same:EX->Exit->Prop
 | .normal,.normal=>True
 | .leave i,.exit j=>i=j
 | .ret,.ret=>True
 | _,_=>False
def Ld (b:Nat):Deferred:={ target:=.collected b,args:=#[] }
def Marks (K':KM)(σ':AL)(w w':World)(ds ds':List Deferred)(bs:List Nat):Prop:=
 ds'=bs.map Ld++ds/\bs.Nodup/\∀ b∈bs,w.heap.size<=b/\w'.heap[b]? =some (.deferred (some []))/\¬ aD K' σ' b/\¬ K'.F b
theorem Marks.none {K':KM}{σ':AL}{w w':World}{ds:List Deferred}:Marks K' σ' w w' ds ds []:=⟨rfl,List.nodup_nil,fun b h=>by cases h⟩
theorem Marks.trans {K1 K2:KM}{σ1 σ2:AL}{w w1 w2:World}{ds ds1 ds2:List Deferred}{bs1 bs2:List Nat}(hsz:w.heap.size<=w1.heap.size)(e:Ext K1 σ1 w1 K2 σ2 w2)
  (h1:Marks K1 σ1 w w1 ds ds1 bs1) (h2:Marks K2 σ2 w1 w2 ds1 ds2 bs2):Marks K2 σ2 w w2 ds ds2 (bs2++bs1):=by
 obtain ⟨a1,a2,a3⟩:=h1;obtain ⟨b1,b2,b3⟩:=h2;have hlt:∀ b∈bs1,b<w1.heap.size:=fun b hb=>by
  have:=(a3 b hb).2.1;exact (Array.getElem?_eq_some_iff.1 this).1
 refine ⟨by rw [b1,a1]; simp,?_,fun b hb=>?_⟩
 ·rw [List.nodup_append];refine ⟨b2,a2,fun x hx y hy hxy=>?_⟩;have:=hlt y hy;have:=(b3 x hx).1;omega
 ·rcases List.mem_append.1 hb with hb | hb
  ·obtain ⟨c1,c2,c3,c4⟩:=b3 b hb;exact ⟨by omega,c2,c3,c4⟩
  ·obtain ⟨c1,c2,c3,c4⟩:=a3 b hb;have hb':=hlt b hb;refine ⟨c1,by rw [e.stay b hb' c3]; exact c2,fun ho=>?_,fun hF=>?_⟩
   ·rcases e.own b ho with h | h
    ·omega
    ·exact c3 h
   ·rcases e.F' b hF with h | h | h
    ·exact c4 h
    ·omega
    ·exact c3 h
def aJ (K:KM)(σ:AL)(w:World)(ds:List Deferred)(r:EX×List EV×AL):Exit->Act->World->Prop
 | .outgrown,_,_=>False
 | e,a',w'=>r.1.same e/\∃ K' bs,Ext K σ w K' r.2.2 w'/\Rel K' r.2.2 w'/\aU K' w' r.2.1 a'.tmps/\Marks K' r.2.2 w w' ds a'.defers bs
def eE (ro:Option Nat):Fence:={ fn:=fun _=>True,depth:=none,alive:=false,round:=ro }
theorem NX (ro:Option Nat)(n:Nat):(eE ro).room n:=fun _ h=>by simp [eE] at h
theorem R9 (P:Program)(ro:Option Nat):Machine.fenced P (eE ro)=Machine.fenced P Fence.wide:=rfl
def aE (P:Program)(G:Nat->Option (List EV))(rnd:Bool)(c:Code)(tmps:List EV)(σ:AL)(r:EX×List EV×AL):Prop:=
 ∀ (ro:Option Nat) (K:KM) (w:World) (a:Act),(ro.isSome=true->rnd=true)->Rel K σ w->dY G K.F w->aU K w tmps a.tmps->c.wpIn (eE ro) 0 P (aJ K σ w a.defers r) a w
def wpL (ro:Option Nat)(P:Program)(c:Code)(Q:Exit->Act->World->Prop)(a:Act)(w:World):Prop:=
 ∀ (b:Frame) (k:List Item) (cs:List Frame),b.roundOf=ro->∃ e a' w',Q e a' w'/\ArrivesIn (Machine.fenced P (eE ro)) P (lone (b.atR a (.code c :: .inLoop c :: k)) cs w) b k cs e a' w'
def aB (P:Program)(G:Nat->Option (List EV))(rnd:Bool)(c:Code)(tmps:List EV)(σ:AL)(r:EX×List EV×AL):Prop:=
 ∀ (ro:Option Nat) (K:KM) (w:World) (a:Act),(ro.isSome=true->rnd=true)->Rel K σ w->dY G K.F w->aU K w tmps a.tmps->wpL ro P c (aJ K σ w a.defers r) a w
theorem dY.ext {G:Nat->Option (List EV)}{K K':KM}{σ σ':AL}{w w':World}(h:Ext K σ w K' σ' w')(hr:Rel K σ w)(hG:dY G K.F w):dY G K'.F w':=by
 intro g cells hg;obtain ⟨hF,hne,mv,hm⟩:=hG g cells hg;exact ⟨h.F g hF,hne,mv,fun j hj=>⟨by rw [F5 (h.stayF hr g hF)]; exact (hm j hj).1,(hm j hj).2.1,(hm j hj).2.2.ext h hr⟩⟩
theorem aU.ext {K K':KM}{σ σ':AL}{w w':World}(h:Ext K σ w K' σ' w')(hr:Rel K σ w){vs:List EV}{mvs:Array Value}(hv:aU K w vs mvs):aU K' w' vs mvs:=
 ⟨hv.1,fun i h1 h2=>(hv.2 i h1 h2).ext h hr⟩
section
variable {P:Program}{w:World}
theorem D4 (b o n:Nat):(⟨b,o,none⟩:Addr).add n=⟨b,o+n,none⟩:=by
 unfold Addr.add; split
 ·subst_vars; rfl
 ·rfl
theorem Hc {t:TypeId}{i:TypeInfo}(h:P.info? t=some i):(typeInfo t).run P w=.ok i w:=by
 simp [typeInfo,h]
theorem AP {t:TypeId}{d:TypeDesc}(h:P.underlying t=some d):(underlying t).run P w=.ok d w:=by
 simp [underlying,h]
theorem KY {t:TypeId}{n:Nat}(h:BP P t=some n):∃ i,P.info? t=some i/\i.size=n:=by
 unfold BP at h; simpa using h
theorem Bm {t:TypeId}{n:Nat}(h:BP P t=some n):(sizeOf t).run P w=.ok n w:=by
 obtain ⟨i,hi,rfl⟩:=KY h;simp [sizeOf,Hc hi]
theorem M5 {t:TypeId}{g:Bool}(h:KJ P t=some g):(isAgg t).run P w=.ok g w:=by
 unfold KJ at h;unfold isAgg;split at h<;>simp_all [AP]
theorem KO {b o:Nat}{v:Value}(h:cellAt w b o=some v):(load ⟨b,o,none⟩).run P w=.ok v w:=by
 simp [cell?_eq,h]
theorem run_loadCellsFrom {b o:Nat}{mv:Nat->Value}:∀ (n i:Nat) (acc:Array Value),(∀ j,j<n->cellAt w b (o+(i+j))=some (mv (i+j)))->
  (loadCellsFrom ⟨b,o,none⟩ i n acc).run P w=.ok (acc++((List.range n).map fun j=>mv (i+j)).toArray) w:=by
 intro n;induction n with
 | zero=>intro i acc _; simp [loadCellsFrom]
 | succ n ih=>
  intro i acc h;unfold loadCellsFrom;have h0:=h 0 (by omega);rw [Nat.add_zero] at h0;rw [Sem.run_bind,D4,KO h0,uE,ih (i+1) _ (fun j hj=>by rw [show i+1+j=i+(j+1) from by omega]; exact h (j+1) (by omega))]
  congr 1
  apply Array.ext';simp only [Array.toList_append,Array.toList_push,List.range_succ_eq_map,List.map_cons,List.map_map,List.append_assoc,List.singleton_append,Nat.add_zero]
  congr 2
  apply List.map_congr_left;intro j _;simp only [Function.comp]
  congr 1; omega
theorem run_loadCells {b o n:Nat}{mv:Nat->Value}(h:∀ j,j<n->cellAt w b (o+j)=some (mv j)):
  (loadCells ⟨b,o,none⟩ n).run P w=.ok ((List.range n).map mv).toArray w:=by
 unfold loadCells;rw [run_loadCellsFrom (mv:=mv) n 0 #[] (fun j hj=>by simpa using h j hj)];simp
def bQ (K:KM)(w:World)(b o:Nat)(cells:List EV):Prop:=∃ mv:Nat->Value,∀ j (h:j<cells.length),cellAt w b (o+j)=some (mv j)/\(mv j).oneCell'=true/\VR K w cells[j] (mv j)
theorem He {K:KM}{b o k n:Nat}{g:Bool}{t:TypeId}{cells:List EV}{v:EV}(hn:BP P t=some n)(hg:KJ P t=some g)
  (hc:bQ K w b o cells) (ht:By cells k n g=some v):∃ mv,(loadVar t ⟨b,o+k,none⟩).run P w=.ok mv w/\VR K w v mv:=by
 obtain ⟨mv,hmv⟩:=hc;unfold By at ht;unfold loadVar;cases g with
 | true=>
  simp only [if_true] at ht;split at ht
  ·rename_i hle;obtain rfl:=uC ht;refine ⟨.agg ((List.range n).map fun j=>mv (k+j)).toArray,?_,?_⟩
   ·simp only [Sem.run_bind,M5 hg,uE,if_true,Bm hn];rw [run_loadCells (mv:=fun j=>mv (k+j)) (fun j hj=>by rw [Nat.add_assoc]; exact (hmv (k+j) (by omega)).1)];rfl
   ·refine .agg _ _ (by simp; omega) (fun i h2=>?_) fun i h1 h2=>?_
    ·simp only [List.size_toArray,List.length_map,List.length_range] at h2;simp only [List.getElem_toArray,List.getElem_map,List.getElem_range];exact (hmv (k+i) (by omega)).2.1
    ·simp only [List.length_take,List.length_drop] at h1;simp only [List.getElem_take,List.getElem_drop,List.getElem_toArray,List.getElem_map,List.getElem_range];exact (hmv (k+i) (by omega)).2.2
  ·simp at ht
 | false=>
  simp only [Bool.false_eq_true,if_false] at ht;obtain ⟨hk,rfl⟩:=List.getElem?_eq_some_iff.1 ht;refine ⟨mv k,?_,(hmv k hk).2.2⟩;simp only [Sem.run_bind,M5 hg,uE,Bool.false_eq_true,if_false];exact KO (hmv k hk).1
end
def FO (look:B5)(K:KM)(w:World):Prop:=∀ r o,look r=some o->OR K w r o
theorem bQ.ofVar {K:KM}{w:World}{r:Nat}{fr pf:Bool}{cells:List EV}(h:OR K w r (.var fr pf cells)):bQ K w (K.vP r) (K.off r) cells:=by
 obtain ⟨ha,h0,c,e,hb,hs,_,ho,_,hv,_⟩:=h;refine ⟨fun j=>c.getD j default,fun j hj=>?_⟩;have hj':j<c.size:=by omega
 refine ⟨?_,?_,?_⟩
 ·simp [cellAt,hb,h0,hj']
 ·simpa [hj'] using ho j hj'
 ·have:=hv j hj hj';simpa [hj'] using this
theorem bQ.ofArr {K:KM}{w:World}{r:Nat}{fr pf ex:Bool}{esz len i:Nat}{row:Nat->List EV}(h:OR K w r (.arr fr pf esz ex len row))(hi:i<len):
  bQ K w (K.vP r) (K.off r+i*esz) (row i):=by
 obtain ⟨ha,hln,c,e,fz,hb,_,_,ho,hle,_,_,hl,hv,_⟩:=h;refine ⟨fun j=>c.getD (K.off r+i*esz+j) default,fun j hj=>?_⟩;have hj':K.off r+i*esz+j<c.size:=by
  have h1:=hl i hi;have h2:(i+1)*esz<=len*esz:=Nat.mul_le_mul_right _ hi;rw [Nat.add_mul,Nat.one_mul] at h2;omega
 refine ⟨?_,?_,?_⟩
 ·simp [cellAt,hb,hj']
 ·simpa [hj'] using ho _ hj'
 ·have:=hv i hi j hj hj';simpa [hj'] using this
theorem bQ.ofIp {K:KM}{w:World}{cells:List EV}{b o:Nat}{mv:Nat->Value}
  (hc:∀ j (_:j<cells.length),cellAt w b (o+j)=some (mv j)/\(mv j).oneCell'=true) (hv:∀ j (h:j<cells.length),PR K.F w cells[j] (mv j)):bQ K w b o cells:=
 ⟨mv,fun j hj=>⟨(hc j hj).1,(hc j hj).2,.pure _ _ (hv j hj)⟩⟩
section
variable {P:Program}{S:Type}{V:S->Prop}
theorem VR.dO {K:KM}{w:World}{cells:List EV}{k:Nat}{ma:Value}(h:VR K w (.ip cells k) ma):
  ∃ b o,ma=.pointer (some ⟨b,o+k,none⟩)/\k<cells.length/\bQ K w b o cells/\
   (K.F b/\∃ mv:Nat->Value,(∀ j (_:j<cells.length),cellAt w b (o+j)=some (mv j)/\(mv j).oneCell'=true)/\∀ j (h:j<cells.length),PR K.F w cells[j] (mv j)):=by
 cases h with
 | pure _ _ hp=>cases hp with
  | ip _ _ b o mv hF hk hc hv=>exact ⟨b,o,rfl,hk,.ofIp hc hv,hF,mv,hc,hv⟩
theorem VR.bO {K:KM}{w:World}{r k:Nat}{ma:Value}(h:VR K w (.ptr r k) ma):ma=.pointer (some ⟨K.vP r,K.off r+k,none⟩)/\K.al r:=by
 cases h with
 | pure _ _ hp=>cases hp
 | ptr _ _ ha=>exact ⟨rfl,ha⟩
theorem VR.bS {K:KM}{w:World}{r esz i k:Nat}{ma:Value}(h:VR K w (.pe r esz i k) ma):
  ma=.pointer (some ⟨K.vP r,K.off r+i*esz+k,none⟩)/\K.al r/\i<K.len r:=by
 cases h with
 | pure _ _ hp=>cases hp
 | pe _ _ _ _ ha hi=>exact ⟨rfl,ha,hi⟩
theorem Q5 {D:Drv S}(hbr:∀ b,Ok V (D.br b) fun d=>d=b)(k:Nat)(d:EV):∀ over:List (Nat×EV),Ok V (Sz D k d over) fun v=>v=(Ay over k).getD d
 | []=>Ok.pure rfl
 | (u,v) :: rest=>by
  unfold Sz;refine Ok.bind (hbr _) fun b=>?_;cases b with
  | true=>
   refine Ok.pure fun h=>?_;have h':k=u:=of_decide_eq_true h.symm;simp [Ay,h']
  | false=>
   refine (Q5 hbr k d rest).mono fun v hv h=>?_;have h':¬ k=u:=of_decide_eq_false h.symm;simp [Ay,h',hv]
theorem To {K:KM}{w:World}{r len:Nat}{fr:Bool}{cell:Nat->EV}{over:List (Nat×EV)}(h:OR K w r (.flat fr len cell over)){k:Nat}(hk:k<len):
  bQ K w (K.vP r) (K.off r+k) [(Ay over k).getD (cell k)]:=by
 obtain ⟨ha,h0,hl,hp,c,e,hb,hs,_,ho,_,hv⟩:=h;refine ⟨fun j=>c.getD (k+j) default,fun j hj=>?_⟩;obtain rfl:j=0:=by simpa using hj
 have hk':k<c.size:=by omega
 refine ⟨?_,?_,?_⟩
 ·simp [cellAt,hb,h0,hk']
 ·simpa [hk'] using ho k hk'
 ·have:=hv k hk';simp only [Nat.add_zero,List.getElem_cons_zero];rw [Array.getD_eq_getD_getElem?,Array.getElem?_eq_getElem hk',Option.getD_some];rcases this with ⟨v,h1,h2⟩ | ⟨h1,h2⟩
  ·rw [h1]; exact h2
  ·rw [h1]; exact .pure _ _ h2
theorem V0 {D:Drv S}(hbr:∀ b,Ok V (D.br b) fun d=>d=b)(hchk:∀ b,Ok V (D.bJ b) fun _=>b=true)(look:B5)(t:TypeId)(a:EV):
  Ok V (Vv D P look t a) fun v=>∀ K w ma,FO look K w->VR K w a ma->∃ mv,(Instr.loadAt t ma).run P w=.ok mv w/\VR K w v mv:=by
 unfold Vv;refine Ok.bind (Ok.lift (Φ:=fun n=>BP P t=some n) fun n h=>h) fun n=>?_;refine Ok.bind (Ok.lift (Φ:=fun n=>KJ P t=some n) fun n h=>h) fun g=>?_;split
 ·rename_i cells k;refine Ok.lift fun v hv hg hn K w ma hL ha=>?_;obtain ⟨b,o,rfl,_,hc,_⟩:=ha.dO;obtain ⟨mv,h1,h2⟩:=He (P:=P) hn hg hc hv;exact ⟨mv,by simp [Instr.loadAt,Instr.sureAddr,h1],h2⟩
 ·rename_i r k;split
  ·rename_i fr pf cells hr;refine Ok.lift fun v hv hg hn K w ma hL ha=>?_;obtain ⟨rfl,_⟩:=ha.bO;obtain ⟨mv,h1,h2⟩:=He (P:=P) hn hg (bQ.ofVar (hL r _ hr)) hv;exact ⟨mv,by simp [Instr.loadAt,Instr.sureAddr,h1],h2⟩
  ·exact Ok.fail
 ·rename_i r esz i k;split
  ·rename_i fr pf esz' ex len row hr;refine Ok.ite (fun he=>?_) fun _=>Ok.fail;subst he;refine Ok.lift fun v hv hg hn K w ma hL ha=>?_;obtain ⟨rfl,_,hi⟩:=ha.bS;have ho:=hL r _ hr;have hlen:K.len r=len:=ho.2.1;obtain ⟨mv,h1,h2⟩:=He (P:=P) hn hg (bQ.ofArr ho (by omega)) hv;exact ⟨mv,by simp [Instr.loadAt,Instr.sureAddr,h1],h2⟩
  ·rename_i fr len cell over hr;refine Ok.ite (fun he=>?_) fun _=>Ok.fail;obtain ⟨rfl,rfl,rfl⟩:=he;refine Ok.bind (hchk _) fun _=>(Q5 hbr k (cell k) over).mono fun v hv hk hg hn K w ma hL ha=>?_;obtain ⟨rfl,_,hi⟩:=ha.bS;subst hv;have hc:=To (hL r _ hr) (of_decide_eq_true hk);obtain ⟨mv,h1,h2⟩:=He (P:=P) (k:=0) hn hg hc rfl;exact ⟨mv,by simpa [Instr.loadAt,Instr.sureAddr] using h1,h2⟩
  ·exact Ok.fail
 ·exact Ok.fail
end
end Go.Ev
namespace Go.Ev
structure dK {S:Type} (V:S->Prop) (P:Program) (G:Nat->Option (List EV)) (D:Drv S):Prop where
 br:∀ b,Ok V (D.br b) fun d=>d=b
 bJ:∀ b,Ok V (D.bJ b) fun _=>b=true
 nw:∀ b,Ok V (D.nw b) fun d=>d=true->b=true
 mode:∀ f,Ok V (D.mode f) fun _=>True
 dC:∀ f args,Ok V (D.dC f args) fun v=>uY P G f args v
 fresh:∀ f,Ok V (D.fresh f) fun _=>True
 room:∀ b,Ok V (D.room b) fun _=>True
 bZ:∀ f args σ,Ok V (D.bZ f args σ) fun r=>aA P G f args σ r.1 r.2
 round:∀ c tmps σ,Ok V (D.round c tmps σ) fun r=>aE P G true c tmps σ r
 piece:∀ rnd c tmps σ,Ok V (D.piece rnd c tmps σ) fun o=>∀ r,o=some r->aE P G rnd c tmps σ r/\∀ b,c=.loop b->aB P G rnd b tmps σ r
 uX:∀ q,Ok V (D.uX q) fun q'=>q'=q
 find:∀ kt k es,Ok V (D.find kt k es) fun o=>∀ r,o=some r->BM P kt k es 0 r
theorem M6 {k:IntKind}{n:Int}(h:inR k n=true):k.wrap n=n:=by
 simp only [inR,uF,decide_eq_true_eq] at h;obtain ⟨h1,h2⟩:=h;cases k<;>simp [IntKind.wrap,IntKind.min,IntKind.max,IntKind.bits,IntKind.signed] at h1 h2 ⊢<;>omega
section
variable {P:Program}{S:Type}{V:S->Prop}{G:Nat->Option (List EV)}{D:Drv S}
theorem VR.uW {K:KM}{w:World}{k:IntKind}{n:Int}{ma:Value}(h:VR K w (.int k n) ma):ma=.int k n:=by
 cases h with
 | pure _ _ hp=>cases hp; rfl
theorem VR.bC {K:KM}{w:World}{b:Bool}{ma:Value}(h:VR K w (.bool b) ma):ma=.bool b:=by
 cases h with
 | pure _ _ hp=>cases hp; rfl
theorem VR.bD {K:KM}{w:World}{b:ByteArray}{ma:Value}(h:VR K w (.str b) ma):ma=.string b:=by
 cases h with
 | pure _ _ hp=>cases hp; rfl
theorem VR.aY {K:KM}{w:World}{cs:List EV}{ma:Value}(h:VR K w (.agg cs) ma):
  ∃ mcs:Array Value,ma=.agg mcs/\(cs.length=mcs.size/\∀ i (h':i<mcs.size),(mcs[i]).oneCell'=true)/\∀ i (h:i<cs.length) (h':i<mcs.size),VR K w cs[i] mcs[i]:=by
 cases h with
 | pure _ _ hp=>cases hp with
  | agg _ mcs hl h1 h=>exact ⟨mcs,rfl,⟨hl,h1⟩,fun i h1 h2=>.pure _ _ (h i h1 h2)⟩
 | agg _ mcs hl h1 h=>exact ⟨mcs,rfl,⟨hl,h1⟩,h⟩
theorem VR.tuple_inv {K:KM}{w:World}{cs:List EV}{ma:Value}(h:VR K w (.tuple cs) ma):
  ∃ mcs:Array Value,ma=.tuple mcs/\cs.length=mcs.size/\∀ i (h:i<cs.length) (h':i<mcs.size),VR K w cs[i] mcs[i]:=by
 cases h with
 | pure _ _ hp=>cases hp with
  | tuple _ mcs hl h=>exact ⟨mcs,rfl,hl,fun i h1 h2=>.pure _ _ (h i h1 h2)⟩
 | tuple _ mcs hl h=>exact ⟨mcs,rfl,hl,h⟩
theorem VR.bI {K:KM}{w:World}{t:TypeId}{v:EV}{ma:Value}(h:VR K w (.iface t v) ma):∃ mv,ma=.iface t mv/\VR K w v mv:=by
 cases h with
 | pure _ _ hp=>cases hp with
  | iface _ _ mv h=>exact ⟨mv,rfl,.pure _ _ h⟩
 | iface _ _ mv h=>exact ⟨mv,rfl,h⟩
theorem VR.cE {K:KM}{w:World}{fn:Fn}{a c:List EV}{ma:Value}(h:VR K w (.func fn a c) ma):
  ∃ mf mc:Array Value,ma=.func fn mf mc/\aU K w a mf/\aU K w c mc:=by
 cases h with
 | pure _ _ hp=>cases hp with
  | func _ _ _ mf mc hl hl' h h'=>exact ⟨mf,mc,rfl,⟨hl,fun i h1 h2=>.pure _ _ (h i h1 h2)⟩,⟨hl',fun i h1 h2=>.pure _ _ (h' i h1 h2)⟩⟩
 | func _ _ _ mf mc hl hl' h h'=>exact ⟨mf,mc,rfl,⟨hl,h⟩,⟨hl',h'⟩⟩
theorem VR.aV {K:KM}{w:World}{nn:Bool}{esz len:Nat}{row:Nat->List EV}{ma:Value}(h:VR K w (.uS nn esz len row) ma):
  (nn=false/\len=0/\ma=.slice none 0 0)∨
  (nn=true/\∃ (b o cap:Nat) (sp:Option Nat) (mv:Nat->Nat->Value),ma=.slice (some ⟨b,o,sp⟩) len cap/\(0<len->K.F b)/\len<=cap/\(0<len->sp=none)/\
   (∀ i,i<len->(row i).length=esz)/\(∀ i,i<len->∀ j,j<esz->cellAt w b (o+i*esz+j)=some (mv i j)/\(mv i j).oneCell'=true)/\
   (∀ i,i<len->∀ j (h:j<(row i).length),PR K.F w (row i)[j] (mv i j))):=by
 cases h with
 | pure _ _ hp=>cases hp with
  | bB=>exact .inl ⟨rfl,rfl,rfl⟩
  | uS _ _ _ b o cap mv hF hcap sp hsp hl hc hv=>exact .inr ⟨rfl,b,o,cap,sp,mv,rfl,hF,hcap,hsp,hl,hc,hv⟩
theorem VR.aW {K:KM}{w:World}{r esz off len:Nat}{cap:Option Nat}{ma:Value}(h:VR K w (.ms r esz off len cap) ma):
  ∃ (a:Addr) (mcap:Nat),ma=.slice (some a) len mcap/\K.al r/\len<=mcap/\off+len<=K.len r/\(∀ c,cap=some c->mcap=c/\off+c<=K.len r)/\
   (cap=none->K.off r+(off+mcap)*esz=K.ext r)/\(mcap≠0->a=⟨K.vP r,K.off r+off*esz,none⟩):=by
 cases h with
 | pure _ _ hp=>cases hp
 | ms _ _ _ _ _ mcap a ha hle hlen hcap hnone haddr=>exact ⟨a,mcap,rfl,ha,hle,hlen,hcap,hnone,haddr⟩
theorem V1 {t:TypeId}{d d':TypeDesc}(h:P.underlying t=some d)(h':P.underlying t=some d'):d=d':=by
 rw [h] at h'; exact uC h'
theorem Tp (t:TypeId)(a:EV)(f:Nat):
  Ok V (QC (S:=S) P t a f) fun v=>∀ K w ma,VR K w a ma->∃ mv,(Instr.fieldAt t ma f).run P w=.ok mv w/\VR K w v mv:=by
 unfold QC;split
 ·rename_i fields hu;split
  ·rename_i fd hf;refine Ok.bind (Ok.lift (Φ:=fun n=>BP P fd.type=some n) fun n h=>h) fun n=>?_;refine Ok.ite (fun _=>Ok.fail) fun hn0=>?_;have key:∀ {w:World} {b o:Nat},BP P fd.type=some n->(Instr.fieldAt t (.pointer (some ⟨b,o,none⟩)) f).run P w=.ok (.pointer (some ⟨b,o+fd.offset,none⟩)) w:=by
    intro w b o hn;simp [Instr.fieldAt,AP hu,hf,Instr.sureAddr,fieldPlace,Bm hn,hn0,D4]
   split
   ·rename_i cells k;refine Ok.ite (fun hk=>?_) fun _=>Ok.fail;refine Ok.pure fun hn K w ma ha=>?_;obtain ⟨b,o,rfl,_,_,hF,mv,hc,hv⟩:=ha.dO;refine ⟨_,key hn,.pure _ _ ?_⟩;rw [Nat.add_assoc];exact .ip cells _ b o mv hF hk hc hv
   ·rename_i r k;refine Ok.pure fun hn K w ma ha=>?_;obtain ⟨rfl,hal⟩:=ha.bO;exact ⟨_,key hn,by rw [Nat.add_assoc]; exact .ptr r _ hal⟩
   ·rename_i r esz i k;refine Ok.pure fun hn K w ma ha=>?_;obtain ⟨rfl,hal,hi⟩:=ha.bS;exact ⟨_,key hn,by rw [Nat.add_assoc]; exact .pe r esz i _ hal hi⟩
   ·exact Ok.fail
  ·exact Ok.fail
 ·exact Ok.fail
theorem Ip {i:Int}{n:Nat}(h:dG i n=true):0<=i/\i<n:=by
 simpa [dG] using h
theorem QL (hD:dK V P G D):∀ (n x:Nat),Ok V (pick D n x) fun j=>j=x
 | 0,x=>by
  unfold pick;refine Ok.bind (hD.bJ _) fun _=>Ok.pure fun h=>?_;exact (beq_iff_eq.1 h).symm
 | n+1,x=>by
  unfold pick;refine Ok.bind (hD.br _) fun d=>?_;refine Ok.ite (fun hd=>Ok.pure fun h=>?_) fun hd=>(QL hD n x).mono fun j hj _=>hj;rw [hd] at h;exact (beq_iff_eq.1 h.symm).symm
theorem Ob (hD:dK V P G D)(t:TypeId)(x ix:EV):
  Ok V (KS D P t x ix) fun v=>∀ K w mx mi,VR K w x mx->VR K w ix mi->∃ mv,(Instr.indexAt t mx mi).run P w=.ok mv w/\VR K w v mv:=by
 unfold KS;split
 ·rename_i k i;split
  ·rename_i elem hu;refine Ok.bind (Ok.lift (Φ:=fun n=>BP P elem=some n) fun n h=>h) fun n=>?_;split
   ·rename_i nn esz len row;refine Ok.ite (fun _=>Ok.fail) fun hne=>?_;refine Ok.bind (hD.bJ _) fun _=>Ok.pure fun hb hn K w mx mi hx hi=>?_;obtain rfl:=hi.uW;obtain ⟨h0,h1⟩:=Ip hb;have hne1:esz=n:=by omega
    subst hne1;rcases hx.aV with ⟨_,rfl,rfl⟩ | ⟨rfl,b,o,cap,sp,mv,rfl,hF,hcap,hsp,hl,hc,hv⟩
    ·omega
    ·have hlen:0<len:=by omega
     obtain rfl:=hsp hlen;have hi:i.toNat<len:=by omega
     refine ⟨.pointer (some ⟨b,o+i.toNat*esz,none⟩),?_,?_⟩
     ·simp [Instr.indexAt,asIntOf,AP hu,Bm hn,h0,h1,D4]
     ·have:=PR.ip (F:=K.F) (w:=w) (row i.toNat) 0 b (o+i.toNat*esz) (mv i.toNat) (hF hlen) (by rw [hl _ hi]; omega)
       (fun j hj=>hc _ hi j (by rw [<-hl _ hi]; exact hj)) (fun j hj=>hv _ hi j hj)
      exact .pure _ _ this
   ·rename_i r esz off len cap;refine Ok.ite (fun _=>Ok.fail) fun hne=>?_;refine Ok.bind (hD.bJ _) fun _=>Ok.pure fun hb hn K w mx mi hx hi=>?_;obtain rfl:=hi.uW;obtain ⟨h0,h1⟩:=Ip hb;have hne1:esz=n:=by omega
    subst hne1;obtain ⟨a,mcap,rfl,hal,hle,hlen,_,_,haddr⟩:=hx.aW;have hi:i.toNat<len:=by omega
    obtain rfl:=haddr (by omega);refine ⟨.pointer (some ⟨K.vP r,K.off r+off*esz+i.toNat*esz,none⟩),?_,?_⟩
    ·simp [Instr.indexAt,asIntOf,AP hu,Bm hn,h0,h1,D4]
    ·have:=VR.pe (K:=K) (w:=w) r esz (off+i.toNat) 0 hal (by omega);rw [Nat.add_zero,Nat.add_mul,<-Nat.add_assoc] at this;exact this
   ·exact Ok.fail
  ·rename_i len elem hu;refine Ok.bind (Ok.lift (Φ:=fun n=>BP P elem=some n) fun n h=>h) fun n=>?_;refine Ok.bind (hD.bJ _) fun _=>?_;have key:∀ {w:World} {b o j:Nat},j=i.toNat->dG i len=true->BP P elem=some n->
     (Instr.indexAt t (.pointer (some ⟨b,o,none⟩)) (.int k i)).run P w=.ok (.pointer (some ⟨b,o+j*n,none⟩)) w:=by
    intro w b o j hj hb hn;obtain ⟨h0,h1⟩:=Ip hb;subst hj;simp [Instr.indexAt,asIntOf,AP hu,Instr.sureAddr,Bm hn,h0,h1,D4]
   split
   ·rename_i r i' k';refine Ok.ite (fun h1=>?_) fun _=>Ok.fail;subst h1;refine Ok.pure fun hb hn K w mx mi hx hi=>?_;obtain rfl:=hi.uW;obtain ⟨rfl,hal,hi'⟩:=hx.bS;refine ⟨_,key rfl hb hn,?_⟩;rw [Nat.mul_one,Nat.add_assoc];exact .pe r 0 i' _ hal hi'
   refine Ok.bind (QL hD _ _) fun j=>?_;split
   ·rename_i cells k' _;refine Ok.ite (fun hk=>?_) fun _=>Ok.fail;refine Ok.pure fun hj hb hn K w mx mi hx hi=>?_;obtain rfl:=hi.uW;obtain ⟨b,o,rfl,_,_,hF,mv,hc,hv⟩:=hx.dO;refine ⟨_,key hj hb hn,.pure _ _ ?_⟩;rw [Nat.add_assoc];exact .ip cells _ b o mv hF hk hc hv
   ·rename_i r k' _;refine Ok.pure fun hj hb hn K w mx mi hx hi=>?_;obtain rfl:=hi.uW;obtain ⟨rfl,hal⟩:=hx.bO;exact ⟨_,key hj hb hn,by rw [Nat.add_assoc]; exact .ptr r _ hal⟩
   ·rename_i r esz i' k' _;refine Ok.pure fun hj hb hn K w mx mi hx hi=>?_;obtain rfl:=hi.uW;obtain ⟨rfl,hal,hi'⟩:=hx.bS;exact ⟨_,key hj hb hn,by rw [Nat.add_assoc]; exact .pe r esz i' _ hal hi'⟩
   ·exact Ok.fail
  ·exact Ok.fail
 ·exact Ok.fail
theorem Fz {K:KM}{w:World}{t:TypeId}{n k:Nat}{g:Bool}{cs:List EV}{mcs:Array Value}{v:EV}(hn:BP P t=some n)(hg:KJ P t=some g)
  (hl:cs.length=mcs.size/\∀ i (h':i<mcs.size),(mcs[i]).oneCell'=true) (hv:∀ i (h:i<cs.length) (h':i<mcs.size),VR K w cs[i] mcs[i]) (ht:By cs k n g=some v):
  ∃ mv,(part t mcs k).run P w=.ok mv w/\VR K w v mv:=by
 obtain ⟨hl,hone⟩:=hl;unfold By at ht;unfold part;cases g with
 | true=>
  simp only [if_true] at ht;split at ht
  ·rename_i hle;obtain rfl:=uC ht;refine ⟨.agg (mcs.extract k (k+n)),by simp [M5 hg,Bm hn],?_⟩;refine .agg _ _ (by simp; omega) (fun i h2=>by simp only [Array.getElem_extract]; exact hone _ _) fun i h1 h2=>?_;simp only [List.length_take,List.length_drop] at h1;simp only [List.getElem_take,List.getElem_drop,Array.getElem_extract];exact hv (k+i) (by omega) (by omega)
  ·simp at ht
 | false=>
  simp only [Bool.false_eq_true,if_false] at ht;obtain ⟨hk,rfl⟩:=List.getElem?_eq_some_iff.1 ht;refine ⟨mcs[k]'(by omega),?_,hv k hk (by omega)⟩;simp [M5 hg,show k<mcs.size by omega]
theorem Tq (hD:dK V P G D)(t:TypeId)(x ix:EV):
  Ok V (R0 D P t x ix) fun v=>∀ K w mx mi,VR K w x mx->VR K w ix mi->∃ mv,(Instr.index t mx mi).run P w=.ok mv w/\VR K w v mv:=by
 unfold R0;split
 ·rename_i k i;split
  ·rename_i len elem cs hu;refine Ok.bind (Ok.lift (Φ:=fun n=>BP P elem=some n) fun n h=>h) fun n=>?_;refine Ok.bind (Ok.lift (Φ:=fun n=>KJ P elem=some n) fun n h=>h) fun g=>?_;refine Ok.bind (hD.bJ _) fun _=>?_;refine Ok.bind (QL hD _ _) fun j=>?_;refine Ok.lift fun v hv hj hb hg hn K w mx mi hx hi=>?_;obtain rfl:=hi.uW;obtain ⟨mcs,rfl,hl,hc⟩:=hx.aY;obtain ⟨h0,h1⟩:=Ip hb;subst hj;obtain ⟨mv,h2,h3⟩:=Fz (P:=P) hn hg hl hc hv;exact ⟨mv,by simp [Instr.index,asIntOf,AP hu,Bm hn,h0,h1,h2],h3⟩
  ·rename_i s hu;refine Ok.bind (hD.bJ _) fun _=>Ok.pure fun hb K w mx mi hx hi=>?_;obtain rfl:=hi.uW;obtain rfl:=hx.bD;obtain ⟨h0,h1⟩:=Ip hb;have hi:i.toNat<s.size:=by omega
   refine ⟨.int .u8 (s.data.getD i.toNat 0).toNat,?_,.pure _ _ (.int _ _)⟩;have hs:s[i.toNat]? =some (s.data.getD i.toNat 0):=by
    rw [getElem?_pos s i.toNat hi];have h':i.toNat<s.data.size:=hi;simp only [Array.getD,h',dif_pos];rfl
   simp [Instr.index,asIntOf,AP hu,h0,hs]
  ·exact Ok.fail
 ·exact Ok.fail
theorem G3 (hD:dK V P G D)(k:IntKind)(n:Int):Ok V (Kn D k n) fun v=>v=.int k (k.wrap n):=by
 unfold Kn;refine Ok.bind (hD.nw _) fun d=>?_;refine Ok.ite (fun hd=>Ok.pure fun h=>?_) fun _=>Ok.pure fun _=>rfl;rw [M6 (h hd)]
theorem S2 (hD:dK V P G D)(op:BinOp)(t:TypeId)(x y:EV):
  Ok V (Xa D op x y) fun v=>∀ K w mx my,VR K w x mx->VR K w y my->∃ mv,(binOp op t mx my).run P w=.ok mv w/\VR K w v mv:=by
 have vr:∀ {K w} (k:IntKind) (n:Int),VR K w (.int k n) (.int k n):=fun k n=>.pure _ _ (.int k n);have vb:∀ {K w} (b:Bool),VR K w (.bool b) (.bool b):=fun b=>.pure _ _ (.bool b);have vs:∀ {K w} (b:ByteArray),VR K w (.str b) (.string b):=fun b=>.pure _ _ (.str b);unfold Xa;split
 ·rename_i k a k' b;have ints:∀ {v:EV} {mv:Value} (_:∀ w:World,(binOp op t (.int k a) (.int k' b)).run P w=.ok mv w) (_:∀ K w,VR K w v mv),
    ∀ K w mx my,VR K w (.int k a) mx->VR K w (.int k' b) my->∃ mv,(binOp op t mx my).run P w=.ok mv w/\VR K w v mv:=by
   intro v mv h1 h2 K w mx my hx hy;obtain rfl:=hx.uW;obtain rfl:=hy.uW;exact ⟨mv,h1 w,h2 K w⟩
  split
  ·refine Ok.bind (hD.bJ _) fun _=>(G3 hD _ _).mono fun v hv hb=>?_;subst hv;have hb':0<=b:=by simpa using hb
   exact ints (fun w=>by simp [binOp,Op.shift,show ¬ b<0 by omega]) fun K w=>vr _ _
  ·refine Ok.bind (hD.bJ _) fun _=>Ok.pure fun hb=>?_;have hb':0<=b:=by simpa using hb
   exact ints (fun w=>by simp [binOp,Op.shift,show ¬ b<0 by omega]) fun K w=>vr _ _
  ·refine Ok.ite (fun _=>Ok.fail) fun hk=>?_;have hk':k=k':=by simpa using hk
   subst hk';split
   ·exact (G3 hD _ _).mono fun v hv=>hv▸ints (fun w=>by simp [binOp,Op.intArith]) fun K w=>vr _ _
   ·exact (G3 hD _ _).mono fun v hv=>hv▸ints (fun w=>by simp [binOp,Op.intArith]) fun K w=>vr _ _
   ·exact (G3 hD _ _).mono fun v hv=>hv▸ints (fun w=>by simp [binOp,Op.intArith]) fun K w=>vr _ _
   ·refine Ok.bind (hD.bJ _) fun _=>(G3 hD _ _).mono fun v hv hb=>?_;have hb':¬ b=0:=by simpa using hb
    exact hv▸ints (fun w=>by simp [binOp,Op.intDiv,hb']) fun K w=>vr _ _
   ·refine Ok.bind (hD.bJ _) fun _=>Ok.pure fun hb=>?_;have hb':¬ b=0:=by simpa using hb
    exact ints (fun w=>by simp [binOp,Op.intDiv,hb']) fun K w=>vr _ _
   ·exact Ok.pure (ints (fun w=>by simp [binOp,Op.intBits]) fun K w=>vr _ _)
   ·exact Ok.pure (ints (fun w=>by simp [binOp,Op.intBits]) fun K w=>vr _ _)
   ·exact Ok.pure (ints (fun w=>by simp [binOp,Op.intBits]) fun K w=>vr _ _)
   ·exact Ok.pure (ints (fun w=>by simp [binOp,Op.intBits]) fun K w=>vr _ _)
   ·exact Ok.pure (ints (fun w=>by simp [binOp,Op.intCmp]) fun K w=>vb _)
   ·exact Ok.pure (ints (fun w=>by simp [binOp,Op.intCmp]) fun K w=>vb _)
   ·exact Ok.pure (ints (fun w=>by simp [binOp,Op.intCmp]) fun K w=>vb _)
   ·exact Ok.pure (ints (fun w=>by simp [binOp,Op.intCmp]) fun K w=>vb _)
   ·exact Ok.pure (ints (fun w=>by simp [binOp,Op.intCmp]) fun K w=>vb _)
   ·exact Ok.pure (ints (fun w=>by simp [binOp,Op.intCmp]) fun K w=>vb _)
   ·exact Ok.fail
 ·rename_i a b;have strs:∀ {v:EV} {mv:Value} (_:∀ w:World,(binOp op t (.string a) (.string b)).run P w=.ok mv w) (_:∀ K w,VR K w v mv),
    ∀ K w mx my,VR K w (.str a) mx->VR K w (.str b) my->∃ mv,(binOp op t mx my).run P w=.ok mv w/\VR K w v mv:=by
   intro v mv h1 h2 K w mx my hx hy;obtain rfl:=hx.bD;obtain rfl:=hy.bD;exact ⟨mv,h1 w,h2 K w⟩
  split
  ·refine Ok.bind (hD.bJ _) fun _=>Ok.pure fun hb=>?_;have hb':a.size+b.size<2 ^ 63:=by simpa using hb
   refine strs (fun w=>?_) fun K w=>vs _;have:¬ ((a.size+b.size:Nat):Int)>IntKind.i64.max:=by
    simp [IntKind.max,IntKind.signed,IntKind.bits]; omega
   simp only [binOp,Op.stringOp,if_neg this,Sem.run_pure]
  ·exact Ok.pure (strs (fun w=>by simp [binOp,Op.stringOp,ByteArray.toList_eq]) fun K w=>vb _)
  ·exact Ok.pure (strs (fun w=>by simp [binOp,Op.stringOp,ByteArray.toList_eq]) fun K w=>vb _)
  ·exact Ok.pure (strs (fun w=>by simp [binOp,Op.stringOp,ByteArray.toList_eq]) fun K w=>vb _)
  ·exact Ok.pure (strs (fun w=>by simp [binOp,Op.stringOp,ByteArray.toList_eq]) fun K w=>vb _)
  ·exact Ok.pure (strs (fun w=>by simp [binOp,Op.stringOp,ByteArray.toList_eq]) fun K w=>vb _)
  ·exact Ok.pure (strs (fun w=>by simp [binOp,Op.stringOp,ByteArray.toList_eq]) fun K w=>vb _)
  ·exact Ok.fail
 ·exact Ok.fail
theorem ZW (hD:dK V P G D)(op:UnOp)(x:EV):
  Ok V (eUn D op x) fun v=>∀ K w mx,VR K w x mx->∃ mv,(Op.unary op mx).run P w=.ok mv w/\VR K w v mv:=by
 unfold eUn;split
 ·refine (G3 hD _ _).mono fun v hv K w mx hx=>?_;obtain rfl:=hx.uW;subst hv;exact ⟨_,by simp only [Op.unary,Op.intArith,Sem.run_pure],VR.pure _ _ (.int _ _)⟩
 ·refine Ok.pure fun K w mx hx=>?_;obtain rfl:=hx.uW;exact ⟨_,by simp only [Op.unary,Op.intBits,Sem.run_pure],VR.pure _ _ (.int _ _)⟩
 ·refine Ok.pure fun K w mx hx=>?_;obtain rfl:=hx.bC;exact ⟨_,by simp only [Op.unary,Sem.run_pure],VR.pure _ _ (.bool _)⟩
 ·exact Ok.fail
end
end Go.Ev
namespace Go.Ev
section
variable {P:Program}{S:Type}{V:S->Prop}{G:Nat->Option (List EV)}{D:Drv S}
theorem VR.aQ {K:KM}{w:World}{ma:Value}(h:VR K w .aH ma):ma=.pointer none:=by
 cases h with
 | pure _ _ hp=>cases hp; rfl
theorem VR.aZ {K:KM}{w:World}{ma:Value}(h:VR K w .cU ma):ma=.map none:=by
 cases h with
 | pure _ _ hp=>cases hp; rfl
theorem VR.cH {K:KM}{w:World}{ma:Value}(h:VR K w .dL ma):ma=.nilFunc:=by
 cases h with
 | pure _ _ hp=>cases hp; rfl
theorem VR.dX {K:KM}{w:World}{ma:Value}(h:VR K w .dA ma):ma=.nilIface:=by
 cases h with
 | pure _ _ hp=>cases hp; rfl
theorem VR.cS {K:KM}{w:World}{r:Nat}{ma:Value}(h:VR K w (.mm r) ma):ma=.map (some (K.vP r))/\K.al r:=by
 cases h with
 | pure _ _ hp=>cases hp
 | mm _ ha=>exact ⟨rfl,ha⟩
theorem VR.im_inv {K:KM}{w:World}{es:List (EV×EV)}{ma:Value}(h:VR K w (.im es) ma):
  ∃ (b:Nat) (mes:Array MapEntry) (clock:Nat),ma=.map (some b)/\K.F b/\w.heap[b]? =some (.map mes clock)/\es.length=mes.size/\
   (∀ i (h:i<es.length) (h':i<mes.size),PR K.F w es[i].1 mes[i].key)/\(∀ i (h:i<es.length) (h':i<mes.size),PR K.F w es[i].2 mes[i].val):=by
 cases h with
 | pure _ _ hp=>cases hp with
  | im _ b mes clock hF hm hl hk hv=>exact ⟨b,mes,clock,rfl,hF,hm,hl,hk,hv⟩
def eqItems (P:Program)(d:Nat)(elem:TypeId)(n:Nat)(xs ys:Array Value):List Nat->Sem Bool
 | []=>pure true
 | i :: is=>do
  let a<-part elem xs (i*n)
  let b<-part elem ys (i*n)
  let r<-Op.equalIn d elem a b
  if (!r)=true then pure false else eqItems P d elem n xs ys is
theorem run_equalIn_array (w:World)(d:Nat)(t elem:TypeId)(len n:Nat)(xs ys:Array Value)(ht:P.underlying t=some (.array len elem))(hn:BP P elem=some n):
  (Op.equalIn (d+1) t (.agg xs) (.agg ys)).run P w=(eqItems P d elem n xs ys (List.range' 0 len)).run P w:=by
 simp only [Op.equalIn,Sem.run_bind,AP ht,uE,Bm hn];rw [Std.Legacy.Range.forIn_eq_forIn_range'];simp only [Std.Legacy.Range.size,Nat.sub_zero,Nat.add_sub_cancel,Nat.div_one];generalize List.range' 0 len=is
 clear ht
 induction is generalizing w with
 | nil=>simp [eqItems]
 | cons i is ih=>
  simp only [List.forIn_cons,eqItems,Sem.run_bind,Sem.run_ite];generalize (part elem xs (i*n)).run P w=r1;cases r1 with
  | ok a w1=>
   simp only [uE];generalize (part elem ys (i*n)).run P w1=r2;cases r2 with
   | ok b w2=>
    simp only [uE];generalize (Op.equalIn d elem a b).run P w2=r3;cases r3 with
    | ok r w3=>
     cases r
     ·simp only [uE,Bool.not_false,if_true,Sem.run_pure]
     ·simp only [uE,Bool.not_true,Bool.false_eq_true,if_false,Sem.run_pure];exact ih w3
    | halt x w3=>simp [Result.andThen]
   | halt x w2=>simp [Result.andThen]
  | halt x w1=>simp [Result.andThen]
set_option maxHeartbeats 1000000 in
theorem S3:∀ (d:Nat) (t:TypeId) (x y:EV) (b:Bool),eqE P d t x y=some b->∀ (K:KM) (w:World) (mx my:Value),VR K w x mx->VR K w y my->
  ∀ D,d<=D->(Op.equalIn D t mx my).run P w=.ok b w:=by
 intro d;induction d with
 | zero=>intro t x y b h; simp [eqE] at h
 | succ d ih=>
  have hF:∀ (fs:List Field) (xs ys:List EV) (b:Bool),eqF P (eqE P d) fs xs ys=some b->∀ (K:KM) (w:World) (mx my:Array Value),
    (xs.length=mx.size/\∀ i (h':i<mx.size),(mx[i]).oneCell'=true)->(ys.length=my.size/\∀ i (h':i<my.size),(my[i]).oneCell'=true)->(∀ i (h:i<xs.length) (h':i<mx.size),VR K w xs[i] mx[i])->(∀ i (h:i<ys.length) (h':i<my.size),VR K w ys[i] my[i])->
    ∀ D,d<=D->(Op.eqFields D mx my fs).run P w=.ok b w:=by
   intro fs;induction fs with
   | nil=>intro xs ys b h K w mx my _ _ _ _ D _; simp only [eqF,uB] at h; subst h; simp [Op.eqFields]
   | cons f fs ihf=>
    intro xs ys b h K w mx my hlx hly hx hy D hD;unfold eqF at h;unfold Op.eqFields;by_cases hf:f.name= "_"
    ·rw [if_pos hf] at h;rw [if_neg (by simpa using hf)];exact ihf xs ys b h K w mx my hlx hly hx hy D hD
    ·rw [if_neg hf] at h;rw [if_pos hf];split at h
     ·rename_i n g hn hg;split at h
      ·rename_i x y hx' hy';split at h
       ·rename_i a b' ha hb;obtain rfl:=uC h;obtain ⟨mvx,p1,p2⟩:=Fz (P:=P) hn hg hlx hx hx';obtain ⟨mvy,q1,q2⟩:=Fz (P:=P) hn hg hly hy hy';simp only [Sem.run_bind,p1,q1,uE,ih _ _ _ _ ha K w mvx mvy p2 q2 D hD,Sem.run_ite,ihf xs ys b' hb K w mx my hlx hly hx hy D hD,Sem.run_pure];cases a<;>simp
       ·simp at h
      ·simp at h
     ·simp at h
  have hA:∀ (m i:Nat) (elem:TypeId) (xs ys:List EV) (b:Bool),eqA P (eqE P d) elem m i xs ys=some b->∀ (n:Nat),BP P elem=some n->∀ (K:KM) (w:World) (mx my:Array Value),
    (xs.length=mx.size/\∀ i (h':i<mx.size),(mx[i]).oneCell'=true)->(ys.length=my.size/\∀ i (h':i<my.size),(my[i]).oneCell'=true)->(∀ i (h:i<xs.length) (h':i<mx.size),VR K w xs[i] mx[i])->(∀ i (h:i<ys.length) (h':i<my.size),VR K w ys[i] my[i])->
    ∀ D,d<=D->(eqItems P D elem n mx my (List.range' i m)).run P w=.ok b w:=by
   intro m;induction m with
   | zero=>intro i elem xs ys b h n _ K w mx my _ _ _ _ D _; simp only [eqA,uB] at h; subst h; simp [eqItems]
   | succ m ihm=>
    intro i elem xs ys b h n hn K w mx my hlx hly hx hy D hD;unfold eqA at h;rw [List.range'_succ];unfold eqItems;split at h
    ·rename_i n' g hn' hg;rw [hn] at hn';obtain rfl:=uC hn';split at h
     ·rename_i x y hx' hy';split at h
      ·rename_i a b' ha hb;obtain rfl:=uC h;obtain ⟨mvx,p1,p2⟩:=Fz (P:=P) hn hg hlx hx hx';obtain ⟨mvy,q1,q2⟩:=Fz (P:=P) hn hg hly hy hy';simp only [Sem.run_bind,p1,q1,uE,ih _ _ _ _ ha K w mvx mvy p2 q2 D hD,Sem.run_ite,ihm (i+1) elem xs ys b' hb n hn K w mx my hlx hly hx hy D hD,Sem.run_pure];cases a<;>simp
      ·simp at h
     ·simp at h
    ·simp at h
  intro t x y b h K w mx my hx hy D hD;obtain ⟨D,rfl⟩:∃ D',D=D'+1:=⟨D - 1,by omega⟩
  have hD':d<=D:=by omega
  unfold eqE at h;split at h
  ·rename_i hu;obtain rfl:=hx.bC; obtain rfl:=hy.bC;obtain rfl:=uC h;simp [Op.equalIn,AP hu]
  ·rename_i hu;obtain rfl:=hx.uW; obtain rfl:=hy.uW;split at h
   ·rename_i hk;obtain rfl:=uC h;simp [Op.equalIn,AP hu,hk]
   ·simp at h
  ·rename_i hu;obtain rfl:=hx.bD; obtain rfl:=hy.bD;obtain rfl:=uC h;simp [Op.equalIn,AP hu]
  ·rename_i hu;obtain rfl:=hx.aQ; obtain rfl:=hy.aQ;obtain rfl:=uC h;simp [Op.equalIn,AP hu]
  ·rename_i hu;obtain rfl:=hx.aQ; obtain ⟨b',o,rfl,_⟩:=hy.dO;obtain rfl:=uC h;simp [Op.equalIn,AP hu]
  ·rename_i hu;obtain ⟨b',o,rfl,_⟩:=hx.dO; obtain rfl:=hy.aQ;obtain rfl:=uC h;simp [Op.equalIn,AP hu]
  ·rename_i hu;obtain rfl:=hx.aQ; obtain ⟨rfl,_⟩:=hy.bO;obtain rfl:=uC h;simp [Op.equalIn,AP hu]
  ·rename_i hu;obtain ⟨rfl,_⟩:=hx.bO; obtain rfl:=hy.aQ;obtain rfl:=uC h;simp [Op.equalIn,AP hu]
  ·rename_i hu;obtain rfl:=hx.aQ; obtain ⟨rfl,_⟩:=hy.bS;obtain rfl:=uC h;simp [Op.equalIn,AP hu]
  ·rename_i hu;obtain ⟨rfl,_⟩:=hx.bS; obtain rfl:=hy.aQ;obtain rfl:=uC h;simp [Op.equalIn,AP hu]
  ·rename_i hu;obtain rfl:=uC h;rcases hy.aV with ⟨_,_,rfl⟩ | ⟨h0,_⟩
   ·rcases hx.aV with ⟨rfl,_,rfl⟩ | ⟨rfl,b',o,cap,sp,mv,rfl,_⟩
    ·simp [Op.equalIn,AP hu]
    ·simp [Op.equalIn,AP hu]
   ·simp at h0
  ·rename_i hu;obtain rfl:=uC h;rcases hx.aV with ⟨_,_,rfl⟩ | ⟨h0,_⟩
   ·rcases hy.aV with ⟨h0,_⟩ | ⟨_,b',o,cap,sp,mv,rfl,_⟩
    ·simp at h0
    ·simp [Op.equalIn,AP hu]
   ·simp at h0
  ·rename_i hu;obtain rfl:=uC h;rcases hx.aV with ⟨_,_,rfl⟩ | ⟨h0,_⟩
   ·obtain ⟨a,mcap,rfl,_⟩:=hy.aW;simp [Op.equalIn,AP hu]
   ·simp at h0
  ·rename_i hu;obtain rfl:=uC h;rcases hy.aV with ⟨_,_,rfl⟩ | ⟨h0,_⟩
   ·obtain ⟨a,mcap,rfl,_⟩:=hx.aW;simp [Op.equalIn,AP hu]
   ·simp at h0
  ·rename_i hu;obtain rfl:=hx.aZ; obtain rfl:=hy.aZ;obtain rfl:=uC h;simp [Op.equalIn,AP hu]
  ·rename_i hu;obtain rfl:=hx.aZ; obtain ⟨rfl,_⟩:=hy.cS;obtain rfl:=uC h;simp [Op.equalIn,AP hu]
  ·rename_i hu;obtain ⟨rfl,_⟩:=hx.cS; obtain rfl:=hy.aZ;obtain rfl:=uC h;simp [Op.equalIn,AP hu]
  ·rename_i hu;obtain rfl:=hx.aZ; obtain ⟨b',mes,cl,rfl,_⟩:=hy.im_inv;obtain rfl:=uC h;simp [Op.equalIn,AP hu]
  ·rename_i hu;obtain ⟨b',mes,cl,rfl,_⟩:=hx.im_inv; obtain rfl:=hy.aZ;obtain rfl:=uC h;simp [Op.equalIn,AP hu]
  ·rename_i hu;obtain rfl:=hx.cH; obtain rfl:=hy.cH;obtain rfl:=uC h;simp [Op.equalIn,AP hu]
  ·rename_i hu;obtain rfl:=hx.cH; obtain ⟨_,_,rfl,_⟩:=hy.cE;obtain rfl:=uC h;simp [Op.equalIn,AP hu]
  ·rename_i hu;obtain ⟨_,_,rfl,_⟩:=hx.cE; obtain rfl:=hy.cH;obtain rfl:=uC h;simp [Op.equalIn,AP hu]
  ·rename_i hu;obtain rfl:=hx.dX; obtain ⟨_,rfl,_⟩:=hy.bI;obtain rfl:=uC h;simp [Op.equalIn,AP hu]
  ·rename_i hu;obtain ⟨_,rfl,_⟩:=hx.bI; obtain rfl:=hy.dX;obtain rfl:=uC h;simp [Op.equalIn,AP hu]
  ·rename_i fields xs ys hu;split at h
   ·simp at h
   ·rename_i hst;obtain ⟨mx,rfl,hlx,hx'⟩:=hx.aY;obtain ⟨my,rfl,hly,hy'⟩:=hy.aY;have hf:P.fieldsOf t=fields:=by simp [Program.fieldsOf,hu]
    rw [run_equalIn_struct w D t mx my (by rw [hf]; exact hu) (by simpa using hst),hf];exact hF _ _ _ _ h K w mx my hlx hly hx' hy' D hD'
  ·rename_i len elem xs ys hu;obtain ⟨mx,rfl,hlx,hx'⟩:=hx.aY;obtain ⟨my,rfl,hly,hy'⟩:=hy.aY;split at h
   ·rename_i hn;obtain ⟨n,hn⟩:=Option.isSome_iff_exists.1 hn;rw [run_equalIn_array w D t elem len n mx my hu hn];exact hA _ _ _ _ _ _ h n hn K w mx my hlx hly hx' hy' D hD'
   ·simp at h
  ·simp at h
end
end Go.Ev
namespace Go.Ev
section
variable {P:Program}{S:Type}{V:S->Prop}{G:Nat->Option (List EV)}{D:Drv S}
theorem Ts {d:Nat}{t:TypeId}{x y:EV}{b:Bool}(h:eqE P d t x y=some b):
  (∃ a c a' c',x=.int a c/\y=.int a' c')∨(∃ a a',x=.str a/\y=.str a')∨(∀ (K:KM) (w:World) (mx my:Value),VR K w x mx->VR K w y my->∀ op,op=.eql∨op=.neq->
   binOp op t mx my=(if op=.eql then (do pure (.bool (<-Op.equal t mx my))) else (do pure (.bool (!(<-Op.equal t mx my))))) ):=by
 cases d with
 | zero=>simp [eqE] at h
 | succ d=>
  unfold eqE at h;split at h
  case h_2=>exact .inl ⟨_,_,_,_,rfl,rfl⟩
  case h_3=>exact .inr (.inl ⟨_,_,rfl,rfl⟩)
  all_goals first
   | (refine .inr (.inr fun K w mx my hx hy op hop=>?_); first
    | (obtain rfl:=hx.bC; obtain rfl:=hy.bC; rcases hop with rfl | rfl<;>simp [binOp])
    | (obtain rfl:=hx.aQ; obtain rfl:=hy.aQ; rcases hop with rfl | rfl<;>simp [binOp])
    | (obtain rfl:=hx.aQ; obtain ⟨b',o,rfl,_⟩:=hy.dO; rcases hop with rfl | rfl<;>simp [binOp])
    | (obtain ⟨b',o,rfl,_⟩:=hx.dO; obtain rfl:=hy.aQ; rcases hop with rfl | rfl<;>simp [binOp])
    | (obtain rfl:=hx.aQ; obtain ⟨rfl,_⟩:=hy.bO; rcases hop with rfl | rfl<;>simp [binOp])
    | (obtain ⟨rfl,_⟩:=hx.bO; obtain rfl:=hy.aQ; rcases hop with rfl | rfl<;>simp [binOp])
    | (obtain rfl:=hx.aQ; obtain ⟨rfl,_⟩:=hy.bS; rcases hop with rfl | rfl<;>simp [binOp])
    | (obtain ⟨rfl,_⟩:=hx.bS; obtain rfl:=hy.aQ; rcases hop with rfl | rfl<;>simp [binOp])
    | (rcases hx.aV with ⟨_,_,rfl⟩ | ⟨_,_,_,_,_,_,rfl,_⟩<;>rcases hy.aV with ⟨_,_,rfl⟩ | ⟨_,_,_,_,_,_,rfl,_⟩<;>rcases hop with rfl | rfl<;>simp [binOp])
    | (rcases hx.aV with ⟨_,_,rfl⟩ | ⟨_,_,_,_,_,_,rfl,_⟩<;>obtain ⟨_,_,rfl,_⟩:=hy.aW<;>rcases hop with rfl | rfl<;>simp [binOp])
    | (rcases hy.aV with ⟨_,_,rfl⟩ | ⟨_,_,_,_,_,_,rfl,_⟩<;>obtain ⟨_,_,rfl,_⟩:=hx.aW<;>rcases hop with rfl | rfl<;>simp [binOp])
    | (obtain rfl:=hx.aZ; obtain rfl:=hy.aZ; rcases hop with rfl | rfl<;>simp [binOp])
    | (obtain rfl:=hx.aZ; obtain ⟨rfl,_⟩:=hy.cS; rcases hop with rfl | rfl<;>simp [binOp])
    | (obtain ⟨rfl,_⟩:=hx.cS; obtain rfl:=hy.aZ; rcases hop with rfl | rfl<;>simp [binOp])
    | (obtain rfl:=hx.aZ; obtain ⟨_,_,_,rfl,_⟩:=hy.im_inv; rcases hop with rfl | rfl<;>simp [binOp])
    | (obtain ⟨_,_,_,rfl,_⟩:=hx.im_inv; obtain rfl:=hy.aZ; rcases hop with rfl | rfl<;>simp [binOp])
    | (obtain rfl:=hx.cH; obtain rfl:=hy.cH; rcases hop with rfl | rfl<;>simp [binOp])
    | (obtain rfl:=hx.cH; obtain ⟨_,_,rfl,_⟩:=hy.cE; rcases hop with rfl | rfl<;>simp [binOp])
    | (obtain ⟨_,_,rfl,_⟩:=hx.cE; obtain rfl:=hy.cH; rcases hop with rfl | rfl<;>simp [binOp])
    | (obtain rfl:=hx.dX; obtain ⟨_,rfl,_⟩:=hy.bI; rcases hop with rfl | rfl<;>simp [binOp])
    | (obtain ⟨_,rfl,_⟩:=hx.bI; obtain rfl:=hy.dX; rcases hop with rfl | rfl<;>simp [binOp])
    | (obtain ⟨_,rfl,_⟩:=hx.aY; obtain ⟨_,rfl,_⟩:=hy.aY; rcases hop with rfl | rfl<;>simp [binOp])
    )
   | simp at h
theorem VR.of_nilIface {K:KM}{w:World}{x:EV}(h:VR K w x .nilIface):x=.undef∨x=.dA:=by
 cases h with
 | pure _ _ hp=>cases hp<;>simp
theorem VR.of_agg {K:KM}{w:World}{x:EV}{m:Array Value}(h:VR K w x (.agg m)):x=.undef∨∃ cs,x=.agg cs:=by
 cases h with
 | pure _ _ hp=>cases hp<;>simp
 | agg cs=>simp
theorem IJ {op:BinOp}{t:TypeId}{x y:Operand}{w:World}{mx my:Value}(h1:¬ (mx=.nilIface/\my=.nilIface))(h2:¬ ∃ a b,mx=.agg a/\my=.agg b):
  (eqGuard op t x y mx my).run P w=.ok () w:=by
 unfold eqGuard;cases op<;>first | rfl | skip
 all_goals
  simp only [Bool.not_true,Bool.false_eq_true,if_false];cases mx<;>cases my<;>first | rfl | (exact absurd ⟨rfl,rfl⟩ h1) | (exact absurd ⟨_,_,rfl,rfl⟩ h2)
theorem KP {op:BinOp}{t:TypeId}{x y:Operand}{d:Nat}{ex ey:EV}{b:Bool}(h:eqE P d t ex ey=some b)(hne:∀ cs,ex≠.agg cs){K:KM}{w:World}{mx my:Value}
  (hx:VR K w ex mx) (hy:VR K w ey my):(eqGuard op t x y mx my).run P w=.ok () w:=by
 have hu:ex≠.undef:=by
  rintro rfl
  cases d<;>simp [eqE] at h
 have hu':ey≠.undef:=by
  rintro rfl
  cases d<;>simp [eqE] at h
 have hii:¬ (ex=.dA/\ey=.dA):=by
  rintro ⟨rfl,rfl⟩
  cases d<;>simp [eqE] at h
 refine IJ ?_ ?_
 ·rintro ⟨rfl,rfl⟩
  rcases hx.of_nilIface with h1 | h1
  ·exact hu h1
  ·rcases hy.of_nilIface with h2 | h2
   ·exact hu' h2
   ·exact hii ⟨h1,h2⟩
 ·rintro ⟨a,b,rfl,rfl⟩
  rcases hx.of_agg with h1 | ⟨cs,h1⟩
  ·exact hu h1
  ·exact hne cs h1
theorem ZX (op:BinOp)(t:TypeId)(x y:EV)(ox oy:Operand)(hni:∀ k n k' n',x=.int k n->y=.int k' n'->False)(hns:∀ s s',x=.str s->y=.str s'->False):
  Ok V (eEq (S:=S) P op t x y) fun v=>∀ K w mx my,VR K w x mx->VR K w y my->
   ∃ mv,(do eqGuard op t ox oy mx my; binOp op t mx my:Sem Value).run P w=.ok mv w/\VR K w v mv:=by
 have vb:∀ {K w} (b:Bool),VR K w (.bool b) (.bool b):=fun b=>.pure _ _ (.bool b);unfold eEq;refine Ok.bind (Ok.lift (Φ:=fun b=>eqE P 40 t x y=some b) fun b h=>h) fun b=>?_;have eq:∀ {op:BinOp} (_:op=.eql∨op=.neq),eqE P 40 t x y=some b->∀ K w mx my,VR K w x mx->VR K w y my->
   (binOp op t mx my).run P w=.ok (.bool (if op=.eql then b else !b)) w:=by
  intro op hop h K w mx my hx hy;rcases Ts h with ⟨a,c,a',c',h1,h2⟩ | ⟨a,a',h1,h2⟩ | hs
  ·exact (hni _ _ _ _ h1 h2).elim
  ·exact (hns _ _ h1 h2).elim
  ·rw [hs K w mx my hx hy op hop];have:=S3 (P:=P) 40 t x y b h K w mx my hx hy Op.maxDepth (by decide);rcases hop with rfl | rfl<;>simp [Op.equal,this]
 split
 ·refine Ok.ite (fun _=>Ok.fail) fun hg=>Ok.pure fun h K w mx my hx hy=>?_;obtain ⟨mx,rfl,_⟩:=id hx.aY;rename_i cs _;have hy':∃ ys,y=.agg ys:=by
   have h':=h;unfold eqE at h';split at h'<;>first | (rename_i e; cases e; done) | exact ⟨_,rfl⟩ | (simp at h'; done)
  obtain ⟨ys,rfl⟩:=hy';obtain ⟨my,rfl,_⟩:=id hy.aY;exact ⟨.bool b,by rw [Sem.run_bind,run_eqGuard_agg _ _ _ _ _ _ _ (by simpa using hg)]; simpa using eq (.inl rfl) h K w _ _ hx hy,vb b⟩
 ·refine Ok.ite (fun _=>Ok.fail) fun hg=>Ok.pure fun h K w mx my hx hy=>?_;obtain ⟨mx,rfl,_⟩:=id hx.aY;rename_i cs _;have hy':∃ ys,y=.agg ys:=by
   have h':=h;unfold eqE at h';split at h'<;>first | (rename_i e; cases e; done) | exact ⟨_,rfl⟩ | (simp at h'; done)
  obtain ⟨ys,rfl⟩:=hy';obtain ⟨my,rfl,_⟩:=id hy.aY;exact ⟨.bool !b,by rw [Sem.run_bind,run_eqGuard_agg _ _ _ _ _ _ _ (by simpa using hg)]; simpa using eq (.inr rfl) h K w _ _ hx hy,vb _⟩
 ·rename_i hne;refine Ok.pure fun h K w mx my hx hy=>⟨.bool b,?_,vb b⟩
  rw [Sem.run_bind,KP h (fun cs e=>hne cs e) hx hy,uE];simpa using eq (.inl rfl) h K w mx my hx hy
 ·rename_i hne;refine Ok.pure fun h K w mx my hx hy=>⟨.bool !b,?_,vb _⟩
  rw [Sem.run_bind,KP h (fun cs e=>hne cs e) hx hy,uE];simpa using eq (.inr rfl) h K w mx my hx hy
 ·exact Ok.fail
end
end Go.Ev
namespace Go.Ev
section
variable {P:Program}{S:Type}{V:S->Prop}{G:Nat->Option (List EV)}{D:Drv S}
theorem JB (K:KM)(w:World)(v:Value):VR K w (EV.ofCell v) v:=by
 refine .pure _ _ ?_;unfold EV.ofCell;split
 ·exact .bool _
 ·exact .int _ _
 ·exact .str _
 ·exact .aH
 ·exact .bB _ _
 ·exact .cU
 ·exact .dL
 ·exact .dA
 ·exact .undef _
theorem NY (K:KM)(w:World)(v:Value)(hf:flat v=true):VR K w (EV.ofValue v) v:=by
 unfold EV.ofValue;split
 ·rename_i cs;refine .agg _ _ (by simp) (fun i h=>?_) fun i h1 h2=>?_
  ·simp only [flat,Array.all_eq_true] at hf;exact hf i h
  ·simp only [List.getElem_map,Array.getElem_toList];exact JB K w _
 ·exact .iface _ _ _ (JB K w _)
 ·exact JB K w _
theorem VR.cells {K:KM}{w:World}{v:EV}{mv:Value}{vs:List EV}(h:VR K w v mv)(hc:v.cells=some vs):
  aU K w vs mv.cells/\∀ i (h:i<mv.cells.size),(mv.cells[i]).oneCell'=true:=by
 have one:∀ {x:EV} {mx:Value},VR K w x mx->mx.cells=#[mx]->mx.oneCell'=true->x.cells=some [x]->some [x]=some vs->
   aU K w vs mx.cells/\∀ i (h:i<mx.cells.size),(mx.cells[i]).oneCell'=true:=by
  intro x mx hx h1 h2 _ h4;obtain rfl:=uC h4;rw [h1];refine ⟨⟨rfl,fun i h1 h2=>?_⟩,fun i h=>?_⟩
  ·have hi:i=0:=by simp at h1; omega
   subst hi; simpa using hx
  ·have hi:i=0:=by simp at h; omega
   subst hi; simpa using h2
 have hv:=h;cases h with
 | pure _ _ hp=>
  cases hp with
  | undef=>simp [EV.cells] at hc
  | agg cs mcs hl h1 h=>
   obtain rfl:=uC hc;exact ⟨⟨hl,fun i a b=>.pure _ _ (h i a b)⟩,h1⟩
  | tuple=>simp [EV.cells] at hc
  | _=>exact one hv rfl rfl rfl hc
 | agg cs mcs hl h1 h=>
  obtain rfl:=uC hc;exact ⟨⟨hl,h⟩,h1⟩
 | tuple=>simp [EV.cells] at hc
 | _=>exact one hv rfl rfl rfl hc
theorem Oc (vs:List Value):∀ (k off:Nat) (cells:Array Value),
  ((vs.zipIdx k).foldl (fun cs (x:Value×Nat)=>cs.setIfInBounds (off+x.2) x.1) cells).size=cells.size/\
  ∀ i,((vs.zipIdx k).foldl (fun cs (x:Value×Nat)=>cs.setIfInBounds (off+x.2) x.1) cells)[i]? =
   if off+k<=i/\i<off+k+vs.length/\i<cells.size then vs[i - (off+k)]? else cells[i]? :=by
 induction vs with
 | nil=>intro k off cells; simp; intro i h1 h2; omega
 | cons v vs ih=>
  intro k off cells;simp only [List.zipIdx_cons,List.foldl_cons];obtain ⟨h1,h2⟩:=ih (k+1) off (cells.setIfInBounds (off+k) v);refine ⟨by simpa using h1,fun i=>?_⟩;rw [h2];simp only [Array.size_setIfInBounds,List.length_cons,Array.getElem?_setIfInBounds];by_cases hi:i=off+k
  ·subst hi;by_cases hs:off+k<cells.size
   ·rw [if_neg (by omega),if_pos rfl,if_pos hs,if_pos (by omega)]; simp
   ·rw [if_neg (by omega),if_pos rfl,if_neg hs,if_neg (by omega)];simp [hs]
  ·by_cases hc:off+(k+1)<=i/\i<off+(k+1)+vs.length/\i<cells.size
   ·rw [if_pos hc,if_pos (by omega)];rw [show i - (off+k)=(i - (off+(k+1)))+1 from by omega,List.getElem?_cons_succ]
   ·rw [if_neg hc,if_neg (by omega),if_neg (by omega)]
theorem IK {cells vs cells':List EV}{k:Nat}(h:DG cells k vs=some cells'):
  k+vs.length<=cells.length/\cells'.length=cells.length/\∀ i,cells'[i]? =if k<=i/\i<k+vs.length then vs[i - k]? else cells[i]? :=by
 unfold DG at h;split at h
 ·rename_i hle;obtain rfl:=uC h;refine ⟨hle,by simp; omega,fun i=>?_⟩;rw [List.append_assoc,List.getElem?_append,List.length_take];by_cases h1:i<k
  ·rw [if_pos (by omega),if_neg (by omega),List.getElem?_take,if_pos h1]
  ·rw [if_neg (by omega),List.getElem?_append];by_cases h2:i<k+vs.length
   ·rw [if_pos (by omega),if_pos (by omega)]; congr 1; omega
   ·rw [if_neg (by omega),if_neg (by omega),List.getElem?_drop]; congr 1; omega
 ·simp at h
def VC (K:KM)(w:World)(cs:List EV)(ms:Array Value):Prop:=aU K w cs ms/\∀ i (h:i<ms.size),(ms[i]).oneCell'=true
theorem VC.put {K:KM}{w:World}{cells vs cells':List EV}{k:Nat}{mc mvs:Array Value}(h:DG cells k vs=some cells')(hc:VC K w cells mc)(hv:VC K w vs mvs):
  VC K w cells' (mvs.zipIdx.foldl (fun cs (x:Value×Nat)=>cs.setIfInBounds (k+x.2) x.1) mc)/\k+mvs.size<=mc.size:=by
 obtain ⟨hle,hl,hg⟩:=IK h;obtain ⟨⟨hcl,hcv⟩,hc1⟩:=hc;obtain ⟨⟨hvl,hvv⟩,hv1⟩:=hv;have e:mvs.zipIdx.foldl (fun cs (x:Value×Nat)=>cs.setIfInBounds (k+x.2) x.1) mc=(mvs.toList.zipIdx 0).foldl (fun cs (x:Value×Nat)=>cs.setIfInBounds (k+x.2) x.1) mc:=by
  rw [<-Array.foldl_toList]; simp
 rw [e];obtain ⟨f1,f2⟩:=Oc mvs.toList 0 k mc;generalize (mvs.toList.zipIdx 0).foldl (fun cs (x:Value×Nat)=>cs.setIfInBounds (k+x.2) x.1) mc=r at f1 f2;have key:∀ i (h:i<cells'.length) (h':i<r.size),VR K w cells'[i] r[i]/\(r[i]).oneCell'=true:=by
  intro i h1 h2;have g1:=hg i;have g2:=f2 i;rw [uD h1] at g1;rw [Array.getElem?_eq_getElem h2] at g2;by_cases hin:k<=i/\i<k+vs.length
  ·rw [if_pos hin] at g1;rw [if_pos (by simp; omega)] at g2;rw [uD (by omega)] at g1;simp only [Nat.add_zero,Array.getElem?_toList] at g2;rw [Array.getElem?_eq_getElem (by omega)] at g2;simp only [uB] at g1 g2;rw [g1,g2];exact ⟨hvv _ (by omega) (by omega),hv1 _ _⟩
  ·rw [if_neg hin] at g1;rw [if_neg (by simp; omega)] at g2;rw [uD (by omega)] at g1;rw [Array.getElem?_eq_getElem (by omega)] at g2;simp only [uB] at g1 g2;rw [g1,g2];exact ⟨hcv _ (by omega) (by omega),hc1 _ _⟩
 exact ⟨⟨⟨by omega,fun i h1 h2=>(key i h1 h2).1⟩,fun i h2=>(key i (by omega) h2).2⟩,by omega⟩
theorem Le {K:KM}{w:World}{places:Nat->Option (Nat×Nat)}:∀ (parts:List (Nat×EV)) (mparts:List (Nat×Value)) (cells cells':List EV) (mc:Array Value),
  KN places cells parts=some cells'->parts.length=mparts.length->(∀ i (h:i<parts.length) (h':i<mparts.length),parts[i].1=mparts[i].1/\VR K w parts[i].2 mparts[i].2)->
  VC K w cells mc->∃ mc',Instr.fill places mc mparts=some mc'/\VC K w cells' mc':=by
 intro parts;induction parts with
 | nil=>
  intro mparts cells cells' mc h hl _ hc;cases mparts with
  | nil=>simp only [KN,uB] at h; subst h; exact ⟨mc,rfl,hc⟩
  | cons=>simp at hl
 | cons p parts ih=>
  intro mparts cells cells' mc h hl hv hc;cases mparts with
  | nil=>simp at hl
  | cons m mparts=>
   obtain ⟨i,v⟩:=p;obtain ⟨i',mv⟩:=m;obtain ⟨rfl,hv0⟩:=hv 0 (by simp) (by simp);simp only [List.getElem_cons_zero] at hv0;unfold KN at h;unfold Instr.fill;cases hp:places i with
   | none=>simp [hp] at h
   | some os=>
    obtain ⟨off,size⟩:=os;simp only [hp] at h;simp only [List.getElem_cons_zero,hp];split at h
    ·rename_i vs hvs;split at h
     ·simp at h
     ·rename_i hsz;split at h
      ·rename_i cells1 hput;obtain ⟨hc1,hc2⟩:=hv0.cells hvs;obtain ⟨hn,hle⟩:=VC.put hput hc ⟨hc1,hc2⟩;have hsz':mv.cells.size=size:=by rw [<-hc1.1]; omega
       obtain ⟨mc',h1,h2⟩:=ih mparts cells1 cells' _ h (by simpa using hl) (fun j a b=>hv (j+1) (by simpa using a) (by simpa using b)) hn;refine ⟨mc',?_,h2⟩;rw [if_neg (by simp [hsz']; omega)];exact h1
      ·simp at h
    ·simp at h
theorem D5 {t:TypeId}{z:List EV}(h:G0 P t=some z)(K:KM)(w:World):
  ∃ v,(zeroValue t).run P w=.ok v w/\VC K w z v.cells:=by
 unfold G0 at h;cases hi:P.info? t with
 | none=>simp [hi] at h
 | some i=>
  simp only [hi,Option.bind_some] at h;cases hzv:i.zero with
  | none=>simp [hzv] at h
  | some v=>
   simp only [hzv,Option.bind_some] at h;split at h
   ·rename_i hf;simp only [uB] at h;subst h;refine ⟨v,by simp [zeroValue,Hc hi,hzv],⟨by simp,fun j h1 h2=>?_⟩,fun j h=>?_⟩
    ·simp only [List.getElem_map,Array.getElem_toList]; exact JB K w _
    ·cases v with
     | agg cs=>simp only [flat,Array.all_eq_true] at hf; exact hf j h
     | tuple=>simp [flat] at hf
     | _=>
      have hj:j=0:=by (simp [Value.cells] at h; omega)
      subst hj; simp [Value.cells,Value.oneCell']
   ·simp at h
theorem IL {t:TypeId}{z:EV}(h:zeroV P t=some z)(K:KM)(w:World):∃ v,(zeroValue t).run P w=.ok v w/\VR K w z v:=by
 unfold zeroV at h;cases hi:P.info? t with
 | none=>simp [hi] at h
 | some i=>
  simp only [hi,Option.bind_some] at h;cases hzv:i.zero with
  | none=>simp [hzv] at h
  | some v=>
   simp only [hzv,Option.bind_some] at h;split at h
   ·rename_i hf;simp only [uB] at h;subst h;exact ⟨v,by simp [zeroValue,Hc hi,hzv],NY K w v hf⟩
   ·simp at h
theorem Tt (t:TypeId)(parts:List (Nat×EV)):
  Ok V (R3 (S:=S) P t parts) fun v=>∀ K w (mparts:Array (Nat×Value)),parts.length=mparts.size->
   (∀ i (h:i<parts.length) (h':i<mparts.size),parts[i].1=mparts[i].1/\VR K w parts[i].2 mparts[i].2)->∃ mv,(Instr.build t mparts).run P w=.ok mv w/\VR K w v mv:=by
 unfold R3;refine Ok.bind (Ok.lift (Φ:=fun z=>G0 P t=some z) fun n h=>h) fun z=>?_;split
 ·rename_i fields hu;refine Ok.bind (Ok.lift (Φ:=fun z=>Ko P fields=some z) fun n h=>h) fun places=>?_;refine Ok.bind (Ok.lift (Φ:=fun cs=>KN (fun i:Nat=>(places:List (Nat×Nat))[i]?) z parts=some cs) fun n h=>h) fun cs=>Ok.pure ?_;intro hcs hp hz K w mparts hl hv;obtain ⟨zv,z1,z2⟩:=D5 hz K w;obtain ⟨mc,m1,m2⟩:=Le parts mparts.toList z cs zv.cells hcs (by simpa using hl) (fun i a b=>by simpa using hv i a (by simpa using b)) z2;refine ⟨.agg mc,?_,.agg _ _ m2.1.1 m2.2 m2.1.2⟩;have hr:=run_places (P:=P) w _ _ hp;simp only [Instr.build,Sem.run_bind,z1,uE,AP hu];rw [show (Array.mapM (m:=Sem) (fun f=>do pure (Field.offset f,<-sizeOf f.type)) fields)=(List.toArray <$> fields.toList.mapM fun f=>Prod.mk f.offset <$> sizeOf f.type) from by
   rw [Array.mapM_eq_mapM_toList]; simp]
  simp only [Sem.run_map,hr,uE];have hfun:(fun x:Nat=>places.toArray[x]?)=fun i=>places[i]? :=by funext i; simp
  rw [hfun,m1];rfl
 ·rename_i n elem hu;refine Ok.bind (Ok.lift (Φ:=fun n=>BP P elem=some n) fun n h=>h) fun n=>?_;refine Ok.bind (Ok.lift (Φ:=fun cs=>KN (fun i=>some (i*n,n)) z parts=some cs) fun n h=>h) fun cs=>Ok.pure ?_;intro hcs hn hz K w mparts hl hv;obtain ⟨zv,z1,z2⟩:=D5 hz K w;obtain ⟨mc,m1,m2⟩:=Le parts mparts.toList z cs zv.cells hcs (by simpa using hl) (fun i a b=>by simpa using hv i a (by simpa using b)) z2;refine ⟨.agg mc,?_,.agg _ _ m2.1.1 m2.2 m2.1.2⟩;simp only [Instr.build,Sem.run_bind,z1,uE,AP hu,Bm hn,m1];rfl
 ·exact Ok.fail
theorem D6 {w:World}{b:Nat}{es:Array MapEntry}{clock:Nat}(h:w.heap[b]? =some (.map es clock)):(getObj b).run P w=.ok (.map es clock) w:=by
 simp only [getObj,Sem.run,h]
theorem Xe (look:B5)(t:TypeId)(x:EV):
  Ok V (ZR (S:=S) P look t x) fun v=>∀ K w mx ty,FO look K w->VR K w x mx->∃ mv,(Builtin.len_ #[t] ty #[mx]).run P w=.ok mv w/\VR K w v mv:=by
 have vi:∀ {K w} (n:Nat),VR K w (.int .i64 n) (goInt n):=fun n=>.pure _ _ (.int _ _);unfold ZR;split
 ·rename_i s hu;refine Ok.pure fun K w mx ty _ hx=>?_;obtain rfl:=hx.bD;exact ⟨_,by simp [Builtin.len_,AP hu],vi _⟩
 ·rename_i n e hu;refine Ok.pure fun K w mx ty _ hx=>?_;exact ⟨_,by simp [Builtin.len_,AP hu],vi _⟩
 ·rename_i e nn esz len row hu;refine Ok.pure fun K w mx ty _ hx=>?_;rcases hx.aV with ⟨_,rfl,rfl⟩ | ⟨_,b,o,cap,sp,mv,rfl,_⟩
  ·exact ⟨_,by simp [Builtin.len_,AP hu],vi _⟩
  ·exact ⟨_,by simp [Builtin.len_,AP hu],vi _⟩
 ·rename_i e r esz off len cap hu;refine Ok.pure fun K w mx ty _ hx=>?_;obtain ⟨a,mcap,rfl,_⟩:=hx.aW;exact ⟨_,by simp [Builtin.len_,AP hu],vi _⟩
 ·rename_i x' _ _ k e hu;refine Ok.bind (Ok.lift (Φ:=fun z=>entriesOf look x'=some z) fun n h=>h) fun es=>Ok.pure ?_;intro h K w mx ty hL hx;unfold entriesOf at h;split at h
  ·obtain rfl:=uC h;obtain rfl:=hx.aZ;exact ⟨goInt 0,by simp [Builtin.len_,AP hu],vi 0⟩
  ·obtain rfl:=uC h;obtain ⟨b,mes,clock,rfl,_,hm,hl,_⟩:=hx.im_inv;exact ⟨goInt mes.size,by simp [Builtin.len_,AP hu,D6 hm],by rw [hl]; exact vi _⟩
  ·rename_i r;split at h
   ·rename_i fr pf es' hr;obtain rfl:=uC h;obtain ⟨rfl,_⟩:=hx.cS;obtain ⟨_,mes,clock,hm,hl,_⟩:=hL r _ hr;exact ⟨goInt mes.size,by simp [Builtin.len_,AP hu,D6 hm],by rw [hl]; exact vi _⟩
   ·simp at h
  ·simp at h
 ·exact Ok.fail
theorem SA (x:EV)(xt asserted:TypeId)(ok:Bool):
  Ok V (QF (S:=S) P x asserted ok) fun v=>∀ K w mx,VR K w x mx->∃ mv,(Instr.typeAssert mx xt asserted ok).run P w=.ok mv w/\VR K w v mv:=by
 have tup:∀ {K w} {v:EV} {mv:Value} (b:Bool),VR K w v mv->VR K w (.tuple [v,.bool b]) (.tuple #[mv,.bool b]):=by
  intro K w v mv b h;refine .tuple _ _ rfl fun i h1 h2=>?_
  match i,h1 with
  | 0,_=>exact h
  | 1,_=>exact .pure _ _ (.bool b)
 unfold QF;split
 ·exact Ok.fail
 ·rename_i d t v hni hu;refine Ok.ite (fun ht=>Ok.pure fun K w mx hx=>?_) fun ht=>Ok.ite (fun hok=>?_) fun _=>Ok.fail
  ·obtain ⟨mv,rfl,hv⟩:=hx.bI;subst ht;refine ⟨if ok then .tuple #[mv,.bool true] else mv,?_,?_⟩
   ·simp only [Instr.typeAssert,Sem.run_bind,AP hu,uE];cases d<;>first | exact absurd rfl (hni _) | simp
   ·cases ok
    ·exact hv
    ·exact tup true hv
  ·subst hok;refine Ok.bind (Ok.lift (Φ:=fun z=>zeroV P asserted=some z) fun n h=>h) fun zv=>Ok.pure ?_;intro hz K w mx hx;obtain ⟨mv,rfl,hv⟩:=hx.bI;obtain ⟨z,z1,z2⟩:=IL hz K w;refine ⟨.tuple #[z,.bool false],?_,tup false z2⟩;simp only [Instr.typeAssert,Sem.run_bind,AP hu,uE];cases d<;>first | exact absurd rfl (hni _) | simp [ht,z1]
 ·rename_i d hni hu;refine Ok.ite (fun hok=>?_) fun _=>Ok.fail;subst hok;refine Ok.bind (Ok.lift (Φ:=fun z=>zeroV P asserted=some z) fun n h=>h) fun zv=>Ok.pure ?_;intro hz K w mx hx;obtain rfl:=hx.dX;obtain ⟨z,z1,z2⟩:=IL hz K w;refine ⟨.tuple #[z,.bool false],?_,tup false z2⟩;simp only [Instr.typeAssert,Sem.run_bind,AP hu,uE];cases d<;>first | exact absurd rfl (hni _) | simp [z1]
 ·exact Ok.fail
end
end Go.Ev
namespace Go.Ev
section
variable {P:Program}{S:Type}{V:S->Prop}{G:Nat->Option (List EV)}{D:Drv S}
def VRo (K:KM)(w:World):Option EV->Option Value->Prop
 | none,none=>True
 | some v,some mv=>VR K w v mv
 | _,_=>False
theorem Cw {w:World}{k:IntKind}{i:Int}{y:Nat}{code:BoundsCode}(h0:0<=i)(h1:i<=y):
  (Instr.sliceBound (.int k i) y code).run P w=.ok i.toNat w:=by
 simp [Instr.sliceBound,asIntOf,h0,h1]
theorem VRo.cY {K:KM}{w:World}{v:EV}{mx:Option Value}(h:VRo K w (some v) mx):∃ mv,mx=some mv/\VR K w v mv:=by
 cases mx with
 | none=>exact h.elim
 | some mv=>exact ⟨mv,rfl,h⟩
theorem VRo.bM {K:KM}{w:World}{mx:Option Value}(h:VRo K w none mx):mx=none:=by
 cases mx with
 | none=>rfl
 | some mv=>exact h.elim
theorem Dd {x:Option EV}{d:Nat}{i:Int}(h:Bg x d=some i):(x=none/\i=d)∨∃ k,x=some (.int k i):=by
 unfold Bg at h;split at h
 ·exact .inl ⟨rfl,(uC h).symm⟩
 ·rename_i k i';obtain rfl:=uC h;exact .inr ⟨k,rfl⟩
 ·simp at h
theorem Ee {K:KM}{w:World}{lo hi:Option EV}{mlo mhi:Option Value}{sl:Bool}{len cap:Nat}{l h:Int}(hl:Bg lo 0=some l)(hh:Bg hi len=some h)
  (rl:VRo K w lo mlo) (rh:VRo K w hi mhi) (h0:0<=l) (h1:l<=h) (h2:h<=cap):
  (Instr.sliceBounds sl len cap mlo mhi none).run P w=.ok (l.toNat,h.toNat,cap) w:=by
 unfold Instr.sliceBounds;rcases Dd hh with ⟨rfl,rfl⟩ | ⟨k,rfl⟩
 ·obtain rfl:=rh.bM;rcases Dd hl with ⟨rfl,rfl⟩ | ⟨k',rfl⟩
  ·obtain rfl:=rl.bM;simp
  ·obtain ⟨mv,rfl,hv⟩:=rl.cY;obtain rfl:=hv.uW;simp only [Sem.run_bind,Sem.run_pure,uE];rw [Cw h0 (by omega)];simp
 ·obtain ⟨mv,rfl,hv⟩:=rh.cY;obtain rfl:=hv.uW;rcases Dd hl with ⟨rfl,rfl⟩ | ⟨k',rfl⟩
  ·obtain rfl:=rl.bM;simp only [Sem.run_bind,Sem.run_pure,uE];rw [Cw (by omega) h2];simp
  ·obtain ⟨mv,rfl,hv⟩:=rl.cY;obtain rfl:=hv.uW;simp only [Sem.run_bind,Sem.run_pure,uE];rw [Cw (by omega) h2];simp only [uE];rw [Cw h0 (by omega)];simp
theorem MU {K:KM}{w:World}{lo hi:Option EV}{mlo mhi:Option Value}{sl:Bool}{len cap:Nat}{l h m:Int}{mmx:Value}{k:IntKind}(hl:Bg lo 0=some l)
  (hh:Bg hi len=some h) (hhi:hi≠none)
  (rl:VRo K w lo mlo) (rh:VRo K w hi mhi) (hm:mmx=.int k m) (h0:0<=l) (h1:l<=h) (h2:h<=m) (h3:m<=cap):
  (Instr.sliceBounds sl len cap mlo mhi (some mmx)).run P w=.ok (l.toNat,h.toNat,m.toNat) w:=by
 subst hm;unfold Instr.sliceBounds;rcases Dd hh with ⟨rfl,rfl⟩ | ⟨k',rfl⟩
 ·exact absurd rfl hhi
 ·obtain ⟨mv,rfl,hv⟩:=rh.cY;obtain rfl:=hv.uW;simp only [Sem.run_bind];rw [Cw (by omega) h3];simp only [uE];rw [Cw (by omega) (by omega)];simp only [uE];rcases Dd hl with ⟨rfl,rfl⟩ | ⟨k',rfl⟩
  ·obtain rfl:=rl.bM;simp
  ·obtain ⟨mv,rfl,hv⟩:=rl.cY;obtain rfl:=hv.uW;simp only [Sem.run_bind];rw [Cw h0 (by omega)];simp
theorem ZY {a b c d:Prop}[Decidable a][Decidable b][Decidable c][Decidable d](h:(decide a && decide b && decide c && decide d)=true):a/\b/\c/\d:=by
 simp only [uF,decide_eq_true_eq] at h;exact ⟨h.1.1.1,h.1.1.2,h.1.2,h.2⟩
theorem V2 {a b c:Prop}[Decidable a][Decidable b][Decidable c](h:(decide a && decide b && decide c)=true):a/\b/\c:=by
 simp only [uF,decide_eq_true_eq] at h;exact ⟨h.1.1,h.1.2,h.2⟩
theorem S4 {K:KM}{w:World}{esz len:Nat}{row:Nat->List EV}{b o cap:Nat}{sp:Option Nat}{mv:Nat->Nat->Value}(hF:0<len->K.F b)(hcap:len<=cap)(hsp:0<len->sp=none)
  (hl:∀ i,i<len->(row i).length=esz) (hc:∀ i,i<len->∀ j,j<esz->cellAt w b (o+i*esz+j)=some (mv i j)/\(mv i j).oneCell'=true)
  (hv:∀ i,i<len->∀ j (h:j<(row i).length),PR K.F w (row i)[j] (mv i j)) (l h m n:Nat) (hn:0<len->esz=n) (h1:l<=h) (h2:h<=len) (h3:h<=m):
  VR K w (.uS true esz (h - l) fun i=>row (l+i)) (.slice (if m=l then some ⟨b,o,sp⟩ else some ((⟨b,o,sp⟩:Addr).add (l*n))) (h - l) (m - l)):=by
 refine .pure _ _ ?_;split
 ·rename_i hm;have h0:h - l=0:=by omega
  rw [h0];exact .uS esz 0 _ b o _ (fun _ _=>default) (by omega) (by omega) sp (by omega) (by omega) (by omega) (by omega)
 ·by_cases h0:h - l=0
  ·rw [h0];generalize hadd:(⟨b,o,sp⟩:Addr).add (l*n)=a';obtain ⟨b',o',sp'⟩:=a';exact .uS esz 0 _ b' o' _ (fun _ _=>default) (by omega) (by omega) sp' (by omega) (by omega) (by omega) (by omega)
  ·have hlen:0<len:=by omega
   obtain rfl:=hsp hlen;obtain rfl:=hn hlen;rw [D4];refine .uS esz (h - l) _ b (o+l*esz) _ (fun i j=>mv (l+i) j) (fun _=>hF hlen) (by omega) none (fun _=>rfl) (fun i hi=>hl _ (by omega)) (fun i hi j hj=>?_) (fun i hi j hj=>hv _ (by omega) j hj);have:=hc (l+i) (by omega) j hj;rw [Nat.add_mul,<-Nat.add_assoc] at this;exact this
theorem QM {K:KM}{w:World}{r esz off len mcap:Nat}{a:Addr}(hal:K.al r)(hle:len<=mcap)(haddr:mcap≠0->a=⟨K.vP r,K.off r+off*esz,none⟩)
  (l h m:Nat) (cap':Option Nat) (h1:l<=h) (h2:h<=m) (hm:m<=mcap) (hlen:off+h<=K.len r)
  (hcap:∀ c,cap'=some c->m - l=c/\off+l+c<=K.len r) (hnone:cap'=none->K.off r+(off+l+(m - l))*esz=K.ext r):
  VR K w (.ms r esz (off+l) (h - l) cap') (.slice (if m=l then some a else some (a.add (l*esz))) (h - l) (m - l)):=by
 split
 ·exact .ms r esz _ _ _ _ _ hal (by omega) (by omega) hcap hnone (by omega)
 ·obtain rfl:=haddr (by omega);rw [D4];refine .ms r esz _ _ _ _ _ hal (by omega) (by omega) hcap hnone fun _=>?_;rw [Nat.add_mul,Nat.add_assoc]
set_option maxHeartbeats 1000000 in
theorem Tu (hD:dK V P G D)(look:B5)(t:TypeId)(x:EV)(lo hi mx:Option EV):
  Ok V (R6 D P look t x lo hi mx) fun v=>∀ K w mxv mlo mhi mmx,FO look K w->VR K w x mxv->VRo K w lo mlo->VRo K w hi mhi->VRo K w mx mmx->
   ∃ mv,(Instr.sliceAt t mxv mlo mhi mmx).run P w=.ok mv w/\VR K w v mv:=by
 unfold R6;split
 ·rename_i s hu;refine Ok.ite (fun _=>Ok.fail) fun hmx=>?_;refine Ok.bind (Ok.lift (Φ:=fun z=>Bg hi s.size=some z) fun n h=>h) fun h=>?_;refine Ok.bind (Ok.lift (Φ:=fun z=>Bg lo 0=some z) fun n h=>h) fun l=>?_;refine Ok.bind (hD.bJ _) fun _=>Ok.pure ?_;intro hb hl hh K w mxv mlo mhi mmx hL hx rl rh rm;obtain ⟨h0,h1,h2⟩:=V2 hb;obtain rfl:=hx.bD;obtain rfl:mx=none:=by cases mx<;>simp at hmx ⊢
  obtain rfl:=rm.bM;refine ⟨.string (s.extract l.toNat h.toNat),?_,.pure _ _ (.str _)⟩;simp only [Instr.sliceAt,Sem.run_bind,AP hu,uE];simp only [Instr.slice,Sem.run_bind,AP hu,uE,Option.isSome_none,Bool.false_eq_true,if_false];rw [Ee hl hh rl rh h0 h1 h2];rfl
 ·rename_i elem nn esz len row hu;refine Ok.bind (Ok.lift (Φ:=fun n=>BP P elem=some n) fun n h=>h) fun n=>?_;refine Ok.bind (Ok.lift (Φ:=fun z=>Bg hi len=some z) fun n h=>h) fun h=>?_;refine Ok.bind (Ok.lift (Φ:=fun z=>Bg lo 0=some z) fun n h=>h) fun l=>?_;refine Ok.bind (Ok.lift (Φ:=fun z=>Bg mx len=some z) fun n h=>h) fun m=>?_;refine Ok.ite (fun _=>Ok.fail) fun hne=>?_;refine Ok.bind (hD.bJ _) fun _=>Ok.pure ?_;intro hb hm hl hh hn K w mxv mlo mhi mmx hL hx rl rh rm;obtain ⟨h0,h1,h2,h3⟩:=ZY hb;simp only [Instr.sliceAt,Sem.run_bind,AP hu,uE];simp only [Instr.slice];have run:∀ (cap:Nat),len<=cap->∃ m':Nat,(h.toNat<=m'/\m'<=cap)/\(Instr.sliceBounds true len cap mlo mhi mmx).run P w=.ok (l.toNat,h.toNat,m') w:=by
   intro cap hcap;rcases Dd hm with ⟨rfl,rfl⟩ | ⟨k,rfl⟩
   ·obtain rfl:=rm.bM;exact ⟨cap,by omega,Ee hl hh rl rh h0 h1 (by omega)⟩
   ·obtain ⟨mmv,rfl,hmv⟩:=rm.cY;have hhi:hi≠none:=by
     rintro rfl
     exact hne (.inr ⟨rfl,rfl⟩)
    exact ⟨m.toNat,by omega,MU hl hh hhi rl rh hmv.uW h0 h1 h2 (by omega)⟩
  rcases hx.aV with ⟨rfl,rfl,rfl⟩ | ⟨rfl,b,o,cap,sp,mv,rfl,hF,hcap,hsp,hlr,hc,hv⟩
  ·obtain ⟨m',hm1,hm2⟩:=run 0 (Nat.le_refl _);refine ⟨.slice none 0 0,?_,?_⟩
   ·simp only [Sem.run_bind,AP hu,uE,hm2,Bm hn,Sem.run_pure];rw [show h.toNat - l.toNat=0 from by omega,show m' - l.toNat=0 from by omega];simp
   ·rw [show h.toNat - l.toNat=0 from by omega];exact .pure _ _ (.bB _ _)
  ·obtain ⟨m',hm1,hm2⟩:=run cap hcap;refine ⟨_,?_,S4 hF hcap hsp hlr hc hv l.toNat h.toNat m' n (fun _=>by
    by_cases he:esz=n
    ·exact he
    ·exact absurd (.inl ⟨rfl,he⟩) hne) (by omega) (by omega) hm1.1⟩
   simp only [Sem.run_bind,AP hu,uE,hm2,Bm hn,Sem.run_pure,Option.map_some]
 ·rename_i elem r esz off len cap hu;refine Ok.bind (Ok.lift (Φ:=fun n=>BP P elem=some n) fun n h=>h) fun n=>?_;refine Ok.bind (Ok.lift (Φ:=fun z=>Bg hi len=some z) fun n h=>h) fun h=>?_;refine Ok.bind (Ok.lift (Φ:=fun z=>Bg lo 0=some z) fun n h=>h) fun l=>?_;refine Ok.ite (fun _=>Ok.fail) fun hne=>?_;have hesz:esz=n:=by
   by_cases he:esz=n
   ·exact he
   ·exact absurd (.inl he) hne
  split
  ·rename_i c;refine Ok.bind (hD.bJ _) fun _=>Ok.pure ?_;intro hb hl hh hn K w mxv mlo mhi mmx hL hx rl rh rm;obtain ⟨h0,h1,h2⟩:=V2 hb;obtain rfl:=rm.bM;obtain ⟨a,mcap,rfl,hal,hle,hlen,hcap,hnone,haddr⟩:=hx.aW;obtain ⟨rfl,hoc⟩:=hcap _ rfl;refine ⟨_,?_,QM hal hle haddr l.toNat h.toNat mcap (some (mcap - l.toNat)) (by omega) (by omega) (Nat.le_refl _) (by omega) (fun c hc=>by
    obtain rfl:=uC hc;exact ⟨rfl,by omega⟩) (fun hc=>by cases hc)⟩
   simp only [Instr.sliceAt,Sem.run_bind,AP hu,uE,Instr.slice];rw [Ee hl hh rl rh h0 h1 (by omega)];simp only [uE,Bm hn,hesz,Sem.run_pure,Option.map_some]
  ·refine Ok.bind (hD.bJ _) fun _=>Ok.pure ?_;intro hb hl hh hn K w mxv mlo mhi mmx hL hx rl rh rm;obtain ⟨h0,h1,h2⟩:=V2 hb;obtain rfl:=rm.bM;obtain ⟨a,mcap,rfl,hal,hle,hlen,hcap,hnone,haddr⟩:=hx.aW;refine ⟨_,?_,QM hal hle haddr l.toNat h.toNat mcap none (by omega) (by omega) (Nat.le_refl _) (by omega) (fun c hc=>by cases hc) (fun _=>by
    rw [show off+l.toNat+(mcap - l.toNat)=off+mcap from by omega]; exact hnone rfl)⟩
   simp only [Instr.sliceAt,Sem.run_bind,AP hu,uE,Instr.slice];rw [Ee hl hh rl rh h0 h1 (by omega)];simp only [uE,Bm hn,hesz,Sem.run_pure,Option.map_some]
  ·rename_i m;refine Ok.bind (Ok.lift (Φ:=fun z=>Bg (some m) 0=some z) fun n h=>h) fun mi=>?_;refine Ok.bind (hD.bJ _) fun _=>Ok.pure ?_;intro hb hm hl hh hn K w mxv mlo mhi mmx hL hx rl rh rm;obtain ⟨h0,h1,h2,h3⟩:=ZY hb;obtain ⟨mmv,rfl,hmv⟩:=rm.cY;rcases Dd hm with ⟨hc,_⟩ | ⟨k,hk⟩
   ·cases hc
   obtain rfl:=uC hk;have hhi:hi≠none:=by
    rintro rfl
    exact hne (.inr ⟨rfl,rfl⟩)
   obtain ⟨a,mcap,rfl,hal,hle,hlen,hcap,hnone,haddr⟩:=hx.aW;refine ⟨_,?_,QM hal hle haddr l.toNat h.toNat mi.toNat (some (mi.toNat - l.toNat)) (by omega) (by omega) (by omega) (by omega) (fun c hc=>by
    obtain rfl:=uC hc;exact ⟨rfl,by omega⟩) (fun hc=>by cases hc)⟩
   simp only [Instr.sliceAt,Sem.run_bind,AP hu,uE,Instr.slice];rw [MU hl hh hhi rl rh hmv.uW h0 h1 h2 (by omega)];simp only [uE,Bm hn,hesz,Sem.run_pure,Option.map_some]
 ·rename_i cM elem r esz hu;refine Ok.bind (Ok.lift (Φ:=fun n=>BP P elem=some n) fun n h=>h) fun n=>?_;refine Ok.bind (Ok.lift (Φ:=fun z=>Bg hi cM=some z) fun n h=>h) fun h=>?_;refine Ok.bind (Ok.lift (Φ:=fun z=>Bg lo 0=some z) fun n h=>h) fun l=>?_;refine Ok.ite (fun _=>Ok.fail) fun hne=>?_;split
  ·rename_i fr pf esz' ex len row hlook;refine Ok.ite (fun _=>Ok.fail) fun hlc=>?_;have hlc:len=cM:=by simpa using hlc
   refine Ok.bind (hD.bJ _) fun _=>Ok.pure ?_;intro hb hl hh hn K w mxv mlo mhi mmx hL hx rl rh rm;obtain ⟨h0,h1,h2⟩:=V2 hb;have hmx:mx=none:=by
    cases mx with
    | none=>rfl
    | some v=>exact absurd (.inl rfl) hne
   subst hmx;obtain rfl:=rm.bM;have hesz:esz=n:=by
    by_cases he:esz=n
    ·exact he
    ·exact absurd (.inr he) hne
   subst hesz hlc;obtain ⟨rfl,hal,hi0⟩:=hx.bS;have hkl:K.len r=len:=(hL r _ hlook).2.1;have cut:=QM (K:=K) (w:=w) (r:=r) (esz:=esz) (off:=0) (len:=len) (mcap:=len) (a:=⟨K.vP r,K.off r+0*esz+0,none⟩) hal (Nat.le_refl _) (fun _=>rfl) l.toNat h.toNat len (some (len - l.toNat)) (by omega) (by omega) (Nat.le_refl _) (by omega) (fun c hc=>by
    obtain rfl:=uC hc;exact ⟨rfl,by omega⟩) (fun hc=>by cases hc)
   refine ⟨_,?_,cut⟩;simp only [Instr.sliceAt,Sem.run_bind,AP hu,uE,Instr.sureAddr,Sem.run_pure];rw [Ee hl hh rl rh h0 h1 (by omega)];simp only [uE,Bm hn,Sem.run_pure];split<;>rfl
  ·exact Ok.fail
 ·rename_i cM elem cells k hu;refine Ok.bind (Ok.lift (Φ:=fun n=>BP P elem=some n) fun n h=>h) fun n=>?_;refine Ok.bind (Ok.lift (Φ:=fun z=>Bg hi cM=some z) fun n h=>h) fun h=>?_;refine Ok.bind (Ok.lift (Φ:=fun z=>Bg lo 0=some z) fun n h=>h) fun l=>?_;refine Ok.ite (fun _=>Ok.fail) fun hne=>?_;refine Ok.bind (hD.bJ _) fun _=>Ok.pure ?_;intro hb hl hh hn K w mxv mlo mhi mmx hL hx rl rh rm;obtain ⟨h0,h1,h2⟩:=V2 hb;have hmx:mx=none:=by
   cases mx with
   | none=>rfl
   | some v=>exact absurd (.inl rfl) hne
  subst hmx;obtain rfl:=rm.bM;have hk:k+cM*n<=cells.length:=by
   rcases Nat.lt_or_ge cells.length (k+cM*n) with h' | h'
   ·exact absurd (.inr (.inr h')) hne
   ·exact h'
  obtain ⟨b,o,rfl,_,_,hF,mv,hc,hv⟩:=hx.dO;have cut:=S4 (K:=K) (w:=w) (esz:=n) (len:=cM) (row:=fun i=>(cells.drop (k+i*n)).take n) (b:=b) (o:=o+k) (cap:=cM) (sp:=none)
   (mv:=fun i j=>mv (k+i*n+j)) (fun _=>hF) (Nat.le_refl _) (fun _=>rfl)
   (fun i hi=>by
    have:(i+1)*n<=cM*n:=Nat.mul_le_mul_right _ hi;rw [Nat.add_mul,Nat.one_mul] at this;simp; omega)
   (fun i hi j hj=>by
    have:(i+1)*n<=cM*n:=Nat.mul_le_mul_right _ hi;rw [Nat.add_mul,Nat.one_mul] at this;have:=hc (k+i*n+j) (by omega);rw [show o+(k+i*n+j)=o+k+i*n+j from by omega] at this;exact this)
   (fun i hi j hj=>by
    simp only [List.getElem_take,List.getElem_drop];exact hv _ _)
   l.toNat h.toNat cM n (fun _=>rfl) (by omega) (by omega) (by omega)
  refine ⟨_,?_,cut⟩;simp only [Instr.sliceAt,Sem.run_bind,AP hu,uE,Instr.sureAddr,Sem.run_pure];rw [Ee hl hh rl rh h0 h1 (by omega)];simp only [uE,Bm hn,Sem.run_pure];split<;>rfl
 ·exact Ok.fail
end
end Go.Ev
namespace Go.Ev
section
variable {P:Program}{S:Type}{V:S->Prop}{G:Nat->Option (List EV)}{D:Drv S}
theorem Q6 (hD:dK V P G D)(kt:TypeId)(k:EV):∀ (es:List (EV×EV)) (i:Nat),Ok V (Q2 D P kt k es i) (BM P kt k es i)
 | [],i=>by unfold Q2; exact Ok.pure rfl
 | e :: es,i=>by
  unfold Q2;refine Ok.bind (Ok.lift (Φ:=fun b=>eqE P 40 kt k e.1=some b) fun n h=>h) fun b=>?_;refine Ok.bind (hD.br _) fun d=>?_;refine Ok.ite (fun hd=>Ok.pure fun hb he=>?_) fun hd=>(Q6 hD kt k es (i+1)).mono fun r hr hb he=>?_
  ·subst hd; subst hb;exact ⟨true,he,fun _=>rfl,fun h=>by cases h⟩
  ·refine ⟨b,he,fun h=>?_,fun _=>hr⟩;subst h; exact absurd hb hd
theorem NZ (hD:dK V P G D)(kt:TypeId)(k:EV)(es:List (EV×EV)):Ok V (Q3 D P kt k es) (BM P kt k es 0):=by
 unfold Q3;refine Ok.bind (hD.find kt k es) fun o=>?_;cases o with
 | some r=>exact Ok.pure fun h=>h r rfl
 | none=>exact (Q6 hD kt k es 0).mono fun r h _=>h
def VE (K:KM)(w:World)(es:List (EV×EV))(mes:List MapEntry):Prop:=
 es.length=mes.length/\∀ i (h:i<es.length) (h':i<mes.length),VR K w es[i].1 mes[i].key/\VR K w es[i].2 mes[i].val
theorem VE.cons {K:KM}{w:World}{e:EV×EV}{es:List (EV×EV)}{mes:List MapEntry}(h:VE K w (e :: es) mes):
  ∃ m ms,mes=m :: ms/\VR K w e.1 m.key/\VR K w e.2 m.val/\VE K w es ms:=by
 obtain ⟨hl,hv⟩:=h;cases mes with
 | nil=>simp at hl
 | cons m ms=>
  exact ⟨m,ms,rfl,(hv 0 (by simp) (by simp)).1,(hv 0 (by simp) (by simp)).2,by simpa using hl,fun i a b=>hv (i+1) (by simpa using a) (by simpa using b)⟩
def Found (K:KM)(w:World)(mes:List MapEntry)(i:Nat)(r:Option (Nat×EV))(mr:Option (Nat×Value)):Prop:=
 match r,mr with
 | none,none=>True
 | some (j,v),some (j',mv)=>j=j'/\i<=j/\(mes[j - i]?).map (·.val)=some mv/\VR K w v mv
 | _,_=>False
theorem Found.shift {K:KM}{w:World}{m:MapEntry}{ms:List MapEntry}{i:Nat}{r:Option (Nat×EV)}{mr:Option (Nat×Value)}(h:Found K w ms (i+1) r mr):Found K w (m :: ms) i r mr:=by
 match r,mr,h with
 | none,none,_=>trivial
 | some (j,v),some (j',mv),h=>
  obtain ⟨h1,h5,h6,h7⟩:=h;refine ⟨h1,by omega,?_,h7⟩;rw [show j - i=(j - (i+1))+1 from by omega,List.getElem?_cons_succ];exact h6
theorem Ky {K:KM}{w:World}{kt:TypeId}{k:EV}{mk:Value}(hk:VR K w k mk):∀ (es:List (EV×EV)) (mes:List MapEntry) (i:Nat) (r:Option (Nat×EV)),
  BM P kt k es i r->VE K w es mes->∃ mr,(Instr.findAsking kt mk mes i).run P w=.ok mr w/\Found K w mes i r mr:=by
 intro es;induction es with
 | nil=>
  intro mes i r h hv;cases mes with
  | nil=>exact ⟨none,by simp [Instr.findAsking],by rw [show r=none from h]; trivial⟩
  | cons=>simp [VE] at hv
 | cons e es ih=>
  intro mes i r h hv;obtain ⟨m,ms,rfl,h1,h2,h3⟩:=hv.cons;obtain ⟨b,hb,ht,hf⟩:=h;have heq:=S3 (P:=P) 40 kt k e.1 b hb K w mk m.key hk h1 Op.maxDepth (by decide);cases b with
  | true=>
   refine ⟨some (i,m.val),by simp [Instr.findAsking,Op.equal,heq],?_⟩;rw [ht rfl];exact ⟨rfl,Nat.le_refl _,by simp,h2⟩
  | false=>
   obtain ⟨mr,r1,r2⟩:=ih ms (i+1) r (hf rfl) h3;refine ⟨mr,by simp [Instr.findAsking,Op.equal,heq,r1],?_⟩;exact r2.shift
theorem Tv {K:KM}{w:World}{kt:TypeId}{kd:TypeDesc}{k:EV}{mk:Value}(hu:P.underlying kt=some kd)(hk:VR K w k mk)
  (hkd:(∃ q n q',kd=.int q/\k=.int q' n)∨(kd=.string/\∃ s,k=.str s)∨(kd=.bool/\∃ b,k=.bool b)):∀ (es:List (EV×EV)) (mes:List MapEntry) (i:Nat) (r:Option (Nat×EV)),
  BM P kt k es i r->VE K w es mes->∃ mr,Instr.findNow kd mk mes i=some mr/\Found K w mes i r mr:=by
 intro es;induction es with
 | nil=>
  intro mes i r h hv;cases mes with
  | nil=>exact ⟨none,rfl,by rw [show r=none from h]; trivial⟩
  | cons=>simp [VE] at hv
 | cons e es ih=>
  intro mes i r h hv;obtain ⟨m,ms,rfl,h1,h2,h3⟩:=hv.cons;obtain ⟨b,hb,ht,hf⟩:=h;have same:Instr.sameNow kd mk m.key=some b:=by
   rcases hkd with ⟨q,n,q',rfl,rfl⟩ | ⟨rfl,s,rfl⟩ | ⟨rfl,b',rfl⟩
   ·obtain rfl:=hk.uW;unfold eqE at hb;rw [hu] at hb;cases he:e.1 with
    | int k' n'=>
     rw [he] at hb h1;rw [h1.uW];simpa [Instr.sameNow] using hb
    | _=>rw [he] at hb; simp at hb
   ·obtain rfl:=hk.bD;unfold eqE at hb;rw [hu] at hb;cases he:e.1 with
    | str s'=>
     rw [he] at hb h1;rw [h1.bD];simpa [Instr.sameNow] using hb
    | _=>rw [he] at hb; simp at hb
   ·obtain rfl:=hk.bC;unfold eqE at hb;rw [hu] at hb;cases he:e.1 with
    | bool s'=>
     rw [he] at hb h1;rw [h1.bC];simpa [Instr.sameNow] using hb
    | _=>rw [he] at hb; simp at hb
  cases b with
  | true=>
   refine ⟨some (i,m.val),by simp [Instr.findNow,same],?_⟩;rw [ht rfl];exact ⟨rfl,Nat.le_refl _,by simp,h2⟩
  | false=>
   obtain ⟨mr,r1,r2⟩:=ih ms (i+1) r (hf rfl) h3;refine ⟨mr,by simp [Instr.findNow,same,r1],?_⟩;exact r2.shift
theorem QN {kd:TypeDesc}{mk:Value}(h:∀ k',Instr.sameNow kd mk k'=none):∀ (m:MapEntry) (ms:List MapEntry) (i:Nat),Instr.findNow kd mk (m :: ms) i=none:=by
 intro m ms i;simp [Instr.findNow,h]
theorem Kz {K:KM}{w:World}{kt:TypeId}{k:EV}{mk:Value}{d:Nat}(hok:Il P d kt k=true)(hk:VR K w k mk){es:List (EV×EV)}{mes:List MapEntry}{r:Option (Nat×EV)}
  (hf:BM P kt k es 0 r) (hv:VE K w es mes):∃ mr,(Instr.findKey kt mk mes).run P w=.ok mr w/\Found K w mes 0 r mr:=by
 cases d with
 | zero=>simp [Il] at hok
 | succ d=>
  have now:∀ {kd:TypeDesc},P.underlying kt=some kd->((∃ q n q',kd=.int q/\k=.int q' n)∨(kd=.string/\∃ s,k=.str s)∨(kd=.bool/\∃ b,k=.bool b))->
    ∃ mr,(Instr.findKey kt mk mes).run P w=.ok mr w/\Found K w mes 0 r mr:=by
   intro kd hu hkd;obtain ⟨mr,h1,h2⟩:=Tv hu hk hkd es mes 0 r hf hv;exact ⟨mr,by simp [Instr.findKey,AP hu,h1],h2⟩
  have ask:∀ {kd:TypeDesc},P.underlying kt=some kd->(∀ k',Instr.sameNow kd mk k'=none)->
    ∃ mr,(Instr.findKey kt mk mes).run P w=.ok mr w/\Found K w mes 0 r mr:=by
   intro kd hu hs;cases mes with
   | nil=>
    obtain ⟨mr,h1,h2⟩:=Ky (P:=P) hk es [] 0 r hf hv;refine ⟨none,by simp [Instr.findKey,AP hu,Instr.findNow],?_⟩;simp only [Instr.findAsking,Sem.run_pure,Result.ok.injEq,and_true] at h1;subst h1;exact h2
   | cons m ms=>
    obtain ⟨mr,h1,h2⟩:=Ky (P:=P) hk es (m :: ms) 0 r hf hv;exact ⟨mr,by simp only [Instr.findKey,Sem.run_bind,AP hu,uE,QN hs]; exact h1,h2⟩
  unfold Il at hok;split at hok
  ·rename_i hu; exact now hu (.inl ⟨_,_,_,rfl,rfl⟩)
  ·rename_i hu; exact now hu (.inr (.inl ⟨rfl,_,rfl⟩))
  ·rename_i hu; exact now hu (.inr (.inr ⟨rfl,_,rfl⟩))
  ·rename_i hu;obtain ⟨mcs,rfl,_⟩:=hk.aY;exact ask hu fun k'=>by cases k'<;>rfl
  ·rename_i hu;obtain ⟨mcs,rfl,_⟩:=hk.aY;exact ask hu fun k'=>by cases k'<;>rfl
  ·simp at hok
theorem Mu {mcs:Array Value}{n:Nat}(fs:List Field)(e:Bool)(w:World)
  (h:∀ f∈fs,∃ mv,(part f.type mcs f.offset).run P w=.ok mv w/\(Instr.checkKey e n f.type mv).run P w=.ok () w):
  (forIn (m:=Sem) fs PUnit.unit fun f (_:PUnit)=>
   if f.name≠ "_" then do
    Instr.checkKey e n f.type (<-part f.type mcs f.offset)
    pure (ForInStep.yield PUnit.unit)
   else pure (ForInStep.yield PUnit.unit)).run P w=.ok PUnit.unit w:=by
 induction fs with
 | nil=>simp
 | cons f fs ih=>
  obtain ⟨mv,h1,h2⟩:=h f (by simp);have ih':=ih fun f hf=>h f (by simp [hf]);rw [List.forIn_cons,Sem.run_bind];split
  ·simp only [Sem.run_bind,h1,h2,uE,Sem.run_pure];exact ih'
  ·simp only [Sem.run_pure,uE];exact ih'
theorem Na {mcs:Array Value}{n sz:Nat}{elem:TypeId}(is:List Nat)(e:Bool)(w:World)(hs:BP P elem=some sz)
  (h:∀ i∈is,∃ mv,(part elem mcs (i*sz)).run P w=.ok mv w/\(Instr.checkKey e n elem mv).run P w=.ok () w):
  (forIn (m:=Sem) is PUnit.unit fun i (_:PUnit)=>do
    Instr.checkKey e n elem (<-part elem mcs (i*(<-sizeOf elem)))
    pure (ForInStep.yield PUnit.unit)).run P w=.ok PUnit.unit w:=by
 induction is with
 | nil=>simp
 | cons f fs ih=>
  obtain ⟨mv,h1,h2⟩:=h f (by simp);have ih':=ih fun f hf=>h f (by simp [hf]);rw [List.forIn_cons,Sem.run_bind];simp only [Sem.run_bind,Bm hs,h1,h2,uE,Sem.run_pure];exact ih'
theorem run_checkKey {K:KM}{w:World}(e:Bool):∀ (d:Nat) (t:TypeId) (k:EV) (mk:Value),Il P d t k=true->VR K w k mk->∀ D,d<=D->(Instr.checkKey e D t mk).run P w=.ok () w:=by
 intro d;induction d with
 | zero=>intro t k mk h; simp [Il] at h
 | succ d ih=>
  intro t k mk h hk D hD;obtain ⟨D,rfl⟩:∃ D',D=D'+1:=⟨D - 1,by omega⟩
  unfold Il at h;split at h
  ·rename_i hu;obtain rfl:=hk.uW;simp [Instr.checkKey,AP hu]
  ·rename_i hu;obtain rfl:=hk.bD;simp [Instr.checkKey,AP hu]
  ·rename_i hu;obtain rfl:=hk.bC;simp [Instr.checkKey,AP hu]
  ·rename_i fields cs hu;obtain ⟨mcs,rfl,hl,hc⟩:=hk.aY;simp only [Instr.checkKey,Sem.run_bind,AP hu,uE];rw [<-Array.forIn_toList];rw [Mu]
   ·rfl
   ·intro f hf;have:=List.all_eq_true.1 h f hf;split at this
    ·rename_i n g hn hg;split at this
     ·rename_i x hx;obtain ⟨mv,p1,p2⟩:=Fz (P:=P) hn hg hl hc hx;exact ⟨mv,p1,ih _ _ _ this p2 D (by omega)⟩
     ·simp at this
    ·simp at this
  ·rename_i len elem cs hu;obtain ⟨mcs,rfl,hl,hc⟩:=hk.aY;split at h
   ·rename_i n g hn hg;simp only [Instr.checkKey,Sem.run_bind,AP hu,uE];rw [Std.Legacy.Range.forIn_eq_forIn_range'];simp only [Std.Legacy.Range.size,Nat.sub_zero,Nat.add_sub_cancel,Nat.div_one];rw [Na _ _ _ hn]
    ·rfl
    ·intro i hi;have:=List.all_eq_true.1 h i hi;split at this
     ·rename_i x hx;obtain ⟨mv,p1,p2⟩:=Fz (P:=P) hn hg hl hc hx;exact ⟨mv,p1,ih _ _ _ this p2 D (by omega)⟩
     ·simp at this
   ·simp at h
  ·simp at h
theorem Q7 {look:B5}{K:KM}{w:World}(hL:FO look K w){m:EV}{mm:Value}{es:List (EV×EV)}(h:entriesOf look m=some es)(hm:VR K w m mm):
  (mm=.map none/\es=[])∨∃ b mes clock,mm=.map (some b)/\w.heap[b]? =some (.map mes clock)/\VE K w es mes.toList:=by
 unfold entriesOf at h;split at h
 ·obtain rfl:=uC h;exact .inl ⟨hm.aZ,rfl⟩
 ·obtain rfl:=uC h;obtain ⟨b,mes,clock,rfl,_,hb,hl,hk,hv⟩:=hm.im_inv;exact .inr ⟨b,mes,clock,rfl,hb,by simpa using hl,fun i h1 h2=>⟨.pure _ _ (by simpa using hk i h1 (by simpa using h2)),.pure _ _ (by simpa using hv i h1 (by simpa using h2))⟩⟩
 ·rename_i r;split at h
  ·rename_i fr pf es' hr;obtain rfl:=uC h;obtain ⟨rfl,_⟩:=hm.cS;obtain ⟨_,mes,clock,hb,hl,_,hv,_⟩:=hL r _ hr;exact .inr ⟨_,mes,clock,rfl,hb,by simpa using hl,fun i h1 h2=>by simpa using hv i h1 (by simpa using h2)⟩
  ·simp at h
 ·simp at h
theorem SB (hD:dK V P G D)(look:B5)(t:TypeId)(m k:EV)(ok:Bool):
  Ok V (QE D P look t m k ok) fun v=>∀ K w mm mk,FO look K w->VR K w m mm->VR K w k mk->∃ mv,(Instr.lookup t mm mk ok).run P w=.ok mv w/\VR K w v mv:=by
 have tup:∀ {K w} {v:EV} {mv:Value} (b:Bool),VR K w v mv->VR K w (if ok then .tuple [v,.bool b] else v) (if ok then .tuple #[mv,.bool b] else mv):=by
  intro K w v mv b h;cases ok
  ·exact h
  ·refine .tuple _ _ rfl fun i h1 h2=>?_
   match i,h1 with
   | 0,_=>exact h
   | 1,_=>exact .pure _ _ (.bool b)
 unfold QE;split
 ·rename_i kt et hu;refine Ok.bind (Ok.lift (Φ:=fun z=>entriesOf look m=some z) fun n h=>h) fun es=>?_;refine Ok.bind (Ok.lift (Φ:=fun z=>zeroV P et=some z) fun n h=>h) fun zv=>?_;refine Ok.ite (fun hkey=>?_) fun _=>Ok.fail;refine Ok.bind (NZ hD kt k es) fun r=>Ok.pure ?_;intro hf hz hes K w mm mk hL hm hk;obtain ⟨z,z1,z2⟩:=IL hz K w;rcases Q7 hL hes hm with ⟨rfl,rfl⟩ | ⟨b,mes,clock,rfl,hb,hv⟩
  ·obtain ⟨mr,f1,f2⟩:=Kz (P:=P) hkey hk hf (K:=K) (w:=w) (mes:=[]) ⟨rfl,fun i h=>by simp at h⟩;simp only [Instr.lookup,Sem.run_bind,AP hu,uE,Sem.run_pure,run_checkKey (P:=P) (w:=w) _ 3 kt k mk hkey hk 10000 (by decide),f1]
   match r,mr,f2 with
   | none,none,_=>
    refine ⟨if ok then .tuple #[z,.bool false] else z,?_,tup false z2⟩;simp only [Sem.run_bind,z1,uE,Sem.run_pure]
   | some (j,v),some (j',mv),hfd=>
    refine ⟨if ok then .tuple #[mv,.bool true] else mv,?_,tup true hfd.2.2.2⟩;simp only [Sem.run_bind,uE,Sem.run_pure]
  ·obtain ⟨mr,f1,f2⟩:=Kz (P:=P) hkey hk hf hv;simp only [Instr.lookup,Sem.run_bind,AP hu,uE,D6 hb,Sem.run_pure,run_checkKey (P:=P) (w:=w) _ 3 kt k mk hkey hk 10000 (by decide),f1]
   match r,mr,f2 with
   | none,none,_=>
    refine ⟨if ok then .tuple #[z,.bool false] else z,?_,tup false z2⟩;simp only [Sem.run_bind,z1,uE,Sem.run_pure]
   | some (j,v),some (j',mv),hfd=>
    refine ⟨if ok then .tuple #[mv,.bool true] else mv,?_,tup true hfd.2.2.2⟩;simp only [Sem.run_bind,uE,Sem.run_pure]
 ·exact Ok.fail
end
end Go.Ev
namespace Go.Ev
structure Wr (w w':World) (b:Nat) (o:Obj):Prop where
 size:w'.heap.size=w.heap.size
 other:∀ b',b'≠b->w'.heap[b']? =w.heap[b']?
 here:w'.heap[b]? =some o
 os:w'.os=w.os
 tape:w'.tape=w.tape
 output:w'.output=w.output
structure New (w w':World) (o:Obj):Prop where
 size:w'.heap.size=w.heap.size+1
 other:∀ b',b'<w.heap.size->w'.heap[b']? =w.heap[b']?
 here:w'.heap[w.heap.size]? =some o
 os:w'.os=w.os
 tape:w'.tape=w.tape
 output:w'.output=w.output
theorem New.push (w:World)(o:Obj):New w { w with heap:=w.heap.push o } o:=
 ⟨by simp,fun b' h=>by simp only [Array.getElem?_push]; rw [if_neg (by omega)],by simp,rfl,rfl,rfl⟩
theorem New.drawn {w w':World}{o:Obj}(h:New w w' o)(n:Nat):New w { w' with drawn:=n } o:=⟨h.size,h.other,h.here,h.os,h.tape,h.output⟩
def KM.new (K:KM)(nm b o e l:Nat):KM where
 vP:=fun r=>if r=nm then b else K.vP r
 off:=fun r=>if r=nm then o else K.off r
 ext:=fun r=>if r=nm then e else K.ext r
 len:=fun r=>if r=nm then l else K.len r
 al:=fun r=>r=nm∨K.al r
 F:=K.F
theorem OR.al {K:KM}{w:World}{r:Nat}{o:fE}(h:OR K w r o)(ht:o.there=true):K.al r:=by
 cases o with
 | free=>simp [fE.there] at ht
 | dead=>simp [fE.there] at ht
 | var=>exact h.1
 | arr=>exact h.1
 | map=>exact h.1
 | loop=>exact h.1
 | dfr=>exact h.1
 | flat=>exact h.1
theorem OR.ext {K K':KM}{σ σ':AL}{w w':World}(h:Ext K σ w K' σ' w')(hr:Rel K σ w){r:Nat}{o:fE}(ho:OR K w r o)(hf:o≠.free)
  (hb:o.there=true->w'.heap[K.vP r]? =w.heap[K.vP r]?):OR K' w' r o:=by
 cases o with
 | free=>exact absurd rfl hf
 | dead=>trivial
 | var fr pf cells=>
  obtain ⟨ha,h0,c,e,h1,h2,h3,h4,h5,h6,h7⟩:=ho;obtain ⟨b1,b2,b3,b4⟩:=h.vP r ha;refine ⟨h.al r ha,b2.trans h0,c,e,?_,h2,b3.trans h3,h4,fun hfr=>?_,fun i a b=>(h6 i a b).ext h hr,fun hp i a b=>(h7 hp i a b).ext h hr⟩
  ·rw [b1,hb rfl]; exact h1
  ·rw [b1]; exact h.F _ (h5 hfr)
 | arr fr pf esz ex len row=>
  obtain ⟨ha,hl,c,e,fz,h1,h2,h3,h4,h5,h6,h7,h8,h9,h10⟩:=ho;obtain ⟨b1,b2,b3,b4⟩:=h.vP r ha;refine ⟨h.al r ha,b4.trans hl,c,e,fz,?_,h2,b3.trans h3,h4,by rw [b2]; exact h5,fun he=>by rw [b2]; exact h6 he,fun hfr=>?_,h8,?_,?_⟩
  ·rw [b1,hb rfl]; exact h1
  ·rw [b1]; exact h.F _ (h7 hfr)
  ·intro i hi j hj hc; exact (by rw [b2] at hc; simpa only [b2] using (h9 i hi j hj hc).ext h hr)
  ·intro hp i hi j hj hc; exact (by rw [b2] at hc; simpa only [b2] using (h10 hp i hi j hj hc).ext h hr)
 | map fr pf es=>
  obtain ⟨ha,mes,clock,h1,h2,h3,h4,h5,h6,h7⟩:=ho;obtain ⟨b1,b2,b3,b4⟩:=h.vP r ha;refine ⟨h.al r ha,mes,clock,?_,h2,fun hfr=>?_,fun i a b=>⟨(h4 i a b).1.ext h hr,(h4 i a b).2.ext h hr⟩,fun i a b=>(h5 i a b).ext h hr,fun hp i a b=>(h6 hp i a b).ext h hr,h7⟩
  ·rw [b1,hb rfl]; exact h1
  ·rw [b1]; exact h.F _ (h3 hfr)
 | loop st tmps ps assign body pend=>
  obtain ⟨ha,fn,mt,d,h1,h2,h3⟩:=ho;obtain ⟨b1,b2,b3,b4⟩:=h.vP r ha;exact ⟨h.al r ha,fn,mt,d,by rw [b1,hb rfl]; exact h1,h2,fun i a b=>(h3 i a b).ext h hr⟩
 | dfr=>
  obtain ⟨ha,h1⟩:=ho;obtain ⟨b1,b2,b3,b4⟩:=h.vP r ha;exact ⟨h.al r ha,by rw [b1,hb rfl]; exact h1⟩
 | flat fr len cell over=>
  obtain ⟨ha,h0,hl,hp,c,e,h1,h2,h3,h4,h5,h6⟩:=ho;obtain ⟨b1,b2,b3,b4⟩:=h.vP r ha;refine ⟨h.al r ha,b2.trans h0,b4.trans hl,hp,c,e,?_,h2,b3.trans h3,h4,fun hfr=>?_,fun i a=>?_⟩
  ·rw [b1,hb rfl]; exact h1
  ·rw [b1]; exact h.F _ (h5 hfr)
  ·rcases h6 i a with ⟨v,q1,q2⟩ | ⟨q1,q2⟩
   ·exact .inl ⟨v,q1,q2.ext h hr⟩
   ·exact .inr ⟨q1,q2.ext h hr⟩
theorem BY {o:fE}(h:o.live=true):o.there=true:=by cases o<;>simp [fE.live,fE.there] at*
theorem Rel.new {K:KM}{σ:AL}{w w':World}(hr:Rel K σ w){nm:Nat}(hfree:σ[nm]? =some .free){o:Obj}(hN:New w w' o){obj:fE}(hlive:obj.live=true){off e l:Nat}
  (hO:∀ σ',Ext K σ w (K.new nm w.heap.size off e l) σ' w'->OR (K.new nm w.heap.size off e l) w' nm obj):
  Ext K σ w (K.new nm w.heap.size off e l) (σ.set nm obj) w'/\Rel (K.new nm w.heap.size off e l) (σ.set nm obj) w':=by
 have hnal:¬ K.al nm:=hr.obj nm .free hfree;have hlt:nm<σ.length:=by
  rcases Nat.lt_or_ge nm σ.length with h | h
  ·exact h
  ·rw [List.getElem?_eq_none h] at hfree; cases hfree
 have hget:∀ r,(σ.set nm obj)[r]? =if r=nm then some obj else σ[r]? :=by
  intro r;rw [List.getElem?_set];by_cases h:nm=r
  ·subst h; simp [hlt]
  ·simp [h,Ne.symm h]
 have hne:∀ r,K.al r->r≠nm:=fun r ha h=>hnal (h▸ha);have hE:Ext K σ w (K.new nm w.heap.size off e l) (σ.set nm obj) w':=by
  refine ⟨by simp,fun r h=>.inr h,fun r h=>?_,fun b h=>h,fun b h=>.inl h,?_,fun b hb _=>hN.other b hb,by rw [hN.size]; omega,hN.os,hN.tape,hN.output⟩
  ·simp [KM.new,hne r h]
  ·rintro b ⟨r,o',h1,h2,h3⟩
   rw [hget] at h1;by_cases hrn:r=nm
   ·subst hrn;left; simp only [KM.new,if_pos] at h3; omega
   ·rw [if_neg hrn] at h1;right; exact ⟨r,o',h1,h2,by simpa [KM.new,hrn] using h3⟩
 refine ⟨hE,?_,?_,?_,?_,?_,?_⟩
 ·intro r o' h1;rw [hget] at h1;by_cases hrn:r=nm
  ·subst hrn;rw [if_pos rfl] at h1;obtain rfl:=uC h1;exact hO _ hE
  ·rw [if_neg hrn] at h1;by_cases hfr:o'=.free
   ·subst hfr;have:=hr.obj r _ h1
    rintro (h | h)
    ·exact hrn h
    ·exact this h
   ·exact (hr.obj r o' h1).ext hE hr hfr fun ht=>hN.other _ (hr.lt r o' h1 ht)
 ·intro r r' o1 o2 h1 h2 l1 l2 hb;rw [hget] at h1 h2;by_cases hrn:r=nm
  ·by_cases hrn':r'=nm
   ·rw [hrn,hrn']
   ·rw [if_neg hrn'] at h2;have:=hr.lt r' o2 h2 (BY l2);simp only [KM.new,hrn,hrn',if_pos,if_false] at hb;omega
  ·by_cases hrn':r'=nm
   ·rw [if_neg hrn] at h1;have:=hr.lt r o1 h1 (BY l1);simp only [KM.new,hrn,hrn',if_pos,if_false] at hb;omega
   ·rw [if_neg hrn] at h1;rw [if_neg hrn'] at h2;simp only [KM.new,hrn,hrn',if_false] at hb;exact hr.inj r r' o1 o2 h1 h2 l1 l2 hb
 ·intro b hb hF;rcases hE.own b hb with h | h
  ·have:=hr.Flt b hF; omega
  ·exact hr.cD b h hF
 ·intro r o' h1 ht;rw [hget] at h1;rw [hN.size];by_cases hrn:r=nm
  ·simp only [KM.new,hrn,if_pos]; omega
  ·rw [if_neg hrn] at h1;have:=hr.lt r o' h1 ht;simp only [KM.new,hrn,if_false]; omega
 ·intro b hF;have:=hr.Flt b hF;rw [hN.size]; omega
 ·rintro r (h | h)
  ·simp; omega
  ·simp; exact hr.alt r h
theorem Rel.write {K:KM}{σ:AL}{w w':World}(hr:Rel K σ w){r:Nat}{obj obj':fE}(hobj:σ[r]? =some obj)(hlive:obj.live=true){o:Obj}(hW:Wr w w' (K.vP r) o)(hlive':obj'.live=true)
  (hO:∀ σ',Ext K σ w K σ' w'->OR K w' r obj'):
  Ext K σ w K (σ.set r obj') w'/\Rel K (σ.set r obj') w':=by
 have hlt:r<σ.length:=by
  rcases Nat.lt_or_ge r σ.length with h | h
  ·exact h
  ·rw [List.getElem?_eq_none h] at hobj; cases hobj
 have hget:∀ r',(σ.set r obj')[r']? =if r'=r then some obj' else σ[r']? :=by
  intro r';rw [List.getElem?_set];by_cases h:r=r'
  ·subst h; simp [hlt]
  ·simp [h,Ne.symm h]
 have hown:aD K σ (K.vP r):=⟨r,obj,hobj,hlive,rfl⟩
 have hE:Ext K σ w K (σ.set r obj') w':=by
  refine ⟨by simp,fun r h=>h,fun r h=>⟨rfl,rfl,rfl,rfl⟩,fun b h=>h,fun b h=>.inl h,?_,fun b hb hn=>hW.other b (fun h=>hn (h▸hown)),by rw [hW.size]; omega,hW.os,hW.tape,hW.output⟩
  rintro b ⟨r',o',h1,h2,h3⟩
  rw [hget] at h1;by_cases hrn:r'=r
  ·subst hrn; right; exact h3▸hown
  ·rw [if_neg hrn] at h1;right; exact ⟨r',o',h1,h2,h3⟩
 refine ⟨hE,?_,?_,?_,?_,?_,?_⟩
 ·intro r' o' h1;rw [hget] at h1;by_cases hrn:r'=r
  ·subst hrn;rw [if_pos rfl] at h1;obtain rfl:=uC h1;exact hO _ hE
  ·rw [if_neg hrn] at h1;by_cases hfr:o'=.free
   ·subst hfr;exact hr.obj r' _ h1
   ·refine (hr.obj r' o' h1).ext hE hr hfr fun ht=>hW.other _ fun hb=>?_;cases hl:o'.live with
    | true=>exact hrn (hr.inj r' r o' obj h1 hobj hl hlive hb)
    | false=>
     have hF:K.F (K.vP r'):=by
      have ho:=hr.obj r' o' h1;cases o' with
      | free=>simp [fE.there] at ht
      | dead=>simp [fE.there] at ht
      | var fr pf c=>simp only [fE.live,Bool.not_eq_false'] at hl; obtain ⟨_,_,_,_,_,_,_,_,h5,_⟩:=ho; exact h5 hl
      | arr fr pf esz ex len row=>simp only [fE.live,Bool.not_eq_false'] at hl; obtain ⟨_,_,_,_,_,_,_,_,_,_,_,h7,_⟩:=ho; exact h7 hl
      | map fr pf es=>simp only [fE.live,Bool.not_eq_false'] at hl; obtain ⟨_,_,_,_,_,h3,_⟩:=ho; exact h3 hl
      | loop st t ps x y p=>simp [fE.live] at hl
      | dfr=>simp [fE.live] at hl
      | flat fr len cell over=>simp only [fE.live,Bool.not_eq_false'] at hl; obtain ⟨_,_,_,_,_,_,_,_,_,_,h5,_⟩:=ho; exact h5 hl
     exact hr.cD _ hown (hb▸hF)
 ·intro r1 r2 o1 o2 h1 h2 l1 l2 hb;rw [hget] at h1 h2;have e1:∃ o1',σ[r1]? =some o1'/\o1'.live=true:=by
   by_cases h:r1=r
   ·subst h; exact ⟨obj,hobj,hlive⟩
   ·rw [if_neg h] at h1; exact ⟨o1,h1,l1⟩
  have e2:∃ o1',σ[r2]? =some o1'/\o1'.live=true:=by
   by_cases h:r2=r
   ·subst h; exact ⟨obj,hobj,hlive⟩
   ·rw [if_neg h] at h2; exact ⟨o2,h2,l2⟩
  obtain ⟨p1,q1,q2⟩:=e1;obtain ⟨p2,q3,q4⟩:=e2;exact hr.inj r1 r2 p1 p2 q1 q3 q2 q4 hb
 ·intro b hb hF;rcases hE.own b hb with h | h
  ·have:=hr.Flt b hF; omega
  ·exact hr.cD b h hF
 ·intro r' o' h1 ht;rw [hget] at h1;rw [hW.size];by_cases hrn:r'=r
  ·subst hrn; exact hr.lt r' obj hobj (BY hlive)
  ·rw [if_neg hrn] at h1;exact hr.lt r' o' h1 ht
 ·intro b hF;rw [hW.size]; exact hr.Flt b hF
 ·intro r' h;simp; exact hr.alt r' h
end Go.Ev
namespace Go.Ev
theorem JC {σ:AL}{r:Nat}{o o':fE}(h:σ[r]? =some o)(r':Nat):(σ.set r o')[r']? =if r'=r then some o' else σ[r']? :=by
 have hlt:r<σ.length:=by
  rcases Nat.lt_or_ge r σ.length with h' | h'
  ·exact h'
  ·rw [List.getElem?_eq_none h'] at h; cases h
 rw [List.getElem?_set];by_cases h:r=r'
 ·subst h; simp [hlt]
 ·simp [h,Ne.symm h]
theorem Rel.kill {K:KM}{σ:AL}{w:World}(hr:Rel K σ w){r:Nat}{o:fE}(ho:σ[r]? =some o):Ext K σ w K (σ.set r .dead) w/\Rel K (σ.set r .dead) w:=by
 have hget:=JC (o':=.dead) ho;have hown:∀ b,aD K (σ.set r .dead) b->aD K σ b:=by
  rintro b ⟨r',o',h1,h2,h3⟩
  rw [hget] at h1;by_cases hrn:r'=r
  ·rw [if_pos hrn] at h1; obtain rfl:=uC h1; simp [fE.live] at h2
  ·rw [if_neg hrn] at h1; exact ⟨r',o',h1,h2,h3⟩
 refine ⟨⟨by simp,fun r h=>h,fun r h=>⟨rfl,rfl,rfl,rfl⟩,fun b h=>h,fun b h=>.inl h,fun b h=>.inr (hown b h),fun _ _ _=>rfl,Nat.le_refl _,rfl,rfl,rfl⟩,?_,?_,fun b hb=>hr.cD b (hown b hb),?_,hr.Flt,fun r h=>by simpa using hr.alt r h⟩
 ·intro r' o' h1;rw [hget] at h1;by_cases hrn:r'=r
  ·rw [if_pos hrn] at h1; obtain rfl:=uC h1; trivial
  ·rw [if_neg hrn] at h1; exact hr.obj r' o' h1
 ·intro r1 r2 o1 o2 h1 h2 l1 l2 hb;rw [hget] at h1 h2;by_cases e1:r1=r
  ·rw [if_pos e1] at h1; obtain rfl:=uC h1; simp [fE.live] at l1
  ·by_cases e2:r2=r
   ·rw [if_pos e2] at h2; obtain rfl:=uC h2; simp [fE.live] at l2
   ·rw [if_neg e1] at h1; rw [if_neg e2] at h2;exact hr.inj r1 r2 o1 o2 h1 h2 l1 l2 hb
 ·intro r' o' h1 ht;rw [hget] at h1;by_cases hrn:r'=r
  ·rw [if_pos hrn] at h1; obtain rfl:=uC h1; simp [fE.there] at ht
  ·rw [if_neg hrn] at h1; exact hr.lt r' o' h1 ht
theorem Rel.inherit {K:KM}{σ:AL}{w w':World}(hr:Rel K σ w){nm r:Nat}(hfree:σ[nm]? =some .free){obj0:fE}(hobj:σ[r]? =some obj0)(hlive0:obj0.live=true)
  {o:Obj} (hW:Wr w w' (K.vP r) o) {obj:fE} (hlive:obj.live=true) {off e l:Nat}
  (hO:∀ σ',Ext K σ w (K.new nm (K.vP r) off e l) σ' w'->OR (K.new nm (K.vP r) off e l) w' nm obj):
  Ext K σ w (K.new nm (K.vP r) off e l) ((σ.set nm obj).set r .dead) w'/\Rel (K.new nm (K.vP r) off e l) ((σ.set nm obj).set r .dead) w':=by
 have hnal:¬ K.al nm:=hr.obj nm .free hfree;have hnr:nm≠r:=by
  rintro rfl
  rw [hfree] at hobj; obtain rfl:=uC hobj; simp [fE.live] at hlive0
 have hown0:aD K σ (K.vP r):=⟨r,obj0,hobj,hlive0,rfl⟩
 have hget:∀ r',((σ.set nm obj).set r .dead)[r']? =if r'=r then some .dead else if r'=nm then some obj else σ[r']? :=by
  intro r';have h1:=JC (o':=obj) hfree;have h2:(σ.set nm obj)[r]? =some obj0:=by rw [h1,if_neg (Ne.symm hnr)]; exact hobj
  rw [JC h2,h1]
 have hne:∀ r,K.al r->r≠nm:=fun r ha h=>hnal (h▸ha);have hE:Ext K σ w (K.new nm (K.vP r) off e l) ((σ.set nm obj).set r .dead) w':=by
  refine ⟨by simp,fun r h=>.inr h,fun r h=>?_,fun b h=>h,fun b h=>.inl h,?_,fun b hb hn=>hW.other b (fun h=>hn (h▸hown0)),by rw [hW.size]; omega,hW.os,hW.tape,hW.output⟩
  ·simp [KM.new,hne r h]
  ·rintro b ⟨r',o',h1,h2,h3⟩
   rw [hget] at h1;right;by_cases e1:r'=r
   ·rw [if_pos e1] at h1; obtain rfl:=uC h1; simp [fE.live] at h2
   ·rw [if_neg e1] at h1;by_cases e2:r'=nm
    ·subst e2; simp only [KM.new,if_pos] at h3; exact h3▸hown0
    ·rw [if_neg e2] at h1;exact ⟨r',o',h1,h2,by simpa [KM.new,e2] using h3⟩
 have hblk:∀ r' o',σ[r']? =some o'->r'≠r->o'.there=true->K.vP r'≠K.vP r:=by
  intro r' o' h1 hrn ht hb;cases hl:o'.live with
  | true=>exact hrn (hr.inj r' r o' obj0 h1 hobj hl hlive0 hb)
  | false=>
   have hF:K.F (K.vP r'):=by
    have ho:=hr.obj r' o' h1;cases o' with
    | free=>simp [fE.there] at ht
    | dead=>simp [fE.there] at ht
    | var fr pf c=>simp only [fE.live,Bool.not_eq_false'] at hl; obtain ⟨_,_,_,_,_,_,_,_,h5,_⟩:=ho; exact h5 hl
    | arr fr pf esz ex len row=>simp only [fE.live,Bool.not_eq_false'] at hl; obtain ⟨_,_,_,_,_,_,_,_,_,_,_,h7,_⟩:=ho; exact h7 hl
    | map fr pf es=>simp only [fE.live,Bool.not_eq_false'] at hl; obtain ⟨_,_,_,_,_,h3,_⟩:=ho; exact h3 hl
    | loop st t ps x y p=>simp [fE.live] at hl
    | dfr=>simp [fE.live] at hl
    | flat fr len cell over=>simp only [fE.live,Bool.not_eq_false'] at hl; obtain ⟨_,_,_,_,_,_,_,_,_,_,h5,_⟩:=ho; exact h5 hl
   exact hr.cD _ hown0 (hb▸hF)
 refine ⟨hE,?_,?_,?_,?_,?_,?_⟩
 ·intro r' o' h1;rw [hget] at h1;by_cases e1:r'=r
  ·rw [if_pos e1] at h1; obtain rfl:=uC h1; trivial
  ·rw [if_neg e1] at h1;by_cases e2:r'=nm
   ·subst e2;rw [if_pos rfl] at h1;obtain rfl:=uC h1;exact hO _ hE
   ·rw [if_neg e2] at h1;by_cases hfr:o'=.free
    ·subst hfr
     rintro (h | h)
     ·exact e2 h
     ·exact hr.obj r' _ h1 h
    ·exact (hr.obj r' o' h1).ext hE hr hfr fun ht=>hW.other _ (hblk r' o' h1 e1 ht)
 ·intro r1 r2 o1 o2 h1 h2 l1 l2 hb;rw [hget] at h1 h2;by_cases e1:r1=r
  ·rw [if_pos e1] at h1; obtain rfl:=uC h1; simp [fE.live] at l1
  by_cases e2:r2=r
  ·rw [if_pos e2] at h2; obtain rfl:=uC h2; simp [fE.live] at l2
  rw [if_neg e1] at h1;rw [if_neg e2] at h2;by_cases n1:r1=nm
  ·by_cases n2:r2=nm
   ·rw [n1,n2]
   ·rw [if_neg n2] at h2;simp only [KM.new,n1,n2,if_pos,if_false] at hb;exact absurd hb.symm (hblk r2 o2 h2 e2 (BY l2))
  ·by_cases n2:r2=nm
   ·rw [if_neg n1] at h1;simp only [KM.new,n1,n2,if_pos,if_false] at hb;exact absurd hb (hblk r1 o1 h1 e1 (BY l1))
   ·rw [if_neg n1] at h1;rw [if_neg n2] at h2;simp only [KM.new,n1,n2,if_false] at hb;exact hr.inj r1 r2 o1 o2 h1 h2 l1 l2 hb
 ·intro b hb hF;rcases hE.own b hb with h | h
  ·have:=hr.Flt b hF; omega
  ·exact hr.cD b h hF
 ·intro r' o' h1 ht;rw [hget] at h1;rw [hW.size];by_cases e1:r'=r
  ·rw [if_pos e1] at h1; obtain rfl:=uC h1; simp [fE.there] at ht
  rw [if_neg e1] at h1;by_cases e2:r'=nm
  ·simp only [KM.new,e2,if_pos]; exact hr.lt r obj0 hobj (BY hlive0)
  ·rw [if_neg e2] at h1;have:=hr.lt r' o' h1 ht;simp only [KM.new,e2,if_false]; omega
 ·intro b hF;have:=hr.Flt b hF;rw [hW.size]; omega
 ·rintro r' (h | h)
  ·subst h;simp only [List.length_set];rcases Nat.lt_or_ge r' σ.length with h' | h'
   ·exact h'
   ·rw [List.getElem?_eq_none h'] at hfree; cases hfree
  ·simpa using hr.alt r' h
def KM.cT (K:KM)(b:Nat):KM:={ K with F:=fun b'=>K.F b'∨b'=b }
theorem Od (o:fE):Bu (Bu o)=Bu o:=by cases o<;>rfl
theorem QO (o:fE):(Bu o).cT=o.cT:=by cases o<;>rfl
theorem HV (o:fE):(Bu o).live=false:=by cases o<;>rfl
theorem Lf {o:fE}(h:o.live=false):Bu o=o:=by
 cases o<;>simp_all [Bu,fE.live]
theorem Rel.freeze {K:KM}{σ:AL}{w:World}(hr:Rel K σ w){r:Nat}{o:fE}(ho:σ[r]? =some o)(hfz:o.cT=true):
  Ext K σ w (K.cT (K.vP r)) (σ.set r (Bu o)) w/\Rel (K.cT (K.vP r)) (σ.set r (Bu o)) w:=by
 have hget:=JC (o':=Bu o) ho;have hth:o.there=true:=by cases o<;>simp_all [fE.cT,fE.there]
 have hblt:=hr.lt r o ho hth;have hown:∀ b,aD (K.cT (K.vP r)) (σ.set r (Bu o)) b->aD K σ b/\b≠K.vP r:=by
  rintro b ⟨r',o',h1,h2,h3⟩
  rw [hget] at h1;by_cases hrn:r'=r
  ·rw [if_pos hrn] at h1; obtain rfl:=uC h1; rw [HV] at h2; cases h2
  ·rw [if_neg hrn] at h1;refine ⟨⟨r',o',h1,h2,h3⟩,fun hb=>?_⟩;subst hb;cases hl:o.live with
   | true=>exact hrn (hr.inj r' r o' o h1 ho h2 hl h3)
   | false=>
    have hF:K.F (K.vP r):=by
     have ho':=hr.obj r o ho;cases o with
     | free=>simp [fE.there] at hth
     | dead=>simp [fE.there] at hth
     | var fr pf c=>simp only [fE.live,Bool.not_eq_false'] at hl; obtain ⟨_,_,_,_,_,_,_,_,h5,_⟩:=ho'; exact h5 hl
     | arr fr pf esz ex len row=>simp only [fE.live,Bool.not_eq_false'] at hl; obtain ⟨_,_,_,_,_,_,_,_,_,_,_,h7,_⟩:=ho'; exact h7 hl
     | map fr pf es=>simp only [fE.live,Bool.not_eq_false'] at hl; obtain ⟨_,_,_,_,_,h3',_⟩:=ho'; exact h3' hl
     | loop st t ps x y p=>simp [fE.live] at hl
     | dfr=>simp [fE.live] at hl
     | flat fr len cell over=>simp only [fE.live,Bool.not_eq_false'] at hl; obtain ⟨_,_,_,_,_,_,_,_,_,_,h5,_⟩:=ho'; exact h5 hl
    exact hr.cD _ ⟨r',o',h1,h2,h3⟩ hF
 have hE:Ext K σ w (K.cT (K.vP r)) (σ.set r (Bu o)) w:=by
  refine ⟨by simp,fun r h=>h,fun r h=>⟨rfl,rfl,rfl,rfl⟩,fun b h=>.inl h,fun b h=>?_,fun b h=>.inr (hown b h).1,fun _ _ _=>rfl,Nat.le_refl _,rfl,rfl,rfl⟩;rcases h with h | h
  ·exact .inl h
  ·subst h;cases hl:o.live with
   | true=>exact .inr (.inr ⟨r,o,ho,hl,rfl⟩)
   | false=>
    left;have ho':=hr.obj r o ho;cases o with
    | free=>simp [fE.there] at hth
    | dead=>simp [fE.there] at hth
    | var fr pf c=>simp only [fE.live,Bool.not_eq_false'] at hl; obtain ⟨_,_,_,_,_,_,_,_,h5,_⟩:=ho'; exact h5 hl
    | arr fr pf esz ex len row=>simp only [fE.live,Bool.not_eq_false'] at hl; obtain ⟨_,_,_,_,_,_,_,_,_,_,_,h7,_⟩:=ho'; exact h7 hl
    | map fr pf es=>simp only [fE.live,Bool.not_eq_false'] at hl; obtain ⟨_,_,_,_,_,h3',_⟩:=ho'; exact h3' hl
    | loop st t ps x y p=>simp [fE.live] at hl
    | dfr=>simp [fE.live] at hl
    | flat fr len cell over=>simp only [fE.live,Bool.not_eq_false'] at hl; obtain ⟨_,_,_,_,_,_,_,_,_,_,h5,_⟩:=ho'; exact h5 hl
 refine ⟨hE,?_,?_,?_,?_,?_,?_⟩
 ·intro r' o' h1;rw [hget] at h1;by_cases hrn:r'=r
  ·subst hrn;rw [if_pos rfl] at h1;obtain rfl:=uC h1;have hfr:o≠.free:=by rintro rfl; simp [fE.there] at hth
   have:=(hr.obj r' o ho).ext hE hr hfr fun _=>rfl;cases o with
   | free=>exact absurd rfl hfr
   | dead=>trivial
   | var fr pf c=>
    obtain ⟨a1,a2,c,e,a3,a4,a5,a6,_,a7,a8⟩:=this;exact ⟨a1,a2,c,e,a3,a4,a5,a6,fun _=>.inr rfl,a7,a8⟩
   | arr fr pf esz ex len row=>
    obtain ⟨a1,a2,c,e,fz,a3,a4,a5,a6,a7,a8,_,a9⟩:=this;exact ⟨a1,a2,c,e,fz,a3,a4,a5,a6,a7,a8,fun _=>.inr rfl,a9⟩
   | map fr pf es=>
    obtain ⟨a1,mes,clock,a2,a3,_,a4⟩:=this;exact ⟨a1,mes,clock,a2,a3,fun _=>.inr rfl,a4⟩
   | loop st t ps x y p=>simp [fE.cT] at hfz
   | dfr=>simp [fE.cT] at hfz
   | flat fr len cell over=>
    obtain ⟨a1,a2,a3,a4,c,e,a5,a6,a7,a8,_,a9⟩:=this;exact ⟨a1,a2,a3,a4,c,e,a5,a6,a7,a8,fun _=>.inr rfl,a9⟩
  ·rw [if_neg hrn] at h1;by_cases hfr:o'=.free
   ·subst hfr; exact hr.obj r' _ h1
   ·exact (hr.obj r' o' h1).ext hE hr hfr fun _=>rfl
 ·intro r1 r2 o1 o2 h1 h2 l1 l2 hb;rw [hget] at h1 h2;by_cases e1:r1=r
  ·rw [if_pos e1] at h1; obtain rfl:=uC h1; rw [HV] at l1; cases l1
  ·by_cases e2:r2=r
   ·rw [if_pos e2] at h2; obtain rfl:=uC h2; rw [HV] at l2; cases l2
   ·rw [if_neg e1] at h1; rw [if_neg e2] at h2;exact hr.inj r1 r2 o1 o2 h1 h2 l1 l2 hb
 ·rintro b hb (hF | hF)
  ·exact hr.cD b (hown b hb).1 hF
  ·exact (hown b hb).2 hF
 ·intro r' o' h1 ht;rw [hget] at h1;by_cases hrn:r'=r
  ·subst hrn; exact hblt
  ·rw [if_neg hrn] at h1; exact hr.lt r' o' h1 ht
 ·rintro b (hF | hF)
  ·exact hr.Flt b hF
  ·subst hF; exact hblt
 ·intro r' h; simpa using hr.alt r' h
def KM.frzs (K:KM):List Nat->KM
 | []=>K
 | r :: rs=>(K.cT (K.vP r)).frzs rs
theorem Lg (K:KM):∀ rs b,(K.frzs rs).F b↔K.F b∨∃ r∈rs,b=K.vP r:=by
 intro rs;induction rs generalizing K with
 | nil=>intro b; simp [KM.frzs]
 | cons r rs ih=>
  intro b;rw [show (K.frzs (r :: rs))=(K.cT (K.vP r)).frzs rs from rfl,ih];simp [KM.cT,or_assoc]
theorem Rel.aS {look:B5}{w:World}:∀ (rs:List Nat) (K:KM) (σ:AL) (u:eB),Rel K σ w->(∀ r o,look r=some o->σ[r]? =some o∨σ[r]? =some (Bu o))->
  aS look rs=some u->Ext K σ w (K.frzs rs) (Al σ u) w/\Rel (K.frzs rs) (Al σ u) w:=by
 intro rs;induction rs with
 | nil=>
  intro K σ u hr _ h;simp only [Ev.aS,uB] at h;subst h;exact ⟨Ext.refl _ _ _,hr⟩
 | cons r rs ih=>
  intro K σ u hr hl h;unfold Ev.aS at h;split at h
  ·rename_i o u' ho hu;split at h
   ·rename_i hpf;have hlive:(if o.live=true then some ((r,Bu o) :: u') else some u')=some u:=h;have step:Ext K σ w (K.cT (K.vP r)) (σ.set r (Bu o)) w/\Rel (K.cT (K.vP r)) (σ.set r (Bu o)) w:=by
     rcases hl r o ho with h1 | h1
     ·exact hr.freeze h1 hpf
     ·have:=hr.freeze h1 (by rw [QO]; exact hpf);rw [Od] at this;exact this
    obtain ⟨e1,r1⟩:=step;have hlt:∃ o1,σ[r]? =some o1:=by rcases hl r o ho with h1 | h1<;>exact ⟨_,h1⟩
    obtain ⟨o1,ho1⟩:=hlt;have:=ih (K.cT (K.vP r)) (σ.set r (Bu o)) u' r1 (fun r' o' h'=>by
     rw [JC ho1];by_cases hrn:r'=r
     ·subst hrn;rw [ho] at h';obtain rfl:=uC h';right; simp
     ·rw [if_neg hrn]; exact hl r' o' h') hu
    cases hlv:o.live with
    | true=>
     rw [if_pos hlv] at hlive;obtain rfl:=uC hlive;exact ⟨e1.trans this.1,this.2⟩
    | false=>
     rw [if_neg (by simp [hlv])] at hlive;obtain rfl:=uC hlive;have hfo:=Lf hlv;have hset:σ.set r (Bu o)=σ:=by
      rw [hfo];have h1:σ[r]? =some o:=by rcases hl r o ho with h1 | h1; exact h1; rw [hfo] at h1; exact h1
      apply List.ext_getElem?;intro i;rw [List.getElem?_set];by_cases hi:r=i
      ·subst hi;have hlt:=(List.getElem?_eq_some_iff.1 h1).1;rw [if_pos rfl,if_pos hlt,h1]
      ·simp [hi]
     rw [hset] at this e1;exact ⟨e1.trans this.1,this.2⟩
   ·simp at h
  ·simp at h
end Go.Ev
namespace Go.Ev
section
variable {look:B5}{K:KM}{w:World}{F':Nat->Prop}{pv:EV->Option (EV×List Nat)}
theorem GJ (hpv:∀ v v' rs mv,pv v=some (v',rs)->VR K w v mv->(∀ r∈rs,F' (K.vP r))->PR F' w v' mv):∀ (cs cs':List EV) (rs:List Nat) (mv:Nat->Value),
  Dc pv cs=some (cs',rs)->(∀ i (h:i<cs.length),VR K w cs[i] (mv i))->(∀ r∈rs,F' (K.vP r))->cs'.length=cs.length/\∀ i (h:i<cs'.length),PR F' w cs'[i] (mv i):=by
 intro cs;induction cs with
 | nil=>
  intro cs' rs mv h hv hrs;simp only [Dc,uB,Prod.mk.injEq] at h;obtain ⟨rfl,rfl⟩:=h;exact ⟨rfl,fun i h=>by simp at h⟩
 | cons c cs ih=>
  intro cs' rs mv h hv hrs;unfold Dc at h;split at h
  ·rename_i x l xs l' hx hxs;simp only [uB,Prod.mk.injEq] at h;obtain ⟨rfl,rfl⟩:=h;have p0:=hpv c x l _ hx (hv 0 (by simp)) fun r hr=>hrs r (by simp [hr]);obtain ⟨q1,q2⟩:=ih xs l' (fun i=>mv (i+1)) hxs (fun i h=>hv (i+1) (by simpa using h)) fun r hr=>hrs r (by simp [hr]);refine ⟨by simp [q1],fun i h=>?_⟩;cases i with
   | zero=>exact p0
   | succ i=>simpa using q2 i (by simpa using h)
  ·simp at h
theorem QP (hpv:∀ v v' rs mv,pv v=some (v',rs)->VR K w v mv->(∀ r∈rs,F' (K.vP r))->PR F' w v' mv)(row:Nat->List EV):∀ (n i:Nat) (cs':List (List EV)) (rs:List Nat) (mv:Nat->Nat->Value),
  Kq pv row i n=some (cs',rs)->(∀ k,k<n->∀ j (h:j<(row (i+k)).length),VR K w (row (i+k))[j] (mv (i+k) j))->(∀ r∈rs,F' (K.vP r))->
   cs'.length=n/\∀ k,k<n->(cs'.getD k []).length=(row (i+k)).length/\∀ j (h:j<(cs'.getD k []).length),PR F' w (cs'.getD k [])[j] (mv (i+k) j):=by
 intro n;induction n with
 | zero=>
  intro i cs' rs mv h _ _;simp only [Kq,uB,Prod.mk.injEq] at h;obtain ⟨rfl,rfl⟩:=h;exact ⟨rfl,fun k hk=>by omega⟩
 | succ n ih=>
  intro i cs' rs mv h hv hrs;unfold Kq at h;split at h
  ·rename_i c l cs l' hc hcs;simp only [uB,Prod.mk.injEq] at h;obtain ⟨rfl,rfl⟩:=h;obtain ⟨p1,p2⟩:=GJ hpv (row i) c l (mv i) hc (fun j hj=>by simpa using hv 0 (by omega) j hj) fun r hr=>hrs r (by simp [hr]);obtain ⟨q1,q2⟩:=ih (i+1) cs l' mv hcs (fun k hk j hj=>by
    have:=hv (k+1) (by omega) j (by rw [show i+(k+1)=i+1+k from by omega]; exact hj);have e:i+(k+1)=i+1+k:=by omega
    simpa only [e] using this) fun r hr=>hrs r (by simp [hr])
   refine ⟨by simp [q1],fun k hk=>?_⟩;cases k with
   | zero=>exact ⟨p1,p2⟩
   | succ k=>
    have:=q2 k (by omega);have e:i+(k+1)=i+1+k:=by omega
    simpa only [List.getD_cons_succ,e] using this
  ·simp at h
theorem QQ (hpv:∀ v v' rs mv,pv v=some (v',rs)->VR K w v mv->(∀ r∈rs,F' (K.vP r))->PR F' w v' mv):∀ (es es':List (EV×EV)) (rs:List Nat) (mv:Nat->Value),
  Kr pv es=some (es',rs)->(∀ i (h:i<es.length),VR K w es[i].2 (mv i))->(∀ r∈rs,F' (K.vP r))->
   es'.length=es.length/\∀ i (h:i<es'.length) (h':i<es.length),es'[i].1=es[i].1/\PR F' w es'[i].2 (mv i):=by
 intro es;induction es with
 | nil=>
  intro es' rs mv h hv hrs;simp only [Kr,uB,Prod.mk.injEq] at h;obtain ⟨rfl,rfl⟩:=h;exact ⟨rfl,fun i h=>by simp at h⟩
 | cons c es ih=>
  intro es' rs mv h hv hrs;unfold Kr at h;split at h
  ·rename_i x l xs l' hx hxs;simp only [uB,Prod.mk.injEq] at h;obtain ⟨rfl,rfl⟩:=h;have p0:=hpv c.2 x l _ hx (hv 0 (by simp)) fun r hr=>hrs r (by simp [hr]);obtain ⟨q1,q2⟩:=ih xs l' (fun i=>mv (i+1)) hxs (fun i h=>hv (i+1) (by simpa using h)) fun r hr=>hrs r (by simp [hr]);refine ⟨by simp [q1],fun i h h'=>?_⟩;cases i with
   | zero=>exact ⟨rfl,p0⟩
   | succ i=>simpa using q2 i (by simpa using h) (by simpa using h')
  ·simp at h
theorem Iq (hL:FO look K w)(hF:∀ b,K.F b->F' b):∀ (n:Nat) (v v':EV) (rs:List Nat) (mv:Value),
  Bh look n v=some (v',rs)->VR K w v mv->(∀ r∈rs,F' (K.vP r))->PR F' w v' mv:=by
 have stay:Tl K.F w w:=fun _ _=>rfl;intro n;induction n with
 | zero=>intro v v' rs mv h; simp [Bh] at h
 | succ n ih=>
  have hgo:∀ (cs cs':List EV) rs (mcs:Array Value),Dc (Bh look n) cs=some (cs',rs)->cs.length=mcs.size->
    (∀ i (h:i<cs.length) (h':i<mcs.size),VR K w cs[i] mcs[i])->(∀ r∈rs,F' (K.vP r))->cs'.length=mcs.size/\∀ i (h:i<cs'.length) (h':i<mcs.size),PR F' w cs'[i] mcs[i]:=by
   intro cs cs' rs mcs h hl hv hrs;obtain ⟨p1,p2⟩:=GJ ih cs cs' rs (fun i=>mcs.getD i default) h (fun i hi=>by
    have hi':i<mcs.size:=by omega
    simpa [hi'] using hv i hi hi') hrs
   exact ⟨by omega,fun i a b=>by simpa [b] using p2 i a⟩
  intro v v' rs mv h hv hrs;cases v with
  | ptr r k=>
   simp only [Bh] at h;split at h
   ·rename_i fr cells hr;split at h
    ·rename_i hk;simp only [uB,Prod.mk.injEq] at h;obtain ⟨rfl,rfl⟩:=h;obtain ⟨rfl,_⟩:=hv.bO;obtain ⟨_,h0,c,e,hb,hs,_,h1,_,_,hp⟩:=hL r _ hr;refine .ip cells k _ _ (fun j=>c.getD j default) (hrs r (by simp)) hk (fun j hj=>?_) fun j hj=>?_
     ·have hj':j<c.size:=by omega
      refine ⟨by simp [cellAt,hb,h0,hj'],?_⟩;simpa [hj'] using h1 j hj'
     ·have hj':j<c.size:=by omega
      have:=(hp rfl j hj hj').mono hF stay;simpa [hj'] using this
    ·simp at h
   ·rename_i fr cells hr;split at h
    ·rename_i hk;obtain ⟨⟨cs',l⟩,g1,g2⟩:=Option.map_eq_some_iff.1 h;simp only [Prod.mk.injEq] at g2;obtain ⟨rfl,rfl⟩:=g2;obtain ⟨rfl,_⟩:=hv.bO;obtain ⟨_,h0,c,e,hb,hs,_,h1,_,hvr,_⟩:=hL r _ hr;obtain ⟨q1,q2⟩:=GJ ih cells cs' l (fun j=>c.getD j default) g1 (fun j hj=>by
      have hj':j<c.size:=by omega
      simpa [hj'] using hvr j hj hj') fun r hr=>hrs r (by simp [hr])
     refine .ip cs' k _ _ (fun j=>c.getD j default) (hrs r (by simp)) (by omega) (fun j hj=>?_) q2;have hj':j<c.size:=by omega
     refine ⟨by simp [cellAt,hb,h0,hj'],?_⟩;simpa [hj'] using h1 j hj'
    ·simp at h
   ·simp at h
  | pe r esz i k=>
   simp only [Bh] at h;split at h
   ·rename_i fr esz' ex len row hr;split at h
    ·rename_i hk;obtain ⟨rfl,hk⟩:=hk;simp only [uB,Prod.mk.injEq] at h;obtain ⟨rfl,rfl⟩:=h;obtain ⟨rfl,_,hi⟩:=hv.bS;obtain ⟨_,hln,c,e,fz,hb,_,_,h1,hle,_,_,hlr,_,hp⟩:=hL r _ hr;have hi':i<len:=by omega
     have hb2:(i+1)*esz<=len*esz:=Nat.mul_le_mul_right _ hi';rw [Nat.add_mul,Nat.one_mul] at hb2;have hrl:=hlr i hi';refine .ip (row i) k _ _ (fun j=>c.getD (K.off r+i*esz+j) default) (hrs r (by simp)) hk (fun j hj=>?_) fun j hj=>?_
     ·have hj':K.off r+i*esz+j<c.size:=by omega
      refine ⟨by simp [cellAt,hb,hj'],?_⟩;simpa [hj'] using h1 _ hj'
     ·have hj':K.off r+i*esz+j<c.size:=by omega
      have:=(hp rfl i hi' j hj hj').mono hF stay;simpa [hj'] using this
    ·simp at h
   ·rename_i fr esz' ex len row hr;split at h
    ·rename_i hk;obtain ⟨rfl,hk⟩:=hk;obtain ⟨⟨cs',l⟩,g1,g2⟩:=Option.map_eq_some_iff.1 h;simp only [Prod.mk.injEq] at g2;obtain ⟨rfl,rfl⟩:=g2;obtain ⟨rfl,_,hi⟩:=hv.bS;obtain ⟨_,hln,c,e,fz,hb,_,_,h1,hle,_,_,hlr,hvr,_⟩:=hL r _ hr;have hi':i<len:=by omega
     have hb2:(i+1)*esz<=len*esz:=Nat.mul_le_mul_right _ hi';rw [Nat.add_mul,Nat.one_mul] at hb2;have hrl:=hlr i hi';obtain ⟨q1,q2⟩:=GJ ih (row i) cs' l (fun j=>c.getD (K.off r+i*esz+j) default) g1 (fun j hj=>by
      have hj':K.off r+i*esz+j<c.size:=by omega
      simpa [hj'] using hvr i hi' j hj hj') fun r hr=>hrs r (by simp [hr])
     refine .ip cs' k _ _ (fun j=>c.getD (K.off r+i*esz+j) default) (hrs r (by simp)) (by omega) (fun j hj=>?_) q2;have hj':K.off r+i*esz+j<c.size:=by omega
     refine ⟨by simp [cellAt,hb,hj'],?_⟩;simpa [hj'] using h1 _ hj'
    ·simp at h
   ·simp at h
  | ms r esz off len cap=>
   simp only [Bh] at h;have hzero:∀ row',VR K w (.ms r esz off len cap) mv->len=0->PR F' w (.uS true esz len row') mv:=by
    intro row' hv h0;obtain ⟨a,mcap,rfl,_,hle',hlen,_,_,haddr⟩:=hv.aW;subst h0;obtain ⟨b,o,sp⟩:=a;exact .uS esz 0 _ b o mcap (fun _ _=>default) (by omega) (by omega) sp (by omega) (by omega) (by omega) (by omega)
   split at h
   ·rename_i fr esz' ex olen row hr;split at h
    ·rename_i hk;subst hk;simp only [uB,Prod.mk.injEq] at h;obtain ⟨rfl,rfl⟩:=h;by_cases h0:len=0
     ·exact hzero _ hv h0
     ·obtain ⟨a,mcap,rfl,_,hle',hlen,_,_,haddr⟩:=hv.aW;obtain ⟨_,hln,c,e,fz,hb,_,_,h1,hle,_,_,hlr,_,hp⟩:=hL r _ hr;obtain rfl:=haddr (by omega);have hcell:∀ i,i<len->(off+i+1)*esz<=olen*esz:=fun i hi=>Nat.mul_le_mul_right _ (by omega);refine .uS esz len _ _ _ mcap (fun i j=>c.getD (K.off r+(off+i)*esz+j) default) (fun _=>hrs r (by simp)) hle' none (fun _=>rfl)
       (fun i hi=>hlr _ (by omega)) (fun i hi j hj=>?_) fun i hi j hj=>?_
      ·have:=hcell i hi;rw [Nat.add_mul,Nat.one_mul] at this;have hj':K.off r+(off+i)*esz+j<c.size:=by omega
       rw [show K.off r+off*esz+i*esz+j=K.off r+(off+i)*esz+j from by rw [Nat.add_mul]; omega];refine ⟨by simp [cellAt,hb,hj'],?_⟩;simpa [hj'] using h1 _ hj'
      ·have:=hcell i hi;rw [Nat.add_mul,Nat.one_mul] at this;have hrl:=hlr (off+i) (by omega);have hj':K.off r+(off+i)*esz+j<c.size:=by omega
       have:=(hp rfl (off+i) (by omega) j hj hj').mono hF stay;simpa [hj'] using this
    ·simp at h
   ·rename_i fr esz' ex olen row hr;split at h
    ·rename_i hk;subst hk;obtain ⟨⟨cs',l⟩,g1,g2⟩:=Option.map_eq_some_iff.1 h;simp only [Prod.mk.injEq] at g2;obtain ⟨rfl,rfl⟩:=g2;by_cases h0:len=0
     ·exact hzero _ hv h0
     ·obtain ⟨a,mcap,rfl,_,hle',hlen,_,_,haddr⟩:=hv.aW;obtain ⟨_,hln,c,e,fz,hb,_,_,h1,hle,_,_,hlr,hvr,_⟩:=hL r _ hr;obtain rfl:=haddr (by omega);have hcell:∀ i,i<len->(off+i+1)*esz<=olen*esz:=fun i hi=>Nat.mul_le_mul_right _ (by omega);have hidx:∀ i,i<len->∀ j,j<esz->K.off r+(off+i)*esz+j<c.size:=by
       intro i hi j hj;have:=hcell i hi;rw [Nat.add_mul,Nat.one_mul] at this;omega
      obtain ⟨q1,q2⟩:=QP ih row len off cs' l (fun i j=>c.getD (K.off r+i*esz+j) default) g1 (fun i hi j hj=>by
       have hrl:=hlr (off+i) (by omega);have hj':=hidx i hi j (by omega);simpa [hj'] using hvr (off+i) (by omega) j hj hj') fun r hr=>hrs r (by simp [hr])
      refine .uS esz len _ _ _ mcap (fun i j=>c.getD (K.off r+(off+i)*esz+j) default) (fun _=>hrs r (by simp)) hle' none (fun _=>rfl)
       (fun i hi=>by rw [(q2 i hi).1]; exact hlr _ (by omega)) (fun i hi j hj=>?_) fun i hi j hj=>(q2 i hi).2 j hj
      have hj':=hidx i hi j hj;rw [show K.off r+off*esz+i*esz+j=K.off r+(off+i)*esz+j from by rw [Nat.add_mul]; omega];refine ⟨by simp [cellAt,hb,hj'],?_⟩;simpa [hj'] using h1 _ hj'
    ·simp at h
   ·simp at h
  | mm r=>
   simp only [Bh] at h;split at h
   ·rename_i fr es hr;simp only [uB,Prod.mk.injEq] at h;obtain ⟨rfl,rfl⟩:=h;obtain ⟨rfl,_⟩:=hv.cS;obtain ⟨_,mes,clock,hb,hl,_,_,hk,hp,_⟩:=hL r _ hr;exact .im es _ mes clock (hrs r (by simp)) hb hl (fun i a b=>(hk i a b).mono hF stay) fun i a b=>(hp rfl i a b).mono hF stay
   ·rename_i fr es hr;obtain ⟨⟨es',l⟩,g1,g2⟩:=Option.map_eq_some_iff.1 h;simp only [Prod.mk.injEq] at g2;obtain ⟨rfl,rfl⟩:=g2;obtain ⟨rfl,_⟩:=hv.cS;obtain ⟨_,mes,clock,hb,hl,_,hvr,hk,_⟩:=hL r _ hr;obtain ⟨q1,q2⟩:=QQ ih es es' l (fun i=>(mes.getD i default).val) g1 (fun i hi=>by
     have hi':i<mes.size:=by omega
     simpa [hi'] using (hvr i hi hi').2) fun r hr=>hrs r (by simp [hr])
    refine .im es' _ mes clock (hrs r (by simp)) hb (by omega) (fun i a b=>?_) fun i a b=>?_
    ·rw [(q2 i a (by omega)).1]; exact (hk i (by omega) b).mono hF stay
    ·simpa [b] using (q2 i a (by omega)).2
   ·simp at h
  | it r=>simp [Bh] at h
  | agg cs=>
   simp only [Bh,Option.map_eq_some_iff] at h;obtain ⟨⟨cs',l⟩,h1,h2⟩:=h;simp only [Prod.mk.injEq] at h2;obtain ⟨rfl,rfl⟩:=h2;obtain ⟨mcs,rfl,⟨hl,h1'⟩,hc⟩:=hv.aY;obtain ⟨q1,q2⟩:=hgo cs cs' l mcs h1 hl hc hrs;exact .agg cs' mcs q1 h1' q2
  | tuple cs=>
   simp only [Bh,Option.map_eq_some_iff] at h;obtain ⟨⟨cs',l⟩,h1,h2⟩:=h;simp only [Prod.mk.injEq] at h2;obtain ⟨rfl,rfl⟩:=h2;obtain ⟨mcs,rfl,hl,hc⟩:=hv.tuple_inv;obtain ⟨q1,q2⟩:=hgo cs cs' l mcs h1 hl hc hrs;exact .tuple cs' mcs q1 q2
  | func fn a b=>
   simp only [Bh] at h;split at h
   ·rename_i a' l b' l' ha hb;simp only [uB,Prod.mk.injEq] at h;obtain ⟨rfl,rfl⟩:=h;obtain ⟨mf,mc,rfl,hva,hvb⟩:=hv.cE;obtain ⟨q1,q2⟩:=hgo a a' l mf ha hva.1 hva.2 fun r hr=>hrs r (by simp [hr]);obtain ⟨q3,q4⟩:=hgo b b' l' mc hb hvb.1 hvb.2 fun r hr=>hrs r (by simp [hr]);exact .func fn a' b' mf mc q1 q3 q2 q4
   ·simp at h
  | iface t x=>
   simp only [Bh,Option.map_eq_some_iff] at h;obtain ⟨⟨x',l⟩,h1,h2⟩:=h;simp only [Prod.mk.injEq] at h2;obtain ⟨rfl,rfl⟩:=h2;obtain ⟨mx,rfl,hx⟩:=hv.bI;exact .iface t x' mx (ih x x' l mx h1 hx hrs)
  | _=>
   simp only [Bh,uB,Prod.mk.injEq] at h;obtain ⟨rfl,rfl⟩:=h;exact (hv.cN rfl).mono hF stay
theorem SC (hL:FO look K w)(hF:∀ b,K.F b->F' b){vs vs':List EV}{rs:List Nat}{mvs:Array Value}
  (h:KV look vs=some (vs',rs)) (hv:aU K w vs mvs) (hrs:∀ r∈rs,F' (K.vP r)):PRs F' w vs' mvs:=by
 have h1:Bh look 31 (.tuple vs)=some (.tuple vs',rs):=by
  have e:Bh look (30+1) (.tuple vs)=(Dc (Bh look 30) vs).map fun q=>(.tuple q.1,q.2):=rfl;rw [e,show Dc (Bh look 30) vs=some (vs',rs) from h];rfl
 have h2:=Iq hL hF 31 _ _ _ (.tuple mvs) h1 (.tuple vs mvs hv.1 hv.2) hrs;cases h2 with
 | tuple _ _ hl hp=>exact ⟨hl,hp⟩
end
theorem Oe {w:World}{b o:Nat}{c:Array Value}{e:TypeId}{fz:Nat×Nat}(hb:w.heap[b]? =some (.cells c e fz))(v:Value):
  Wr w (w.setCell ⟨b,o,none⟩ v) b (.cells (c.setIfInBounds o v) e fz):=by
 refine ⟨by simp [World.setCell],fun b' h=>?_,?_,rfl,rfl,rfl⟩
 ·simp only [World.setCell,Array.getElem?_modify]; rw [if_neg (Ne.symm h)]
 ·simp [World.setCell,Array.getElem?_modify,hb]
theorem Wr.trans {w w' w'':World}{b:Nat}{o o':Obj}(h:Wr w w' b o)(g:Wr w' w'' b o'):Wr w w'' b o':=
 ⟨g.size.trans h.size,fun b' hb=>(g.other b' hb).trans (h.other b' hb),g.here,g.os.trans h.os,g.tape.trans h.tape,g.output.trans h.output⟩
theorem Wr.refl {w:World}{b:Nat}{o:Obj}(h:w.heap[b]? =some o):Wr w w b o:=⟨rfl,fun _ _=>rfl,h,rfl,rfl,rfl⟩
theorem FL (P:Program){b o:Nat}{e:TypeId}{fz:Nat×Nat}:∀ (vs:List Value) (i:Nat) (w:World) (c:Array Value),w.heap[b]? =some (.cells c e fz)->
  (∀ v∈vs,v.oneCell'=true)->o+i+vs.length<=c.size->(∀ j,j<c.size->(fz.1<=j && j<fz.2)=false)->
  ∃ w' c',(storeCells ⟨b,o,none⟩ vs i).run P w=.ok () w'/\Wr w w' b (.cells c' e fz)/\c'.size=c.size/\
   ∀ j,c'[j]? =if o+i<=j/\j<o+i+vs.length then vs[j - (o+i)]? else c[j]? :=by
 intro vs;induction vs with
 | nil=>
  intro i w c hb _ _ _;exact ⟨w,c,by simp [storeCells],.refl hb,rfl,fun j=>by rw [if_neg (by simp)]⟩
 | cons v vs ih=>
  intro i w c hb h1 hle hfz;have hlt:o+i<c.size:=by simp at hle; omega
  have hcell:w.cell? ⟨b,o+i,none⟩=some c[o+i]:=by simp [cell?_eq,cellAt,hb,hlt]
  have hfrz:w.frozen? ⟨b,o+i,none⟩=false:=by simp only [World.frozen?,hb]; exact hfz _ hlt
  have hs:(store ⟨b,o+i,none⟩ v).run P w=.ok () (w.setCell ⟨b,o+i,none⟩ v):=by
   rw [run_store P w _ v .plain (h1 v (by simp)),hcell]; simp [hfrz]
  have hw:=Oe (o:=o+i) hb v;obtain ⟨w',c',r1,r2,r3,r4⟩:=ih (i+1) (w.setCell ⟨b,o+i,none⟩ v) (c.setIfInBounds (o+i) v) hw.here (fun x hx=>h1 x (by simp [hx])) (by simp at hle ⊢; omega)
   (fun j hj=>hfz j (by simpa using hj))
  refine ⟨w',c',?_,hw.trans r2,by simpa using r3,fun j=>?_⟩
  ·simp only [storeCells,Sem.run_bind,D4,hs,uE]; exact r1
  ·rw [r4];by_cases hj:j=o+i
   ·subst hj;rw [if_neg (by omega),if_pos (by simp)];simp [hlt]
   ·by_cases hc:o+(i+1)<=j/\j<o+(i+1)+vs.length
    ·rw [if_pos hc,if_pos (by simp; omega),show j - (o+i)=(j - (o+(i+1)))+1 from by omega,List.getElem?_cons_succ]
    ·rw [if_neg hc,if_neg (by simp; omega),Array.getElem?_setIfInBounds,if_neg (by omega)]
end Go.Ev
namespace Go.Ev
section
variable {P:Program}{S:Type}{V:S->Prop}{G:Nat->Option (List EV)}{D:Drv S}
theorem EB {cs:List EV}(h:CB cs=true):∀ i (hi:i<cs.length),(cs[i]).plain=true:=by
 induction cs with
 | nil=>intro i hi; simp at hi
 | cons x xs ih=>
  simp only [CB,uF] at h;intro i hi;cases i with
  | zero=>exact h.1
  | succ i=>exact ih h.2 i (by simpa using hi)
theorem HL {look:B5}{K:KM}{σ:AL}{w:World}(hr:Rel K σ w)(hl:∀ r o,look r=some o->σ[r]? =some o):FO look K w:=fun r o h=>hr.obj r o (hl r o h)
theorem VC.ext {K K':KM}{σ σ':AL}{w w':World}(h:Ext K σ w K' σ' w')(hr:Rel K σ w){cs:List EV}{ms:Array Value}(hv:VC K w cs ms):VC K' w' cs ms:=⟨hv.1.ext h hr,hv.2⟩
theorem S5 {K:KM}{σ:AL}{w:World}(hr:Rel K σ w){nm:Nat}(hfree:σ[nm]? =some .free){cells:List EV}{c:Array Value}(hc:VC K w cells c)(t:TypeId):
  ∃ w' K',(newRow t c).run P w=.ok ⟨w.heap.size,0,none⟩ w'/\Ext K σ w K' (σ.set nm (.var false (CB cells) cells)) w'/\Rel K' (σ.set nm (.var false (CB cells) cells)) w'/\
   VR K' w' (.ptr nm 0) (.pointer (some ⟨w.heap.size,0,none⟩)):=by
 have hN:=New.push w (.cells c t);have:=hr.new hfree hN (obj:=.var false (CB cells) cells) rfl (off:=0) (e:=c.size) (l:=0) fun σ' hE=>by
  have hc':=hc.ext hE hr;refine ⟨.inl rfl,by simp [KM.new],c,t,by simp [KM.new],hc.1.1.symm,by simp [KM.new],hc.2,(fun h=>by cases h),fun i a b=>hc'.1.2 i a b,fun hp i a b=>?_⟩;exact (hc'.1.2 i a b).cN (EB hp i a)
 refine ⟨_,_,rfl,this.1,this.2,?_⟩;have:=VR.ptr (K:=K.new nm w.heap.size 0 c.size 0) (w:={ w with heap:=w.heap.push (.cells c t) }) nm 0 (.inl rfl);simpa [KM.new] using this
theorem Tw:∀ (vs:List EV) (i k:Nat) (h:k<vs.length),(Ay (F6 i vs) (i+k)=some vs[k]∨(Ay (F6 i vs) (i+k)=none/\∃ e row,vs[k]=.uS false e 0 row)):=by
 have low:∀ (vs:List EV) (i j:Nat),j<i->Ay (F6 i vs) j=none:=by
  intro vs;induction vs with
  | nil=>intro i j _; rfl
  | cons v vs ih=>
   intro i j hj;unfold F6;split
   ·exact ih (i+1) j (by omega)
   ·simp only [Ay]; rw [if_neg (by omega)]; exact ih (i+1) j (by omega)
 intro vs;induction vs with
 | nil=>intro i k h; simp at h
 | cons v vs ih=>
  intro i k h;cases k with
  | zero=>
   unfold F6;split
   ·rename_i e row;exact .inr ⟨by rw [Nat.add_zero]; exact low vs (i+1) i (by omega),e,row,rfl⟩
   ·left; simp [Ay]
  | succ k=>
   have:=ih (i+1) k (by simpa using h);rw [show i+1+k=i+(k+1) by omega] at this;simp only [List.getElem_cons_succ];unfold F6;split
   ·exact this
   ·simp only [Ay]; rw [if_neg (by omega)]; exact this
theorem V3 {K:KM}{σ:AL}{w:World}(hr:Rel K σ w){nm:Nat}(hfree:σ[nm]? =some .free){cells:List EV}{c:Array Value}(hc:VC K w cells c)(hpos:0<cells.length)(t:TypeId):
  ∃ w' K',(newRow t c).run P w=.ok ⟨w.heap.size,0,none⟩ w'/\Ext K σ w K' (σ.set nm (.flat false cells.length (fun _=>.uS false 0 0 fun _=>[]) (F6 0 cells))) w'/\
   Rel K' (σ.set nm (.flat false cells.length (fun _=>.uS false 0 0 fun _=>[]) (F6 0 cells))) w'/\
   VR K' w' (.pe nm 0 0 0) (.pointer (some ⟨w.heap.size,0,none⟩)):=by
 have hN:=New.push w (.cells c t);have:=hr.new hfree hN (obj:=.flat false cells.length (fun _=>.uS false 0 0 fun _=>[]) (F6 0 cells)) rfl (off:=0) (e:=c.size) (l:=cells.length) fun σ' hE=>by
  have hc':=hc.ext hE hr;refine ⟨.inl rfl,by simp [KM.new],by simp [KM.new],hpos,c,t,by simp [KM.new],hc.1.1.symm,by simp [KM.new],hc.2,(fun h=>by cases h),fun i a=>?_⟩;have hv:=hc'.1.2 i (by rw [hc.1.1]; exact a) a;rcases Tw cells 0 i (by rw [hc.1.1]; exact a) with h | ⟨h,e,row,he⟩
  ·rw [uJ] at h;exact .inl ⟨_,h,hv⟩
  ·rw [uJ] at h;refine .inr ⟨h,?_⟩;rw [he] at hv;generalize c[i]=mv at hv ⊢;cases hv with
   | pure _ _ hp=>cases hp with
    | bB=>exact .bB _ _
 refine ⟨_,_,rfl,this.1,this.2,?_⟩;have:=VR.pe (K:=K.new nm w.heap.size 0 c.size cells.length) (w:={ w with heap:=w.heap.push (.cells c t) }) nm 0 0 0 (.inl rfl) (by simpa [KM.new] using hpos);simpa [KM.new] using this
theorem Xf (nm:Nat)(t:TypeId)(v:EV):
  Ok V (ZQ (S:=S) nm v) fun r=>∀ K σ w mv0,Rel K σ w->σ[nm]? =some .free->VR K w v mv0->
   ∃ mv w' K',(Instr.box t mv0).run P w=.ok mv w'/\Ext K σ w K' (Al σ r.2) w'/\Rel K' (Al σ r.2) w'/\VR K' w' r.1 mv:=by
 unfold ZQ;refine Ok.bind (Ok.lift (Φ:=fun z=>v.cells=some z) fun n h=>h) fun vs=>Ok.ite (fun hlen=>Ok.pure ?_) fun _=>Ok.pure ?_
 ·intro hvs K σ w mv0 hr hfree hv;obtain ⟨w',K',h1,h2,h3,h4⟩:=V3 (P:=P) hr hfree (hv.cells hvs) (by have:=Nat.le_of_ble_eq_true hlen; omega) t;refine ⟨_,w',K',?_,h2,h3,h4⟩;simp only [Instr.box,Sem.run_bind,newVar,h1,uE,Sem.run_pure]
 ·intro hvs K σ w mv0 hr hfree hv;obtain ⟨w',K',h1,h2,h3,h4⟩:=S5 (P:=P) hr hfree (hv.cells hvs) t;refine ⟨_,w',K',?_,h2,h3,h4⟩;simp only [Instr.box,Sem.run_bind,newVar,h1,uE,Sem.run_pure]
def QR (K:KM)(w:World)(o esz len:Nat)(row:Nat->List EV)(c:Array Value):Prop:=
 ∀ i,i<len->(row i).length=esz/\∀ j (h:j<(row i).length) (h':o+i*esz+j<c.size),VR K w (row i)[j] c[o+i*esz+j]
def Tx (len:Nat)(row:Nat->List EV):Prop:=∀ i,i<len->∀ j (h:j<(row i).length),((row i)[j]).plain=true
theorem K3 {K:KM}{σ:AL}{w w':World}(hr:Rel K σ w){nm:Nat}(hfree:σ[nm]? =some .free){c:Array Value}{t:TypeId}{fz:Nat×Nat}(hN:New w w' (.cells c t fz))
  (hfz:∀ j,j<c.size->(fz.1<=j && j<fz.2)=false) {esz len:Nat} {row:Nat->List EV}
  (h1:∀ j (h:j<c.size),(c[j]).oneCell'=true) (hle:len*esz<=c.size) {exact pf:Bool} (hex:exact=true->len*esz=c.size/\fz.1=fz.2) (hrows:QR K w 0 esz len row c)
  (hpf:pf=true->∀ i,i<len->∀ j (h:j<(row i).length) (h':0+i*esz+j<c.size),PR K.F w (row i)[j] c[0+i*esz+j]):
  Ext K σ w (K.new nm w.heap.size 0 c.size len) (σ.set nm (.arr false pf esz exact len row)) w'/\Rel (K.new nm w.heap.size 0 c.size len) (σ.set nm (.arr false pf esz exact len row)) w':=by
 refine hr.new hfree hN (obj:=.arr false pf esz exact len row) rfl (off:=0) (e:=c.size) (l:=len) fun σ' hE=>?_;refine ⟨.inl rfl,by simp [KM.new],c,t,fz,by simp only [KM.new,if_pos]; exact hN.here,hfz,by simp [KM.new],h1,by simpa [KM.new] using hle,(fun h=>⟨by simpa [KM.new] using (hex h).1,(hex h).2⟩),(fun h=>by cases h),
  fun i hi=>(hrows i hi).1,fun i hi j hj hc=>?_,fun hp i hi j hj hc=>?_⟩
 ·simp only [KM.new,if_pos] at hc;have:=((hrows i hi).2 j hj hc).ext hE hr;simpa only [KM.new,if_pos] using this
 ·simp only [KM.new,if_pos] at hc;have:=(hpf hp i hi j hj hc).ext hE hr;simpa only [KM.new,if_pos] using this
theorem MV {rows:List (List EV)}{n:Nat}(h:∀ r∈rows,r.length=n):∀ (i j:Nat),j<n->rows.flatten[i*n+j]? =(rows[i]?).bind (·[j]?):=by
 induction rows with
 | nil=>intro i j _; simp
 | cons r rows ih=>
  intro i j hj;have hr:=h r (by simp);rw [List.flatten_cons,List.getElem?_append];cases i with
  | zero=>rw [if_pos (by omega)]; simp
  | succ i=>
   rw [if_neg (by rw [Nat.add_mul]; omega),hr,show (i+1)*n+j - n=i*n+j from by rw [Nat.add_mul]; omega,ih (fun r hr=>h r (by simp [hr])) i j hj];simp
theorem Ir {rows:List (List EV)}{n:Nat}(h:∀ r∈rows,r.length=n):rows.flatten.length=rows.length*n:=by
 induction rows with
 | nil=>simp
 | cons r rows ih=>
  rw [List.flatten_cons,List.length_append,ih fun r hr=>h r (by simp [hr]),h r (by simp),List.length_cons,Nat.add_mul]; omega
theorem Lh {rows:List (List EV)}{n i:Nat}{vs:List EV}(h:∀ r∈rows,r.length=n)(hv:vs.length=n)(hi:i<rows.length):
  DG rows.flatten (i*n) vs=some (rows.set i vs).flatten:=by
 induction rows generalizing i with
 | nil=>simp at hi
 | cons r rows ih=>
  have hr:=h r (by simp);cases i with
  | zero=>
   simp only [DG,Nat.zero_mul,uJ,List.flatten_cons,List.length_append,List.take_zero,List.nil_append,List.set_cons_zero];rw [if_pos (by omega),List.drop_append,List.drop_of_length_le (by omega),hv,<-hr];simp
  | succ i=>
   have:=ih (i:=i) (fun r hr=>h r (by simp [hr])) (by simpa using hi);unfold DG at this ⊢;split at this
   ·rename_i hle;rw [List.set_cons_succ,List.flatten_cons,List.flatten_cons,if_pos (by rw [List.length_append,hr,Nat.add_mul]; omega)];simp only [uB] at this ⊢;rw [<-this];have e1:(i+1)*n=n+i*n:=by rw [Nat.add_mul]; omega
    rw [List.take_append,List.take_of_length_le (by rw [e1]; omega),hr,List.drop_append,List.drop_of_length_le (by rw [e1]; omega),hr];simp only [List.nil_append,List.append_assoc];rw [show (i+1)*n - n=i*n from by rw [e1]; omega,show (i+1)*n+vs.length - n=i*n+vs.length from by rw [e1]; omega]
   ·simp at this
theorem Ty {n:Nat}:∀ (parts:List (Nat×EV)) (rows rows':List (List EV)),(∀ r∈rows,r.length=n)->Tm rows parts n=some rows'->
  KN (fun i=>some (i*n,n)) rows.flatten parts=some rows'.flatten/\(∀ r∈rows',r.length=n)/\rows'.length=rows.length:=by
 intro parts;induction parts with
 | nil=>intro rows rows' hr h; simp only [Tm,uB] at h; subst h; exact ⟨rfl,hr,rfl⟩
 | cons p parts ih=>
  obtain ⟨i,v⟩:=p;intro rows rows' hr h;unfold Tm at h;split at h
  ·rename_i vs hvs;split at h
   ·rename_i hc;have hr':∀ r∈rows.set i vs,r.length=n:=by
     intro r h';rcases List.mem_or_eq_of_mem_set h' with h' | h'
     ·exact hr r h'
     ·subst h'; exact hc.1
    obtain ⟨h1,h2,h3⟩:=ih _ _ hr' h;refine ⟨?_,h2,by simpa using h3⟩;unfold KN;simp only [hvs];rw [if_neg (by omega),Lh hr hc.1 hc.2];exact h1
   ·simp at h
  ·simp at h
theorem Ig {z:List EV}{n:Nat}(hz:z.length=n)(hn:0<n):∀ (len j:Nat),j<len*n->(List.replicate len z).flatten[j]? =z[j % n]? :=by
 intro len j hj;have h1:=MV (rows:=List.replicate len z) (n:=n) (fun r hr=>by rw [List.eq_of_mem_replicate hr]; exact hz) (j / n) (j % n) (Nat.mod_lt _ hn);rw [show j / n*n+j % n=j from by rw [Nat.mul_comm]; exact Nat.div_add_mod j n] at h1;rw [h1];have:j / n<len:=Nat.div_lt_of_lt_mul (by rw [Nat.mul_comm]; exact hj);simp [this]
theorem Nb {K:KM}{w:World}{z:List EV}{zc:Array Value}(hz:VC K w z zc){n:Nat}(hl:z.length=n)(hn:0<n)(len:Nat):
  VC K w (List.replicate len z).flatten ((Array.range (len*n)).map fun i=>zc[i % zc.size]!):=by
 have hs:zc.size=n:=by rw [<-hz.1.1]; exact hl
 have hlen:(List.replicate len z).flatten.length=len*n:=by
  rw [Ir (n:=n) fun r hr=>by rw [List.eq_of_mem_replicate hr]; exact hl]; simp
 refine ⟨⟨by rw [hlen]; simp,fun i h1 h2=>?_⟩,fun i h=>?_⟩
 ·have hi:i<len*n:=by rw [<-hlen]; exact h1
  have e:=Ig hl hn len i hi;have hm:i % n<n:=Nat.mod_lt _ hn;rw [uD h1,uD (by omega)] at e;rw [uC e];simp only [Array.getElem_map,Array.getElem_range,hs];rw [getElem!_pos zc (i % n) (by omega)];exact hz.1.2 _ (by omega) (by omega)
 ·simp only [Array.getElem_map,Array.getElem_range,hs];have hm:i % n<n:=Nat.mod_lt _ hn;rw [getElem!_pos zc (i % n) (by omega)];exact hz.2 _ (by omega)
theorem Of {rows:List (List EV)}(h:allRows rows=true):Tx rows.length (fun i=>rows.getD i []):=by
 intro i hi j hj;have h1:=List.all_eq_true.1 h (rows.getD i []) (by simp [uA,hi]);exact EB h1 j hj
theorem F8 {K:KM}{w:World}{rows:List (List EV)}{n:Nat}{c:Array Value}(hr:∀ r∈rows,r.length=n)(hv:VC K w rows.flatten c):
  QR K w 0 n rows.length (fun i=>rows.getD i []) c:=by
 intro i hi;have hrow:rows.getD i []=rows[i]:=by simp [uA,hi]
 show (rows.getD i []).length=n/\∀ j (h:j<(rows.getD i []).length) (h':0+i*n+j<c.size),VR K w (rows.getD i [])[j] c[0+i*n+j];refine ⟨by rw [hrow]; exact hr _ (List.getElem_mem hi),fun j hj hc=>?_⟩;have hjn:j<n:=by rw [hrow,hr _ (List.getElem_mem hi)] at hj; exact hj
 have e:=MV hr i j hjn;have hlt:i*n+j<rows.flatten.length:=by
  rw [Ir hr];have:(i+1)*n<=rows.length*n:=Nat.mul_le_mul_right _ hi;rw [Nat.add_mul] at this; omega
 rw [uD hlt,uD hi,Option.bind_some] at e;have hv':=hv.1.2 (i*n+j) hlt (by omega);have e2:(rows.getD i [])[j]=rows.flatten[i*n+j]:=by
  have:(rows.getD i [])[j]? =rows[i][j]? :=by rw [hrow]
  rw [uD hj,<-e] at this;exact uC this
 rw [e2];simpa only [uJ] using hv'
theorem Nc (nm:Nat)(t:TypeId)(len:Nat)(parts:List (Nat×EV)):
  Ok V (Ik (S:=S) P nm t len parts) fun r=>∀ K σ w (mparts:Array (Nat×Value)),Rel K σ w->σ[nm]? =some .free->parts.length=mparts.size->
   (∀ i (h:i<parts.length) (h':i<mparts.size),parts[i].1=mparts[i].1/\VR K w parts[i].2 mparts[i].2)->
   ∃ mv w' K',(Instr.buildSlice t len mparts).run P w=.ok mv w'/\Ext K σ w K' (Al σ r.2) w'/\Rel K' (Al σ r.2) w'/\VR K' w' r.1 mv:=by
 unfold Ik;split
 ·rename_i elem hu;refine Ok.bind (Ok.lift (Φ:=fun n=>BP P elem=some n) fun n h=>h) fun n=>?_;refine Ok.bind (Ok.lift (Φ:=fun z=>G0 P elem=some z) fun n h=>h) fun z=>?_;refine Ok.ite (fun _=>Ok.fail) fun hne=>?_;refine Ok.bind (Ok.lift (Φ:=fun rows=>Tm (List.replicate len z) parts n=some rows) fun n h=>h) fun rows=>Ok.pure ?_;intro hset hz hn K σ w mparts hr hfree hl hv;have hn0:0<n:=by omega
  have hzl:z.length=n:=by omega
  have hbig:¬ len*n>2 ^ 24:=by omega
  obtain ⟨zv,z1,z2⟩:=D5 hz K w;obtain ⟨s1,s2,s3⟩:=Ty parts _ rows (fun r hr=>by rw [List.eq_of_mem_replicate hr]; exact hzl) hset;have hrl:rows.length=len:=by simpa using s3
  obtain ⟨mc,m1,m2⟩:=Le parts mparts.toList _ _ _ s1 (by simpa using hl) (fun i a b=>by simpa using hv i a (by simpa using b)) (Nb z2 hzl hn0 len);have hsz:mc.size=len*n:=by rw [<-m2.1.1,Ir s2,hrl]
  have hN:=New.push w (.cells mc elem);have hrows:=F8 s2 m2;rw [hrl] at hrows;have hpl:allRows rows=true->∀ i,i<len->∀ j (h:j<(rows.getD i []).length) (h':0+i*n+j<mc.size),PR K.F w (rows.getD i [])[j] mc[0+i*n+j]:=by
   intro hp i hi j hj hc;have:=Of hp;rw [hrl] at this;exact ((hrows i hi).2 j hj hc).cN (this i hi j hj)
  obtain ⟨e1,r1⟩:=K3 hr hfree hN (by intro j _; simp) m2.2 (by omega) (exact:=true) (pf:=allRows rows) (fun _=>by omega) hrows hpl;refine ⟨.slice (some ⟨w.heap.size,0,none⟩) len len,_,_,?_,e1,r1,?_⟩
  ·simp only [Instr.buildSlice,Sem.run_bind,AP hu,uE,Bm hn,if_neg hbig];by_cases h0:len*n=0
   ·simp only [h0,if_true];have hl0:len=0:=by
     rcases Nat.mul_eq_zero.1 h0 with h | h
     ·exact h
     ·omega
    subst hl0;simp only [Nat.zero_mul] at m1;have:(Array.range 0).map (fun x=>(#[]:Array Value)[x % (#[]:Array Value).size]!)=(Array.range 0).map fun i=>zv.cells[i % zv.cells.size]! :=by simp
    simp only [Sem.run_pure,Sem.run_bind,uE,Nat.zero_mul];rw [this,m1];simp [newRow]
   ·simp only [if_neg h0];simp only [Sem.run_bind,z1,uE,Sem.run_pure];rw [m1];simp [newRow]
  ·refine .ms nm n 0 len (some len) len _ (.inl rfl) (Nat.le_refl _) (by simp [KM.new]) (fun c hc=>by obtain rfl:=uC hc; simp [KM.new]) (fun h=>by cases h) fun _=>by simp [KM.new]
 ·exact Ok.fail
theorem Tz (nm:Nat)(t:TypeId):
  Ok V (R4 (S:=S) P nm t) fun r=>∀ K σ w,Rel K σ w->σ[nm]? =some .free->
   ∃ mv w' K',(Instr.alloc t true (.tuple #[])).run P w=.ok mv w'/\Ext K σ w K' (Al σ r.2) w'/\Rel K' (Al σ r.2) w'/\VR K' w' r.1 mv:=by
 unfold R4;refine Ok.bind (Ok.lift (Φ:=fun z=>G0 P t=some z) fun n h=>h) fun z=>?_;refine Ok.ite (fun hb=>Ok.pure ?_) fun _=>Ok.pure ?_
 ·intro hz K σ w hr hfree;obtain ⟨zv,z1,z2⟩:=D5 hz K w;simp only [uF] at hb;have hpos:1<=z.length:=Nat.le_of_ble_eq_true hb.2;have hlen:z.length=zv.cells.size:=z2.1.1;have hN:=New.push w (.cells zv.cells t);have hrows:QR K w 0 1 z.length (fun i=>[z.getD i .undef]) zv.cells:=by
   intro i hi;refine ⟨rfl,fun j hj hc=>?_⟩;have hj0:j=0:=by simp at hj; exact hj
   subst hj0;have hi':i<zv.cells.size:=by omega
   have:=z2.1.2 i hi hi';simp only [List.getElem_cons_zero,uA,uD hi,Option.getD_some];simpa using this
  obtain ⟨e1,r1⟩:=K3 (pf:=CB z) (exact:=true) (len:=z.length) hr hfree hN (by intro j _; simp) z2.2 (by omega) (fun _=>⟨by omega,rfl⟩) hrows
   (fun hp i hi j hj hc=>((hrows i hi).2 j hj hc).cN (by
    have hj0:j=0:=by simp at hj; exact hj
    subst hj0;simp only [List.getElem_cons_zero,uA,uD hi,Option.getD_some];exact EB hp i hi))
  refine ⟨.pointer (some ⟨w.heap.size,0,none⟩),_,_,?_,e1,r1,?_⟩
  ·simp only [Instr.alloc,Sem.run_bind,z1,uE,newVar,Sem.run_pure];rfl
  ·have:=VR.pe (K:=K.new nm w.heap.size 0 zv.cells.size z.length) (w:={ w with heap:=w.heap.push (.cells zv.cells t) }) nm 1 0 0 (.inl rfl) (by simp [KM.new]; omega);simpa [KM.new] using this
 intro hz K σ w hr hfree;obtain ⟨zv,z1,z2⟩:=D5 hz K w;obtain ⟨w',K',h1,h2,h3,h4⟩:=S5 (P:=P) hr hfree z2 t;refine ⟨_,w',K',?_,h2,h3,h4⟩;simp only [Instr.alloc,Sem.run_bind,z1,uE,newVar,h1,Sem.run_pure]
end
end Go.Ev
namespace Go.Ev
section
variable {P:Program}{S:Type}{V:S->Prop}{G:Nat->Option (List EV)}{D:Drv S}
theorem Is {K:KM}{w:World}{b o k n:Nat}{t e:TypeId}{c:Array Value}{fz:Nat×Nat}{cells vs cells':List EV}{mv:Value}(hb:w.heap[b]? =some (.cells c e fz))
  (hfz:∀ j,j<c.size->(fz.1<=j && j<fz.2)=false) (h1:∀ j (h:j<c.size),(c[j]).oneCell'=true) (hle:o+cells.length<=c.size)
  (hv:∀ j (h:j<cells.length) (h':o+j<c.size),VR K w cells[j] c[o+j]) (hput:DG cells k vs=some cells') (hvs:VC K w vs mv.cells) (hn:BP P t=some n) (hl:vs.length=n):
  ∃ w' c',(storeVar t ⟨b,o+k,none⟩ mv).run P w=.ok () w'/\Wr w w' b (.cells c' e fz)/\c'.size=c.size/\(∀ j (h:j<c'.size),(c'[j]).oneCell'=true)/\
   (∀ j,j<o∨o+cells.length<=j->c'[j]? =c[j]?)/\(∀ j (h:j<cells'.length) (h':o+j<c'.size),VR K w cells'[j] c'[o+j])/\
   (∀ j (h:j<cells'.length) (h':o+j<c'.size),(j<k∨k+vs.length<=j)->∃ (a:j<cells.length) (a':o+j<c.size),cells'[j]=cells[j]/\c'[o+j]=c[o+j])/\
   cells'.length=cells.length:=by
 obtain ⟨p1,p2,p3⟩:=IK hput;have hms:mv.cells.size=n:=by rw [<-hvs.1.1]; exact hl
 obtain ⟨w',c',r1,r2,r3,r4⟩:=FL P mv.cells.toList 0 w c hb (fun v hv=>by
  obtain ⟨i,hi,rfl⟩:=List.mem_iff_getElem.1 hv;exact hvs.2 i (by simpa using hi)) (o:=o+k) (by simp; omega) hfz
 have hlen:mv.cells.toList.length=vs.length:=by simp; omega
 refine ⟨w',c',?_,r2,r3,fun j h=>?_,fun j hj=>?_,fun j hj hc=>?_,fun j hj hc hout=>?_,p2⟩
 ·simp only [storeVar,Sem.run_bind,Bm hn,uE];rw [if_neg (by simp [hms])];exact r1
 ·have:=r4 j;rw [Array.getElem?_eq_getElem h] at this;by_cases hin:o+k+0<=j/\j<o+k+0+mv.cells.toList.length
  ·rw [if_pos hin,uD (by omega)] at this;rw [uC this];simp only [Array.getElem_toList];exact hvs.2 _ _
  ·rw [if_neg hin,Array.getElem?_eq_getElem (by omega)] at this;rw [uC this]; exact h1 _ _
 ·rw [r4,if_neg (by omega)]
 ·have q:=r4 (o+j);have p:=p3 j;rw [uD hj] at p;rw [Array.getElem?_eq_getElem hc] at q;by_cases hin:k<=j/\j<k+vs.length
  ·rw [if_pos hin,uD (by omega)] at p;rw [if_pos (by omega),uD (by omega)] at q;rw [uC p,uC q];simp only [Array.getElem_toList];have:=hvs.1.2 (j - k) (by omega) (by omega);simpa only [show o+j - (o+k+0)=j - k from by omega] using this
  ·rw [if_neg hin,uD (by omega)] at p;rw [if_neg (by omega),Array.getElem?_eq_getElem (by omega)] at q;rw [uC p,uC q];exact hv j (by omega) (by omega)
 ·have q:=r4 (o+j);have p:=p3 j;rw [uD hj] at p;rw [Array.getElem?_eq_getElem hc] at q;rw [if_neg (by omega),uD (by omega)] at p;rw [if_neg (by omega),Array.getElem?_eq_getElem (by omega)] at q;exact ⟨by omega,by omega,uC p,uC q⟩
theorem Oq {cells vs cells':List EV}{k:Nat}(h:DG cells k vs=some cells')(hv:CB vs=true):∀ j (hj:j<cells'.length),(j<k∨k+vs.length<=j)∨(cells'[j]).plain=true:=by
 obtain ⟨p1,p2,p3⟩:=IK h;intro j hj;by_cases hin:k<=j/\j<k+vs.length
 ·right;have p:=p3 j;rw [uD hj,if_pos hin,uD (by omega)] at p;rw [uC p];exact EB hv _ _
 ·left; omega
set_option maxHeartbeats 1000000 in
theorem T6 {esz k:Nat}{cells vs c:List EV}(h:cells.length=esz)(hp:QB esz cells k vs=some c):DG cells k vs=some c:=by
 unfold QB at hp;cases hb:(Nat.beq k 0 && Nat.beq vs.length esz) with
 | false=>rw [hb] at hp; exact hp
 | true=>
  rw [hb] at hp;obtain rfl:=uC hp;simp only [uF] at hb;have h1:=Nat.eq_of_beq_eq_true hb.1;have h2:=Nat.eq_of_beq_eq_true hb.2;subst h1;unfold DG;rw [if_pos (by omega),List.take_zero,List.nil_append,List.drop_of_length_le (by omega),List.append_nil]
theorem MW (hD:dK V P G D)(k:Nat)(x:EV):∀ over:List (Nat×EV),Ok V (Km D k x over) fun q=>
  (q.1=true->Ay q.2 k=some x/\∀ j,j≠k->Ay q.2 j=Ay over j)/\(q.1=false->Ay over k=none)
 | []=>Ok.pure ⟨(fun h=>nomatch h),fun _=>rfl⟩
 | (u,v) :: rest=>by
  unfold Km;refine Ok.bind (hD.br _) fun b=>?_;cases b with
  | true=>
   refine Ok.pure fun h=>?_;have h':k=u:=of_decide_eq_true h.symm;subst h';exact ⟨fun _=>⟨by simp [Ay],fun j hj=>by simp [Ay,hj]⟩,fun h=>nomatch h⟩
  | false=>
   refine Ok.bind (MW hD k x rest) fun q=>Ok.pure fun hq h=>?_;have h':¬ k=u:=of_decide_eq_false h.symm;refine ⟨fun hh=>⟨by simp [Ay,h',(hq.1 hh).1],fun j hj=>?_⟩,fun hh=>by simp [Ay,h',hq.2 hh]⟩;simp only [Ay];split
   ·rfl
   ·exact (hq.1 hh).2 j hj
theorem T7 (hD:dK V P G D)(look:B5)(t:TypeId)(a v:EV):
  Ok V (Rz D P look t a v) fun u=>∀ K σ w ma mv,Rel K σ w->(∀ r o,look r=some o->σ[r]? =some o)->VR K w a ma->VR K w v mv->
   ∃ w' K',(Instr.storeAt t ma mv).run P w=.ok () w'/\Ext K σ w K' (Al σ u) w'/\Rel K' (Al σ u) w':=by
 unfold Rz;refine Ok.bind (Ok.lift (Φ:=fun n=>BP P t=some n) fun n h=>h) fun n=>?_;refine Ok.bind (Ok.lift (Φ:=fun z=>v.cells=some z) fun n h=>h) fun vs=>?_;refine Ok.ite (fun _=>Ok.fail) fun hne=>?_;have hl:vs.length=n:=by simpa using hne
 split
 ·rename_i r k;split
  ·rename_i pf cells hr;refine Ok.bind (Ok.lift (Φ:=fun z=>DG cells k vs=some z) fun n h=>h) fun cells'=>Ok.pure ?_;intro hput hvs hn K σ w ma mv hR hlk ha hv;obtain ⟨rfl,hal⟩:=ha.bO;have hσ:=hlk r _ hr;obtain ⟨_,h0,c,e,hb,hs,hext,hone,_,hvr,hpl⟩:=hR.obj r _ hσ;obtain ⟨w',c',r1,r2,r3,r4,r5,r6,r7,r8⟩:=Is (P:=P) (o:=0) (k:=k) hb (by intro j _; simp) hone (by omega)
    (fun j h h'=>by simpa using hvr j h (by omega)) hput (hv.cells hvs) hn hl
   have:=hR.write hσ rfl r2 (obj':=.var false (pf && CB vs) cells') rfl fun σ' hE=>by
    refine ⟨hal,h0,c',e,r2.here,by omega,by omega,r4,(fun h=>by cases h),fun i a b=>?_,fun hp i a b=>?_⟩
    ·have:=(r6 i a (by omega)).ext hE hR;simpa using this
    ·simp only [uF] at hp;rcases Oq hput hp.2 i a with h | h
     ·obtain ⟨a1,a2,a3,a4⟩:=r7 i a (by omega) h;have h6:=(hpl hp.1 i a1 (by omega)).ext hE hR;have e4:c'[i]'(by omega)=c[i]'(by omega):=by simpa only [uJ] using a4
      rw [a3,e4];exact h6
     ·have:=((r6 i a (by omega)).ext hE hR).cN h;simpa using this
   refine ⟨w',K,?_,this.1,this.2⟩;simp only [Instr.storeAt,Instr.sureAddr,Sem.run_bind,Sem.run_pure,uE,h0];exact r1
  ·exact Ok.fail
 ·rename_i r esz i k;split
  ·rename_i pf esz' ex len row hr;refine Ok.ite (fun he=>?_) fun _=>Ok.fail;subst he;refine Ok.bind (Ok.lift (Φ:=fun z=>QB esz (row i) k vs=some z) fun n h=>h) fun c1=>Ok.pure ?_;intro hput hvs hn K σ w ma mv hR hlk ha hv;obtain ⟨rfl,hal,hi⟩:=ha.bS;have hσ:=hlk r _ hr;obtain ⟨_,hln,c,e,fz,hb,hfz,hext,hone,hle,hexa,_,hrl,hvr,hpl⟩:=hR.obj r _ hσ;have hi':i<len:=by omega
   have hb2:(i+1)*esz<=len*esz:=Nat.mul_le_mul_right _ hi';rw [Nat.add_mul,Nat.one_mul] at hb2;have hrli:=hrl i hi'
   replace hput:=T6 hrli hput
   obtain ⟨w',c',r1,r2,r3,r4,r5,r6,r7,r8⟩:=Is (P:=P) (o:=K.off r+i*esz) (k:=k) hb hfz hone (by omega)
    (fun j h h'=>hvr i hi' j h h') hput (hv.cells hvs) hn hl
   have other:∀ i',i'<len->i'≠i->∀ j,j<esz->c'[K.off r+i'*esz+j]? =c[K.off r+i'*esz+j]? :=by
    intro i' h1 h2 j hj;refine r5 _ ?_;rcases Nat.lt_or_ge i' i with h | h
    ·have:(i'+1)*esz<=i*esz:=Nat.mul_le_mul_right _ h;rw [Nat.add_mul,Nat.one_mul] at this;omega
    ·have:(i+1)*esz<=i'*esz:=Nat.mul_le_mul_right _ (by omega);rw [Nat.add_mul,Nat.one_mul] at this;omega
   have:=hR.write hσ rfl r2 (obj':=.arr false (pf && CB vs) esz ex len (BC row i c1)) rfl fun σ' hE=>by
    refine ⟨hal,hln,c',e,fz,r2.here,fun j hj=>hfz j (by omega),by omega,r4,by omega,fun h=>by rw [r3]; exact hexa h,(fun h=>by cases h),fun i' h1=>?_,fun i' h1 j hj hc=>?_,fun hp i' h1 j hj hc=>?_⟩
    ·unfold BC; split
     ·rw [r8]; exact hrli
     ·exact hrl i' h1
    ·by_cases hii:i'=i
     ·subst hii;have hu:BC row i' c1 i'=c1:=by simp [BC]
      have h6:=(r6 j (by rw [hu] at hj; exact hj) hc).ext hE hR;simpa only [hu] using h6
     ·have hu:BC row i c1 i'=row i':=by simp [BC,hii]
      have hjl:j<(row i').length:=by rw [hu] at hj; exact hj
      have h6:=(hvr i' h1 j hjl (by omega)).ext hE hR;have h5:=other i' h1 hii j (by rw [<-hrl i' h1]; exact hjl);rw [Array.getElem?_eq_getElem hc,Array.getElem?_eq_getElem (by omega)] at h5;simp only [hu,uC h5];exact h6
    ·simp only [uF] at hp;by_cases hii:i'=i
     ·subst hii;have hu:BC row i' c1 i'=c1:=by simp [BC]
      have hj1:j<c1.length:=by rw [hu] at hj; exact hj
      rcases Oq hput hp.2 j hj1 with h | h
      ·obtain ⟨a1,a2,a3,a4⟩:=r7 j hj1 hc h;have h6:=(hpl hp.1 i' h1 j a1 a2).ext hE hR;simp only [hu,a3,a4];exact h6
      ·have h6:=((r6 j hj1 hc).ext hE hR).cN h;simpa only [hu] using h6
     ·have hu:BC row i c1 i'=row i':=by simp [BC,hii]
      have hjl:j<(row i').length:=by rw [hu] at hj; exact hj
      have h6:=(hpl hp.1 i' h1 j hjl (by omega)).ext hE hR;have h5:=other i' h1 hii j (by rw [<-hrl i' h1]; exact hjl);rw [Array.getElem?_eq_getElem hc,Array.getElem?_eq_getElem (by omega)] at h5;simp only [hu,uC h5];exact h6
   refine ⟨w',K,?_,this.1,this.2⟩;simp only [Instr.storeAt,Instr.sureAddr,Sem.run_bind,Sem.run_pure,uE];exact r1
  ·rename_i len cell over hr;refine Ok.ite (fun he=>?_) fun _=>Ok.fail;obtain ⟨rfl,rfl⟩:=he;obtain ⟨x,rfl⟩:∃ x,vs=[x]:=by
    match vs,hl with
    | [x],_=>exact ⟨x,rfl⟩
   simp only [List.headD_cons];refine Ok.bind (hD.bJ _) fun _=>Ok.bind (MW hD k x over) fun q=>?_;have key:∀ cell' over',(∀ j,j≠k->Ay over' j=Ay over j/\cell' j=cell j)->(Ay over' k=some x∨(Ay over' k=none/\cell' k=x/\x.plain=true))->k<len->v.cells=some [x]->BP P t=some 1->
     ∀ K σ w ma mv,Rel K σ w->(∀ r o,look r=some o->σ[r]? =some o)->VR K w (.pe r 0 i k) ma->VR K w v mv->
     ∃ w' K',(Instr.storeAt t ma mv).run P w=.ok () w'/\Ext K σ w K' (Al σ [(r,.flat false len cell' over')]) w'/\Rel K' (Al σ [(r,.flat false len cell' over')]) w':=by
    intro cell' over' hoth hme hk hvs hn K σ w ma mv hR hlk ha hv;obtain ⟨rfl,hal,hi⟩:=ha.bS;have hσ:=hlk r _ hr;obtain ⟨_,h0,hln,hpos,c,e,hb,hs,hext,hone,_,hcv⟩:=hR.obj r _ hσ;obtain ⟨w',c',r1,r2,r3,r4,r5,r6,r7,r8⟩:=Is (P:=P) (o:=K.off r+i*0+k) (k:=0) (cells:=[(Ay over k).getD (cell k)]) (cells':=[x]) hb (by intro j _; simp) hone (by simp; omega)
     (fun j h h'=>by
      obtain rfl:j=0:=by simpa using h
      have hc0:=hcv k (by omega);simp only [List.getElem_cons_zero,Nat.add_zero,h0,Nat.mul_zero,uJ];rcases hc0 with ⟨v',q1,q2⟩ | ⟨q1,q2⟩
      ·rw [q1]; exact q2
      ·rw [q1]; exact .pure _ _ q2) rfl (hv.cells hvs) hn hl
    have:=hR.write hσ rfl r2 (obj':=.flat false len cell' over') rfl fun σ' hE=>by
     refine ⟨hal,h0,hln,hpos,c',e,r2.here,by omega,by omega,r4,(fun h=>by cases h),fun j a=>?_⟩;by_cases hjk:j=k
     ·subst hjk;have h6:=(r6 0 (by simp) (by simp [h0]; omega)).ext hE hR;simp only [List.getElem_cons_zero,Nat.add_zero,h0,Nat.mul_zero,uJ] at h6;rcases hme with hm | ⟨hm1,hm2,hm3⟩
      ·exact .inl ⟨x,hm,h6⟩
      ·exact .inr ⟨hm1,by rw [hm2]; exact h6.cN hm3⟩
     ·have h5:=r5 j (by simp [h0]; omega);rw [Array.getElem?_eq_getElem a,Array.getElem?_eq_getElem (by omega)] at h5;rw [uC h5,(hoth j hjk).1,(hoth j hjk).2];rcases hcv j (by omega) with ⟨v',q1,q2⟩ | ⟨q1,q2⟩
      ·exact .inl ⟨v',q1,q2.ext hE hR⟩
      ·exact .inr ⟨q1,q2.ext hE hR⟩
    refine ⟨w',K,?_,this.1,this.2⟩;simp only [Instr.storeAt,Instr.sureAddr,Sem.run_bind,Sem.run_pure,uE];exact r1
   refine Ok.ite (fun hq1=>Ok.pure fun hq hk hvs hn K σ w ma mv=>?_) fun hq1=>Ok.ite (fun hpl=>Ok.pure fun hq hk hvs hn K σ w ma mv=>?_) fun _=>Ok.pure fun hq hk hvs hn K σ w ma mv=>?_
   ·exact key cell q.2 (fun j hj=>⟨(hq.1 hq1).2 j hj,rfl⟩) (.inl (hq.1 hq1).1) (of_decide_eq_true hk) hvs hn K σ w ma mv
   ·exact key (M4 cell k x) over (fun j hj=>⟨rfl,by simp [M4,hj]⟩) (.inr ⟨hq.2 (by simpa using hq1),by simp [M4],hpl⟩) (of_decide_eq_true hk) hvs hn K σ w ma mv
   ·exact key cell ((k,x) :: over) (fun j hj=>⟨by simp [Ay,hj],rfl⟩) (.inl (by simp [Ay])) (of_decide_eq_true hk) hvs hn K σ w ma mv
  ·exact Ok.fail
 ·exact Ok.fail
theorem Og (hD:dK V P G D)(nm:Nat)(t:TypeId)(l c:EV):
  Ok V (KT D P nm t l c) fun r=>∀ K σ w ml mc,Rel K σ w->σ[nm]? =some .free->VR K w l ml->VR K w c mc->
   ∃ mv w' K',(Instr.makeSlice t ml mc).run P w=.ok mv w'/\Ext K σ w K' (Al σ r.2) w'/\Rel K' (Al σ r.2) w'/\VR K' w' r.1 mv:=by
 unfold KT;split
 ·rename_i elem kl l kc c hu;refine Ok.bind (Ok.lift (Φ:=fun n=>BP P elem=some n) fun n h=>h) fun n=>?_;refine Ok.bind (Ok.lift (Φ:=fun z=>G0 P elem=some z) fun n h=>h) fun z=>?_;refine Ok.ite (fun _=>Ok.fail) fun hne=>?_;refine Ok.bind (hD.bJ _) fun _=>Ok.pure ?_;intro hchk hz hn K σ w ml mc hR hfree hl hc;obtain rfl:=hl.uW;obtain rfl:=hc.uW;obtain ⟨h0,h1,h2,h3⟩:=ZY hchk;obtain ⟨i,hi,hisz⟩:=KY hn;obtain ⟨zv,z1,z2⟩:=D5 hz K w;have hzl:z.length=n:=by omega
  have hn0:0<n:=by omega
  have hby:((P.info? elem).map (·.bytes)).getD 0=i.bytes:=by simp [hi]
  rw [hby] at h2;have hwl:IntKind.i64.wrap l=l:=M6 (by simp [inR,IntKind.min,IntKind.max,IntKind.signed,IntKind.bits]; omega);have hwc:IntKind.i64.wrap c=c:=M6 (by simp [inR,IntKind.min,IntKind.max,IntKind.signed,IntKind.bits]; omega);have hvc:=Nb z2 hzl hn0 c.toNat;have hN:=New.push w (.cells ((Array.range (c.toNat*n)).map fun i=>zv.cells[i % zv.cells.size]!) elem);have hrep:∀ r∈List.replicate c.toNat z,r.length=n:=fun r hr=>by rw [List.eq_of_mem_replicate hr]; exact hzl
  have hrows:=F8 hrep hvc;simp only [List.length_replicate] at hrows;have hrows':QR K w 0 n c.toNat (fun _=>z) ((Array.range (c.toNat*n)).map fun i=>zv.cells[i % zv.cells.size]!):=by
   intro i hi;have:=hrows i hi;have he:(List.replicate c.toNat z).getD i []=z:=by simp [uA,hi]
   simpa only [he] using this
  obtain ⟨e1,r1⟩:=K3 (pf:=CB z) (exact:=true) hR hfree hN (by intro j _; simp) hvc.2 (by simp) (fun _=>⟨by simp,rfl⟩) hrows'
   (fun hp i hi j hj hc=>((hrows' i hi).2 j hj hc).cN (EB hp j hj))
  refine ⟨.slice (some ⟨w.heap.size,0,none⟩) l.toNat c.toNat,_,_,?_,e1,r1,?_⟩
  ·have ht:∀ n:Int,0<=n->n<=c->(decide (n<0) || decide ((i.bytes:Int)*n>2 ^ 48))=false:=by
    intro n hn0 hnc;simp only [Bool.or_eq_false_iff,decide_eq_false_iff_not];refine ⟨by omega,?_⟩;have:(i.bytes:Int)*n<=i.bytes*c:=Int.mul_le_mul_of_nonneg_left hnc (by omega);have h2':(i.bytes:Int)*c<=2 ^ 46:=by rw [Int.mul_comm]; exact h2
    omega
   simp only [Instr.makeSlice,Sem.run_bind,AP hu,uE,asInt,asIntOf,Sem.run_map,Sem.run_pure,Hc hi,hwl,hwc];have hfalse:(((decide (c<0) || decide ((i.bytes:Int)*c>2 ^ 48)) || decide (l<0)) || decide (l>c))=false:=by
    rw [ht c (by omega) (Int.le_refl _)];simp; omega
   rw [hfalse];simp only [Bool.false_eq_true,if_false,run_askRoom,uE,Bm hn,Sem.run_bind];by_cases hc0:c.toNat*n=0
   ·have hcz:c.toNat=0:=by
     rcases Nat.mul_eq_zero.1 hc0 with h | h
     ·exact h
     ·omega
    simp only [hc0,if_true,Sem.run_pure,uE];simp only [newRow,hcz,Nat.zero_mul,show Array.range 0=#[] from rfl,Array.map_empty,Sem.run_bind,run_newObj,uE,Sem.run_pure]
   ·simp only [if_neg hc0,Sem.run_bind,z1,uE,Sem.run_pure];simp [newRow]
  ·refine .ms nm n 0 l.toNat (some c.toNat) c.toNat _ (.inl rfl) (by omega) (by simp [KM.new]; omega) (fun c' hc=>by obtain rfl:=uC hc; simp [KM.new]) (fun h=>by cases h) fun _=>by simp [KM.new]
 ·exact Ok.fail
end
end Go.Ev
namespace Go.Ev
section
variable {P:Program}{S:Type}{V:S->Prop}{G:Nat->Option (List EV)}{D:Drv S}
structure bG (K:KM) (w:World) (n m:Nat) (row:Nat->List EV) (pf:Bool) (cs:Array Value):Prop where
 size:cs.size=m*n
 len:∀ i,i<m->(row i).length=n
 val:∀ i,i<m->∀ j (h:j<(row i).length) (h':i*n+j<cs.size),VR K w (row i)[j] cs[i*n+j]
 one:∀ j (h:j<cs.size),(cs[j]).oneCell'=true
 plain:pf=true->∀ i,i<m->∀ j (h:j<(row i).length) (h':i*n+j<cs.size),PR K.F w (row i)[j] cs[i*n+j]
theorem De {i j m n:Nat}(hi:i<m)(hj:j<n):i*n+j<m*n:=by
 have:(i+1)*n<=m*n:=Nat.mul_le_mul_right _ hi;rw [Nat.add_mul] at this; omega
theorem F9 {K:KM}{w:World}{n m b o:Nat}{row:Nat->List EV}{pf:Bool}(hn:0<n)(mv:Nat->Nat->Value)(hl:∀ i,i<m->(row i).length=n)
  (hc:∀ i,i<m->∀ j,j<n->cellAt w b (o+i*n+j)=some (mv i j)/\(mv i j).oneCell'=true)
  (hv:∀ i,i<m->∀ j (h:j<(row i).length),VR K w (row i)[j] (mv i j)) (hp:pf=true->∀ i,i<m->∀ j (h:j<(row i).length),PR K.F w (row i)[j] (mv i j)):
  ∃ cs,(loadCells ⟨b,o,none⟩ (m*n)).run P w=.ok cs w/\bG K w n m row pf cs:=by
 have key:∀ x,x<m*n->x / n<m/\x % n<n/\x / n*n+x % n=x:=by
  intro x hx;refine ⟨Nat.div_lt_of_lt_mul (by rw [Nat.mul_comm]; exact hx),Nat.mod_lt _ hn,?_⟩;rw [Nat.mul_comm]; exact Nat.div_add_mod x n
 have dm:∀ i j,j<n->(i*n+j) / n=i/\(i*n+j) % n=j:=by
  intro i j hj;constructor
  ·rw [Nat.add_comm,Nat.add_mul_div_right _ _ hn,Nat.div_eq_of_lt hj]; omega
  ·rw [Nat.add_comm,Nat.add_mul_mod_self_right,Nat.mod_eq_of_lt hj]
 refine ⟨_,run_loadCells (mv:=fun x=>mv (x / n) (x % n)) fun x hx=>?_,⟨by simp,hl,fun i hi j hj h'=>?_,fun j hj=>?_,fun hpf i hi j hj h'=>?_⟩⟩
 ·obtain ⟨k1,k2,k3⟩:=key x hx;have:=(hc _ k1 _ k2).1;rw [Nat.add_assoc,k3] at this;exact this
 ·obtain ⟨d1,d2⟩:=dm i j (by rw [<-hl i hi]; exact hj);simp only [List.getElem_toArray,List.getElem_map,List.getElem_range,d1,d2];exact hv i hi j hj
 ·simp only [List.size_toArray,List.length_map,List.length_range] at hj;obtain ⟨k1,k2,k3⟩:=key j hj;simp only [List.getElem_toArray,List.getElem_map,List.getElem_range];exact (hc _ k1 _ k2).2
 ·obtain ⟨d1,d2⟩:=dm i j (by rw [<-hl i hi]; exact hj);simp only [List.getElem_toArray,List.getElem_map,List.getElem_range,d1,d2];exact hp hpf i hi j hj
theorem bG.nil {K:KM}{w:World}{n:Nat}{row:Nat->List EV}{pf:Bool}:bG K w n 0 row pf #[]:=
 ⟨by simp,fun i h=>by omega,fun i h=>by omega,fun j h=>by simp at h,fun _ i h=>by omega⟩
theorem Li {K:KM}{w:World}{r esz:Nat}{fr pf ex:Bool}{len:Nat}{row:Nat->List EV}(h:OR K w r (.arr fr pf esz ex len row)){off m:Nat}(hm:off+m<=len)(hn:0<esz):
  ∃ cs,(loadCells ⟨K.vP r,K.off r+off*esz,none⟩ (m*esz)).run P w=.ok cs w/\bG K w esz m (fun i=>row (off+i)) pf cs:=by
 obtain ⟨_,hln,c,e,fz,hb,_,_,hone,hle,_,_,hl,hv,hp⟩:=h;have hlt:∀ i,i<m->∀ j,j<esz->K.off r+(off+i)*esz+j<c.size:=by
  intro i hi j hj;have:=De (n:=esz) (show off+i<len by omega) hj;omega
 refine F9 hn (fun i j=>c.getD (K.off r+(off+i)*esz+j) default) (fun i hi=>hl _ (by omega)) (fun i hi j hj=>?_) (fun i hi j hj=>?_) fun hpf i hi j hj=>?_
 ·have:=hlt i hi j hj;rw [show K.off r+off*esz+i*esz+j=K.off r+(off+i)*esz+j from by rw [Nat.add_mul]; omega];exact ⟨by simp [cellAt,hb,this],by simpa [this] using hone _ this⟩
 ·have h1:=hlt i hi j (by rw [<-hl (off+i) (by omega)]; exact hj);simpa [h1] using hv (off+i) (by omega) j hj h1
 ·have h1:=hlt i hi j (by rw [<-hl (off+i) (by omega)]; exact hj);simpa [h1] using hp hpf (off+i) (by omega) j hj h1
theorem V4 {look:B5}{K:KM}{w:World}(hL:FO look K w){x:EV}{mx:Value}{esz m n:Nat}{row:Nat->List EV}{pf:Bool}(h:rowsOf look x=some (esz,m,row,pf))
  (hx:VR K w x mx) (hstr:∀ s,x≠.str s) (hn:0<n) (he:m≠0->esz=n) {q:Nat} (hq:q<=m):
  (Builtin.lenOf mx).run P w=.ok m w/\∃ cs,(Builtin.firstCells n q mx).run P w=.ok cs w/\bG K w n q row pf cs:=by
 unfold rowsOf at h;split at h
 ·simp only [uB,Prod.mk.injEq] at h;obtain ⟨rfl,rfl,rfl,rfl⟩:=h;rcases hx.aV with ⟨rfl,rfl,rfl⟩ | ⟨rfl,b,o,cap,sp,mv,rfl,hF,hcap,hsp,hl,hc,hv⟩
  ·obtain rfl:q=0:=by omega
   exact ⟨by simp [Builtin.lenOf],#[],by simp [Builtin.firstCells],.nil⟩
  ·refine ⟨by simp [Builtin.lenOf],?_⟩;rename_i esz len row;by_cases h0:q=0
   ·subst h0;exact ⟨#[],by simp [Builtin.firstCells,loadCells,loadCellsFrom],.nil⟩
   ·obtain rfl:=he (by omega);obtain rfl:=hsp (by omega);obtain ⟨cs,c1,c2⟩:=F9 (P:=P) (K:=K) (row:=row) (pf:=true) (m:=q) hn mv (fun i hi=>hl i (by omega)) (fun i hi=>hc i (by omega)) (fun i hi j hj=>.pure _ _ (hv i (by omega) j hj)) fun _ i hi j hj=>hv i (by omega) j hj;exact ⟨cs,by simp only [Builtin.firstCells]; exact c1,c2⟩
 ·rename_i r esz off len cap;split at h
  ·rename_i fr pf' esz' ex olen row hr;split at h
   ·rename_i hee;subst hee;simp only [uB,Prod.mk.injEq] at h;obtain ⟨rfl,rfl,rfl,rfl⟩:=h;obtain ⟨a,mcap,rfl,_,hle,hlen,_,_,haddr⟩:=hx.aW;refine ⟨by simp [Builtin.lenOf],?_⟩;by_cases h0:q=0
    ·subst h0;exact ⟨#[],by simp [Builtin.firstCells,loadCells,loadCellsFrom],.nil⟩
    ·obtain rfl:=he (by omega);obtain rfl:=haddr (by omega);have ho:=hL r _ hr;have hln:K.len r=olen:=ho.2.1;obtain ⟨cs,c1,c2⟩:=Li (P:=P) ho (off:=off) (m:=q) (by omega) hn;exact ⟨cs,by simp only [Builtin.firstCells]; exact c1,c2⟩
   ·simp at h
  ·simp at h
 ·exact absurd rfl (hstr _)
 ·simp at h
theorem Iu {look:B5}{K:KM}{w:World}(hL:FO look K w){x:EV}{mx:Value}{esz m n:Nat}{row:Nat->List EV}{pf:Bool}(h:rowsOf look x=some (esz,m,row,pf))
  (hx:VR K w x mx) (hn:0<n) (he:m≠0->esz=n):
  (Builtin.lenOf mx).run P w=.ok m w/\∃ cs,(Builtin.firstCells n m mx).run P w=.ok cs w/\bG K w n m row pf cs:=by
 unfold rowsOf at h;split at h
 ·simp only [uB,Prod.mk.injEq] at h;obtain ⟨rfl,rfl,rfl,rfl⟩:=h;rcases hx.aV with ⟨rfl,rfl,rfl⟩ | ⟨rfl,b,o,cap,sp,mv,rfl,hF,hcap,hsp,hl,hc,hv⟩
  ·exact ⟨by simp [Builtin.lenOf],#[],by simp [Builtin.firstCells],.nil⟩
  ·refine ⟨by simp [Builtin.lenOf],?_⟩;rename_i esz len row;by_cases h0:len=0
   ·subst h0;exact ⟨#[],by simp [Builtin.firstCells,loadCells,loadCellsFrom],.nil⟩
   ·obtain rfl:=he h0;obtain rfl:=hsp (by omega);obtain ⟨cs,c1,c2⟩:=F9 (P:=P) (K:=K) (row:=row) (pf:=true) hn mv hl hc (fun i hi j hj=>.pure _ _ (hv i hi j hj)) fun _ i hi j hj=>hv i hi j hj;exact ⟨cs,by simp only [Builtin.firstCells]; exact c1,c2⟩
 ·rename_i r esz off len cap;split at h
  ·rename_i fr pf' esz' ex olen row hr;split at h
   ·rename_i hee;subst hee;simp only [uB,Prod.mk.injEq] at h;obtain ⟨rfl,rfl,rfl,rfl⟩:=h;obtain ⟨a,mcap,rfl,_,hle,hlen,_,_,haddr⟩:=hx.aW;refine ⟨by simp [Builtin.lenOf],?_⟩;by_cases h0:len=0
    ·subst h0;exact ⟨#[],by simp [Builtin.firstCells,loadCells,loadCellsFrom],.nil⟩
    ·obtain rfl:=he h0;obtain rfl:=haddr (by omega);have ho:=hL r _ hr;have hln:K.len r=olen:=ho.2.1;obtain ⟨cs,c1,c2⟩:=Li (P:=P) ho (off:=off) (m:=len) (by omega) hn;exact ⟨cs,by simp only [Builtin.firstCells]; exact c1,c2⟩
   ·simp at h
  ·simp at h
 ·rename_i s;simp only [uB,Prod.mk.injEq] at h;obtain ⟨rfl,rfl,rfl,rfl⟩:=h;obtain rfl:=hx.bD;refine ⟨by simp [Builtin.lenOf],?_⟩;by_cases h0:s.size=0
  ·rw [h0];refine ⟨#[],?_,.nil⟩;simp [Builtin.firstCells,ByteArray.data_extract]
  ·obtain rfl:=he h0;have hsz:s.data.size=s.size:=rfl;refine ⟨s.data.map fun b=>.int .u8 b.toNat,?_,⟨by rw [Array.size_map,Nat.mul_one]; exact hsz,fun i _=>rfl,fun i hi j hj h'=>?_,fun j hj=>by simp [Value.oneCell'],fun _ i hi j hj h'=>?_⟩⟩
   ·simp only [Builtin.firstCells,Sem.run_pure];have:(s.extract 0 s.size).data=s.data:=by rw [ByteArray.data_extract,<-hsz,Array.extract_size]
    rw [this]
   ·have hj0:j=0:=by simp at hj; exact hj
    subst hj0;simp only [List.getElem_cons_zero,Array.getElem_map,Nat.mul_one,Nat.add_zero];have:s.data.getD i 0=s.data[i]:=by simp [Array.getD,hsz,hi]
    rw [this];exact .pure _ _ (.int _ _)
   ·have hj0:j=0:=by simp at hj; exact hj
    subst hj0;simp only [List.getElem_cons_zero,Array.getElem_map,Nat.mul_one,Nat.add_zero];have:s.data.getD i 0=s.data[i]:=by simp [Array.getD,hsz,hi]
    rw [this];exact .int _ _
 ·simp at h
theorem bG.ext {K K':KM}{σ σ':AL}{w w':World}(h:Ext K σ w K' σ' w')(hr:Rel K σ w){n m:Nat}{row:Nat->List EV}{pf:Bool}{cs:Array Value}(hl:bG K w n m row pf cs):
  bG K' w' n m row pf cs:=
 ⟨hl.size,hl.len,fun i hi j hj h'=>(hl.val i hi j hj h').ext h hr,hl.one,fun hp i hi j hj h'=>(hl.plain hp i hi j hj h').ext h hr⟩
theorem bG.cat {K:KM}{w:World}{n m m':Nat}{row row':Nat->List EV}{pf pf':Bool}{cs cs':Array Value}(h:bG K w n m row pf cs)(h':bG K w n m' row' pf' cs'):
  bG K w n (m+m') (Ar m row row') (pf && pf') (cs++cs'):=by
 have at_:∀ i,i<m+m'->∀ j,j<n->∃ (hlt:i*n+j<(cs++cs').size),True:=by
  intro i hi j hj;refine ⟨?_,trivial⟩;have:=De hi hj;simp only [Array.size_append,h.size,h'.size,<-Nat.add_mul]; exact this
 refine ⟨by simp only [Array.size_append,h.size,h'.size,Nat.add_mul],fun i hi=>?_,fun i hi j hj hc=>?_,fun j hj=>?_,fun hp i hi j hj hc=>?_⟩
 ·unfold Ar; split
  ·exact h.len i ‹_›
  ·exact h'.len _ (by omega)
 ·by_cases hm:i<m
  ·have hu:Ar m row row' i=row i:=by simp [Ar,hm]
   have hj':j<(row i).length:=by rw [hu] at hj; exact hj
   have hlt:i*n+j<cs.size:=by rw [h.size]; exact De hm (by rw [<-h.len i hm]; exact hj')
   simp only [hu,Array.getElem_append,hlt,dif_pos];exact h.val i hm j hj' hlt
  ·have hu:Ar m row row' i=row' (i - m):=by simp [Ar,hm]
   have hj':j<(row' (i - m)).length:=by rw [hu] at hj; exact hj
   have hge:¬ i*n+j<cs.size:=by
    rw [h.size];have:m*n<=i*n:=Nat.mul_le_mul_right _ (by omega);omega
   have hlt:(i - m)*n+j<cs'.size:=by rw [h'.size]; exact De (by omega) (by rw [<-h'.len (i - m) (by omega)]; exact hj')
   have he:i*n+j - cs.size=(i - m)*n+j:=by
    rw [h.size,Nat.sub_mul];have:m*n<=i*n:=Nat.mul_le_mul_right _ (by omega);omega
   simp only [hu,Array.getElem_append,hge,dif_neg,not_false_eq_true];have:=h'.val (i - m) (by omega) j hj' hlt;simpa only [he] using this
 ·simp only [Array.getElem_append];split
  ·exact h.one _ _
  ·exact h'.one _ _
 ·simp only [uF] at hp;by_cases hm:i<m
  ·have hu:Ar m row row' i=row i:=by simp [Ar,hm]
   have hj':j<(row i).length:=by rw [hu] at hj; exact hj
   have hlt:i*n+j<cs.size:=by rw [h.size]; exact De hm (by rw [<-h.len i hm]; exact hj')
   simp only [hu,Array.getElem_append,hlt,dif_pos];exact h.plain hp.1 i hm j hj' hlt
  ·have hu:Ar m row row' i=row' (i - m):=by simp [Ar,hm]
   have hj':j<(row' (i - m)).length:=by rw [hu] at hj; exact hj
   have hge:¬ i*n+j<cs.size:=by
    rw [h.size];have:m*n<=i*n:=Nat.mul_le_mul_right _ (by omega);omega
   have hlt:(i - m)*n+j<cs'.size:=by rw [h'.size]; exact De (by omega) (by rw [<-h'.len (i - m) (by omega)]; exact hj')
   have he:i*n+j - cs.size=(i - m)*n+j:=by
    rw [h.size,Nat.sub_mul];have:m*n<=i*n:=Nat.mul_le_mul_right _ (by omega);omega
   simp only [hu,Array.getElem_append,hge,dif_neg,not_false_eq_true];have:=h'.plain hp.2 (i - m) (by omega) j hj' hlt;simpa only [he] using this
theorem T8 (need:Nat):∀ (k c:Nat),c<=2*need+192->Builtin.growBy need k c<=2*need+192:=by
 intro k;induction k with
 | zero=>intro c h; exact h
 | succ k ih=>
  intro c h;unfold Builtin.growBy;split
  ·exact h
  ·exact ih _ (by omega)
theorem nextslicecap_le {need old:Nat}(h:old<need):Builtin.nextslicecap need old<=3*need:=by
 unfold Builtin.nextslicecap;split
 ·omega
 ·split
  ·omega
  ·have:=T8 need 4 old (by omega);omega
theorem run_append_grow {w:World}{t:TypeId}{ts:Array TypeId}{ty elem:TypeId}{base:Option Addr}{sLen sCap n m:Nat}{mx:Value}{i:TypeInfo}{cs cx:Array Value}{d':TypeDesc}
  (h0:ts[0]? =some t) (h1:ts[1]?.bind P.underlying=some d') (hd:∀ k,d'≠.int k) (hu:P.underlying t=some (.slice elem)) (hi:P.info? elem=some i) (hn:i.size=n) (hn0:0<n)
  {zv:Value} (hz:(zeroValue elem).run P { w with drawn:=w.drawn+1 }=.ok zv { w with drawn:=w.drawn+1 }) (hzs:zv.cells.size=n) (hz1:∀ j (h:j<zv.cells.size),(zv.cells[j]).oneCell'=true)
  (hlen:(Builtin.lenOf mx).run P w=.ok m w)
  (hs:(Builtin.firstCells n sLen (.slice base sLen sCap)).run P { w with drawn:=w.drawn+1 }=.ok cs { w with drawn:=w.drawn+1 }) (hcs:cs.size=sLen*n)
  (hx:(Builtin.firstCells n m mx).run P { w with drawn:=w.drawn+1 }=.ok cx { w with drawn:=w.drawn+1 }) (hcx:cx.size=m*n)
  (hgt:sCap<sLen+m) (hb:(sLen+m)*i.bytes<=2 ^ 46) (hlt:sLen+m<2 ^ 62):
  ∃ (cap:Nat) (rest:Array Value),sLen+m<=cap/\rest.size=(cap - (sLen+m))*n/\(∀ j (h:j<rest.size),(rest[j]).oneCell'=true)/\
   (Builtin.append_ ts ty #[.slice base sLen sCap,mx]).run P w=.ok (.slice (some ⟨w.heap.size,0,none⟩) (sLen+m) cap) (({ w with drawn:=w.drawn+1 }:World).alloc (.cells (cs++cx++rest) elem)):=by
 obtain ⟨t',ht',hd'⟩:=Option.bind_eq_some_iff.1 h1
 let t0:=w.tape w.drawn (.appendCap (sLen+m) sCap elem)
 refine ⟨sLen+m+t0 % (2 ^ 63 - (sLen+m)),Builtin.zeroCells zv.cells (sLen+m+t0 % (2 ^ 63 - (sLen+m)) - (sLen+m)),by omega,by simp [Builtin.zeroCells,hzs],?_,?_⟩
 ·intro j h;simp only [Builtin.zeroCells,Array.getElem_map,Array.getElem_range];rw [getElem!_pos zv.cells _ (Nat.mod_lt _ (by omega))];exact hz1 _ _
 ·have hnext:=nextslicecap_le hgt;have hno:¬ Builtin.nextslicecap (sLen+m) sCap*i.bytes>2 ^ 48:=by
   have:Builtin.nextslicecap (sLen+m) sCap*i.bytes<=3*(sLen+m)*i.bytes:=Nat.mul_le_mul_right _ hnext;rw [Nat.mul_assoc] at this;omega
  have hno2:¬ ((sLen+m:Nat):Int)>IntKind.i64.max:=by
   simp [IntKind.max,IntKind.signed,IntKind.bits]; omega
  have hsz:(sizeOf elem).run P w=.ok n w:=Bm (by simp [BP,hi,hn]);have hzeros:(match d' with | .int _=>true | _=>false)=false:=by
   cases d'<;>first | rfl | exact absurd rfl (hd _)
  simp only [Builtin.append_,h0,List.getElem?_toArray,List.getElem?_cons_zero,List.getElem?_cons_succ,Sem.run_bind,AP hu,uE,hsz,ht',AP hd',hzeros,
   Bool.false_eq_true,if_false,hlen,Sem.run_pure]
  rw [if_neg (by omega)];simp only [Sem.run_ite,Sem.run_bind,Hc hi,uE];rw [if_neg (fun h=>hno2 h.1),if_neg hno];simp only [Sem.run_bind,Sem.run_pure,uE,run_choose,Question.forced,Bool.false_eq_true,if_false,Question.cut,run_askRoom];simp only [hs,uE,Bool.not_false,if_true,hx,hz];rfl
end
end Go.Ev
