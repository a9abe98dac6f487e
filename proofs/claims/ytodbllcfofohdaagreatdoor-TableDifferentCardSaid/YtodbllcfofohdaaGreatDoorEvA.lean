/- A part of the proof: EvBase, EvRun, EvSem, EvQuiet, EvQuiet2, EvQuiet3, EvQuiet4, EvQuiet5, EvQuiet6. -/
import Derived.Calls
import Derived.Laws.Sem
import Derived.Laws.World
import Derived.Orders
import Derived.OrdersIn
import Derived.Laws.Strings
import Derived.Laws.StructEq
import Derived.Laws.Tables
set_option linter.unusedSimpArgs false
set_option linter.unusedVariables false
namespace Go.Ev
inductive EV where
  | undef
  | bool (b : Bool)
  | int (k : IntKind) (n : Int)
  | str (s : ByteArray)
  | nilp
  | nilm
  | nilf
  | nili
  | ptr (r k : Nat)
  | pe (r esz i k : Nat)
  | ms (r esz off len : Nat) (cap : Option Nat)
  | mm (r : Nat)
  | it (r : Nat)
  | ip (cells : List EV) (k : Nat)
  | isl (nn : Bool) (esz len : Nat) (row : Nat → List EV)
  | im (es : List (EV × EV))
  | agg (cs : List EV)
  | tuple (vs : List EV)
  | func (fn : Fn) (first captured : List EV)
  | iface (t : TypeId) (v : EV)
  deriving Inhabited
inductive EObj where
  | free
  | dead
  | var (fr pf : Bool) (cells : List EV)
  | arr (fr pf : Bool) (esz : Nat) (exact : Bool) (len : Nat) (row : Nat → List EV)
  | map (fr pf : Bool) (es : List (EV × EV))
  | loop (st : LoopState) (tmps : List EV) (ps : Array Tmp) (assign body : Code) (pend : Option Code)
  | dfr
  deriving Inhabited
abbrev Heap := List EObj
def cellAt (w : World) (b i : Nat) : Option Value :=
  match w.heap[b]? with
  | some (.cells c _ _) => c[i]?
  | _ => none
theorem cell?_eq (w : World) (b i : Nat) : w.cell? ⟨b, i, none⟩ = cellAt w b i := by
  unfold World.cell? cellAt
  split <;> simp_all
theorem cellAt_of_block {w w' : World} {b : Nat} (h : w'.heap[b]? = w.heap[b]?) (i : Nat) : cellAt w' b i = cellAt w b i := by
  unfold cellAt; rw [h]
inductive PR (F : Nat → Prop) (w : World) : EV → Value → Prop where
  | undef (v) : PR F w .undef v
  | bool (b) : PR F w (.bool b) (.bool b)
  | int (k n) : PR F w (.int k n) (.int k n)
  | str (s) : PR F w (.str s) (.string s)
  | nilp : PR F w .nilp (.pointer none)
  | nilm : PR F w .nilm (.map none)
  | nilf : PR F w .nilf .nilFunc
  | nili : PR F w .nili .nilIface
  | ip (cells : List EV) (k b o : Nat) (mv : Nat → Value) (hF : F b) (hk : k < cells.length)
      (hc : ∀ j (_ : j < cells.length), cellAt w b (o + j) = some (mv j) ∧ (mv j).oneCell' = true) (hv : ∀ j (h : j < cells.length), PR F w cells[j] (mv j)) :
      PR F w (.ip cells k) (.pointer (some ⟨b, o + k, none⟩))
  | isln (esz row) : PR F w (.isl false esz 0 row) (.slice none 0 0)
  | isl (esz len : Nat) (row : Nat → List EV) (b o cap : Nat) (mv : Nat → Nat → Value) (hF : 0 < len → F b) (hcap : len ≤ cap)
      (sp : Option Nat) (hsp : 0 < len → sp = none)
      (hl : ∀ i, i < len → (row i).length = esz)
      (hc : ∀ i, i < len → ∀ j, j < esz → cellAt w b (o + i * esz + j) = some (mv i j) ∧ (mv i j).oneCell' = true)
      (hv : ∀ i, i < len → ∀ j (h : j < (row i).length), PR F w (row i)[j] (mv i j)) :
      PR F w (.isl true esz len row) (.slice (some ⟨b, o, sp⟩) len cap)
  | im (es : List (EV × EV)) (b : Nat) (mes : Array MapEntry) (clock : Nat) (hF : F b) (hm : w.heap[b]? = some (.map mes clock))
      (hl : es.length = mes.size) (hk : ∀ i (h : i < es.length) (h' : i < mes.size), PR F w es[i].1 mes[i].key)
      (hv : ∀ i (h : i < es.length) (h' : i < mes.size), PR F w es[i].2 mes[i].val) : PR F w (.im es) (.map (some b))
  | agg (cs : List EV) (mcs : Array Value) (hl : cs.length = mcs.size) (h1 : ∀ i (h' : i < mcs.size), (mcs[i]).oneCell' = true)
      (h : ∀ i (h : i < cs.length) (h' : i < mcs.size), PR F w cs[i] mcs[i]) : PR F w (.agg cs) (.agg mcs)
  | tuple (cs : List EV) (mcs : Array Value) (hl : cs.length = mcs.size)
      (h : ∀ i (h : i < cs.length) (h' : i < mcs.size), PR F w cs[i] mcs[i]) : PR F w (.tuple cs) (.tuple mcs)
  | func (fn : Fn) (first captured : List EV) (mf mc : Array Value) (hl : first.length = mf.size) (hl' : captured.length = mc.size)
      (h : ∀ i (h : i < first.length) (h' : i < mf.size), PR F w first[i] mf[i])
      (h' : ∀ i (h : i < captured.length) (h' : i < mc.size), PR F w captured[i] mc[i]) : PR F w (.func fn first captured) (.func fn mf mc)
  | iface (t v mv) (h : PR F w v mv) : PR F w (.iface t v) (.iface t mv)
structure KM where
  blk : Nat → Nat
  off : Nat → Nat
  ext : Nat → Nat
  len : Nat → Nat
  al : Nat → Prop
  F : Nat → Prop
inductive VR (K : KM) (w : World) : EV → Value → Prop where
  | pure (v mv) (h : PR K.F w v mv) : VR K w v mv
  | ptr (r k) (ha : K.al r) : VR K w (.ptr r k) (.pointer (some ⟨K.blk r, K.off r + k, none⟩))
  | pe (r esz i k) (ha : K.al r) (hi : i < K.len r) : VR K w (.pe r esz i k) (.pointer (some ⟨K.blk r, K.off r + i * esz + k, none⟩))
  | ms (r esz off len cap mcap) (a : Addr) (ha : K.al r) (hle : len ≤ mcap) (hlen : off + len ≤ K.len r)
      (hcap : ∀ c, cap = some c → mcap = c ∧ off + c ≤ K.len r)
      (hnone : cap = none → K.off r + (off + mcap) * esz = K.ext r)
      (haddr : mcap ≠ 0 → a = ⟨K.blk r, K.off r + off * esz, none⟩) :
      VR K w (.ms r esz off len cap) (.slice (some a) len mcap)
  | mm (r) (ha : K.al r) : VR K w (.mm r) (.map (some (K.blk r)))
  | it (r) (ha : K.al r) : VR K w (.it r) (.func (.yield (K.blk r)) #[] #[])
  | agg (cs : List EV) (mcs : Array Value) (hl : cs.length = mcs.size) (h1 : ∀ i (h' : i < mcs.size), (mcs[i]).oneCell' = true)
      (h : ∀ i (h : i < cs.length) (h' : i < mcs.size), VR K w cs[i] mcs[i]) : VR K w (.agg cs) (.agg mcs)
  | tuple (cs : List EV) (mcs : Array Value) (hl : cs.length = mcs.size)
      (h : ∀ i (h : i < cs.length) (h' : i < mcs.size), VR K w cs[i] mcs[i]) : VR K w (.tuple cs) (.tuple mcs)
  | func (fn : Fn) (first captured : List EV) (mf mc : Array Value) (hl : first.length = mf.size) (hl' : captured.length = mc.size)
      (h : ∀ i (h : i < first.length) (h' : i < mf.size), VR K w first[i] mf[i])
      (h' : ∀ i (h : i < captured.length) (h' : i < mc.size), VR K w captured[i] mc[i]) : VR K w (.func fn first captured) (.func fn mf mc)
  | iface (t v mv) (h : VR K w v mv) : VR K w (.iface t v) (.iface t mv)
def VRs (K : KM) (w : World) (vs : List EV) (mvs : Array Value) : Prop :=
  vs.length = mvs.size ∧ ∀ i (h : i < vs.length) (h' : i < mvs.size), VR K w vs[i] mvs[i]
def Stay (F : Nat → Prop) (w w' : World) : Prop := ∀ b, F b → w'.heap[b]? = w.heap[b]?
theorem PR.mono {F F' : Nat → Prop} {w w' : World} (hF : ∀ b, F b → F' b) (hs : Stay F w w') {v : EV} {mv : Value} (h : PR F w v mv) : PR F' w' v mv := by
  induction h with
  | undef v => exact .undef v
  | bool b => exact .bool b
  | int k n => exact .int k n
  | str s => exact .str s
  | nilp => exact .nilp
  | nilm => exact .nilm
  | nilf => exact .nilf
  | nili => exact .nili
  | ip cells k b o mv hb hk hc _ ih =>
    exact .ip cells k b o mv (hF _ hb) hk (fun j h => by rw [cellAt_of_block (hs b hb)]; exact hc j h) (fun j h => ih j h)
  | isln esz row => exact .isln esz row
  | isl esz len row b o cap mv hb hcap sp hsp hl hc _ ih =>
    exact .isl esz len row b o cap mv (fun h => hF _ (hb h)) hcap sp hsp hl (fun i h j h' => by rw [cellAt_of_block (hs b (hb (by omega)))]; exact hc i h j h') (fun i h j h' => ih i h j h')
  | im es b mes clock hb hm hl _ _ ihk ihv => exact .im es b mes clock (hF _ hb) ((hs b hb).trans hm) hl ihk ihv
  | agg cs mcs hl h1 _ ih => exact .agg cs mcs hl h1 ih
  | tuple cs mcs hl _ ih => exact .tuple cs mcs hl ih
  | func fn a c mf mc hl hl' _ _ ih ih' => exact .func fn a c mf mc hl hl' ih ih'
  | iface t v mv _ ih => exact .iface t v mv ih
def EV.plain : EV → Bool
  | .undef | .bool _ | .int .. | .str _ | .nilp | .nilm | .nilf | .nili | .ip .. | .isl .. | .im _ => true
  | .ptr .. | .pe .. | .ms .. | .mm _ | .it _ => false
  | .agg cs => go cs
  | .tuple cs => go cs
  | .func _ a b => go a && go b
  | .iface _ v => v.plain
where
  go : List EV → Bool
    | [] => true
    | x :: xs => x.plain && go xs
theorem plain_go {cs : List EV} (h : EV.plain.go cs = true) : ∀ i (hi : i < cs.length), (cs[i]).plain = true := by
  induction cs with
  | nil => intro i hi; simp at hi
  | cons x xs ih =>
    simp only [EV.plain.go, Bool.and_eq_true] at h
    intro i hi
    cases i with
    | zero => exact h.1
    | succ i => exact ih h.2 i (by simpa using hi)
theorem VR.toPR {K : KM} {w : World} {v : EV} {mv : Value} (h : VR K w v mv) : v.plain = true → PR K.F w v mv := by
  induction h with
  | pure v mv h => exact fun _ => h
  | ptr r k => intro h; simp [EV.plain] at h
  | pe => intro h; simp [EV.plain] at h
  | ms => intro h; simp [EV.plain] at h
  | mm r => intro h; simp [EV.plain] at h
  | it r => intro h; simp [EV.plain] at h
  | agg cs mcs hl h1 _ ih => intro h; exact .agg cs mcs hl h1 fun i h1 h2 => ih i h1 h2 (plain_go (by simpa [EV.plain] using h) i h1)
  | tuple cs mcs hl _ ih => intro h; exact .tuple cs mcs hl fun i h1 h2 => ih i h1 h2 (plain_go (by simpa [EV.plain] using h) i h1)
  | func fn a c mf mc hl hl' _ _ ih ih' =>
    intro h
    simp only [EV.plain, Bool.and_eq_true] at h
    exact .func fn a c mf mc hl hl' (fun i h1 h2 => ih i h1 h2 (plain_go h.1 i h1)) (fun i h1 h2 => ih' i h1 h2 (plain_go h.2 i h1))
  | iface t v mv _ ih => intro h; exact .iface t v mv (ih (by simpa [EV.plain] using h))
def EObj.live : EObj → Bool
  | .free => false
  | .dead => false
  | .var fr _ _ | .arr fr _ _ _ _ _ | .map fr _ _ => !fr
  | .loop .. => true
  | .dfr => true
def EObj.there : EObj → Bool
  | .free => false
  | .dead => false
  | _ => true
def OR (K : KM) (w : World) (r : Nat) : EObj → Prop
  | .free => ¬ K.al r
  | .dead => True
  | .var fr pf cells => K.al r ∧ K.off r = 0 ∧ ∃ (c : Array Value) (e : TypeId), w.heap[K.blk r]? = some (.cells c e (0, 0)) ∧ c.size = cells.length ∧
      K.ext r = c.size ∧ (∀ j (h : j < c.size), (c[j]).oneCell' = true) ∧ (fr = true → K.F (K.blk r)) ∧ (∀ i (h : i < cells.length) (h' : i < c.size), VR K w cells[i] c[i]) ∧
      (pf = true → ∀ i (h : i < cells.length) (h' : i < c.size), PR K.F w cells[i] c[i])
  | .arr fr pf esz exact len row => K.al r ∧ K.len r = len ∧ ∃ (c : Array Value) (e : TypeId) (fz : Nat × Nat), w.heap[K.blk r]? = some (.cells c e fz) ∧
      (∀ j, j < c.size → (fz.1 ≤ j && j < fz.2) = false) ∧
      K.ext r = c.size ∧ (∀ j (h : j < c.size), (c[j]).oneCell' = true) ∧ K.off r + len * esz ≤ c.size ∧ (exact = true → K.off r + len * esz = c.size ∧ fz.1 = fz.2) ∧ (fr = true → K.F (K.blk r)) ∧
      (∀ i, i < len → (row i).length = esz) ∧
      (∀ i, i < len → ∀ j (h : j < (row i).length) (h' : K.off r + i * esz + j < c.size), VR K w (row i)[j] c[K.off r + i * esz + j]) ∧
      (pf = true → ∀ i, i < len → ∀ j (h : j < (row i).length) (h' : K.off r + i * esz + j < c.size), PR K.F w (row i)[j] c[K.off r + i * esz + j])
  | .map fr pf es => K.al r ∧ ∃ (mes : Array MapEntry) (clock : Nat), w.heap[K.blk r]? = some (.map mes clock) ∧ es.length = mes.size ∧ (fr = true → K.F (K.blk r)) ∧
      (∀ i (h : i < es.length) (h' : i < mes.size), VR K w es[i].1 mes[i].key ∧ VR K w es[i].2 mes[i].val) ∧
      (∀ i (h : i < es.length) (h' : i < mes.size), PR K.F w es[i].1 mes[i].key) ∧
      (pf = true → ∀ i (h : i < es.length) (h' : i < mes.size), PR K.F w es[i].2 mes[i].val) ∧
      (∀ i (h : i < mes.size), (mes[i]).born < clock) ∧ (∀ i j (h : i < mes.size) (h' : j < mes.size), (mes[i]).born = (mes[j]).born → i = j)
  | .loop st tmps ps assign body pend => K.al r ∧ ∃ (fn : FuncId) (mt : Array Value) (d : Nat), w.heap[K.blk r]? = some (.loop { state := st, pending := pend, fn := fn, tmps := mt, params := ps, assign := assign, body := body, defers := d }) ∧
      tmps.length = mt.size ∧ ∀ i (h : i < tmps.length) (h' : i < mt.size), VR K w tmps[i] mt[i]
  | .dfr => K.al r ∧ w.heap[K.blk r]? = some (.deferred (some []))
def Owned (K : KM) (σ : Heap) (b : Nat) : Prop := ∃ r o, σ[r]? = some o ∧ o.live = true ∧ K.blk r = b
structure Rel (K : KM) (σ : Heap) (w : World) : Prop where
  obj : ∀ r o, σ[r]? = some o → OR K w r o
  inj : ∀ r r' o o', σ[r]? = some o → σ[r']? = some o' → o.live = true → o'.live = true → K.blk r = K.blk r' → r = r'
  notF : ∀ b, Owned K σ b → ¬ K.F b
  lt : ∀ r o, σ[r]? = some o → o.there = true → K.blk r < w.heap.size
  Flt : ∀ b, K.F b → b < w.heap.size
  alt : ∀ r, K.al r → r < σ.length
structure Ext (K : KM) (σ : Heap) (w : World) (K' : KM) (σ' : Heap) (w' : World) : Prop where
  len : σ.length ≤ σ'.length
  al : ∀ r, K.al r → K'.al r
  blk : ∀ r, K.al r → K'.blk r = K.blk r ∧ K'.off r = K.off r ∧ K'.ext r = K.ext r ∧ K'.len r = K.len r
  F : ∀ b, K.F b → K'.F b
  F' : ∀ b, K'.F b → K.F b ∨ w.heap.size ≤ b ∨ Owned K σ b
  own : ∀ b, Owned K' σ' b → w.heap.size ≤ b ∨ Owned K σ b
  stay : ∀ b, b < w.heap.size → ¬ Owned K σ b → w'.heap[b]? = w.heap[b]?
  size : w.heap.size ≤ w'.heap.size
  os : w'.os = w.os
  tape : w'.tape = w.tape
  output : w'.output = w.output
theorem Ext.refl (K : KM) (σ : Heap) (w : World) : Ext K σ w K σ w :=
  ⟨Nat.le_refl _, fun _ h => h, fun _ _ => ⟨rfl, rfl, rfl, rfl⟩, fun _ h => h, fun _ h => .inl h, fun _ h => .inr h, fun _ _ _ => rfl, Nat.le_refl _, rfl, rfl, rfl⟩
theorem Ext.trans {K K' K'' : KM} {σ σ' σ'' : Heap} {w w' w'' : World} (h : Ext K σ w K' σ' w') (g : Ext K' σ' w' K'' σ'' w'') : Ext K σ w K'' σ'' w'' := by
  refine ⟨Nat.le_trans h.len g.len, fun r hr => g.al r (h.al r hr), ?_, fun b hb => g.F b (h.F b hb), ?_, ?_, ?_, Nat.le_trans h.size g.size, g.os.trans h.os, g.tape.trans h.tape, g.output.trans h.output⟩
  · intro r hr
    obtain ⟨a1, a2, a3, a4⟩ := h.blk r hr
    obtain ⟨b1, b2, b3, b4⟩ := g.blk r (h.al r hr)
    exact ⟨b1.trans a1, b2.trans a2, b3.trans a3, b4.trans a4⟩
  · intro b hb
    rcases g.F' b hb with h1 | h1 | h1
    · exact h.F' b h1
    · exact .inr (.inl (Nat.le_trans h.size h1))
    · exact .inr (h.own b h1)
  · intro b hb
    rcases g.own b hb with h1 | h1
    · exact .inl (Nat.le_trans h.size h1)
    · exact h.own b h1
  · intro b hb hn
    rw [g.stay b (Nat.lt_of_lt_of_le hb h.size) (fun ho => by rcases h.own b ho with h1 | h1; omega; exact hn h1), h.stay b hb hn]
theorem Ext.stayF {K K' : KM} {σ σ' : Heap} {w w' : World} (h : Ext K σ w K' σ' w') (hr : Rel K σ w) : Stay K.F w w' :=
  fun b hb => h.stay b (hr.Flt b hb) (fun ho => hr.notF b ho hb)
theorem PR.ext {K K' : KM} {σ σ' : Heap} {w w' : World} (h : Ext K σ w K' σ' w') (hr : Rel K σ w) {v : EV} {mv : Value} (hv : PR K.F w v mv) : PR K'.F w' v mv :=
  hv.mono h.F (h.stayF hr)
theorem VR.ext {K K' : KM} {σ σ' : Heap} {w w' : World} (h : Ext K σ w K' σ' w') (hr : Rel K σ w) {v : EV} {mv : Value} (hv : VR K w v mv) : VR K' w' v mv := by
  induction hv with
  | pure v mv hp => exact .pure v mv (hp.ext h hr)
  | ptr r k ha => obtain ⟨h1, h2, h3, h4⟩ := h.blk r ha; rw [← h1, ← h2]; exact .ptr r k (h.al r ha)
  | pe r esz i k ha hi => obtain ⟨h1, h2, h3, h4⟩ := h.blk r ha; rw [← h1, ← h2]; exact .pe r esz i k (h.al r ha) (h4 ▸ hi)
  | ms r esz off len cap mcap a ha hle hlen hcap hnone haddr =>
    obtain ⟨h1, h2, h3, h4⟩ := h.blk r ha
    exact .ms r esz off len cap mcap a (h.al r ha) hle (h4 ▸ hlen) (fun c hc => by rw [h4]; exact hcap c hc) (fun hn => by rw [h2, h3]; exact hnone hn)
      (fun hm => by rw [h1, h2]; exact haddr hm)
  | mm r ha => obtain ⟨h1, h2, h3, h4⟩ := h.blk r ha; rw [← h1]; exact .mm r (h.al r ha)
  | it r ha => obtain ⟨h1, h2, h3, h4⟩ := h.blk r ha; rw [← h1]; exact .it r (h.al r ha)
  | agg cs mcs hl h1 _ ih => exact .agg cs mcs hl h1 ih
  | tuple cs mcs hl _ ih => exact .tuple cs mcs hl ih
  | func fn a c mf mc hl hl' _ _ ih ih' => exact .func fn a c mf mc hl hl' ih ih'
  | iface t v mv _ ih => exact .iface t v mv ih
end Go.Ev
namespace Go.Ev
def M (S : Type) (α : Type) : Type := S → Option (α × S)
namespace M
variable {S α β : Type}
def pure (a : α) : M S α := fun s => some (a, s)
def bind (m : M S α) (f : α → M S β) : M S β := fun s =>
  match m s with
  | some (a, s') => f a s'
  | none => none
instance : Monad (M S) where
  pure := M.pure
  bind := M.bind
def fail : M S α := fun _ => none
def lift (x : Option α) : M S α := fun s => match x with | some a => some (a, s) | none => none
end M
inductive EX where
  | normal
  | leave (id : Nat)
  | ret
  deriving Inhabited
noncomputable def getT (l : List EV) : Nat → EV := List.rec (motive := fun _ => Nat → EV) (fun _ => .undef) (fun v _ ih n => Nat.rec (motive := fun _ => EV) v (fun m _ => ih m) n) l
noncomputable def setT (l : List EV) (v : EV) : Nat → List EV := List.rec (motive := fun _ => Nat → List EV) (fun _ => []) (fun a as ih n => Nat.rec (motive := fun _ => List EV) (v :: as) (fun m _ => a :: ih m) n) l
theorem getT_eq (l : List EV) (n : Nat) : getT l n = l.getD n .undef := by
  induction l generalizing n with
  | nil => simp [getT]
  | cons v l ih =>
    cases n with
    | zero => rfl
    | succ n => simp only [List.getD_cons_succ]; rw [← ih]; rfl
theorem setT_eq (l : List EV) (v : EV) (n : Nat) : setT l v n = l.set n v := by
  induction l generalizing n with
  | nil => rfl
  | cons a l ih =>
    cases n with
    | zero => rfl
    | succ n => simp only [List.set_cons_succ]; rw [← ih]; rfl
noncomputable section
abbrev Upd := List (Nat × EObj)
inductive Eff where
  | upd (l : Upd)
  | heap (σ : Heap)
structure Drv (S : Type) where
  br : Bool → M S Bool
  chk : Bool → M S Unit
  nw : Bool → M S Bool
  mode : FuncId → M S Bool
  pcall : FuncId → List EV → M S EV
  fresh : FuncId → M S Bool
  room : Bool → M S Nat
  gcall : FuncId → List EV → Heap → M S (EV × Heap)
  piece : Bool → Code → List EV → Heap → M S (Option (EX × List EV × Heap))
  round : Code → List EV → Heap → M S (EX × List EV × Heap)
  keep : EV × Eff → M S (EV × Eff)
  find : Go.TypeId → EV → List (EV × EV) → M S (Option (Option (Nat × EV)))
def sizeE (P : Program) (t : TypeId) : Option Nat := (P.info? t).map (·.size)
def aggE (P : Program) (t : TypeId) : Option Bool := match P.underlying t with | some (.struct _) | some (.array _ _) => some true | some _ => some false | none => none
def EV.ofCell : Value → EV
  | .bool b => .bool b
  | .int k n => .int k n
  | .string s => .str s
  | .pointer none => .nilp
  | .slice none 0 0 => .isl false 0 0 fun _ => []
  | .map none => .nilm
  | .nilFunc => .nilf
  | .nilIface => .nili
  | _ => .undef
def EV.ofValue : Value → EV
  | .agg cs => .agg (cs.toList.map EV.ofCell)
  | .iface t v => .iface t (EV.ofCell v)
  | v => EV.ofCell v
def EV.cells : EV → Option (List EV)
  | .agg cs => some cs
  | .undef | .tuple _ => none
  | v => some [v]
def flat : Value → Bool
  | .agg cs => cs.all Value.oneCell'
  | .tuple _ => false
  | _ => true
def zeroV (P : Program) (t : TypeId) : Option EV := (P.info? t).bind fun i => i.zero.bind fun v => if flat v then some (EV.ofValue v) else none
def zeroE (P : Program) (t : TypeId) : Option (List EV) := (P.info? t).bind fun i => i.zero.bind fun v => if flat v then some (v.cells.toList.map EV.ofCell) else none
def takeCells (cells : List EV) (k n : Nat) (agg : Bool) : Option EV :=
  if agg then if k + n ≤ cells.length then some (.agg ((cells.drop k).take n)) else none
  else cells[k]?
def putCells (cells : List EV) (k : Nat) (vs : List EV) : Option (List EV) :=
  if k + vs.length ≤ cells.length then some (cells.take k ++ vs ++ cells.drop (k + vs.length)) else none
abbrev Look := Nat → Option EObj
section
variable {S : Type} (D : Drv S) (P : Program)
def eLoad (look : Look) (t : TypeId) (a : EV) : M S EV := do
  let n ← M.lift (sizeE P t)
  let g ← M.lift (aggE P t)
  match a with
  | .ip cells k => M.lift (takeCells cells k n g)
  | .ptr r k => match look r with
    | some (.var _ _ cells) => M.lift (takeCells cells k n g)
    | _ => M.fail
  | .pe r esz i k => match look r with
    | some (.arr _ _ esz' _ _ row) => if esz = esz' then M.lift (takeCells (row i) k n g) else M.fail
    | _ => M.fail
  | _ => M.fail
def allPlain : List EV → Bool
  | [] => true
  | v :: vs => v.plain && allPlain vs
def updRow (row : Nat → List EV) (i : Nat) (c : List EV) : Nat → List EV := fun j => if j = i then c else row j
def eStore (look : Look) (t : TypeId) (a v : EV) : M S Upd := do
  let n ← M.lift (sizeE P t)
  let vs ← M.lift v.cells
  if vs.length ≠ n then M.fail else
  match a with
  | .ptr r k => match look r with
    | some (.var false pf cells) => do
      let cells' ← M.lift (putCells cells k vs)
      pure [(r, .var false (pf && allPlain vs) cells')]
    | _ => M.fail
  | .pe r esz i k => match look r with
    | some (.arr false pf esz' ex len row) =>
      if esz = esz' then do
        let c ← M.lift (putCells (row i) k vs)
        pure [(r, .arr false (pf && allPlain vs) esz ex len (updRow row i c))]
      else M.fail
    | _ => M.fail
  | _ => M.fail
def eField (t : TypeId) (a : EV) (f : Nat) : M S EV :=
  match P.underlying t with
  | some (.struct fields) => match fields[f]? with
    | some fd => do
      let n ← M.lift (sizeE P fd.type)
      if n = 0 then M.fail else
      match a with
      | .ip cells k => if k + fd.offset < cells.length then pure (.ip cells (k + fd.offset)) else M.fail
      | .ptr r k => pure (.ptr r (k + fd.offset))
      | .pe r esz i k => pure (.pe r esz i (k + fd.offset))
      | _ => M.fail
    | none => M.fail
  | _ => M.fail
def pick : (n : Nat) → Nat → M S Nat
  | 0, x => do D.chk (x == 0); pure 0
  | n + 1, x => do if ← D.br (x == n + 1) then pure (n + 1) else pick n x
def inB (i : Int) (n : Nat) : Bool := decide (0 ≤ i) && decide (i < (n : Int))
def eIndexAddr (t : TypeId) (x ix : EV) : M S EV :=
  match ix with
  | .int _ i => match P.underlying t with
    | some (.slice elem) => do
      let n ← M.lift (sizeE P elem)
      match x with
      | .isl _ esz len row => if esz ≠ n ∨ n = 0 then M.fail else do
          D.chk (inB i len)
          pure (.ip (row i.toNat) 0)
      | .ms r esz off len _ => if esz ≠ n then M.fail else do
          D.chk (inB i len)
          pure (.pe r esz (off + i.toNat) 0)
      | _ => M.fail
    | some (.array len elem) => do
      let n ← M.lift (sizeE P elem)
      D.chk (inB i len)
      let j ← pick D (len - 1) i.toNat
      match x with
      | .ip cells k => if k + j * n < cells.length then pure (.ip cells (k + j * n)) else M.fail
      | .ptr r k => pure (.ptr r (k + j * n))
      | .pe r esz i' k => pure (.pe r esz i' (k + j * n))
      | _ => M.fail
    | _ => M.fail
  | _ => M.fail
def eIndex (t : TypeId) (x ix : EV) : M S EV :=
  match ix with
  | .int _ i => match P.underlying t, x with
    | some (.array len elem), .agg cs => do
      let n ← M.lift (sizeE P elem)
      let g ← M.lift (aggE P elem)
      D.chk (inB i len)
      let j ← pick D (len - 1) i.toNat
      M.lift (takeCells cs (j * n) n g)
    | some .string, .str s => do
      D.chk (inB i s.size)
      pure (.int .u8 (s.data.getD i.toNat 0).toNat)
    | _, _ => M.fail
  | _ => M.fail
def inR (k : IntKind) (n : Int) : Bool := decide (k.min ≤ n) && decide (n ≤ k.max)
def eWrap (k : IntKind) (n : Int) : M S EV := do
  if ← D.nw (inR k n) then pure (.int k n) else pure (.int k (k.wrap n))
def eBin (op : BinOp) (x y : EV) : M S EV :=
  match x, y with
  | .int k a, .int k' b =>
    match op with
    | .shl => do
      D.chk (decide (0 ≤ b))
      eWrap D k (a * 2 ^ (min b.toNat k.bits))
    | .shr => do
      D.chk (decide (0 ≤ b))
      pure (.int k (a.fdiv (2 ^ (min b.toNat k.bits))))
    | _ => if k ≠ k' then M.fail else
      match op with
      | .add => eWrap D k (a + b)
      | .sub => eWrap D k (a - b)
      | .mul => eWrap D k (a * b)
      | .quo => do
        D.chk (b != 0)
        eWrap D k (a.tdiv b)
      | .rem => do
        D.chk (b != 0)
        pure (.int k (a.tmod b))
      | .and => pure (.int k (k.wrap (BitVec.ofInt k.bits a &&& BitVec.ofInt k.bits b).toNat))
      | .or => pure (.int k (k.wrap (BitVec.ofInt k.bits a ||| BitVec.ofInt k.bits b).toNat))
      | .xor => pure (.int k (k.wrap (BitVec.ofInt k.bits a ^^^ BitVec.ofInt k.bits b).toNat))
      | .andNot => pure (.int k (k.wrap (BitVec.ofInt k.bits a &&& ~~~ (BitVec.ofInt k.bits b)).toNat))
      | .eql => pure (.bool (a == b))
      | .neq => pure (.bool (a != b))
      | .lss => pure (.bool (a < b))
      | .leq => pure (.bool (a ≤ b))
      | .gtr => pure (.bool (a > b))
      | .geq => pure (.bool (a ≥ b))
      | _ => M.fail
  | .str a, .str b =>
    match op with
    | .add => do
      D.chk (decide (a.size + b.size < 2 ^ 63))
      pure (.str (a ++ b))
    | .eql => pure (.bool (a.data.toList == b.data.toList))
    | .neq => pure (.bool (!(a.data.toList == b.data.toList)))
    | .lss => pure (.bool (Op.bytesLess a.data.toList b.data.toList))
    | .leq => pure (.bool (Op.bytesLess a.data.toList b.data.toList || a.data.toList == b.data.toList))
    | .gtr => pure (.bool (!(Op.bytesLess a.data.toList b.data.toList || a.data.toList == b.data.toList)))
    | .geq => pure (.bool (!(Op.bytesLess a.data.toList b.data.toList)))
    | _ => M.fail
  | _, _ => M.fail
def eqF (P : Program) (eq : TypeId → EV → EV → Option Bool) : List Field → List EV → List EV → Option Bool
  | [], _, _ => some true
  | f :: fs, xs, ys =>
    if f.name = "_" then eqF P eq fs xs ys else
    match sizeE P f.type, aggE P f.type with
    | some n, some g => match takeCells xs f.offset n g, takeCells ys f.offset n g with
      | some x, some y => match eq f.type x y, eqF P eq fs xs ys with
        | some a, some b => some (a && b)
        | _, _ => none
      | _, _ => none
    | _, _ => none
def eqA (P : Program) (eq : TypeId → EV → EV → Option Bool) (elem : TypeId) : Nat → Nat → List EV → List EV → Option Bool
  | 0, _, _, _ => some true
  | m + 1, i, xs, ys =>
    match sizeE P elem, aggE P elem with
    | some n, some g => match takeCells xs (i * n) n g, takeCells ys (i * n) n g with
      | some x, some y => match eq elem x y, eqA P eq elem m (i + 1) xs ys with
        | some a, some b => some (a && b)
        | _, _ => none
      | _, _ => none
    | _, _ => none
def eqE (P : Program) : (depth : Nat) → TypeId → EV → EV → Option Bool
  | 0, _, _, _ => none
  | d + 1, t, x, y =>
    match P.underlying t, x, y with
    | some .bool, .bool a, .bool b => some (a == b)
    | some (.int _), .int k a, .int k' b => if k = k' then some (a == b) else none
    | some .string, .str a, .str b => some (a == b)
    | some (.pointer _), .nilp, .nilp => some true
    | some (.pointer _), .nilp, .ip _ _ | some (.pointer _), .ip _ _, .nilp => some false
    | some (.pointer _), .nilp, .ptr _ _ | some (.pointer _), .ptr _ _, .nilp => some false
    | some (.pointer _), .nilp, .pe .. | some (.pointer _), .pe .., .nilp => some false
    | some (.slice _), .isl nn _ _ _, .isl false _ _ _ => some (!nn)
    | some (.slice _), .isl false _ _ _, .isl true _ _ _ => some false
    | some (.slice _), .isl false _ _ _, .ms .. | some (.slice _), .ms .., .isl false _ _ _ => some false
    | some (.map _ _), .nilm, .nilm => some true
    | some (.map _ _), .nilm, .mm _ | some (.map _ _), .mm _, .nilm | some (.map _ _), .nilm, .im _ | some (.map _ _), .im _, .nilm => some false
    | some (.func _ _ _), .nilf, .nilf => some true
    | some (.func _ _ _), .nilf, .func .. | some (.func _ _ _), .func .., .nilf => some false
    | some (.interface _), .nili, .iface _ _ | some (.interface _), .iface _ _, .nili => some false
    | some (.struct fields), .agg xs, .agg ys => if P.stoodInHeld t then none else eqF P (eqE P d) fields.toList xs ys
    | some (.array len elem), .agg xs, .agg ys => if (sizeE P elem).isSome then eqA P (eqE P d) elem len 0 xs ys else none
    | _, _, _ => none
def eEq (op : BinOp) (t : TypeId) (x y : EV) : M S EV := do
  let b ← M.lift (eqE P 40 t x y)
  match op, x with
  | .eql, .agg _ => if P.eqGuardType P.depth t then M.fail else pure (.bool b)
  | .neq, .agg _ => if P.eqGuardType P.depth t then M.fail else pure (.bool (!b))
  | .eql, _ => pure (.bool b)
  | .neq, _ => pure (.bool (!b))
  | _, _ => M.fail
def eUn (op : UnOp) (x : EV) : M S EV :=
  match op, x with
  | .neg, .int k n => eWrap D k (0 - n)
  | .xor, .int k n => pure (.int k (k.wrap (BitVec.ofInt k.bits (if k.signed then -1 else k.max) ^^^ BitVec.ofInt k.bits n).toNat))
  | .not, .bool b => pure (.bool !b)
  | _, _ => M.fail
def fillE (places : Nat → Option (Nat × Nat)) (cells : List EV) : List (Nat × EV) → Option (List EV)
  | [] => some cells
  | (i, v) :: rest => match places i with
    | none => none
    | some (off, size) => match v.cells with
      | some vs => if vs.length ≠ size then none else match putCells cells off vs with
        | some cells' => fillE places cells' rest
        | none => none
      | none => none
def structPlaces (P : Program) (fields : Array Field) : Option (List (Nat × Nat)) :=
  fields.toList.mapM fun f => (P.info? f.type).map fun i => (f.offset, i.size)
def eBuild (t : TypeId) (parts : List (Nat × EV)) : M S EV := do
  let z ← M.lift (zeroE P t)
  match P.underlying t with
  | some (.struct fields) => do
    let places ← M.lift (structPlaces P fields)
    let cs ← M.lift (fillE (fun i => places[i]?) z parts)
    pure (.agg cs)
  | some (.array _ elem) => do
    let n ← M.lift (sizeE P elem)
    let cs ← M.lift (fillE (fun i => some (i * n, n)) z parts)
    pure (.agg cs)
  | _ => M.fail
def setE : List (List EV) → List (Nat × EV) → Nat → Option (List (List EV))
  | rows, [], _ => some rows
  | rows, (i, v) :: rest, n => match v.cells with
    | some vs => if vs.length = n ∧ i < rows.length then setE (rows.set i vs) rest n else none
    | none => none
def allRows (rows : List (List EV)) : Bool := rows.all allPlain
def eBuildSlice (nm : Nat) (t : TypeId) (len : Nat) (parts : List (Nat × EV)) : M S (EV × Upd) :=
  match P.underlying t with
  | some (.slice elem) => do
    let n ← M.lift (sizeE P elem)
    let z ← M.lift (zeroE P elem)
    if n = 0 ∨ z.length ≠ n ∨ len * n > 2 ^ 24 then M.fail else
    let rows ← M.lift (setE (List.replicate len z) parts n)
    pure (.ms nm n 0 len (some len), [(nm, .arr false (allRows rows) n true len fun i => rows.getD i [])])
  | _ => M.fail
def byteArr (P : Program) (t : TypeId) : Bool :=
  match P.underlying t with
  | some (.array _ e) => match P.underlying e with
    | some (.int .u8) => true
    | _ => false
  | _ => false
def eAlloc (nm : Nat) (t : TypeId) : M S (EV × Upd) := do
  let z ← M.lift (zeroE P t)
  if byteArr P t && Nat.ble 1 z.length then pure (.pe nm 1 0 0, [(nm, .arr false (allPlain z) 1 true z.length fun i => [z.getD i .undef])])
  else pure (.ptr nm 0, [(nm, .var false (allPlain z) z)])
def eBox (nm : Nat) (v : EV) : M S (EV × Upd) := do
  let vs ← M.lift v.cells
  pure (.ptr nm 0, [(nm, .var false (allPlain vs) vs)])
def rowsOf (look : Look) : EV → Option (Nat × Nat × (Nat → List EV) × Bool)
  | .isl _ esz len row => some (esz, len, row, true)
  | .ms r esz off len _ => match look r with
    | some (.arr _ pf esz' _ _ row) => if esz = esz' then some (esz, len, (fun i => row (off + i)), pf) else none
    | _ => none
  | .str s => some (1, s.size, (fun i => [.int .u8 (s.data.getD i 0).toNat]), true)
  | _ => none
def catRow (len : Nat) (row row' : Nat → List EV) : Nat → List EV := fun i => if i < len then row i else row' (i - len)
def midRow (off len : Nat) (row row' : Nat → List EV) : Nat → List EV := fun i => if i < off then row i else if i < off + len then row' (i - off) else row i
def eAppend (look : Look) (nm : Nat) (t : TypeId) (s x : EV) : M S (EV × Upd) :=
  match P.underlying t with
  | some (.slice elem) => do
    let n ← M.lift (sizeE P elem)
    let z ← M.lift (zeroE P elem)
    if n = 0 ∨ z.length ≠ n then M.fail else
    let (esz, m, xrow, xpf) ← M.lift (rowsOf look x)
    if esz ≠ n ∧ m ≠ 0 then M.fail else
    match s with
    | .isl false _ 0 _ => do
      D.chk (decide (m * ((P.info? elem).map (·.bytes)).getD 0 ≤ 2 ^ 46) && decide (m < 2 ^ 62))
      if ← D.br (decide (m = 0)) then pure (.isl false n 0 (fun _ => []), []) else
      pure (.ms nm n 0 m none, [(nm, .arr false xpf n false m xrow)])
    | .ms r esz off len cap => match look r with
      | some (.arr false pf esz' ex olen row) =>
        if esz ≠ n ∨ esz' ≠ n then M.fail else do
        D.chk (decide ((len + m) * ((P.info? elem).map (·.bytes)).getD 0 ≤ 2 ^ 46) && decide (len + m < 2 ^ 62))
        match cap with
        | some c => do
          if ← D.br (decide (len + m ≤ c)) then
            pure (.ms r n off (len + m) (some c), [(r, .arr false (pf && xpf) n ex olen (midRow (off + len) m row xrow))])
          else
            pure (.ms nm n 0 (len + m) none, [(nm, .arr false (pf && xpf) n false (len + m) (catRow len (fun i => row (off + i)) xrow))])
        | none =>
          pure (.ms nm n 0 (len + m) none, [(nm, .arr false (pf && xpf) n false (len + m) (catRow len (fun i => row (off + i)) xrow)), (r, .dead)])
      | _ => M.fail
    | _ => M.fail
  | _ => M.fail
def eMakeSlice (nm : Nat) (t : TypeId) (l c : EV) : M S (EV × Upd) :=
  match P.underlying t, l, c with
  | some (.slice elem), .int _ l, .int _ c => do
    let n ← M.lift (sizeE P elem)
    let z ← M.lift (zeroE P elem)
    if n = 0 ∨ z.length ≠ n then M.fail else do
    D.chk (decide (0 ≤ l) && decide (l ≤ c) && decide (c * ((P.info? elem).map (·.bytes)).getD 0 ≤ 2 ^ 46) && decide (c < 2 ^ 62))
    pure (.ms nm n 0 l.toNat (some c.toNat), [(nm, .arr false (allPlain z) n true c.toNat fun _ => z)])
  | _, _, _ => M.fail
def boundOf (x : Option EV) (dflt : Nat) : Option Int :=
  match x with
  | none => some dflt
  | some (.int _ i) => some i
  | _ => none
def eSlice (look : Look) (t : TypeId) (x : EV) (lo hi mx : Option EV) : M S EV :=
  match P.underlying t, x with
  | some .string, .str s => do
    if mx.isSome then M.fail else
    let h ← M.lift (boundOf hi s.size)
    let l ← M.lift (boundOf lo 0)
    D.chk (decide (0 ≤ l) && decide (l ≤ h) && decide (h ≤ s.size))
    pure (.str (s.extract l.toNat h.toNat))
  | some (.slice elem), .isl nn esz len row => do
    let n ← M.lift (sizeE P elem)
    let h ← M.lift (boundOf hi len)
    let l ← M.lift (boundOf lo 0)
    let m ← M.lift (boundOf mx len)
    if (nn = true ∧ esz ≠ n) ∨ (mx.isSome = true ∧ hi.isNone = true) then M.fail else do
    D.chk (decide (0 ≤ l) && decide (l ≤ h) && decide (h ≤ m) && decide (m ≤ len))
    pure (.isl nn esz (h.toNat - l.toNat) fun i => row (l.toNat + i))
  | some (.slice elem), .ms r esz off len cap => do
    let n ← M.lift (sizeE P elem)
    let h ← M.lift (boundOf hi len)
    let l ← M.lift (boundOf lo 0)
    if esz ≠ n ∨ (mx.isSome = true ∧ hi.isNone = true) then M.fail else
    match mx, cap with
    | none, some c => do
      D.chk (decide (0 ≤ l) && decide (l ≤ h) && decide (h ≤ c))
      pure (.ms r esz (off + l.toNat) (h.toNat - l.toNat) (some (c - l.toNat)))
    | none, none => do
      D.chk (decide (0 ≤ l) && decide (l ≤ h) && decide (h ≤ len))
      pure (.ms r esz (off + l.toNat) (h.toNat - l.toNat) none)
    | some m, _ => do
      let m ← M.lift (boundOf (some m) 0)
      D.chk (decide (0 ≤ l) && decide (l ≤ h) && decide (h ≤ m) && decide (m ≤ len))
      pure (.ms r esz (off + l.toNat) (h.toNat - l.toNat) (some (m.toNat - l.toNat)))
  | some (.array cnt elem), .pe r esz 0 0 => do
    let n ← M.lift (sizeE P elem)
    let h ← M.lift (boundOf hi cnt)
    let l ← M.lift (boundOf lo 0)
    if mx.isSome ∨ esz ≠ n then M.fail else
    match look r with
    | some (.arr _ _ _ _ len _) => if len ≠ cnt then M.fail else do
      D.chk (decide (0 ≤ l) && decide (l ≤ h) && decide (h ≤ cnt))
      pure (.ms r esz (0 + l.toNat) (h.toNat - l.toNat) (some (cnt - l.toNat)))
    | _ => M.fail
  | some (.array cnt elem), .ip cells k => do
    let n ← M.lift (sizeE P elem)
    let h ← M.lift (boundOf hi cnt)
    let l ← M.lift (boundOf lo 0)
    if mx.isSome ∨ n = 0 ∨ k + cnt * n > cells.length then M.fail else do
    D.chk (decide (0 ≤ l) && decide (l ≤ h) && decide (h ≤ cnt))
    pure (.isl true n (h.toNat - l.toNat) fun i => (cells.drop (k + (l.toNat + i) * n)).take n)
  | _, _ => M.fail
def findE (kt : TypeId) (k : EV) : List (EV × EV) → Nat → M S (Option (Nat × EV))
  | [], _ => pure none
  | e :: es, i => do
    let b ← M.lift (eqE P 40 kt k e.1)
    if ← D.br b then pure (some (i, e.2)) else findE kt k es (i + 1)
def eFind (kt : TypeId) (k : EV) (es : List (EV × EV)) : M S (Option (Nat × EV)) := do
  match ← D.find kt k es with
  | some r => pure r
  | none => findE D P kt k es 0
def keyOk (P : Program) : Nat → TypeId → EV → Bool
  | 0, _, _ => false
  | d + 1, t, v =>
    match P.underlying t, v with
    | some (.int _), .int _ _ => true
    | some .string, .str _ => true
    | some .bool, .bool _ => true
    | some (.struct fields), .agg cs => fields.toList.all fun f => match sizeE P f.type, aggE P f.type with
      | some n, some g => match takeCells cs f.offset n g with
        | some x => keyOk P d f.type x
        | none => false
      | _, _ => false
    | some (.array len elem), .agg cs => match sizeE P elem, aggE P elem with
      | some n, some g => (List.range' 0 len).all fun i => match takeCells cs (i * n) n g with
        | some x => keyOk P d elem x
        | none => false
      | _, _ => false
    | _, _ => false
def entriesOf (look : Look) : EV → Option (List (EV × EV))
  | .nilm => some []
  | .im es => some es
  | .mm r => match look r with
    | some (.map _ _ es) => some es
    | _ => none
  | _ => none
def valOf (zv : EV) : Option (Nat × EV) → EV
  | some (_, v) => v
  | none => zv
def eLookup (look : Look) (t : TypeId) (m k : EV) (ok : Bool) : M S EV :=
  match P.underlying t with
  | some (.map kt et) => do
    let es ← M.lift (entriesOf look m)
    let zv ← M.lift (zeroV P et)
    if keyOk P 3 kt k then do
      let r ← eFind D P kt k es
      pure (if ok then .tuple [valOf zv r, .bool r.isSome] else valOf zv r)
    else M.fail
  | _ => M.fail
def sameE : EV → EV → Bool
  | .int j a, .int k b => decide (j = k) && a == b
  | .str a, .str b => a == b
  | .bool a, .bool b => a == b
  | .agg as, .agg bs => go as bs
  | _, _ => false
where
  go : List EV → List EV → Bool
    | [], [] => true
    | .int j a :: xs, .int k b :: ys => decide (j = k) && a == b && go xs ys
    | .str a :: xs, .str b :: ys => a == b && go xs ys
    | .bool a :: xs, .bool b :: ys => a == b && go xs ys
    | _, _ => false
def eMapUpdate (look : Look) (t : TypeId) (m k v : EV) : M S Upd :=
  match P.underlying t, m with
  | some (.map kt _), .mm r => match look r with
    | some (.map false pf es) =>
      if keyOk P 3 kt k && k.plain then do
        match ← eFind D P kt k es with
        | some (i, _) => match es[i]? with
          | some e => do
            D.chk (sameE e.1 k)
            pure [(r, .map false (pf && v.plain) (es.set i (k, v)))]
          | none => M.fail
        | none => pure [(r, .map false (pf && v.plain) (es ++ [(k, v)]))]
      else M.fail
    | _ => M.fail
  | _, _ => M.fail
def eConvert (look : Look) (nm : Nat) (src dst : TypeId) (x : EV) : M S (EV × Upd) :=
  match P.underlying src, P.underlying dst, x with
  | some _, some (.int k), .int _ n => do
    let v ← eWrap D k n
    pure (v, [])
  | some _, some .string, .str s => pure (.str s, [])
  | some .string, some (.slice e), .str s =>
    match P.underlying e with
    | some (.int .u8) => do
      let n ← M.lift (sizeE P e)
      if n = 1 then
        pure (.ms nm 1 0 s.size none, [(nm, .arr false true 1 false s.size fun i => [.int .u8 (s.data.getD i 0).toNat])])
      else M.fail
    | _ => M.fail
  | some (.slice e), some .string, x =>
    match P.underlying e with
    | some (.int .u8) => do
      let (esz, m, row, _) ← M.lift (rowsOf look x)
      if esz ≠ 1 ∧ m ≠ 0 then M.fail else do
      D.chk ((List.range m).all fun i => match row i with | [.int .u8 _] => true | _ => false)
      pure (.str ⟨((List.range m).map fun i => match row i with | [.int .u8 n] => UInt8.ofNat n.toNat | _ => 0).toArray⟩, [])
    | _ => M.fail
  | some (.slice _), some (.slice e), .ms r esz off len cap =>
    match P.underlying e with
    | some (.int .u8) => if (src == dst && Nat.ble 1 len) = true then
        match look r with
        | some (.arr false pf esz' true olen row) => pure (.ms r esz off len cap, [(r, .arr false pf esz' false olen row)])
        | _ => M.fail
      else M.fail
    | _ => M.fail
  | _, _, _ => M.fail
def eAssert (x : EV) (asserted : TypeId) (ok : Bool) : M S EV :=
  match P.underlying asserted, x with
  | some (.interface _), _ => M.fail
  | some _, .iface t v =>
    if t = asserted then pure (if ok then .tuple [v, .bool true] else v)
    else if ok then do
      let zv ← M.lift (zeroV P asserted)
      pure (.tuple [zv, .bool false])
    else M.fail
  | some _, .nili =>
    if ok then do
      let zv ← M.lift (zeroV P asserted)
      pure (.tuple [zv, .bool false])
    else M.fail
  | _, _ => M.fail
def eLen (look : Look) (t : TypeId) (x : EV) : M S EV :=
  match P.underlying t, x with
  | some .string, .str s => pure (.int .i64 s.size)
  | some (.array n _), _ => pure (.int .i64 n)
  | some (.slice _), .isl _ _ len _ => pure (.int .i64 len)
  | some (.slice _), .ms _ _ _ len _ => pure (.int .i64 len)
  | some (.map _ _), _ => do
    let es ← M.lift (entriesOf look x)
    pure (.int .i64 es.length)
  | _, _ => M.fail
def minE : EV → EV → Option EV
  | .int k x, .int _ y => some (.int k (if y < x then y else x))
  | _, _ => none
def maxE : EV → EV → Option EV
  | .int k x, .int _ y => some (.int k (if y > x then y else x))
  | _, _ => none
def foldE (f : EV → EV → Option EV) : EV → List EV → Option EV
  | x, [] => some x
  | x, y :: ys => match f x y with
    | some z => foldE f z ys
    | none => none
def frozenOf : EObj → EObj
  | .var _ pf c => .var true pf c
  | .arr _ pf esz ex len row => .arr true pf esz ex len row
  | .map _ pf es => .map true pf es
  | .loop .. => .dead
  | .dfr => .dead
  | o => o
def EObj.frz : EObj → Bool
  | .var .. | .arr .. | .map .. => true
  | _ => false
def purifyL (pv : EV → Option (EV × List Nat)) : List EV → Option (List EV × List Nat)
  | [] => some ([], [])
  | x :: xs => match pv x, purifyL pv xs with
    | some (x, l), some (xs, l') => some (x :: xs, l ++ l')
    | _, _ => none
def purifyR (pv : EV → Option (EV × List Nat)) (row : Nat → List EV) : Nat → Nat → Option (List (List EV) × List Nat)
  | _, 0 => some ([], [])
  | i, n + 1 => match purifyL pv (row i), purifyR pv row (i + 1) n with
    | some (c, l), some (cs, l') => some (c :: cs, l ++ l')
    | _, _ => none
def purifyM (pv : EV → Option (EV × List Nat)) : List (EV × EV) → Option (List (EV × EV) × List Nat)
  | [] => some ([], [])
  | x :: xs => match pv x.2, purifyM pv xs with
    | some (y, l), some (xs, l') => some ((x.1, y) :: xs, l ++ l')
    | _, _ => none
def purifyN (look : Look) : Nat → EV → Option (EV × List Nat)
  | 0, _ => none
  | n + 1, v =>
    match v with
    | .ptr r k => match look r with
      | some (.var _ true cells) => if k < cells.length then some (.ip cells k, [r]) else none
      | some (.var _ false cells) => if k < cells.length then (purifyL (purifyN look n) cells).map fun q => (.ip q.1 k, r :: q.2) else none
      | _ => none
    | .pe r esz i k => match look r with
      | some (.arr _ true esz' _ _ row) => if esz = esz' ∧ k < (row i).length then some (.ip (row i) k, [r]) else none
      | some (.arr _ false esz' _ _ row) => if esz = esz' ∧ k < (row i).length then (purifyL (purifyN look n) (row i)).map fun q => (.ip q.1 k, r :: q.2) else none
      | _ => none
    | .ms r esz off len _ => match look r with
      | some (.arr _ true esz' _ _ row) => if esz = esz' then some (.isl true esz len (fun i => row (off + i)), [r]) else none
      | some (.arr _ false esz' _ _ row) => if esz = esz' then (purifyR (purifyN look n) row off len).map fun q => (.isl true esz len (fun i => q.1.getD i []), r :: q.2) else none
      | _ => none
    | .mm r => match look r with
      | some (.map _ true es) => some (.im es, [r])
      | some (.map _ false es) => (purifyM (purifyN look n) es).map fun q => (.im q.1, r :: q.2)
      | _ => none
    | .it _ => none
    | .agg cs => (purifyL (purifyN look n) cs).map fun q => (.agg q.1, q.2)
    | .tuple cs => (purifyL (purifyN look n) cs).map fun q => (.tuple q.1, q.2)
    | .func fn a b => match purifyL (purifyN look n) a, purifyL (purifyN look n) b with
      | some (a, l), some (b, l') => some (.func fn a b, l ++ l')
      | _, _ => none
    | .iface t v => (purifyN look n v).map fun q => (.iface t q.1, q.2)
    | v => some (v, [])
def purify (look : Look) (v : EV) : Option (EV × List Nat) := purifyN look 30 v
def purifyArgs (look : Look) (vs : List EV) : Option (List EV × List Nat) := purifyL (purifyN look 30) vs
def freezeAll (look : Look) : List Nat → Option Upd
  | [] => some []
  | r :: rs => match look r, freezeAll look rs with
    | some o, some u => if o.frz then (if o.live then some ((r, frozenOf o) :: u) else some u) else none
    | _, _ => none
def EV.ren (ρ : Nat → Nat) : EV → EV
  | .ptr r k => .ptr (ρ r) k
  | .pe r esz i k => .pe (ρ r) esz i k
  | .ms r esz off len cap => .ms (ρ r) esz off len cap
  | .mm r => .mm (ρ r)
  | .it r => .it (ρ r)
  | .agg cs => .agg (go cs)
  | .tuple cs => .tuple (go cs)
  | .func fn a b => .func fn (go a) (go b)
  | .iface t v => .iface t (v.ren ρ)
  | v => v
where
  go : List EV → List EV
    | [] => []
    | x :: xs => x.ren ρ :: go xs
def EObj.ren (ρ : Nat → Nat) : EObj → EObj
  | .var fr pf cells => .var fr pf (cells.map (EV.ren ρ))
  | .arr fr pf esz ex len row => .arr fr pf esz ex len (bif pf then row else fun i => (row i).map (EV.ren ρ))
  | .map fr pf es => .map fr pf (es.map fun e => (e.1, e.2.ren ρ))
  | o => o
def EV.refs : EV → List Nat
  | .ptr r _ | .pe r _ _ _ | .ms r _ _ _ _ | .mm r | .it r => [r]
  | .agg cs => go cs
  | .tuple cs => go cs
  | .func _ a b => go a ++ go b
  | .iface _ v => v.refs
  | _ => []
where
  go : List EV → List Nat
    | [] => []
    | x :: xs => x.refs ++ go xs
def EObj.refs : EObj → List Nat
  | .var _ false cells => cells.flatMap EV.refs
  | .arr _ false _ _ len row => (List.range len).flatMap fun i => (row i).flatMap EV.refs
  | .map _ false es => es.flatMap fun e => e.2.refs
  | _ => []
def closeL (look : Look) : Nat → List Nat → List Nat → List Nat
  | 0, _, seen => seen
  | _ + 1, [], seen => seen
  | n + 1, r :: todo, seen => if seen.contains r then closeL look n todo seen else
    match look r with
    | some o => closeL look n (o.refs ++ todo) (seen ++ [r])
    | none => closeL look n todo (seen ++ [r])
def uniq : List Nat → List Nat
  | [] => []
  | x :: xs => if (uniq xs).contains x then uniq xs else x :: uniq xs
def frameIn (look : Look) (L : List Nat) : List Nat → Option Heap
  | [] => some []
  | r :: rs => match look r with
    | some o => if o.frz && o.refs.all (L.contains ·) then (frameIn look L rs).map (o.ren (L.idxOf ·) :: ·) else none
    | none => none
def frameOut (look : Look) (σ : Heap) (ok : Nat → Bool) (ρ : Nat → Nat) : Nat → List Nat → Option Upd
  | _, [] => some []
  | i, r :: rs => match look r, σ[i]? with
    | some o, some o' => if o.live then
        (match o' with
          | .dead => (frameOut look σ ok ρ (i + 1) rs).map ((r, .dead) :: ·)
          | o' => if o'.frz && o'.refs.all ok then (frameOut look σ ok ρ (i + 1) rs).map ((r, o'.ren ρ) :: ·) else none)
      else frameOut look σ ok ρ (i + 1) rs
    | _, _ => none
def fragOf (σ : Heap) (ok : Nat → Bool) (ρ : Nat → Nat) : Nat → List Nat → Option Upd
  | _, [] => some []
  | nm, r :: rs => match σ[r]? with
    | some o => if o.frz && o.refs.all ok then (fragOf σ ok ρ (nm + 1) rs).map ((nm, o.ren ρ) :: ·) else none
    | none => none
def backName (L keep : List Nat) (nm r : Nat) : Nat := if r < L.length then L.getD r 0 else nm + keep.idxOf r
def oldRefs (σ : Heap) : Nat → Nat → List Nat
  | _, 0 => []
  | i, n + 1 => (match σ[i]? with | some o => o.refs | none => []) ++ oldRefs σ (i + 1) n
def eFrame (look : Look) (nm k : Nat) (g : FuncId) (args : List EV) : M S (EV × Upd) := do
  let L := uniq (closeL look 1000 (EV.refs.go args) [])
  if (EV.refs.go args).all (L.contains ·) then do
    let σl ← M.lift (frameIn look L L)
    let (v, σ') ← D.gcall g (EV.ren.go (L.idxOf ·) args) σl
    let keep := (uniq (closeL (fun r => σ'[r]?) 1000 (v.refs ++ oldRefs σ' 0 L.length) [])).filter fun r => decide (L.length ≤ r)
    let ok : Nat → Bool := fun r => decide (r < L.length) || keep.contains r
    if keep.length ≤ k ∧ v.refs.all ok = true then do
      let u1 ← M.lift (frameOut look σ' ok (backName L keep nm) 0 L)
      let u2 ← M.lift (fragOf σ' ok (backName L keep nm) nm keep)
      pure (v.ren (backName L keep nm), u1 ++ u2)
    else M.fail
  else M.fail
def eEnter (look : Look) (nm k : Nat) (σ : Option Heap) (g : FuncId) (args : List EV) : M S (EV × Eff) := do
  if σ.isNone || (← D.mode g) then do
    if ← D.fresh g then do
      let (v, u) ← eFrame D look nm k g args
      pure (v, .upd u)
    else do
      let (pargs, rs) ← M.lift (purifyArgs look args)
      let u ← M.lift (freezeAll look rs)
      let v ← D.pcall g pargs
      pure (v, .upd u)
  else match σ with
    | some σ => do
      let (v, σ') ← D.gcall g args σ
      pure (v, .heap σ')
    | none => M.fail
def roundTmps (tmps : List EV) : List Tmp → List EV → List EV
  | p :: ps, v :: vs => roundTmps (tmps.set p v) ps vs
  | _, _ => tmps
def EX.jump : EX → Option Code
  | .normal => none
  | .leave id => some (.exit id)
  | .ret => some .ret
def EX.ofJump : Option Code → Option EX
  | none => some .normal
  | some (.exit id) => some (.leave id)
  | some .ret => some .ret
  | _ => none
theorem EX.ofJump_ok {p : Option Code} {ex : EX} (h : EX.ofJump p = some ex) : ex.jump = p := by
  unfold EX.ofJump at h
  split at h <;> first | (obtain rfl := Option.some.inj h; rfl) | cases h
def eRound (r : Nat) (args : List EV) (σ : Heap) : M S (EV × Heap) :=
  match σ[r]? with
  | some (.loop .ready tmps ps assign body _) =>
    if args.length = ps.size then do
      let r1 ← D.round assign (roundTmps tmps ps.toList args) σ
      match r1.1, r1.2.2[r]? with
      | .normal, some (.loop .ready tmps' ps' assign' body' pend') => do
        let r2 ← D.round body r1.2.1 (r1.2.2.set r (.loop .busy tmps' ps' assign' body' pend'))
        match r2.2.2[r]? with
        | some (.loop _ tmps'' ps'' assign'' body'' _) => match r2.1 with
          | .normal => pure (.bool true, r2.2.2.set r (.loop .ready tmps'' ps'' assign'' body'' none))
          | e => pure (.bool false, r2.2.2.set r (.loop .done tmps'' ps'' assign'' body'' e.jump))
        | _ => M.fail
      | _, _ => M.fail
    else M.fail
  | _ => M.fail
def eInvoke (look : Look) (nm k : Nat) (σ : Option Heap) (f : EV) (args : List EV) : M S (EV × Eff) :=
  match f with
  | .func (.func g) first captured => eEnter D look nm k σ g (first ++ args ++ captured)
  | .it r => match σ with
    | some σ => do
      let q ← eRound D r args σ
      pure (q.1, .heap q.2)
    | none => M.fail
  | _ => M.fail
def methodE (t : TypeId) (name : String) : Option FuncId :=
  match P.info? t, P.underlying t with
  | some _, some (.pointer _) => none
  | some i, some _ => match i.methods.find? (·.name == name) with
    | some m => if m.path.isEmpty then match m.func with
      | some (f, false) => some f
      | _ => none
      else none
    | none => none
  | _, _ => none
def eVirtual (look : Look) (nm k : Nat) (σ : Option Heap) (recv : EV) (name : String) (args : List EV) : M S (EV × Eff) :=
  match recv with
  | .iface t v => do
    let g ← M.lift (methodE P t name)
    eEnter D look nm k σ g ([v] ++ args)
  | _ => M.fail
def quiet (m : M S EV) : M S (EV × Eff) := do let v ← m; pure (v, .upd [])
def loud (m : M S Upd) : M S (EV × Eff) := do let u ← m; pure (.undef, .upd u)
def both (m : M S (EV × Upd)) : M S (EV × Eff) := do let (v, u) ← m; pure (v, .upd u)
def eBuiltin (look : Look) (nm : Nat) (b : Builtin) (ts : Array TypeId) (args : List EV) : M S (EV × Eff) :=
  match b, args with
  | .len, [x] => match ts[0]? with | some t => quiet (eLen P look t x) | none => M.fail
  | .append, [s, x] => match ts[0]?, ts[1]? with
    | some t, some t' => match P.underlying t' with
      | some (.int _) => M.fail
      | some _ => both (eAppend D P look nm t s x)
      | none => M.fail
    | _, _ => M.fail
  | .min, x :: xs => quiet (M.lift (foldE minE x xs))
  | .max, x :: xs => quiet (M.lift (foldE maxE x xs))
  | _, _ => M.fail
def eOp (ev : Operand → EV) (look : Look) (nm k : Nat) (σ : Option Heap) (o : Oper) : M S (EV × Eff) :=
  match o.op with
  | .move x | .assign x => quiet (pure (ev x))
  | .pick c a b => quiet (match ev c with
    | .bool t => do if ← D.br t then pure (ev a) else pure (ev b)
    | _ => M.fail)
  | .alloc t => both (eAlloc P nm t)
  | .box _ x => both (eBox nm (ev x))
  | .build t parts => quiet (eBuild P t (parts.toList.map fun (i, x) => (i, ev x)))
  | .buildSlice t len parts => both (eBuildSlice P nm t len (parts.toList.map fun (i, x) => (i, ev x)))
  | .load t a => quiet (eLoad P look t (ev a))
  | .store t a x => loud (eStore P look t (ev a) (ev x))
  | .nilCheck x => quiet (match ev x with
    | .ptr r k => pure (.ptr r k)
    | .pe r esz i k => pure (.pe r esz i k)
    | .ip c k => pure (.ip c k)
    | .func (.func f) a b => pure (.func (.func f) a b)
    | .iface t v => pure (.iface t v)
    | _ => M.fail)
  | .binOp op t x y _ => quiet (match ev x, ev y with
    | .int k a, .int k' b => eBin D op (.int k a) (.int k' b)
    | .str a, .str b => eBin D op (.str a) (.str b)
    | a, b => eEq P op t a b)
  | .unOp op _ x => quiet (eUn D op (ev x))
  | .convert src dst x => both (eConvert D P look nm src dst (ev x))
  | .makeInterface t x => quiet (match P.underlying t with
    | some (.interface _) => M.fail
    | some _ => pure (.iface t (ev x))
    | none => M.fail)
  | .makeFunc fn first captured => quiet (pure (.func fn (first.toList.map ev) (captured.toList.map ev)))
  | .makeMap _ none => both (pure (.mm nm, [(nm, .map false true [])]))
  | .makeSlice t l c => both (eMakeSlice D P nm t (ev l) (ev c))
  | .slice t x lo hi mx => quiet (eSlice D P look t (ev x) (lo.map ev) (hi.map ev) (mx.map ev))
  | .fieldAddr t x f => quiet (eField P t (ev x) f)
  | .field t x f => quiet (match P.underlying t, ev x with
    | some (.struct fields), .agg cs => match fields[f]? with
      | some fd => do
        let n ← M.lift (sizeE P fd.type)
        let g ← M.lift (aggE P fd.type)
        M.lift (takeCells cs fd.offset n g)
      | none => M.fail
    | _, _ => M.fail)
  | .indexAddr t x ix => quiet (eIndexAddr D P t (ev x) (ev ix))
  | .index t x ix => quiet (eIndex D P t (ev x) (ev ix))
  | .lookup t x ix ok => quiet (eLookup D P look t (ev x) (ev ix) ok)
  | .mapUpdate t m k x | .insert t m k x => loud (eMapUpdate D P look t (ev m) (ev k) (ev x))
  | .typeAssert x _ asserted ok => quiet (eAssert P (ev x) asserted ok)
  | .extract t ix => quiet (match ev t with
    | .tuple vs => M.lift vs[ix]?
    | _ => M.fail)
  | .call c => match c.callee with
    | .builtin b => eBuiltin D P look nm b c.argTypes (c.args.toList.map ev)
    | .value f => eInvoke D look nm k σ (ev f) (c.args.toList.map ev)
    | .invoke r name => eVirtual D P look nm k σ (ev r) name (c.args.toList.map ev)
  | _ => M.fail
end
def eOpK {S : Type} (D : Drv S) (P : Program) (ev : Operand → EV) (look : Look) (nm k : Nat) (σ : Option Heap) (o : Oper) : M S (EV × Eff) := do
  let q ← eOp D P ev look nm k σ o
  D.keep q
def evalE (G : Nat → Option (List EV)) (tmps : List EV) : Operand → EV
  | .tmp t => getT tmps t
  | .const v => if flat v then EV.ofValue v else .undef
  | .global g => match G g with | some c => .ip c 0 | none => .undef
  | .func f => .func (.func f) [] []
def putE (tmps : List EV) (dst : Option Tmp) (v : EV) : List EV :=
  match dst with
  | some d => setT tmps v d
  | none => tmps
def applyU (σ : Heap) : Upd → Heap
  | [] => σ
  | (r, o) :: us => applyU (σ.set r o) us
def Eff.on (e : Eff) (σ : Heap) : Heap :=
  match e with
  | .upd u => applyU σ u
  | .heap σ' => σ'
def makes : Op → Bool
  | .alloc _ | .box .. | .buildSlice .. | .makeMap .. | .makeSlice .. | .convert .. => true
  | .call { callee := .builtin .append, .. } => true
  | _ => false
def slots (k : Nat) (o : Op) : Nat :=
  if makes o then 1 else match o with
    | .call { callee := .builtin _, .. } => 0
    | .call _ => k
    | _ => 0
def readsOf (σ : Heap) (o : Oper) (base : List Nat) : List Nat :=
  match o.op with
  | .call { callee := .builtin _, .. } => base
  | .call _ => closeL (fun r => σ[r]?) 1000 base []
  | .load .. | .store .. | .lookup .. | .convert .. | .insert .. | .mapUpdate .. | .slice .. => base
  | _ => []
section
variable {S : Type} (D : Drv S) (P : Program) (G : Nat → Option (List EV))
def wantedE (ops : Array Oper) (tmps : List EV) (o : Oper) : M S Bool :=
  match o.guard with
  | none => pure true
  | some (j, want) => match ((ops[j]?).bind (·.dst)).map fun d => getT tmps d with
    | some (.bool b) => do
      let d ← D.br b
      pure (d == want)
    | some (.tuple []) => pure false
    | _ => M.fail
def isDefer : Op → Bool
  | .defer _ => true
  | _ => false
def freeAt (σ : Heap) (nm k : Nat) (o : Oper) : Bool :=
  !isDefer o.op && (List.range (slots k o.op)).all fun i => match σ[nm + i]? with | some .free => true | _ => false
def opsE (k : Nat) (ops : Array Oper) : List Oper → Nat → List EV → Heap → M S (List EV × Heap)
  | [], _, tmps, σ => pure (tmps, σ)
  | o :: rest, nm, tmps, σ => do
    if ← wantedE D ops tmps o then
      (if freeAt σ nm k o then do
        let (v, e) ← eOpK D P (evalE G tmps) (fun r => σ[r]?) nm k (some σ) o
        opsE k ops rest (nm + slots k o.op) (putE tmps o.dst v) (e.on σ)
      else M.fail)
    else opsE k ops rest (nm + slots k o.op) (putE tmps o.dst (.tuple [])) σ
def countSlots (k : Nat) : List Oper → Nat
  | [] => 0
  | o :: rest => slots k o.op + countSlots k rest
structure Rec where
  i : Nat
  run : Bool
  dst : Option Tmp
  looks : List Tmp
  reads : List Nat
  v : EV
  upd : Upd
def evalM (keep : List Tmp) (tmps : List EV) : Operand → EV
  | .tmp t => if keep.contains t then getT tmps t else .undef
  | x => evalE G tmps x
def lookM (reads : List Nat) (σ : Heap) : Look := fun r => if reads.contains r then σ[r]? else none
def drawOpsE (k : Nat) (ops : Array Oper) : List Oper → Nat → Nat → List EV → Heap → M S (List Rec)
  | [], _, _, _, _ => pure []
  | o :: rest, i, nm, tmps, σ => do
    if ← wantedE D ops tmps o then
      (if freeAt σ nm k o then do
        let reads := List.range' nm (slots k o.op) ++ readsOf σ o (o.op.operands.toList.flatMap fun x => (evalM G (o.looksAt ops) tmps x).refs)
        let (v, e) ← eOpK D P (evalM G (o.looksAt ops) tmps) (lookM reads σ) nm k none o
        match e with
        | .heap _ => M.fail
        | .upd u =>
          if u.all fun p => decide (p.1 < σ.length) then do
            let rs ← drawOpsE k ops rest (i + 1) (nm + slots k o.op) (putE tmps o.dst v) (applyU σ u)
            pure ({ i, run := true, dst := o.dst, looks := o.looksAt ops, reads, v, upd := u } :: rs)
          else M.fail
      else M.fail)
    else do
      let rs ← drawOpsE k ops rest (i + 1) (nm + slots k o.op) (putE tmps o.dst (.tuple [])) σ
      pure ({ i, run := false, dst := o.dst, looks := o.looksAt ops, reads := [], v := .tuple [], upd := [] } :: rs)
def Rec.clash (a b : Rec) : Bool :=
  (match a.dst with | some d => b.looks.contains d || b.dst == some d | none => false) ||
  (match b.dst with | some d => a.looks.contains d | none => false) ||
  (a.upd.any fun p => b.reads.contains p.1 || b.upd.any fun q => q.1 == p.1) ||
  (b.upd.any fun p => a.reads.contains p.1)
def edgesOk : List Oper → Nat → Bool
  | [], _ => true
  | o :: os, i => (o.after.toList.all fun e => !Region.binds .any e || decide (e.on < i)) && edgesOk os (i + 1)
def noClash (bf : Array Nat) (rs : List Rec) : Bool :=
  rs.all fun b => (bf.getD b.i 0) % 2 ^ b.i == 2 ^ b.i - 1 || rs.all fun a => !(decide (a.i < b.i) && !(bf.getD b.i 0).testBit a.i) || !a.clash b
def putR (tmps : List EV) (rs : List Rec) : List EV := rs.foldl (fun t r => putE t r.dst r.v) tmps
def applyR (σ : Heap) (rs : List Rec) : Heap := rs.foldl (fun s r => applyU s r.upd) σ
def callRefs (o : Oper) (tmps : List EV) (σ : Heap) : M S (List Nat) :=
  match o.op with
  | .call { callee := .builtin _, .. } => pure []
  | .call { callee := .value f, .. } => match evalE G tmps f with
    | .func (.func g) _ _ => do
      if ← D.fresh g then pure [] else pure (closeL (fun r => σ[r]?) 1000 (o.op.operands.toList.flatMap fun x => (evalE G tmps x).refs) [])
    | _ => pure (closeL (fun r => σ[r]?) 1000 (o.op.operands.toList.flatMap fun x => (evalE G tmps x).refs) [])
  | .call _ => pure (closeL (fun r => σ[r]?) 1000 (o.op.operands.toList.flatMap fun x => (evalE G tmps x).refs) [])
  | _ => pure []
def preVal (o : Oper) (tmps : List EV) (σ : Heap) : EV :=
  match o.op with
  | .move x | .assign x => evalE G tmps x
  | .load t a => match (eLoad P (fun r => σ[r]?) t (evalE G tmps a) : M Unit EV) () with | some (v, _) => v | none => .undef
  | .fieldAddr t x f => match (eField P t (evalE G tmps x) f : M Unit EV) () with | some (v, _) => v | none => .undef
  | _ => .undef
def preRefs : List Oper → List EV → Heap → M S (List Nat)
  | [], _, _ => pure []
  | o :: rest, tmps, σ => do
    let rs ← callRefs D G o tmps σ
    let rs' ← preRefs rest (putE tmps o.dst (preVal P G o tmps σ)) σ
    pure (rs ++ rs')
def liveAt (σ : Heap) (r : Nat) : Bool := match σ[r]? with | some o => o.live | none => false
def barrier (bf : Array Nat) (n k : Nat) : Bool :=
  (List.range k).all (fun i => (bf.getD k 0).testBit i) && (List.range n).all fun j => !decide (k < j) || (bf.getD j 0).testBit k
def isCall (o : Oper) : Bool :=
  match o.op with
  | .call { callee := .builtin _, .. } => false
  | .call _ => true
  | _ => false
def segOf (bf : Array Nat) (n : Nat) : List Oper → Nat → List Oper
  | [], _ => []
  | o :: os, i => if isCall o && barrier bf n i then [] else o :: segOf bf n os (i + 1)
def segsE (k : Nat) (ops : Array Oper) (bf : Array Nat) : Nat → List Oper → Nat → Nat → List EV → Heap → M S (List EV × Heap)
  | 0, _, _, _, _, _ => M.fail
  | f + 1, os, i, nm, tmps, σ => do
    let seg := segOf bf ops.size os i
    let pre ← preRefs D P G seg tmps σ
    let u ← M.lift (freezeAll (fun r => σ[r]?) (pre.filter (liveAt σ)))
    let rs ← drawOpsE D P G k ops seg i nm tmps (applyU σ u)
    if noClash bf rs then
      match os.drop seg.length with
      | [] => pure (putR tmps rs, applyR (applyU σ u) rs)
      | o :: rest =>
        if barrier bf ops.size (i + seg.length) then do
          if ← wantedE D ops (putR tmps rs) o then
            (if freeAt (applyR (applyU σ u) rs) (nm + countSlots k seg) k o then do
              let (v, e) ← eOpK D P (evalE G (putR tmps rs)) (fun r => (applyR (applyU σ u) rs)[r]?) (nm + countSlots k seg) k (some (applyR (applyU σ u) rs)) o
              segsE k ops bf f rest (i + seg.length + 1) (nm + countSlots k seg + slots k o.op) (putE (putR tmps rs) o.dst v) (e.on (applyR (applyU σ u) rs))
            else M.fail)
          else segsE k ops bf f rest (i + seg.length + 1) (nm + countSlots k seg + slots k o.op) (putE (putR tmps rs) o.dst (.tuple [])) (applyR (applyU σ u) rs)
        else M.fail
    else M.fail
def regionE (ops : Array Oper) (draw : Bool) (tmps : List EV) (σ : Heap) : M S (List EV × Heap) := do
  let k ← D.room draw
  if draw then
    if edgesOk ops.toList 0 then segsE D P G k ops (Region.before ops) (ops.size + 1) ops.toList 0 σ.length tmps (σ ++ List.replicate (countSlots k ops.toList) .free) else M.fail
  else opsE D P G k ops ops.toList σ.length tmps (σ ++ List.replicate (countSlots k ops.toList) .free)
def codeE (rnd : Bool) : Nat → Code → List EV → Heap → M S (EX × List EV × Heap)
  | 0, _, _, _ => M.fail
  | n + 1, c, tmps, σ => do
    match ← D.piece rnd c tmps σ with
    | some r => pure r
    | none =>
    match c with
    | .skip => pure (.normal, tmps, σ)
    | .region _ ops draw => do
      let r ← regionE D P G ops draw tmps σ
      pure (.normal, r.1, r.2)
    | .seq x y => do
      let r ← codeE rnd n x tmps σ
      match r.1 with
      | .normal => codeE rnd n y r.2.1 r.2.2
      | _ => pure r
    | .cond c x y => match evalE G tmps c with
      | .bool b => do
        if ← D.br b then codeE rnd n x tmps σ else codeE rnd n y tmps σ
      | _ => M.fail
    | .block id c => do
      let r ← codeE rnd n c tmps σ
      match r.1 with
      | .leave i => if i = id then pure (.normal, r.2.1, r.2.2) else pure r
      | _ => pure r
    | .exit id => pure (.leave id, tmps, σ)
    | .ret => pure (.ret, tmps, σ)
    | .loop c => do
      let r ← codeE rnd n c tmps σ
      match r.1 with
      | .normal => codeE rnd n (.loop c) r.2.1 r.2.2
      | _ => pure r
    | .rangeFunc g ps assign body =>
      if rnd then M.fail else
      match evalE G tmps g with
      | .func (.func f) first captured => do
        let r ← D.gcall f (first ++ [.it σ.length] ++ captured) ((σ ++ List.replicate 1 EObj.free).set σ.length (.loop .ready tmps ps assign body none))
        match r.2[σ.length]? with
        | some (.loop st t' ps' x' y' pend) =>
          if st = .busy then M.fail else
          match EX.ofJump pend with
          | some ex => pure (ex, tmps, r.2.set σ.length (.loop .exhausted t' ps' x' y' pend))
          | none => M.fail
        | _ => M.fail
      | _ => M.fail
    | _ => M.fail
def resultE (tmps : List EV) (σ : Heap) : ResultVar → Option EV
  | .tmp t => some (getT tmps t)
  | .cell a t => match sizeE P t, aggE P t, getT tmps a with
    | some n, some g, .ptr r k => match σ[r]? with
      | some (.var _ _ cells) => takeCells cells k n g
      | _ => none
    | _, _, _ => none
def resultsE (fn : Func) (tmps : List EV) (σ : Heap) : Option EV :=
  match fn.results.toList.mapM (resultE P tmps σ) with
  | some [v] => some v
  | some vs => some (.tuple vs)
  | none => none
def funE (fuel : Nat) (f : FuncId) (args : List EV) (σ : Heap) : M S (EV × Heap) :=
  match P.funcs[f]? with
  | some fn => match fn.body with
    | some c => do
      let r ← codeE D P G false fuel c (args ++ List.replicate (fn.ntmps - args.length) .undef) σ
      match r.1 with
      | .leave _ => M.fail
      | _ => do
        let v ← M.lift (resultsE P fn r.2.1 r.2.2)
        pure (v, r.2.2)
    | none => M.fail
  | none => M.fail
def pureE (fuel : Nat) (f : FuncId) (args : List EV) : M S EV := do
  let r ← funE D P G fuel f args []
  let p ← M.lift (purify (fun i => r.2[i]?) r.1)
  let _ ← M.lift (freezeAll (fun i => r.2[i]?) p.2)
  pure p.1
end
end
end Go.Ev
namespace Go.Ev
def Ok {S α : Type} (V : S → Prop) (m : M S α) (Φ : α → Prop) : Prop := ∀ s a s', m s = some (a, s') → V s' → V s ∧ Φ a
section
variable {S α β : Type} {V : S → Prop}
theorem Ok.pure {a : α} {Φ : α → Prop} (h : Φ a) : Ok V (Pure.pure a : M S α) Φ := by
  intro s b s' he hv
  have he' : some (a, s) = some (b, s') := he
  simp only [Option.some.injEq, Prod.mk.injEq] at he'
  obtain ⟨rfl, rfl⟩ := he'
  exact ⟨hv, h⟩
theorem Ok.bind {m : M S α} {f : α → M S β} {Φ : α → Prop} {Ψ : β → Prop} (hm : Ok V m Φ) (hf : ∀ a, Ok V (f a) fun b => Φ a → Ψ b) : Ok V (m >>= f) Ψ := by
  intro s b s'' he hv
  have he' : (match m s with | some (a, s') => f a s' | none => none) = some (b, s'') := he
  cases hms : m s with
  | none => rw [hms] at he'; simp at he'
  | some x =>
    obtain ⟨a, s'⟩ := x
    rw [hms] at he'
    obtain ⟨hv', hΨ⟩ := hf a s' b s'' he' hv
    obtain ⟨hv0, hΦ⟩ := hm s a s' hms hv'
    exact ⟨hv0, hΨ hΦ⟩
theorem Ok.fail {Φ : α → Prop} : Ok V (M.fail : M S α) Φ := fun s a s' he _ => by simp [M.fail] at he
theorem Ok.lift {x : Option α} {Φ : α → Prop} (h : ∀ a, x = some a → Φ a) : Ok V (M.lift x : M S α) Φ := by
  intro s b s' he hv
  cases x with
  | none => simp [M.lift] at he
  | some a =>
    simp only [M.lift, Option.some.injEq, Prod.mk.injEq] at he
    obtain ⟨rfl, rfl⟩ := he
    exact ⟨hv, h _ rfl⟩
theorem Ok.bind_lift {x : Option α} {f : α → M S β} {Ψ : β → Prop} (hf : ∀ a, x = some a → Ok V (f a) Ψ) : Ok V (M.lift x >>= f) Ψ := by
  intro s b s' he hv
  have he' : (match (M.lift x : M S α) s with | some (a, s') => f a s' | none => none) = some (b, s') := he
  cases hx : x with
  | none => rw [hx] at he'; simp [M.lift] at he'
  | some a => rw [hx] at he'; exact hf a hx s b s' he' hv
theorem Ok.mono {m : M S α} {Φ Ψ : α → Prop} (hm : Ok V m Φ) (h : ∀ a, Φ a → Ψ a) : Ok V m Ψ :=
  fun s a s' he hv => ⟨(hm s a s' he hv).1, h a (hm s a s' he hv).2⟩
theorem Ok.ite {c : Prop} [Decidable c] {x y : M S α} {Φ : α → Prop} (hx : c → Ok V x Φ) (hy : ¬ c → Ok V y Φ) : Ok V (if c then x else y) Φ := by
  split
  · exact hx ‹_›
  · exact hy ‹_›
end
def GOk (G : Nat → Option (List EV)) (F : Nat → Prop) (w : World) : Prop :=
  ∀ g cells, G g = some cells → F g ∧ cells ≠ [] ∧ ∃ mv : Nat → Value, ∀ j (h : j < cells.length), cellAt w g j = some (mv j) ∧ (mv j).oneCell' = true ∧ PR F w cells[j] (mv j)
def PRs (F : Nat → Prop) (w : World) (vs : List EV) (mvs : Array Value) : Prop :=
  vs.length = mvs.size ∧ ∀ i (h : i < vs.length) (h' : i < mvs.size), PR F w vs[i] mvs[i]
def findB (P : Program) (kt : TypeId) (k : EV) : List (EV × EV) → Nat → Option (Nat × EV) → Prop
  | [], _, r => r = none
  | e :: es, i, r => ∃ b, eqE P 40 kt k e.1 = some b ∧ (b = true → r = some (i, e.2)) ∧ (b = false → findB P kt k es (i + 1) r)
def PostP (F : Nat → Prop) (w : World) (v : EV) : Ending → World → Prop
  | .returned mv, w' => ∃ F' : Nat → Prop, (∀ b, F b → F' b) ∧ (∀ b, F' b → F b ∨ w.heap.size ≤ b) ∧ (∀ b, F' b → b < w'.heap.size) ∧
      (∀ b, b < w.heap.size → w'.heap[b]? = w.heap[b]?) ∧ w.heap.size ≤ w'.heap.size ∧ w'.os = w.os ∧ w'.tape = w.tape ∧ w'.output = w.output ∧ PR F' w' v mv
  | .outgrown, _ => False
  | .panicked _, _ => False
def Enters (P : Program) (f : FuncId) : Prop := ∃ fn, P.funcs[f]? = some fn ∧ fn.body.isSome = true ∧ (fn.name == "runtime.NumGoroutine") = false
def SemP (P : Program) (G : Nat → Option (List EV)) (f : FuncId) (args : List EV) (v : EV) : Prop :=
  Enters P f ∧ ∀ (F : Nat → Prop) (w : World) (margs : Array Value), (∀ b, F b → b < w.heap.size) → GOk G F w → PRs F w args margs → Calls P f margs w (PostP F w v)
def PostF (K : KM) (σ : Heap) (w : World) (v : EV) (σ' : Heap) : Ending → World → Prop
  | .returned mv, w' => ∃ K', Ext K σ w K' σ' w' ∧ Rel K' σ' w' ∧ VR K' w' v mv
  | .outgrown, _ => False
  | .panicked _, _ => False
def SemF (P : Program) (G : Nat → Option (List EV)) (f : FuncId) (args : List EV) (σ : Heap) (v : EV) (σ' : Heap) : Prop :=
  Enters P f ∧ ∀ (K : KM) (w : World) (margs : Array Value), Rel K σ w → GOk G K.F w → VRs K w args margs → Calls P f margs w (PostF K σ w v σ')
def EX.same : EX → Exit → Prop
  | .normal, .normal => True
  | .leave i, .exit j => i = j
  | .ret, .ret => True
  | _, _ => False
def markOf (b : Nat) : Deferred := { target := .collected b, args := #[] }
def Marks (K' : KM) (σ' : Heap) (w w' : World) (ds ds' : List Deferred) (bs : List Nat) : Prop :=
  ds' = bs.map markOf ++ ds ∧ bs.Nodup ∧ ∀ b ∈ bs, w.heap.size ≤ b ∧ w'.heap[b]? = some (.deferred (some [])) ∧ ¬ Owned K' σ' b ∧ ¬ K'.F b
theorem Marks.none {K' : KM} {σ' : Heap} {w w' : World} {ds : List Deferred} : Marks K' σ' w w' ds ds [] := ⟨rfl, List.nodup_nil, fun b h => by cases h⟩
theorem Marks.trans {K1 K2 : KM} {σ1 σ2 : Heap} {w w1 w2 : World} {ds ds1 ds2 : List Deferred} {bs1 bs2 : List Nat} (hsz : w.heap.size ≤ w1.heap.size) (e : Ext K1 σ1 w1 K2 σ2 w2)
    (h1 : Marks K1 σ1 w w1 ds ds1 bs1) (h2 : Marks K2 σ2 w1 w2 ds1 ds2 bs2) : Marks K2 σ2 w w2 ds ds2 (bs2 ++ bs1) := by
  obtain ⟨a1, a2, a3⟩ := h1
  obtain ⟨b1, b2, b3⟩ := h2
  have hlt : ∀ b ∈ bs1, b < w1.heap.size := fun b hb => by
    have := (a3 b hb).2.1
    exact (Array.getElem?_eq_some_iff.1 this).1
  refine ⟨by rw [b1, a1]; simp, ?_, fun b hb => ?_⟩
  · rw [List.nodup_append]
    refine ⟨b2, a2, fun x hx y hy hxy => ?_⟩
    have := hlt y hy
    have := (b3 x hx).1
    omega
  · rcases List.mem_append.1 hb with hb | hb
    · obtain ⟨c1, c2, c3, c4⟩ := b3 b hb
      exact ⟨by omega, c2, c3, c4⟩
    · obtain ⟨c1, c2, c3, c4⟩ := a3 b hb
      have hb' := hlt b hb
      refine ⟨c1, by rw [e.stay b hb' c3]; exact c2, fun ho => ?_, fun hF => ?_⟩
      · rcases e.own b ho with h | h
        · omega
        · exact c3 h
      · rcases e.F' b hF with h | h | h
        · exact c4 h
        · omega
        · exact c3 h
def PostC (K : KM) (σ : Heap) (w : World) (ds : List Deferred) (r : EX × List EV × Heap) : Exit → Act → World → Prop
  | .outgrown, _, _ => False
  | e, a', w' => r.1.same e ∧ ∃ K' bs, Ext K σ w K' r.2.2 w' ∧ Rel K' r.2.2 w' ∧ VRs K' w' r.2.1 a'.tmps ∧ Marks K' r.2.2 w w' ds a'.defers bs
def fen (ro : Option Nat) : Fence := { fn := fun _ => True, depth := none, alive := false, round := ro }
theorem fen_room (ro : Option Nat) (n : Nat) : (fen ro).room n := fun _ h => by simp [fen] at h
theorem fen_fenced (P : Program) (ro : Option Nat) : Machine.fenced P (fen ro) = Machine.fenced P Fence.wide := rfl
def SemC (P : Program) (G : Nat → Option (List EV)) (rnd : Bool) (c : Code) (tmps : List EV) (σ : Heap) (r : EX × List EV × Heap) : Prop :=
  ∀ (ro : Option Nat) (K : KM) (w : World) (a : Act), (ro.isSome = true → rnd = true) → Rel K σ w → GOk G K.F w → VRs K w tmps a.tmps → c.wpIn (fen ro) 0 P (PostC K σ w a.defers r) a w
def wpL (ro : Option Nat) (P : Program) (c : Code) (Q : Exit → Act → World → Prop) (a : Act) (w : World) : Prop :=
  ∀ (b : Frame) (k : List Item) (cs : List Frame), b.roundOf = ro → ∃ e a' w', Q e a' w' ∧ ArrivesIn (Machine.fenced P (fen ro)) P (lone (b.atR a (.code c :: .inLoop c :: k)) cs w) b k cs e a' w'
def SemL (P : Program) (G : Nat → Option (List EV)) (rnd : Bool) (c : Code) (tmps : List EV) (σ : Heap) (r : EX × List EV × Heap) : Prop :=
  ∀ (ro : Option Nat) (K : KM) (w : World) (a : Act), (ro.isSome = true → rnd = true) → Rel K σ w → GOk G K.F w → VRs K w tmps a.tmps → wpL ro P c (PostC K σ w a.defers r) a w
theorem GOk.ext {G : Nat → Option (List EV)} {K K' : KM} {σ σ' : Heap} {w w' : World} (h : Ext K σ w K' σ' w') (hr : Rel K σ w) (hG : GOk G K.F w) : GOk G K'.F w' := by
  intro g cells hg
  obtain ⟨hF, hne, mv, hm⟩ := hG g cells hg
  exact ⟨h.F g hF, hne, mv, fun j hj => ⟨by rw [cellAt_of_block (h.stayF hr g hF)]; exact (hm j hj).1, (hm j hj).2.1, (hm j hj).2.2.ext h hr⟩⟩
theorem VRs.ext {K K' : KM} {σ σ' : Heap} {w w' : World} (h : Ext K σ w K' σ' w') (hr : Rel K σ w) {vs : List EV} {mvs : Array Value} (hv : VRs K w vs mvs) : VRs K' w' vs mvs :=
  ⟨hv.1, fun i h1 h2 => (hv.2 i h1 h2).ext h hr⟩
section
variable {P : Program} {w : World}
theorem add_none (b o n : Nat) : (⟨b, o, none⟩ : Addr).add n = ⟨b, o + n, none⟩ := by
  unfold Addr.add; split
  · subst_vars; rfl
  · rfl
theorem run_info {t : TypeId} {i : TypeInfo} (h : P.info? t = some i) : (typeInfo t).run P w = .ok i w := by
  simp [typeInfo, h]
theorem run_under {t : TypeId} {d : TypeDesc} (h : P.underlying t = some d) : (underlying t).run P w = .ok d w := by
  simp [underlying, h]
theorem sizeE_some {t : TypeId} {n : Nat} (h : sizeE P t = some n) : ∃ i, P.info? t = some i ∧ i.size = n := by
  unfold sizeE at h; simpa using h
theorem run_size {t : TypeId} {n : Nat} (h : sizeE P t = some n) : (sizeOf t).run P w = .ok n w := by
  obtain ⟨i, hi, rfl⟩ := sizeE_some h
  simp [sizeOf, run_info hi]
theorem run_agg {t : TypeId} {g : Bool} (h : aggE P t = some g) : (isAgg t).run P w = .ok g w := by
  unfold aggE at h
  unfold isAgg
  split at h <;> simp_all [run_under]
theorem run_load_cell {b o : Nat} {v : Value} (h : cellAt w b o = some v) : (load ⟨b, o, none⟩).run P w = .ok v w := by
  simp [cell?_eq, h]
theorem run_loadCellsFrom {b o : Nat} {mv : Nat → Value} : ∀ (n i : Nat) (acc : Array Value), (∀ j, j < n → cellAt w b (o + (i + j)) = some (mv (i + j))) →
    (loadCellsFrom ⟨b, o, none⟩ i n acc).run P w = .ok (acc ++ ((List.range n).map fun j => mv (i + j)).toArray) w := by
  intro n
  induction n with
  | zero => intro i acc _; simp [loadCellsFrom]
  | succ n ih =>
    intro i acc h
    unfold loadCellsFrom
    have h0 := h 0 (by omega)
    rw [Nat.add_zero] at h0
    rw [Sem.run_bind, add_none, run_load_cell h0, Result.andThen_ok, ih (i + 1) _ (fun j hj => by rw [show i + 1 + j = i + (j + 1) from by omega]; exact h (j + 1) (by omega))]
    congr 1
    apply Array.ext'
    simp only [Array.toList_append, Array.toList_push, List.range_succ_eq_map, List.map_cons, List.map_map, List.append_assoc, List.singleton_append, Nat.add_zero]
    congr 2
    apply List.map_congr_left
    intro j _
    simp only [Function.comp]
    congr 1; omega
theorem run_loadCells {b o n : Nat} {mv : Nat → Value} (h : ∀ j, j < n → cellAt w b (o + j) = some (mv j)) :
    (loadCells ⟨b, o, none⟩ n).run P w = .ok ((List.range n).map mv).toArray w := by
  unfold loadCells
  rw [run_loadCellsFrom (mv := mv) n 0 #[] (fun j hj => by simpa using h j hj)]
  simp
def CellsAt (K : KM) (w : World) (b o : Nat) (cells : List EV) : Prop := ∃ mv : Nat → Value, ∀ j (h : j < cells.length), cellAt w b (o + j) = some (mv j) ∧ (mv j).oneCell' = true ∧ VR K w cells[j] (mv j)
theorem load_take {K : KM} {b o k n : Nat} {g : Bool} {t : TypeId} {cells : List EV} {v : EV} (hn : sizeE P t = some n) (hg : aggE P t = some g)
    (hc : CellsAt K w b o cells) (ht : takeCells cells k n g = some v) : ∃ mv, (loadVar t ⟨b, o + k, none⟩).run P w = .ok mv w ∧ VR K w v mv := by
  obtain ⟨mv, hmv⟩ := hc
  unfold takeCells at ht
  unfold loadVar
  cases g with
  | true =>
    simp only [if_true] at ht
    split at ht
    · rename_i hle
      obtain rfl := Option.some.inj ht
      refine ⟨.agg ((List.range n).map fun j => mv (k + j)).toArray, ?_, ?_⟩
      · simp only [Sem.run_bind, run_agg hg, Result.andThen_ok, if_true, run_size hn]
        rw [run_loadCells (mv := fun j => mv (k + j)) (fun j hj => by rw [Nat.add_assoc]; exact (hmv (k + j) (by omega)).1)]
        rfl
      · refine .agg _ _ (by simp; omega) (fun i h2 => ?_) fun i h1 h2 => ?_
        · simp only [List.size_toArray, List.length_map, List.length_range] at h2
          simp only [List.getElem_toArray, List.getElem_map, List.getElem_range]
          exact (hmv (k + i) (by omega)).2.1
        · simp only [List.length_take, List.length_drop] at h1
          simp only [List.getElem_take, List.getElem_drop, List.getElem_toArray, List.getElem_map, List.getElem_range]
          exact (hmv (k + i) (by omega)).2.2
    · simp at ht
  | false =>
    simp only [Bool.false_eq_true, if_false] at ht
    obtain ⟨hk, rfl⟩ := List.getElem?_eq_some_iff.1 ht
    refine ⟨mv k, ?_, (hmv k hk).2.2⟩
    simp only [Sem.run_bind, run_agg hg, Result.andThen_ok, Bool.false_eq_true, if_false]
    exact run_load_cell (hmv k hk).1
end
def LookOk (look : Look) (K : KM) (w : World) : Prop := ∀ r o, look r = some o → OR K w r o
theorem CellsAt.ofVar {K : KM} {w : World} {r : Nat} {fr pf : Bool} {cells : List EV} (h : OR K w r (.var fr pf cells)) : CellsAt K w (K.blk r) (K.off r) cells := by
  obtain ⟨ha, h0, c, e, hb, hs, _, ho, _, hv, _⟩ := h
  refine ⟨fun j => c.getD j default, fun j hj => ?_⟩
  have hj' : j < c.size := by omega
  refine ⟨?_, ?_, ?_⟩
  · simp [cellAt, hb, h0, hj']
  · simpa [hj'] using ho j hj'
  · have := hv j hj hj'
    simpa [hj'] using this
theorem CellsAt.ofArr {K : KM} {w : World} {r : Nat} {fr pf ex : Bool} {esz len i : Nat} {row : Nat → List EV} (h : OR K w r (.arr fr pf esz ex len row)) (hi : i < len) :
    CellsAt K w (K.blk r) (K.off r + i * esz) (row i) := by
  obtain ⟨ha, hln, c, e, fz, hb, _, _, ho, hle, _, _, hl, hv, _⟩ := h
  refine ⟨fun j => c.getD (K.off r + i * esz + j) default, fun j hj => ?_⟩
  have hj' : K.off r + i * esz + j < c.size := by
    have h1 := hl i hi
    have h2 : (i + 1) * esz ≤ len * esz := Nat.mul_le_mul_right _ hi
    rw [Nat.add_mul, Nat.one_mul] at h2
    omega
  refine ⟨?_, ?_, ?_⟩
  · simp [cellAt, hb, hj']
  · simpa [hj'] using ho _ hj'
  · have := hv i hi j hj hj'
    simpa [hj'] using this
theorem CellsAt.ofIp {K : KM} {w : World} {cells : List EV} {b o : Nat} {mv : Nat → Value}
    (hc : ∀ j (_ : j < cells.length), cellAt w b (o + j) = some (mv j) ∧ (mv j).oneCell' = true) (hv : ∀ j (h : j < cells.length), PR K.F w cells[j] (mv j)) : CellsAt K w b o cells :=
  ⟨mv, fun j hj => ⟨(hc j hj).1, (hc j hj).2, .pure _ _ (hv j hj)⟩⟩
section
variable {P : Program} {S : Type} {V : S → Prop}
theorem VR.ip_inv {K : KM} {w : World} {cells : List EV} {k : Nat} {ma : Value} (h : VR K w (.ip cells k) ma) :
    ∃ b o, ma = .pointer (some ⟨b, o + k, none⟩) ∧ k < cells.length ∧ CellsAt K w b o cells ∧
      (K.F b ∧ ∃ mv : Nat → Value, (∀ j (_ : j < cells.length), cellAt w b (o + j) = some (mv j) ∧ (mv j).oneCell' = true) ∧ ∀ j (h : j < cells.length), PR K.F w cells[j] (mv j)) := by
  cases h with
  | pure _ _ hp => cases hp with
    | ip _ _ b o mv hF hk hc hv => exact ⟨b, o, rfl, hk, .ofIp hc hv, hF, mv, hc, hv⟩
theorem VR.ptr_inv {K : KM} {w : World} {r k : Nat} {ma : Value} (h : VR K w (.ptr r k) ma) : ma = .pointer (some ⟨K.blk r, K.off r + k, none⟩) ∧ K.al r := by
  cases h with
  | pure _ _ hp => cases hp
  | ptr _ _ ha => exact ⟨rfl, ha⟩
theorem VR.pe_inv {K : KM} {w : World} {r esz i k : Nat} {ma : Value} (h : VR K w (.pe r esz i k) ma) :
    ma = .pointer (some ⟨K.blk r, K.off r + i * esz + k, none⟩) ∧ K.al r ∧ i < K.len r := by
  cases h with
  | pure _ _ hp => cases hp
  | pe _ _ _ _ ha hi => exact ⟨rfl, ha, hi⟩
theorem eLoad_ok (look : Look) (t : TypeId) (a : EV) :
    Ok V (eLoad (S := S) P look t a) fun v => ∀ K w ma, LookOk look K w → VR K w a ma → ∃ mv, (Instr.loadAt t ma).run P w = .ok mv w ∧ VR K w v mv := by
  unfold eLoad
  refine Ok.bind (Ok.lift (Φ := fun n => sizeE P t = some n) fun n h => h) fun n => ?_
  refine Ok.bind (Ok.lift (Φ := fun n => aggE P t = some n) fun n h => h) fun g => ?_
  split
  · rename_i cells k
    refine Ok.lift fun v hv hg hn K w ma hL ha => ?_
    obtain ⟨b, o, rfl, _, hc, _⟩ := ha.ip_inv
    obtain ⟨mv, h1, h2⟩ := load_take (P := P) hn hg hc hv
    exact ⟨mv, by simp [Instr.loadAt, Instr.sureAddr, h1], h2⟩
  · rename_i r k
    split
    · rename_i fr pf cells hr
      refine Ok.lift fun v hv hg hn K w ma hL ha => ?_
      obtain ⟨rfl, _⟩ := ha.ptr_inv
      obtain ⟨mv, h1, h2⟩ := load_take (P := P) hn hg (CellsAt.ofVar (hL r _ hr)) hv
      exact ⟨mv, by simp [Instr.loadAt, Instr.sureAddr, h1], h2⟩
    · exact Ok.fail
  · rename_i r esz i k
    split
    · rename_i fr pf esz' ex len row hr
      refine Ok.ite (fun he => ?_) fun _ => Ok.fail
      subst he
      refine Ok.lift fun v hv hg hn K w ma hL ha => ?_
      obtain ⟨rfl, _, hi⟩ := ha.pe_inv
      have ho := hL r _ hr
      have hlen : K.len r = len := ho.2.1
      obtain ⟨mv, h1, h2⟩ := load_take (P := P) hn hg (CellsAt.ofArr ho (by omega)) hv
      exact ⟨mv, by simp [Instr.loadAt, Instr.sureAddr, h1], h2⟩
    · exact Ok.fail
  · exact Ok.fail
end
end Go.Ev
namespace Go.Ev
structure DOk {S : Type} (V : S → Prop) (P : Program) (G : Nat → Option (List EV)) (D : Drv S) : Prop where
  br : ∀ b, Ok V (D.br b) fun d => d = b
  chk : ∀ b, Ok V (D.chk b) fun _ => b = true
  nw : ∀ b, Ok V (D.nw b) fun d => d = true → b = true
  mode : ∀ f, Ok V (D.mode f) fun _ => True
  pcall : ∀ f args, Ok V (D.pcall f args) fun v => SemP P G f args v
  fresh : ∀ f, Ok V (D.fresh f) fun _ => True
  room : ∀ b, Ok V (D.room b) fun _ => True
  gcall : ∀ f args σ, Ok V (D.gcall f args σ) fun r => SemF P G f args σ r.1 r.2
  round : ∀ c tmps σ, Ok V (D.round c tmps σ) fun r => SemC P G true c tmps σ r
  piece : ∀ rnd c tmps σ, Ok V (D.piece rnd c tmps σ) fun o => ∀ r, o = some r → SemC P G rnd c tmps σ r ∧ ∀ b, c = .loop b → SemL P G rnd b tmps σ r
  keep : ∀ q, Ok V (D.keep q) fun q' => q' = q
  find : ∀ kt k es, Ok V (D.find kt k es) fun o => ∀ r, o = some r → findB P kt k es 0 r
theorem wrap_in {k : IntKind} {n : Int} (h : inR k n = true) : k.wrap n = n := by
  simp only [inR, Bool.and_eq_true, decide_eq_true_eq] at h
  obtain ⟨h1, h2⟩ := h
  cases k <;> simp [IntKind.wrap, IntKind.min, IntKind.max, IntKind.bits, IntKind.signed] at h1 h2 ⊢ <;> omega
section
variable {P : Program} {S : Type} {V : S → Prop} {G : Nat → Option (List EV)} {D : Drv S}
theorem VR.int_inv {K : KM} {w : World} {k : IntKind} {n : Int} {ma : Value} (h : VR K w (.int k n) ma) : ma = .int k n := by
  cases h with
  | pure _ _ hp => cases hp; rfl
theorem VR.bool_inv {K : KM} {w : World} {b : Bool} {ma : Value} (h : VR K w (.bool b) ma) : ma = .bool b := by
  cases h with
  | pure _ _ hp => cases hp; rfl
theorem VR.str_inv {K : KM} {w : World} {b : ByteArray} {ma : Value} (h : VR K w (.str b) ma) : ma = .string b := by
  cases h with
  | pure _ _ hp => cases hp; rfl
theorem VR.agg_inv {K : KM} {w : World} {cs : List EV} {ma : Value} (h : VR K w (.agg cs) ma) :
    ∃ mcs : Array Value, ma = .agg mcs ∧ (cs.length = mcs.size ∧ ∀ i (h' : i < mcs.size), (mcs[i]).oneCell' = true) ∧ ∀ i (h : i < cs.length) (h' : i < mcs.size), VR K w cs[i] mcs[i] := by
  cases h with
  | pure _ _ hp => cases hp with
    | agg _ mcs hl h1 h => exact ⟨mcs, rfl, ⟨hl, h1⟩, fun i h1 h2 => .pure _ _ (h i h1 h2)⟩
  | agg _ mcs hl h1 h => exact ⟨mcs, rfl, ⟨hl, h1⟩, h⟩
theorem VR.tuple_inv {K : KM} {w : World} {cs : List EV} {ma : Value} (h : VR K w (.tuple cs) ma) :
    ∃ mcs : Array Value, ma = .tuple mcs ∧ cs.length = mcs.size ∧ ∀ i (h : i < cs.length) (h' : i < mcs.size), VR K w cs[i] mcs[i] := by
  cases h with
  | pure _ _ hp => cases hp with
    | tuple _ mcs hl h => exact ⟨mcs, rfl, hl, fun i h1 h2 => .pure _ _ (h i h1 h2)⟩
  | tuple _ mcs hl h => exact ⟨mcs, rfl, hl, h⟩
theorem VR.iface_inv {K : KM} {w : World} {t : TypeId} {v : EV} {ma : Value} (h : VR K w (.iface t v) ma) : ∃ mv, ma = .iface t mv ∧ VR K w v mv := by
  cases h with
  | pure _ _ hp => cases hp with
    | iface _ _ mv h => exact ⟨mv, rfl, .pure _ _ h⟩
  | iface _ _ mv h => exact ⟨mv, rfl, h⟩
theorem VR.func_inv {K : KM} {w : World} {fn : Fn} {a c : List EV} {ma : Value} (h : VR K w (.func fn a c) ma) :
    ∃ mf mc : Array Value, ma = .func fn mf mc ∧ VRs K w a mf ∧ VRs K w c mc := by
  cases h with
  | pure _ _ hp => cases hp with
    | func _ _ _ mf mc hl hl' h h' => exact ⟨mf, mc, rfl, ⟨hl, fun i h1 h2 => .pure _ _ (h i h1 h2)⟩, ⟨hl', fun i h1 h2 => .pure _ _ (h' i h1 h2)⟩⟩
  | func _ _ _ mf mc hl hl' h h' => exact ⟨mf, mc, rfl, ⟨hl, h⟩, ⟨hl', h'⟩⟩
theorem VR.isl_inv {K : KM} {w : World} {nn : Bool} {esz len : Nat} {row : Nat → List EV} {ma : Value} (h : VR K w (.isl nn esz len row) ma) :
    (nn = false ∧ len = 0 ∧ ma = .slice none 0 0) ∨
    (nn = true ∧ ∃ (b o cap : Nat) (sp : Option Nat) (mv : Nat → Nat → Value), ma = .slice (some ⟨b, o, sp⟩) len cap ∧ (0 < len → K.F b) ∧ len ≤ cap ∧ (0 < len → sp = none) ∧
      (∀ i, i < len → (row i).length = esz) ∧ (∀ i, i < len → ∀ j, j < esz → cellAt w b (o + i * esz + j) = some (mv i j) ∧ (mv i j).oneCell' = true) ∧
      (∀ i, i < len → ∀ j (h : j < (row i).length), PR K.F w (row i)[j] (mv i j))) := by
  cases h with
  | pure _ _ hp => cases hp with
    | isln => exact .inl ⟨rfl, rfl, rfl⟩
    | isl _ _ _ b o cap mv hF hcap sp hsp hl hc hv => exact .inr ⟨rfl, b, o, cap, sp, mv, rfl, hF, hcap, hsp, hl, hc, hv⟩
theorem VR.ms_inv {K : KM} {w : World} {r esz off len : Nat} {cap : Option Nat} {ma : Value} (h : VR K w (.ms r esz off len cap) ma) :
    ∃ (a : Addr) (mcap : Nat), ma = .slice (some a) len mcap ∧ K.al r ∧ len ≤ mcap ∧ off + len ≤ K.len r ∧ (∀ c, cap = some c → mcap = c ∧ off + c ≤ K.len r) ∧
      (cap = none → K.off r + (off + mcap) * esz = K.ext r) ∧ (mcap ≠ 0 → a = ⟨K.blk r, K.off r + off * esz, none⟩) := by
  cases h with
  | pure _ _ hp => cases hp
  | ms _ _ _ _ _ mcap a ha hle hlen hcap hnone haddr => exact ⟨a, mcap, rfl, ha, hle, hlen, hcap, hnone, haddr⟩
theorem under_of {t : TypeId} {d d' : TypeDesc} (h : P.underlying t = some d) (h' : P.underlying t = some d') : d = d' := by
  rw [h] at h'; exact Option.some.inj h'
theorem eField_ok (t : TypeId) (a : EV) (f : Nat) :
    Ok V (eField (S := S) P t a f) fun v => ∀ K w ma, VR K w a ma → ∃ mv, (Instr.fieldAt t ma f).run P w = .ok mv w ∧ VR K w v mv := by
  unfold eField
  split
  · rename_i fields hu
    split
    · rename_i fd hf
      refine Ok.bind (Ok.lift (Φ := fun n => sizeE P fd.type = some n) fun n h => h) fun n => ?_
      refine Ok.ite (fun _ => Ok.fail) fun hn0 => ?_
      have key : ∀ {w : World} {b o : Nat}, sizeE P fd.type = some n → (Instr.fieldAt t (.pointer (some ⟨b, o, none⟩)) f).run P w = .ok (.pointer (some ⟨b, o + fd.offset, none⟩)) w := by
        intro w b o hn
        simp [Instr.fieldAt, run_under hu, hf, Instr.sureAddr, fieldPlace, run_size hn, hn0, add_none]
      split
      · rename_i cells k
        refine Ok.ite (fun hk => ?_) fun _ => Ok.fail
        refine Ok.pure fun hn K w ma ha => ?_
        obtain ⟨b, o, rfl, _, _, hF, mv, hc, hv⟩ := ha.ip_inv
        refine ⟨_, key hn, .pure _ _ ?_⟩
        rw [Nat.add_assoc]
        exact .ip cells _ b o mv hF hk hc hv
      · rename_i r k
        refine Ok.pure fun hn K w ma ha => ?_
        obtain ⟨rfl, hal⟩ := ha.ptr_inv
        exact ⟨_, key hn, by rw [Nat.add_assoc]; exact .ptr r _ hal⟩
      · rename_i r esz i k
        refine Ok.pure fun hn K w ma ha => ?_
        obtain ⟨rfl, hal, hi⟩ := ha.pe_inv
        exact ⟨_, key hn, by rw [Nat.add_assoc]; exact .pe r esz i _ hal hi⟩
      · exact Ok.fail
    · exact Ok.fail
  · exact Ok.fail
theorem inB_spec {i : Int} {n : Nat} (h : inB i n = true) : 0 ≤ i ∧ i < n := by
  simpa [inB] using h
theorem pick_ok (hD : DOk V P G D) : ∀ (n x : Nat), Ok V (pick D n x) fun j => j = x
  | 0, x => by
    unfold pick
    refine Ok.bind (hD.chk _) fun _ => Ok.pure fun h => ?_
    exact (beq_iff_eq.1 h).symm
  | n + 1, x => by
    unfold pick
    refine Ok.bind (hD.br _) fun d => ?_
    refine Ok.ite (fun hd => Ok.pure fun h => ?_) fun hd => (pick_ok hD n x).mono fun j hj _ => hj
    rw [hd] at h
    exact (beq_iff_eq.1 h.symm).symm
theorem eIndexAddr_ok (hD : DOk V P G D) (t : TypeId) (x ix : EV) :
    Ok V (eIndexAddr D P t x ix) fun v => ∀ K w mx mi, VR K w x mx → VR K w ix mi → ∃ mv, (Instr.indexAt t mx mi).run P w = .ok mv w ∧ VR K w v mv := by
  unfold eIndexAddr
  split
  · rename_i k i
    split
    · rename_i elem hu
      refine Ok.bind (Ok.lift (Φ := fun n => sizeE P elem = some n) fun n h => h) fun n => ?_
      split
      · rename_i nn esz len row
        refine Ok.ite (fun _ => Ok.fail) fun hne => ?_
        refine Ok.bind (hD.chk _) fun _ => Ok.pure fun hb hn K w mx mi hx hi => ?_
        obtain rfl := hi.int_inv
        obtain ⟨h0, h1⟩ := inB_spec hb
        have hne1 : esz = n := by omega
        subst hne1
        rcases hx.isl_inv with ⟨_, rfl, rfl⟩ | ⟨rfl, b, o, cap, sp, mv, rfl, hF, hcap, hsp, hl, hc, hv⟩
        · omega
        · have hlen : 0 < len := by omega
          obtain rfl := hsp hlen
          have hi : i.toNat < len := by omega
          refine ⟨.pointer (some ⟨b, o + i.toNat * esz, none⟩), ?_, ?_⟩
          · simp [Instr.indexAt, asIntOf, run_under hu, run_size hn, h0, h1, add_none]
          · have := PR.ip (F := K.F) (w := w) (row i.toNat) 0 b (o + i.toNat * esz) (mv i.toNat) (hF hlen) (by rw [hl _ hi]; omega)
              (fun j hj => hc _ hi j (by rw [← hl _ hi]; exact hj)) (fun j hj => hv _ hi j hj)
            exact .pure _ _ this
      · rename_i r esz off len cap
        refine Ok.ite (fun _ => Ok.fail) fun hne => ?_
        refine Ok.bind (hD.chk _) fun _ => Ok.pure fun hb hn K w mx mi hx hi => ?_
        obtain rfl := hi.int_inv
        obtain ⟨h0, h1⟩ := inB_spec hb
        have hne1 : esz = n := by omega
        subst hne1
        obtain ⟨a, mcap, rfl, hal, hle, hlen, _, _, haddr⟩ := hx.ms_inv
        have hi : i.toNat < len := by omega
        obtain rfl := haddr (by omega)
        refine ⟨.pointer (some ⟨K.blk r, K.off r + off * esz + i.toNat * esz, none⟩), ?_, ?_⟩
        · simp [Instr.indexAt, asIntOf, run_under hu, run_size hn, h0, h1, add_none]
        · have := VR.pe (K := K) (w := w) r esz (off + i.toNat) 0 hal (by omega)
          rw [Nat.add_zero, Nat.add_mul, ← Nat.add_assoc] at this
          exact this
      · exact Ok.fail
    · rename_i len elem hu
      refine Ok.bind (Ok.lift (Φ := fun n => sizeE P elem = some n) fun n h => h) fun n => ?_
      refine Ok.bind (hD.chk _) fun _ => ?_
      refine Ok.bind (pick_ok hD _ _) fun j => ?_
      have key : ∀ {w : World} {b o : Nat}, j = i.toNat → inB i len = true → sizeE P elem = some n →
          (Instr.indexAt t (.pointer (some ⟨b, o, none⟩)) (.int k i)).run P w = .ok (.pointer (some ⟨b, o + j * n, none⟩)) w := by
        intro w b o hj hb hn
        obtain ⟨h0, h1⟩ := inB_spec hb
        subst hj
        simp [Instr.indexAt, asIntOf, run_under hu, Instr.sureAddr, run_size hn, h0, h1, add_none]
      split
      · rename_i cells k'
        refine Ok.ite (fun hk => ?_) fun _ => Ok.fail
        refine Ok.pure fun hj hb hn K w mx mi hx hi => ?_
        obtain rfl := hi.int_inv
        obtain ⟨b, o, rfl, _, _, hF, mv, hc, hv⟩ := hx.ip_inv
        refine ⟨_, key hj hb hn, .pure _ _ ?_⟩
        rw [Nat.add_assoc]
        exact .ip cells _ b o mv hF hk hc hv
      · rename_i r k'
        refine Ok.pure fun hj hb hn K w mx mi hx hi => ?_
        obtain rfl := hi.int_inv
        obtain ⟨rfl, hal⟩ := hx.ptr_inv
        exact ⟨_, key hj hb hn, by rw [Nat.add_assoc]; exact .ptr r _ hal⟩
      · rename_i r esz i' k'
        refine Ok.pure fun hj hb hn K w mx mi hx hi => ?_
        obtain rfl := hi.int_inv
        obtain ⟨rfl, hal, hi'⟩ := hx.pe_inv
        exact ⟨_, key hj hb hn, by rw [Nat.add_assoc]; exact .pe r esz i' _ hal hi'⟩
      · exact Ok.fail
    · exact Ok.fail
  · exact Ok.fail
theorem run_part {K : KM} {w : World} {t : TypeId} {n k : Nat} {g : Bool} {cs : List EV} {mcs : Array Value} {v : EV} (hn : sizeE P t = some n) (hg : aggE P t = some g)
    (hl : cs.length = mcs.size ∧ ∀ i (h' : i < mcs.size), (mcs[i]).oneCell' = true) (hv : ∀ i (h : i < cs.length) (h' : i < mcs.size), VR K w cs[i] mcs[i]) (ht : takeCells cs k n g = some v) :
    ∃ mv, (part t mcs k).run P w = .ok mv w ∧ VR K w v mv := by
  obtain ⟨hl, hone⟩ := hl
  unfold takeCells at ht
  unfold part
  cases g with
  | true =>
    simp only [if_true] at ht
    split at ht
    · rename_i hle
      obtain rfl := Option.some.inj ht
      refine ⟨.agg (mcs.extract k (k + n)), by simp [run_agg hg, run_size hn], ?_⟩
      refine .agg _ _ (by simp; omega) (fun i h2 => by simp only [Array.getElem_extract]; exact hone _ _) fun i h1 h2 => ?_
      simp only [List.length_take, List.length_drop] at h1
      simp only [List.getElem_take, List.getElem_drop, Array.getElem_extract]
      exact hv (k + i) (by omega) (by omega)
    · simp at ht
  | false =>
    simp only [Bool.false_eq_true, if_false] at ht
    obtain ⟨hk, rfl⟩ := List.getElem?_eq_some_iff.1 ht
    refine ⟨mcs[k]'(by omega), ?_, hv k hk (by omega)⟩
    simp [run_agg hg, show k < mcs.size by omega]
theorem eIndex_ok (hD : DOk V P G D) (t : TypeId) (x ix : EV) :
    Ok V (eIndex D P t x ix) fun v => ∀ K w mx mi, VR K w x mx → VR K w ix mi → ∃ mv, (Instr.index t mx mi).run P w = .ok mv w ∧ VR K w v mv := by
  unfold eIndex
  split
  · rename_i k i
    split
    · rename_i len elem cs hu
      refine Ok.bind (Ok.lift (Φ := fun n => sizeE P elem = some n) fun n h => h) fun n => ?_
      refine Ok.bind (Ok.lift (Φ := fun n => aggE P elem = some n) fun n h => h) fun g => ?_
      refine Ok.bind (hD.chk _) fun _ => ?_
      refine Ok.bind (pick_ok hD _ _) fun j => ?_
      refine Ok.lift fun v hv hj hb hg hn K w mx mi hx hi => ?_
      obtain rfl := hi.int_inv
      obtain ⟨mcs, rfl, hl, hc⟩ := hx.agg_inv
      obtain ⟨h0, h1⟩ := inB_spec hb
      subst hj
      obtain ⟨mv, h2, h3⟩ := run_part (P := P) hn hg hl hc hv
      exact ⟨mv, by simp [Instr.index, asIntOf, run_under hu, run_size hn, h0, h1, h2], h3⟩
    · rename_i s hu
      refine Ok.bind (hD.chk _) fun _ => Ok.pure fun hb K w mx mi hx hi => ?_
      obtain rfl := hi.int_inv
      obtain rfl := hx.str_inv
      obtain ⟨h0, h1⟩ := inB_spec hb
      have hi : i.toNat < s.size := by omega
      refine ⟨.int .u8 (s.data.getD i.toNat 0).toNat, ?_, .pure _ _ (.int _ _)⟩
      have hs : s[i.toNat]? = some (s.data.getD i.toNat 0) := by
        rw [getElem?_pos s i.toNat hi]
        have h' : i.toNat < s.data.size := hi
        simp only [Array.getD, h', dif_pos]
        rfl
      simp [Instr.index, asIntOf, run_under hu, h0, hs]
    · exact Ok.fail
  · exact Ok.fail
theorem eWrap_ok (hD : DOk V P G D) (k : IntKind) (n : Int) : Ok V (eWrap D k n) fun v => v = .int k (k.wrap n) := by
  unfold eWrap
  refine Ok.bind (hD.nw _) fun d => ?_
  refine Ok.ite (fun hd => Ok.pure fun h => ?_) fun _ => Ok.pure fun _ => rfl
  rw [wrap_in (h hd)]
theorem eBin_ok (hD : DOk V P G D) (op : BinOp) (t : TypeId) (x y : EV) :
    Ok V (eBin D op x y) fun v => ∀ K w mx my, VR K w x mx → VR K w y my → ∃ mv, (binOp op t mx my).run P w = .ok mv w ∧ VR K w v mv := by
  have vr : ∀ {K w} (k : IntKind) (n : Int), VR K w (.int k n) (.int k n) := fun k n => .pure _ _ (.int k n)
  have vb : ∀ {K w} (b : Bool), VR K w (.bool b) (.bool b) := fun b => .pure _ _ (.bool b)
  have vs : ∀ {K w} (b : ByteArray), VR K w (.str b) (.string b) := fun b => .pure _ _ (.str b)
  unfold eBin
  split
  · rename_i k a k' b
    have ints : ∀ {v : EV} {mv : Value} (_ : ∀ w : World, (binOp op t (.int k a) (.int k' b)).run P w = .ok mv w) (_ : ∀ K w, VR K w v mv),
        ∀ K w mx my, VR K w (.int k a) mx → VR K w (.int k' b) my → ∃ mv, (binOp op t mx my).run P w = .ok mv w ∧ VR K w v mv := by
      intro v mv h1 h2 K w mx my hx hy
      obtain rfl := hx.int_inv
      obtain rfl := hy.int_inv
      exact ⟨mv, h1 w, h2 K w⟩
    split
    · refine Ok.bind (hD.chk _) fun _ => (eWrap_ok hD _ _).mono fun v hv hb => ?_
      subst hv
      have hb' : 0 ≤ b := by simpa using hb
      exact ints (fun w => by simp [binOp, Op.shift, show ¬ b < 0 by omega]) fun K w => vr _ _
    · refine Ok.bind (hD.chk _) fun _ => Ok.pure fun hb => ?_
      have hb' : 0 ≤ b := by simpa using hb
      exact ints (fun w => by simp [binOp, Op.shift, show ¬ b < 0 by omega]) fun K w => vr _ _
    · refine Ok.ite (fun _ => Ok.fail) fun hk => ?_
      have hk' : k = k' := by simpa using hk
      subst hk'
      split
      · exact (eWrap_ok hD _ _).mono fun v hv => hv ▸ ints (fun w => by simp [binOp, Op.intArith]) fun K w => vr _ _
      · exact (eWrap_ok hD _ _).mono fun v hv => hv ▸ ints (fun w => by simp [binOp, Op.intArith]) fun K w => vr _ _
      · exact (eWrap_ok hD _ _).mono fun v hv => hv ▸ ints (fun w => by simp [binOp, Op.intArith]) fun K w => vr _ _
      · refine Ok.bind (hD.chk _) fun _ => (eWrap_ok hD _ _).mono fun v hv hb => ?_
        have hb' : ¬ b = 0 := by simpa using hb
        exact hv ▸ ints (fun w => by simp [binOp, Op.intDiv, hb']) fun K w => vr _ _
      · refine Ok.bind (hD.chk _) fun _ => Ok.pure fun hb => ?_
        have hb' : ¬ b = 0 := by simpa using hb
        exact ints (fun w => by simp [binOp, Op.intDiv, hb']) fun K w => vr _ _
      · exact Ok.pure (ints (fun w => by simp [binOp, Op.intBits]) fun K w => vr _ _)
      · exact Ok.pure (ints (fun w => by simp [binOp, Op.intBits]) fun K w => vr _ _)
      · exact Ok.pure (ints (fun w => by simp [binOp, Op.intBits]) fun K w => vr _ _)
      · exact Ok.pure (ints (fun w => by simp [binOp, Op.intBits]) fun K w => vr _ _)
      · exact Ok.pure (ints (fun w => by simp [binOp, Op.intCmp]) fun K w => vb _)
      · exact Ok.pure (ints (fun w => by simp [binOp, Op.intCmp]) fun K w => vb _)
      · exact Ok.pure (ints (fun w => by simp [binOp, Op.intCmp]) fun K w => vb _)
      · exact Ok.pure (ints (fun w => by simp [binOp, Op.intCmp]) fun K w => vb _)
      · exact Ok.pure (ints (fun w => by simp [binOp, Op.intCmp]) fun K w => vb _)
      · exact Ok.pure (ints (fun w => by simp [binOp, Op.intCmp]) fun K w => vb _)
      · exact Ok.fail
  · rename_i a b
    have strs : ∀ {v : EV} {mv : Value} (_ : ∀ w : World, (binOp op t (.string a) (.string b)).run P w = .ok mv w) (_ : ∀ K w, VR K w v mv),
        ∀ K w mx my, VR K w (.str a) mx → VR K w (.str b) my → ∃ mv, (binOp op t mx my).run P w = .ok mv w ∧ VR K w v mv := by
      intro v mv h1 h2 K w mx my hx hy
      obtain rfl := hx.str_inv
      obtain rfl := hy.str_inv
      exact ⟨mv, h1 w, h2 K w⟩
    split
    · refine Ok.bind (hD.chk _) fun _ => Ok.pure fun hb => ?_
      have hb' : a.size + b.size < 2 ^ 63 := by simpa using hb
      refine strs (fun w => ?_) fun K w => vs _
      have : ¬ ((a.size + b.size : Nat) : Int) > IntKind.i64.max := by
        simp [IntKind.max, IntKind.signed, IntKind.bits]; omega
      simp only [binOp, Op.stringOp, if_neg this, Sem.run_pure]
    · exact Ok.pure (strs (fun w => by simp [binOp, Op.stringOp, ByteArray.toList_eq]) fun K w => vb _)
    · exact Ok.pure (strs (fun w => by simp [binOp, Op.stringOp, ByteArray.toList_eq]) fun K w => vb _)
    · exact Ok.pure (strs (fun w => by simp [binOp, Op.stringOp, ByteArray.toList_eq]) fun K w => vb _)
    · exact Ok.pure (strs (fun w => by simp [binOp, Op.stringOp, ByteArray.toList_eq]) fun K w => vb _)
    · exact Ok.pure (strs (fun w => by simp [binOp, Op.stringOp, ByteArray.toList_eq]) fun K w => vb _)
    · exact Ok.pure (strs (fun w => by simp [binOp, Op.stringOp, ByteArray.toList_eq]) fun K w => vb _)
    · exact Ok.fail
  · exact Ok.fail
theorem eUn_ok (hD : DOk V P G D) (op : UnOp) (x : EV) :
    Ok V (eUn D op x) fun v => ∀ K w mx, VR K w x mx → ∃ mv, (Op.unary op mx).run P w = .ok mv w ∧ VR K w v mv := by
  unfold eUn
  split
  · refine (eWrap_ok hD _ _).mono fun v hv K w mx hx => ?_
    obtain rfl := hx.int_inv
    subst hv
    exact ⟨_, by simp only [Op.unary, Op.intArith, Sem.run_pure], VR.pure _ _ (.int _ _)⟩
  · refine Ok.pure fun K w mx hx => ?_
    obtain rfl := hx.int_inv
    exact ⟨_, by simp only [Op.unary, Op.intBits, Sem.run_pure], VR.pure _ _ (.int _ _)⟩
  · refine Ok.pure fun K w mx hx => ?_
    obtain rfl := hx.bool_inv
    exact ⟨_, by simp only [Op.unary, Sem.run_pure], VR.pure _ _ (.bool _)⟩
  · exact Ok.fail
end
end Go.Ev
namespace Go.Ev
section
variable {P : Program} {S : Type} {V : S → Prop} {G : Nat → Option (List EV)} {D : Drv S}
theorem VR.nilp_inv {K : KM} {w : World} {ma : Value} (h : VR K w .nilp ma) : ma = .pointer none := by
  cases h with
  | pure _ _ hp => cases hp; rfl
theorem VR.nilm_inv {K : KM} {w : World} {ma : Value} (h : VR K w .nilm ma) : ma = .map none := by
  cases h with
  | pure _ _ hp => cases hp; rfl
theorem VR.nilf_inv {K : KM} {w : World} {ma : Value} (h : VR K w .nilf ma) : ma = .nilFunc := by
  cases h with
  | pure _ _ hp => cases hp; rfl
theorem VR.nili_inv {K : KM} {w : World} {ma : Value} (h : VR K w .nili ma) : ma = .nilIface := by
  cases h with
  | pure _ _ hp => cases hp; rfl
theorem VR.mm_inv {K : KM} {w : World} {r : Nat} {ma : Value} (h : VR K w (.mm r) ma) : ma = .map (some (K.blk r)) ∧ K.al r := by
  cases h with
  | pure _ _ hp => cases hp
  | mm _ ha => exact ⟨rfl, ha⟩
theorem VR.im_inv {K : KM} {w : World} {es : List (EV × EV)} {ma : Value} (h : VR K w (.im es) ma) :
    ∃ (b : Nat) (mes : Array MapEntry) (clock : Nat), ma = .map (some b) ∧ K.F b ∧ w.heap[b]? = some (.map mes clock) ∧ es.length = mes.size ∧
      (∀ i (h : i < es.length) (h' : i < mes.size), PR K.F w es[i].1 mes[i].key) ∧ (∀ i (h : i < es.length) (h' : i < mes.size), PR K.F w es[i].2 mes[i].val) := by
  cases h with
  | pure _ _ hp => cases hp with
    | im _ b mes clock hF hm hl hk hv => exact ⟨b, mes, clock, rfl, hF, hm, hl, hk, hv⟩
def eqItems (P : Program) (d : Nat) (elem : TypeId) (n : Nat) (xs ys : Array Value) : List Nat → Sem Bool
  | [] => pure true
  | i :: is => do
    let a ← part elem xs (i * n)
    let b ← part elem ys (i * n)
    let r ← Op.equalIn d elem a b
    if (!r) = true then pure false else eqItems P d elem n xs ys is
theorem run_equalIn_array (w : World) (d : Nat) (t elem : TypeId) (len n : Nat) (xs ys : Array Value) (ht : P.underlying t = some (.array len elem)) (hn : sizeE P elem = some n) :
    (Op.equalIn (d + 1) t (.agg xs) (.agg ys)).run P w = (eqItems P d elem n xs ys (List.range' 0 len)).run P w := by
  simp only [Op.equalIn, Sem.run_bind, run_under ht, Result.andThen_ok, run_size hn]
  rw [Std.Legacy.Range.forIn_eq_forIn_range']
  simp only [Std.Legacy.Range.size, Nat.sub_zero, Nat.add_sub_cancel, Nat.div_one]
  generalize List.range' 0 len = is
  clear ht
  induction is generalizing w with
  | nil => simp [eqItems]
  | cons i is ih =>
    simp only [List.forIn_cons, eqItems, Sem.run_bind, Sem.run_ite]
    generalize (part elem xs (i * n)).run P w = r1
    cases r1 with
    | ok a w1 =>
      simp only [Result.andThen_ok]
      generalize (part elem ys (i * n)).run P w1 = r2
      cases r2 with
      | ok b w2 =>
        simp only [Result.andThen_ok]
        generalize (Op.equalIn d elem a b).run P w2 = r3
        cases r3 with
        | ok r w3 =>
          cases r
          · simp only [Result.andThen_ok, Bool.not_false, if_true, Sem.run_pure]
          · simp only [Result.andThen_ok, Bool.not_true, Bool.false_eq_true, if_false, Sem.run_pure]
            exact ih w3
        | halt x w3 => simp [Result.andThen]
      | halt x w2 => simp [Result.andThen]
    | halt x w1 => simp [Result.andThen]
set_option maxHeartbeats 1000000 in
theorem eqE_run : ∀ (d : Nat) (t : TypeId) (x y : EV) (b : Bool), eqE P d t x y = some b → ∀ (K : KM) (w : World) (mx my : Value), VR K w x mx → VR K w y my →
    ∀ D, d ≤ D → (Op.equalIn D t mx my).run P w = .ok b w := by
  intro d
  induction d with
  | zero => intro t x y b h; simp [eqE] at h
  | succ d ih =>
    have hF : ∀ (fs : List Field) (xs ys : List EV) (b : Bool), eqF P (eqE P d) fs xs ys = some b → ∀ (K : KM) (w : World) (mx my : Array Value),
        (xs.length = mx.size ∧ ∀ i (h' : i < mx.size), (mx[i]).oneCell' = true) → (ys.length = my.size ∧ ∀ i (h' : i < my.size), (my[i]).oneCell' = true) → (∀ i (h : i < xs.length) (h' : i < mx.size), VR K w xs[i] mx[i]) → (∀ i (h : i < ys.length) (h' : i < my.size), VR K w ys[i] my[i]) →
        ∀ D, d ≤ D → (Op.eqFields D mx my fs).run P w = .ok b w := by
      intro fs
      induction fs with
      | nil => intro xs ys b h K w mx my _ _ _ _ D _; simp only [eqF, Option.some.injEq] at h; subst h; simp [Op.eqFields]
      | cons f fs ihf =>
        intro xs ys b h K w mx my hlx hly hx hy D hD
        unfold eqF at h
        unfold Op.eqFields
        by_cases hf : f.name = "_"
        · rw [if_pos hf] at h
          rw [if_neg (by simpa using hf)]
          exact ihf xs ys b h K w mx my hlx hly hx hy D hD
        · rw [if_neg hf] at h
          rw [if_pos hf]
          split at h
          · rename_i n g hn hg
            split at h
            · rename_i x y hx' hy'
              split at h
              · rename_i a b' ha hb
                obtain rfl := Option.some.inj h
                obtain ⟨mvx, p1, p2⟩ := run_part (P := P) hn hg hlx hx hx'
                obtain ⟨mvy, q1, q2⟩ := run_part (P := P) hn hg hly hy hy'
                simp only [Sem.run_bind, p1, q1, Result.andThen_ok, ih _ _ _ _ ha K w mvx mvy p2 q2 D hD, Sem.run_ite, ihf xs ys b' hb K w mx my hlx hly hx hy D hD, Sem.run_pure]
                cases a <;> simp
              · simp at h
            · simp at h
          · simp at h
    have hA : ∀ (m i : Nat) (elem : TypeId) (xs ys : List EV) (b : Bool), eqA P (eqE P d) elem m i xs ys = some b → ∀ (n : Nat), sizeE P elem = some n → ∀ (K : KM) (w : World) (mx my : Array Value),
        (xs.length = mx.size ∧ ∀ i (h' : i < mx.size), (mx[i]).oneCell' = true) → (ys.length = my.size ∧ ∀ i (h' : i < my.size), (my[i]).oneCell' = true) → (∀ i (h : i < xs.length) (h' : i < mx.size), VR K w xs[i] mx[i]) → (∀ i (h : i < ys.length) (h' : i < my.size), VR K w ys[i] my[i]) →
        ∀ D, d ≤ D → (eqItems P D elem n mx my (List.range' i m)).run P w = .ok b w := by
      intro m
      induction m with
      | zero => intro i elem xs ys b h n _ K w mx my _ _ _ _ D _; simp only [eqA, Option.some.injEq] at h; subst h; simp [eqItems]
      | succ m ihm =>
        intro i elem xs ys b h n hn K w mx my hlx hly hx hy D hD
        unfold eqA at h
        rw [List.range'_succ]
        unfold eqItems
        split at h
        · rename_i n' g hn' hg
          rw [hn] at hn'
          obtain rfl := Option.some.inj hn'
          split at h
          · rename_i x y hx' hy'
            split at h
            · rename_i a b' ha hb
              obtain rfl := Option.some.inj h
              obtain ⟨mvx, p1, p2⟩ := run_part (P := P) hn hg hlx hx hx'
              obtain ⟨mvy, q1, q2⟩ := run_part (P := P) hn hg hly hy hy'
              simp only [Sem.run_bind, p1, q1, Result.andThen_ok, ih _ _ _ _ ha K w mvx mvy p2 q2 D hD, Sem.run_ite, ihm (i + 1) elem xs ys b' hb n hn K w mx my hlx hly hx hy D hD, Sem.run_pure]
              cases a <;> simp
            · simp at h
          · simp at h
        · simp at h
    intro t x y b h K w mx my hx hy D hD
    obtain ⟨D, rfl⟩ : ∃ D', D = D' + 1 := ⟨D - 1, by omega⟩
    have hD' : d ≤ D := by omega
    unfold eqE at h
    split at h
    · rename_i hu
      obtain rfl := hx.bool_inv; obtain rfl := hy.bool_inv
      obtain rfl := Option.some.inj h
      simp [Op.equalIn, run_under hu]
    · rename_i hu
      obtain rfl := hx.int_inv; obtain rfl := hy.int_inv
      split at h
      · rename_i hk
        obtain rfl := Option.some.inj h
        simp [Op.equalIn, run_under hu, hk]
      · simp at h
    · rename_i hu
      obtain rfl := hx.str_inv; obtain rfl := hy.str_inv
      obtain rfl := Option.some.inj h
      simp [Op.equalIn, run_under hu]
    · rename_i hu
      obtain rfl := hx.nilp_inv; obtain rfl := hy.nilp_inv
      obtain rfl := Option.some.inj h
      simp [Op.equalIn, run_under hu]
    · rename_i hu
      obtain rfl := hx.nilp_inv; obtain ⟨b', o, rfl, _⟩ := hy.ip_inv
      obtain rfl := Option.some.inj h
      simp [Op.equalIn, run_under hu]
    · rename_i hu
      obtain ⟨b', o, rfl, _⟩ := hx.ip_inv; obtain rfl := hy.nilp_inv
      obtain rfl := Option.some.inj h
      simp [Op.equalIn, run_under hu]
    · rename_i hu
      obtain rfl := hx.nilp_inv; obtain ⟨rfl, _⟩ := hy.ptr_inv
      obtain rfl := Option.some.inj h
      simp [Op.equalIn, run_under hu]
    · rename_i hu
      obtain ⟨rfl, _⟩ := hx.ptr_inv; obtain rfl := hy.nilp_inv
      obtain rfl := Option.some.inj h
      simp [Op.equalIn, run_under hu]
    · rename_i hu
      obtain rfl := hx.nilp_inv; obtain ⟨rfl, _⟩ := hy.pe_inv
      obtain rfl := Option.some.inj h
      simp [Op.equalIn, run_under hu]
    · rename_i hu
      obtain ⟨rfl, _⟩ := hx.pe_inv; obtain rfl := hy.nilp_inv
      obtain rfl := Option.some.inj h
      simp [Op.equalIn, run_under hu]
    · rename_i hu
      obtain rfl := Option.some.inj h
      rcases hy.isl_inv with ⟨_, _, rfl⟩ | ⟨h0, _⟩
      · rcases hx.isl_inv with ⟨rfl, _, rfl⟩ | ⟨rfl, b', o, cap, sp, mv, rfl, _⟩
        · simp [Op.equalIn, run_under hu]
        · simp [Op.equalIn, run_under hu]
      · simp at h0
    · rename_i hu
      obtain rfl := Option.some.inj h
      rcases hx.isl_inv with ⟨_, _, rfl⟩ | ⟨h0, _⟩
      · rcases hy.isl_inv with ⟨h0, _⟩ | ⟨_, b', o, cap, sp, mv, rfl, _⟩
        · simp at h0
        · simp [Op.equalIn, run_under hu]
      · simp at h0
    · rename_i hu
      obtain rfl := Option.some.inj h
      rcases hx.isl_inv with ⟨_, _, rfl⟩ | ⟨h0, _⟩
      · obtain ⟨a, mcap, rfl, _⟩ := hy.ms_inv
        simp [Op.equalIn, run_under hu]
      · simp at h0
    · rename_i hu
      obtain rfl := Option.some.inj h
      rcases hy.isl_inv with ⟨_, _, rfl⟩ | ⟨h0, _⟩
      · obtain ⟨a, mcap, rfl, _⟩ := hx.ms_inv
        simp [Op.equalIn, run_under hu]
      · simp at h0
    · rename_i hu
      obtain rfl := hx.nilm_inv; obtain rfl := hy.nilm_inv
      obtain rfl := Option.some.inj h
      simp [Op.equalIn, run_under hu]
    · rename_i hu
      obtain rfl := hx.nilm_inv; obtain ⟨rfl, _⟩ := hy.mm_inv
      obtain rfl := Option.some.inj h
      simp [Op.equalIn, run_under hu]
    · rename_i hu
      obtain ⟨rfl, _⟩ := hx.mm_inv; obtain rfl := hy.nilm_inv
      obtain rfl := Option.some.inj h
      simp [Op.equalIn, run_under hu]
    · rename_i hu
      obtain rfl := hx.nilm_inv; obtain ⟨b', mes, cl, rfl, _⟩ := hy.im_inv
      obtain rfl := Option.some.inj h
      simp [Op.equalIn, run_under hu]
    · rename_i hu
      obtain ⟨b', mes, cl, rfl, _⟩ := hx.im_inv; obtain rfl := hy.nilm_inv
      obtain rfl := Option.some.inj h
      simp [Op.equalIn, run_under hu]
    · rename_i hu
      obtain rfl := hx.nilf_inv; obtain rfl := hy.nilf_inv
      obtain rfl := Option.some.inj h
      simp [Op.equalIn, run_under hu]
    · rename_i hu
      obtain rfl := hx.nilf_inv; obtain ⟨_, _, rfl, _⟩ := hy.func_inv
      obtain rfl := Option.some.inj h
      simp [Op.equalIn, run_under hu]
    · rename_i hu
      obtain ⟨_, _, rfl, _⟩ := hx.func_inv; obtain rfl := hy.nilf_inv
      obtain rfl := Option.some.inj h
      simp [Op.equalIn, run_under hu]
    · rename_i hu
      obtain rfl := hx.nili_inv; obtain ⟨_, rfl, _⟩ := hy.iface_inv
      obtain rfl := Option.some.inj h
      simp [Op.equalIn, run_under hu]
    · rename_i hu
      obtain ⟨_, rfl, _⟩ := hx.iface_inv; obtain rfl := hy.nili_inv
      obtain rfl := Option.some.inj h
      simp [Op.equalIn, run_under hu]
    · rename_i fields xs ys hu
      split at h
      · simp at h
      · rename_i hst
        obtain ⟨mx, rfl, hlx, hx'⟩ := hx.agg_inv
        obtain ⟨my, rfl, hly, hy'⟩ := hy.agg_inv
        have hf : P.fieldsOf t = fields := by simp [Program.fieldsOf, hu]
        rw [run_equalIn_struct w D t mx my (by rw [hf]; exact hu) (by simpa using hst), hf]
        exact hF _ _ _ _ h K w mx my hlx hly hx' hy' D hD'
    · rename_i len elem xs ys hu
      obtain ⟨mx, rfl, hlx, hx'⟩ := hx.agg_inv
      obtain ⟨my, rfl, hly, hy'⟩ := hy.agg_inv
      split at h
      · rename_i hn
        obtain ⟨n, hn⟩ := Option.isSome_iff_exists.1 hn
        rw [run_equalIn_array w D t elem len n mx my hu hn]
        exact hA _ _ _ _ _ _ h n hn K w mx my hlx hly hx' hy' D hD'
      · simp at h
    · simp at h
end
end Go.Ev
namespace Go.Ev
section
variable {P : Program} {S : Type} {V : S → Prop} {G : Nat → Option (List EV)} {D : Drv S}
theorem VR.notScalar {K : KM} {w : World} {x : EV} {mx : Value} (h : VR K w x mx) : (∀ k n, x ≠ .int k n) → x ≠ .undef → ∀ k n, mx ≠ .int k n := by
  intro h1 h2 k n e
  subst e
  cases h with
  | pure _ _ hp => cases hp with
    | undef => exact h2 rfl
    | int k n => exact h1 k n rfl
theorem eqE_shape {d : Nat} {t : TypeId} {x y : EV} {b : Bool} (h : eqE P d t x y = some b) :
    (∃ a c a' c', x = .int a c ∧ y = .int a' c') ∨ (∃ a a', x = .str a ∧ y = .str a') ∨ (∀ (K : KM) (w : World) (mx my : Value), VR K w x mx → VR K w y my → ∀ op, op = .eql ∨ op = .neq →
      binOp op t mx my = (if op = .eql then (do pure (.bool (← Op.equal t mx my))) else (do pure (.bool (!(← Op.equal t mx my))))) ) := by
  cases d with
  | zero => simp [eqE] at h
  | succ d =>
    unfold eqE at h
    split at h
    case h_2 => exact .inl ⟨_, _, _, _, rfl, rfl⟩
    case h_3 => exact .inr (.inl ⟨_, _, rfl, rfl⟩)
    all_goals first
      | (refine .inr (.inr fun K w mx my hx hy op hop => ?_)
         first
         | (obtain rfl := hx.bool_inv; obtain rfl := hy.bool_inv; rcases hop with rfl | rfl <;> simp [binOp])
         | (obtain rfl := hx.nilp_inv; obtain rfl := hy.nilp_inv; rcases hop with rfl | rfl <;> simp [binOp])
         | (obtain rfl := hx.nilp_inv; obtain ⟨b', o, rfl, _⟩ := hy.ip_inv; rcases hop with rfl | rfl <;> simp [binOp])
         | (obtain ⟨b', o, rfl, _⟩ := hx.ip_inv; obtain rfl := hy.nilp_inv; rcases hop with rfl | rfl <;> simp [binOp])
         | (obtain rfl := hx.nilp_inv; obtain ⟨rfl, _⟩ := hy.ptr_inv; rcases hop with rfl | rfl <;> simp [binOp])
         | (obtain ⟨rfl, _⟩ := hx.ptr_inv; obtain rfl := hy.nilp_inv; rcases hop with rfl | rfl <;> simp [binOp])
         | (obtain rfl := hx.nilp_inv; obtain ⟨rfl, _⟩ := hy.pe_inv; rcases hop with rfl | rfl <;> simp [binOp])
         | (obtain ⟨rfl, _⟩ := hx.pe_inv; obtain rfl := hy.nilp_inv; rcases hop with rfl | rfl <;> simp [binOp])
         | (rcases hx.isl_inv with ⟨_, _, rfl⟩ | ⟨_, _, _, _, _, _, rfl, _⟩ <;> rcases hy.isl_inv with ⟨_, _, rfl⟩ | ⟨_, _, _, _, _, _, rfl, _⟩ <;> rcases hop with rfl | rfl <;> simp [binOp])
         | (rcases hx.isl_inv with ⟨_, _, rfl⟩ | ⟨_, _, _, _, _, _, rfl, _⟩ <;> obtain ⟨_, _, rfl, _⟩ := hy.ms_inv <;> rcases hop with rfl | rfl <;> simp [binOp])
         | (rcases hy.isl_inv with ⟨_, _, rfl⟩ | ⟨_, _, _, _, _, _, rfl, _⟩ <;> obtain ⟨_, _, rfl, _⟩ := hx.ms_inv <;> rcases hop with rfl | rfl <;> simp [binOp])
         | (obtain rfl := hx.nilm_inv; obtain rfl := hy.nilm_inv; rcases hop with rfl | rfl <;> simp [binOp])
         | (obtain rfl := hx.nilm_inv; obtain ⟨rfl, _⟩ := hy.mm_inv; rcases hop with rfl | rfl <;> simp [binOp])
         | (obtain ⟨rfl, _⟩ := hx.mm_inv; obtain rfl := hy.nilm_inv; rcases hop with rfl | rfl <;> simp [binOp])
         | (obtain rfl := hx.nilm_inv; obtain ⟨_, _, _, rfl, _⟩ := hy.im_inv; rcases hop with rfl | rfl <;> simp [binOp])
         | (obtain ⟨_, _, _, rfl, _⟩ := hx.im_inv; obtain rfl := hy.nilm_inv; rcases hop with rfl | rfl <;> simp [binOp])
         | (obtain rfl := hx.nilf_inv; obtain rfl := hy.nilf_inv; rcases hop with rfl | rfl <;> simp [binOp])
         | (obtain rfl := hx.nilf_inv; obtain ⟨_, _, rfl, _⟩ := hy.func_inv; rcases hop with rfl | rfl <;> simp [binOp])
         | (obtain ⟨_, _, rfl, _⟩ := hx.func_inv; obtain rfl := hy.nilf_inv; rcases hop with rfl | rfl <;> simp [binOp])
         | (obtain rfl := hx.nili_inv; obtain ⟨_, rfl, _⟩ := hy.iface_inv; rcases hop with rfl | rfl <;> simp [binOp])
         | (obtain ⟨_, rfl, _⟩ := hx.iface_inv; obtain rfl := hy.nili_inv; rcases hop with rfl | rfl <;> simp [binOp])
         | (obtain ⟨_, rfl, _⟩ := hx.agg_inv; obtain ⟨_, rfl, _⟩ := hy.agg_inv; rcases hop with rfl | rfl <;> simp [binOp])
         )
      | simp at h
theorem VR.of_nilIface {K : KM} {w : World} {x : EV} (h : VR K w x .nilIface) : x = .undef ∨ x = .nili := by
  cases h with
  | pure _ _ hp => cases hp <;> simp
theorem VR.of_agg {K : KM} {w : World} {x : EV} {m : Array Value} (h : VR K w x (.agg m)) : x = .undef ∨ ∃ cs, x = .agg cs := by
  cases h with
  | pure _ _ hp => cases hp <;> simp
  | agg cs => simp
theorem eqGuard_none {op : BinOp} {t : TypeId} {x y : Operand} {w : World} {mx my : Value} (h1 : ¬ (mx = .nilIface ∧ my = .nilIface)) (h2 : ¬ ∃ a b, mx = .agg a ∧ my = .agg b) :
    (eqGuard op t x y mx my).run P w = .ok () w := by
  unfold eqGuard
  cases op <;> first | rfl | skip
  all_goals
    simp only [Bool.not_true, Bool.false_eq_true, if_false]
    cases mx <;> cases my <;> first | rfl | (exact absurd ⟨rfl, rfl⟩ h1) | (exact absurd ⟨_, _, rfl, rfl⟩ h2)
theorem eqGuard_plain {op : BinOp} {t : TypeId} {x y : Operand} {d : Nat} {ex ey : EV} {b : Bool} (h : eqE P d t ex ey = some b) (hne : ∀ cs, ex ≠ .agg cs) {K : KM} {w : World} {mx my : Value}
    (hx : VR K w ex mx) (hy : VR K w ey my) : (eqGuard op t x y mx my).run P w = .ok () w := by
  have hu : ex ≠ .undef := by
    rintro rfl
    cases d <;> simp [eqE] at h
  have hu' : ey ≠ .undef := by
    rintro rfl
    cases d <;> simp [eqE] at h
  have hii : ¬ (ex = .nili ∧ ey = .nili) := by
    rintro ⟨rfl, rfl⟩
    cases d <;> simp [eqE] at h
  refine eqGuard_none ?_ ?_
  · rintro ⟨rfl, rfl⟩
    rcases hx.of_nilIface with h1 | h1
    · exact hu h1
    · rcases hy.of_nilIface with h2 | h2
      · exact hu' h2
      · exact hii ⟨h1, h2⟩
  · rintro ⟨a, b, rfl, rfl⟩
    rcases hx.of_agg with h1 | ⟨cs, h1⟩
    · exact hu h1
    · exact hne cs h1
theorem eEq_ok (op : BinOp) (t : TypeId) (x y : EV) (ox oy : Operand) (hni : ∀ k n k' n', x = .int k n → y = .int k' n' → False) (hns : ∀ s s', x = .str s → y = .str s' → False) :
    Ok V (eEq (S := S) P op t x y) fun v => ∀ K w mx my, VR K w x mx → VR K w y my →
      ∃ mv, (do eqGuard op t ox oy mx my; binOp op t mx my : Sem Value).run P w = .ok mv w ∧ VR K w v mv := by
  have vb : ∀ {K w} (b : Bool), VR K w (.bool b) (.bool b) := fun b => .pure _ _ (.bool b)
  unfold eEq
  refine Ok.bind (Ok.lift (Φ := fun b => eqE P 40 t x y = some b) fun b h => h) fun b => ?_
  have eq : ∀ {op : BinOp} (_ : op = .eql ∨ op = .neq), eqE P 40 t x y = some b → ∀ K w mx my, VR K w x mx → VR K w y my →
      (binOp op t mx my).run P w = .ok (.bool (if op = .eql then b else !b)) w := by
    intro op hop h K w mx my hx hy
    rcases eqE_shape h with ⟨a, c, a', c', h1, h2⟩ | ⟨a, a', h1, h2⟩ | hs
    · exact (hni _ _ _ _ h1 h2).elim
    · exact (hns _ _ h1 h2).elim
    · rw [hs K w mx my hx hy op hop]
      have := eqE_run (P := P) 40 t x y b h K w mx my hx hy Op.maxDepth (by decide)
      rcases hop with rfl | rfl <;> simp [Op.equal, this]
  split
  · refine Ok.ite (fun _ => Ok.fail) fun hg => Ok.pure fun h K w mx my hx hy => ?_
    obtain ⟨mx, rfl, _⟩ := id hx.agg_inv
    rename_i cs _
    have hy' : ∃ ys, y = .agg ys := by
      have h' := h
      unfold eqE at h'
      split at h' <;> first | (rename_i e; cases e; done) | exact ⟨_, rfl⟩ | (simp at h'; done)
    obtain ⟨ys, rfl⟩ := hy'
    obtain ⟨my, rfl, _⟩ := id hy.agg_inv
    exact ⟨.bool b, by rw [Sem.run_bind, run_eqGuard_agg _ _ _ _ _ _ _ (by simpa using hg)]; simpa using eq (.inl rfl) h K w _ _ hx hy, vb b⟩
  · refine Ok.ite (fun _ => Ok.fail) fun hg => Ok.pure fun h K w mx my hx hy => ?_
    obtain ⟨mx, rfl, _⟩ := id hx.agg_inv
    rename_i cs _
    have hy' : ∃ ys, y = .agg ys := by
      have h' := h
      unfold eqE at h'
      split at h' <;> first | (rename_i e; cases e; done) | exact ⟨_, rfl⟩ | (simp at h'; done)
    obtain ⟨ys, rfl⟩ := hy'
    obtain ⟨my, rfl, _⟩ := id hy.agg_inv
    exact ⟨.bool !b, by rw [Sem.run_bind, run_eqGuard_agg _ _ _ _ _ _ _ (by simpa using hg)]; simpa using eq (.inr rfl) h K w _ _ hx hy, vb _⟩
  · rename_i hne
    refine Ok.pure fun h K w mx my hx hy => ⟨.bool b, ?_, vb b⟩
    rw [Sem.run_bind, eqGuard_plain h (fun cs e => hne cs e) hx hy, Result.andThen_ok]
    simpa using eq (.inl rfl) h K w mx my hx hy
  · rename_i hne
    refine Ok.pure fun h K w mx my hx hy => ⟨.bool !b, ?_, vb _⟩
    rw [Sem.run_bind, eqGuard_plain h (fun cs e => hne cs e) hx hy, Result.andThen_ok]
    simpa using eq (.inr rfl) h K w mx my hx hy
  · exact Ok.fail
end
end Go.Ev
namespace Go.Ev
section
variable {P : Program} {S : Type} {V : S → Prop} {G : Nat → Option (List EV)} {D : Drv S}
theorem VR_ofCell (K : KM) (w : World) (v : Value) : VR K w (EV.ofCell v) v := by
  refine .pure _ _ ?_
  unfold EV.ofCell
  split
  · exact .bool _
  · exact .int _ _
  · exact .str _
  · exact .nilp
  · exact .isln _ _
  · exact .nilm
  · exact .nilf
  · exact .nili
  · exact .undef _
theorem VR_ofValue (K : KM) (w : World) (v : Value) (hf : flat v = true) : VR K w (EV.ofValue v) v := by
  unfold EV.ofValue
  split
  · rename_i cs
    refine .agg _ _ (by simp) (fun i h => ?_) fun i h1 h2 => ?_
    · simp only [flat, Array.all_eq_true] at hf
      exact hf i h
    · simp only [List.getElem_map, Array.getElem_toList]
      exact VR_ofCell K w _
  · exact .iface _ _ _ (VR_ofCell K w _)
  · exact VR_ofCell K w _
theorem VR.cells {K : KM} {w : World} {v : EV} {mv : Value} {vs : List EV} (h : VR K w v mv) (hc : v.cells = some vs) :
    VRs K w vs mv.cells ∧ ∀ i (h : i < mv.cells.size), (mv.cells[i]).oneCell' = true := by
  have one : ∀ {x : EV} {mx : Value}, VR K w x mx → mx.cells = #[mx] → mx.oneCell' = true → x.cells = some [x] → some [x] = some vs →
      VRs K w vs mx.cells ∧ ∀ i (h : i < mx.cells.size), (mx.cells[i]).oneCell' = true := by
    intro x mx hx h1 h2 _ h4
    obtain rfl := Option.some.inj h4
    rw [h1]
    refine ⟨⟨rfl, fun i h1 h2 => ?_⟩, fun i h => ?_⟩
    · have hi : i = 0 := by simp at h1; omega
      subst hi; simpa using hx
    · have hi : i = 0 := by simp at h; omega
      subst hi; simpa using h2
  have hv := h
  cases h with
  | pure _ _ hp =>
    cases hp with
    | undef => simp [EV.cells] at hc
    | agg cs mcs hl h1 h =>
      obtain rfl := Option.some.inj hc
      exact ⟨⟨hl, fun i a b => .pure _ _ (h i a b)⟩, h1⟩
    | tuple => simp [EV.cells] at hc
    | _ => exact one hv rfl rfl rfl hc
  | agg cs mcs hl h1 h =>
    obtain rfl := Option.some.inj hc
    exact ⟨⟨hl, h⟩, h1⟩
  | tuple => simp [EV.cells] at hc
  | _ => exact one hv rfl rfl rfl hc
theorem foldl_set_get (vs : List Value) : ∀ (k off : Nat) (cells : Array Value),
    ((vs.zipIdx k).foldl (fun cs (x : Value × Nat) => cs.setIfInBounds (off + x.2) x.1) cells).size = cells.size ∧
    ∀ i, ((vs.zipIdx k).foldl (fun cs (x : Value × Nat) => cs.setIfInBounds (off + x.2) x.1) cells)[i]? =
      if off + k ≤ i ∧ i < off + k + vs.length ∧ i < cells.size then vs[i - (off + k)]? else cells[i]? := by
  induction vs with
  | nil => intro k off cells; simp; intro i h1 h2; omega
  | cons v vs ih =>
    intro k off cells
    simp only [List.zipIdx_cons, List.foldl_cons]
    obtain ⟨h1, h2⟩ := ih (k + 1) off (cells.setIfInBounds (off + k) v)
    refine ⟨by simpa using h1, fun i => ?_⟩
    rw [h2]
    simp only [Array.size_setIfInBounds, List.length_cons, Array.getElem?_setIfInBounds]
    by_cases hi : i = off + k
    · subst hi
      by_cases hs : off + k < cells.size
      · rw [if_neg (by omega), if_pos rfl, if_pos hs, if_pos (by omega)]; simp
      · rw [if_neg (by omega), if_pos rfl, if_neg hs, if_neg (by omega)]
        simp [hs]
    · by_cases hc : off + (k + 1) ≤ i ∧ i < off + (k + 1) + vs.length ∧ i < cells.size
      · rw [if_pos hc, if_pos (by omega)]
        rw [show i - (off + k) = (i - (off + (k + 1))) + 1 from by omega, List.getElem?_cons_succ]
      · rw [if_neg hc, if_neg (by omega), if_neg (by omega)]
theorem putCells_get {cells vs cells' : List EV} {k : Nat} (h : putCells cells k vs = some cells') :
    k + vs.length ≤ cells.length ∧ cells'.length = cells.length ∧ ∀ i, cells'[i]? = if k ≤ i ∧ i < k + vs.length then vs[i - k]? else cells[i]? := by
  unfold putCells at h
  split at h
  · rename_i hle
    obtain rfl := Option.some.inj h
    refine ⟨hle, by simp; omega, fun i => ?_⟩
    rw [List.append_assoc, List.getElem?_append, List.length_take]
    by_cases h1 : i < k
    · rw [if_pos (by omega), if_neg (by omega), List.getElem?_take, if_pos h1]
    · rw [if_neg (by omega), List.getElem?_append]
      by_cases h2 : i < k + vs.length
      · rw [if_pos (by omega), if_pos (by omega)]; congr 1; omega
      · rw [if_neg (by omega), if_neg (by omega), List.getElem?_drop]; congr 1; omega
  · simp at h
def VC (K : KM) (w : World) (cs : List EV) (ms : Array Value) : Prop := VRs K w cs ms ∧ ∀ i (h : i < ms.size), (ms[i]).oneCell' = true
theorem VC.put {K : KM} {w : World} {cells vs cells' : List EV} {k : Nat} {mc mvs : Array Value} (h : putCells cells k vs = some cells') (hc : VC K w cells mc) (hv : VC K w vs mvs) :
    VC K w cells' (mvs.zipIdx.foldl (fun cs (x : Value × Nat) => cs.setIfInBounds (k + x.2) x.1) mc) ∧ k + mvs.size ≤ mc.size := by
  obtain ⟨hle, hl, hg⟩ := putCells_get h
  obtain ⟨⟨hcl, hcv⟩, hc1⟩ := hc
  obtain ⟨⟨hvl, hvv⟩, hv1⟩ := hv
  have e : mvs.zipIdx.foldl (fun cs (x : Value × Nat) => cs.setIfInBounds (k + x.2) x.1) mc = (mvs.toList.zipIdx 0).foldl (fun cs (x : Value × Nat) => cs.setIfInBounds (k + x.2) x.1) mc := by
    rw [← Array.foldl_toList]; simp
  rw [e]
  obtain ⟨f1, f2⟩ := foldl_set_get mvs.toList 0 k mc
  generalize (mvs.toList.zipIdx 0).foldl (fun cs (x : Value × Nat) => cs.setIfInBounds (k + x.2) x.1) mc = r at f1 f2
  have key : ∀ i (h : i < cells'.length) (h' : i < r.size), VR K w cells'[i] r[i] ∧ (r[i]).oneCell' = true := by
    intro i h1 h2
    have g1 := hg i
    have g2 := f2 i
    rw [List.getElem?_eq_getElem h1] at g1
    rw [Array.getElem?_eq_getElem h2] at g2
    by_cases hin : k ≤ i ∧ i < k + vs.length
    · rw [if_pos hin] at g1
      rw [if_pos (by simp; omega)] at g2
      rw [List.getElem?_eq_getElem (by omega)] at g1
      simp only [Nat.add_zero, Array.getElem?_toList] at g2
      rw [Array.getElem?_eq_getElem (by omega)] at g2
      simp only [Option.some.injEq] at g1 g2
      rw [g1, g2]
      exact ⟨hvv _ (by omega) (by omega), hv1 _ _⟩
    · rw [if_neg hin] at g1
      rw [if_neg (by simp; omega)] at g2
      rw [List.getElem?_eq_getElem (by omega)] at g1
      rw [Array.getElem?_eq_getElem (by omega)] at g2
      simp only [Option.some.injEq] at g1 g2
      rw [g1, g2]
      exact ⟨hcv _ (by omega) (by omega), hc1 _ _⟩
  exact ⟨⟨⟨by omega, fun i h1 h2 => (key i h1 h2).1⟩, fun i h2 => (key i (by omega) h2).2⟩, by omega⟩
theorem fillE_run {K : KM} {w : World} {places : Nat → Option (Nat × Nat)} : ∀ (parts : List (Nat × EV)) (mparts : List (Nat × Value)) (cells cells' : List EV) (mc : Array Value),
    fillE places cells parts = some cells' → parts.length = mparts.length → (∀ i (h : i < parts.length) (h' : i < mparts.length), parts[i].1 = mparts[i].1 ∧ VR K w parts[i].2 mparts[i].2) →
    VC K w cells mc → ∃ mc', Instr.fill places mc mparts = some mc' ∧ VC K w cells' mc' := by
  intro parts
  induction parts with
  | nil =>
    intro mparts cells cells' mc h hl _ hc
    cases mparts with
    | nil => simp only [fillE, Option.some.injEq] at h; subst h; exact ⟨mc, rfl, hc⟩
    | cons => simp at hl
  | cons p parts ih =>
    intro mparts cells cells' mc h hl hv hc
    cases mparts with
    | nil => simp at hl
    | cons m mparts =>
      obtain ⟨i, v⟩ := p
      obtain ⟨i', mv⟩ := m
      obtain ⟨rfl, hv0⟩ := hv 0 (by simp) (by simp)
      simp only [List.getElem_cons_zero] at hv0
      unfold fillE at h
      unfold Instr.fill
      cases hp : places i with
      | none => simp [hp] at h
      | some os =>
        obtain ⟨off, size⟩ := os
        simp only [hp] at h
        simp only [List.getElem_cons_zero, hp]
        split at h
        · rename_i vs hvs
          split at h
          · simp at h
          · rename_i hsz
            split at h
            · rename_i cells1 hput
              obtain ⟨hc1, hc2⟩ := hv0.cells hvs
              obtain ⟨hn, hle⟩ := VC.put hput hc ⟨hc1, hc2⟩
              have hsz' : mv.cells.size = size := by rw [← hc1.1]; omega
              obtain ⟨mc', h1, h2⟩ := ih mparts cells1 cells' _ h (by simpa using hl) (fun j a b => hv (j + 1) (by simpa using a) (by simpa using b)) hn
              refine ⟨mc', ?_, h2⟩
              rw [if_neg (by simp [hsz']; omega)]
              exact h1
            · simp at h
        · simp at h
theorem zero_cells {t : TypeId} {z : List EV} (h : zeroE P t = some z) (K : KM) (w : World) :
    ∃ v, (zeroValue t).run P w = .ok v w ∧ VC K w z v.cells := by
  unfold zeroE at h
  cases hi : P.info? t with
  | none => simp [hi] at h
  | some i =>
    simp only [hi, Option.bind_some] at h
    cases hzv : i.zero with
    | none => simp [hzv] at h
    | some v =>
      simp only [hzv, Option.bind_some] at h
      split at h
      · rename_i hf
        simp only [Option.some.injEq] at h
        subst h
        refine ⟨v, by simp [zeroValue, run_info hi, hzv], ⟨by simp, fun j h1 h2 => ?_⟩, fun j h => ?_⟩
        · simp only [List.getElem_map, Array.getElem_toList]; exact VR_ofCell K w _
        · cases v with
          | agg cs => simp only [flat, Array.all_eq_true] at hf; exact hf j h
          | tuple => simp [flat] at hf
          | _ => have hj : j = 0 := by (simp [Value.cells] at h; omega)
                 subst hj; simp [Value.cells, Value.oneCell']
      · simp at h
theorem zero_value {t : TypeId} {z : EV} (h : zeroV P t = some z) (K : KM) (w : World) : ∃ v, (zeroValue t).run P w = .ok v w ∧ VR K w z v := by
  unfold zeroV at h
  cases hi : P.info? t with
  | none => simp [hi] at h
  | some i =>
    simp only [hi, Option.bind_some] at h
    cases hzv : i.zero with
    | none => simp [hzv] at h
    | some v =>
      simp only [hzv, Option.bind_some] at h
      split at h
      · rename_i hf
        simp only [Option.some.injEq] at h
        subst h
        exact ⟨v, by simp [zeroValue, run_info hi, hzv], VR_ofValue K w v hf⟩
      · simp at h
theorem eBuild_ok (t : TypeId) (parts : List (Nat × EV)) :
    Ok V (eBuild (S := S) P t parts) fun v => ∀ K w (mparts : Array (Nat × Value)), parts.length = mparts.size →
      (∀ i (h : i < parts.length) (h' : i < mparts.size), parts[i].1 = mparts[i].1 ∧ VR K w parts[i].2 mparts[i].2) → ∃ mv, (Instr.build t mparts).run P w = .ok mv w ∧ VR K w v mv := by
  unfold eBuild
  refine Ok.bind (Ok.lift (Φ := fun z => zeroE P t = some z) fun n h => h) fun z => ?_
  split
  · rename_i fields hu
    refine Ok.bind (Ok.lift (Φ := fun z => structPlaces P fields = some z) fun n h => h) fun places => ?_
    refine Ok.bind (Ok.lift (Φ := fun cs => fillE (fun i : Nat => (places : List (Nat × Nat))[i]?) z parts = some cs) fun n h => h) fun cs => Ok.pure ?_
    intro hcs hp hz K w mparts hl hv
    obtain ⟨zv, z1, z2⟩ := zero_cells hz K w
    obtain ⟨mc, m1, m2⟩ := fillE_run parts mparts.toList z cs zv.cells hcs (by simpa using hl) (fun i a b => by simpa using hv i a (by simpa using b)) z2
    refine ⟨.agg mc, ?_, .agg _ _ m2.1.1 m2.2 m2.1.2⟩
    have hr := run_places (P := P) w _ _ hp
    simp only [Instr.build, Sem.run_bind, z1, Result.andThen_ok, run_under hu]
    rw [show (Array.mapM (m := Sem) (fun f => do pure (Field.offset f, ← sizeOf f.type)) fields) = (List.toArray <$> fields.toList.mapM fun f => Prod.mk f.offset <$> sizeOf f.type) from by
      rw [Array.mapM_eq_mapM_toList]; simp]
    simp only [Sem.run_map, hr, Result.andThen_ok]
    have hfun : (fun x : Nat => places.toArray[x]?) = fun i => places[i]? := by funext i; simp
    rw [hfun, m1]
    rfl
  · rename_i n elem hu
    refine Ok.bind (Ok.lift (Φ := fun n => sizeE P elem = some n) fun n h => h) fun n => ?_
    refine Ok.bind (Ok.lift (Φ := fun cs => fillE (fun i => some (i * n, n)) z parts = some cs) fun n h => h) fun cs => Ok.pure ?_
    intro hcs hn hz K w mparts hl hv
    obtain ⟨zv, z1, z2⟩ := zero_cells hz K w
    obtain ⟨mc, m1, m2⟩ := fillE_run parts mparts.toList z cs zv.cells hcs (by simpa using hl) (fun i a b => by simpa using hv i a (by simpa using b)) z2
    refine ⟨.agg mc, ?_, .agg _ _ m2.1.1 m2.2 m2.1.2⟩
    simp only [Instr.build, Sem.run_bind, z1, Result.andThen_ok, run_under hu, run_size hn, m1]
    rfl
  · exact Ok.fail
theorem run_getMap {w : World} {b : Nat} {es : Array MapEntry} {clock : Nat} (h : w.heap[b]? = some (.map es clock)) : (getObj b).run P w = .ok (.map es clock) w := by
  simp only [getObj, Sem.run, h]
theorem eLen_ok (look : Look) (t : TypeId) (x : EV) :
    Ok V (eLen (S := S) P look t x) fun v => ∀ K w mx ty, LookOk look K w → VR K w x mx → ∃ mv, (Builtin.len_ #[t] ty #[mx]).run P w = .ok mv w ∧ VR K w v mv := by
  have vi : ∀ {K w} (n : Nat), VR K w (.int .i64 n) (goInt n) := fun n => .pure _ _ (.int _ _)
  unfold eLen
  split
  · rename_i s hu
    refine Ok.pure fun K w mx ty _ hx => ?_
    obtain rfl := hx.str_inv
    exact ⟨_, by simp [Builtin.len_, run_under hu], vi _⟩
  · rename_i n e hu
    refine Ok.pure fun K w mx ty _ hx => ?_
    exact ⟨_, by simp [Builtin.len_, run_under hu], vi _⟩
  · rename_i e nn esz len row hu
    refine Ok.pure fun K w mx ty _ hx => ?_
    rcases hx.isl_inv with ⟨_, rfl, rfl⟩ | ⟨_, b, o, cap, sp, mv, rfl, _⟩
    · exact ⟨_, by simp [Builtin.len_, run_under hu], vi _⟩
    · exact ⟨_, by simp [Builtin.len_, run_under hu], vi _⟩
  · rename_i e r esz off len cap hu
    refine Ok.pure fun K w mx ty _ hx => ?_
    obtain ⟨a, mcap, rfl, _⟩ := hx.ms_inv
    exact ⟨_, by simp [Builtin.len_, run_under hu], vi _⟩
  · rename_i x' _ _ k e hu
    refine Ok.bind (Ok.lift (Φ := fun z => entriesOf look x' = some z) fun n h => h) fun es => Ok.pure ?_
    intro h K w mx ty hL hx
    unfold entriesOf at h
    split at h
    · obtain rfl := Option.some.inj h
      obtain rfl := hx.nilm_inv
      exact ⟨goInt 0, by simp [Builtin.len_, run_under hu], vi 0⟩
    · obtain rfl := Option.some.inj h
      obtain ⟨b, mes, clock, rfl, _, hm, hl, _⟩ := hx.im_inv
      exact ⟨goInt mes.size, by simp [Builtin.len_, run_under hu, run_getMap hm], by rw [hl]; exact vi _⟩
    · rename_i r
      split at h
      · rename_i fr pf es' hr
        obtain rfl := Option.some.inj h
        obtain ⟨rfl, _⟩ := hx.mm_inv
        obtain ⟨_, mes, clock, hm, hl, _⟩ := hL r _ hr
        exact ⟨goInt mes.size, by simp [Builtin.len_, run_under hu, run_getMap hm], by rw [hl]; exact vi _⟩
      · simp at h
    · simp at h
  · exact Ok.fail
theorem eAssert_ok (x : EV) (xt asserted : TypeId) (ok : Bool) :
    Ok V (eAssert (S := S) P x asserted ok) fun v => ∀ K w mx, VR K w x mx → ∃ mv, (Instr.typeAssert mx xt asserted ok).run P w = .ok mv w ∧ VR K w v mv := by
  have tup : ∀ {K w} {v : EV} {mv : Value} (b : Bool), VR K w v mv → VR K w (.tuple [v, .bool b]) (.tuple #[mv, .bool b]) := by
    intro K w v mv b h
    refine .tuple _ _ rfl fun i h1 h2 => ?_
    match i, h1 with
    | 0, _ => exact h
    | 1, _ => exact .pure _ _ (.bool b)
  unfold eAssert
  split
  · exact Ok.fail
  · rename_i d t v hni hu
    refine Ok.ite (fun ht => Ok.pure fun K w mx hx => ?_) fun ht => Ok.ite (fun hok => ?_) fun _ => Ok.fail
    · obtain ⟨mv, rfl, hv⟩ := hx.iface_inv
      subst ht
      refine ⟨if ok then .tuple #[mv, .bool true] else mv, ?_, ?_⟩
      · simp only [Instr.typeAssert, Sem.run_bind, run_under hu, Result.andThen_ok]
        cases d <;> first | exact absurd rfl (hni _) | simp
      · cases ok
        · exact hv
        · exact tup true hv
    · subst hok
      refine Ok.bind (Ok.lift (Φ := fun z => zeroV P asserted = some z) fun n h => h) fun zv => Ok.pure ?_
      intro hz K w mx hx
      obtain ⟨mv, rfl, hv⟩ := hx.iface_inv
      obtain ⟨z, z1, z2⟩ := zero_value hz K w
      refine ⟨.tuple #[z, .bool false], ?_, tup false z2⟩
      simp only [Instr.typeAssert, Sem.run_bind, run_under hu, Result.andThen_ok]
      cases d <;> first | exact absurd rfl (hni _) | simp [ht, z1]
  · rename_i d hni hu
    refine Ok.ite (fun hok => ?_) fun _ => Ok.fail
    subst hok
    refine Ok.bind (Ok.lift (Φ := fun z => zeroV P asserted = some z) fun n h => h) fun zv => Ok.pure ?_
    intro hz K w mx hx
    obtain rfl := hx.nili_inv
    obtain ⟨z, z1, z2⟩ := zero_value hz K w
    refine ⟨.tuple #[z, .bool false], ?_, tup false z2⟩
    simp only [Instr.typeAssert, Sem.run_bind, run_under hu, Result.andThen_ok]
    cases d <;> first | exact absurd rfl (hni _) | simp [z1]
  · exact Ok.fail
end
end Go.Ev
namespace Go.Ev
section
variable {P : Program} {S : Type} {V : S → Prop} {G : Nat → Option (List EV)} {D : Drv S}
def VRo (K : KM) (w : World) : Option EV → Option Value → Prop
  | none, none => True
  | some v, some mv => VR K w v mv
  | _, _ => False
theorem run_sliceBound {w : World} {k : IntKind} {i : Int} {y : Nat} {code : BoundsCode} (h0 : 0 ≤ i) (h1 : i ≤ y) :
    (Instr.sliceBound (.int k i) y code).run P w = .ok i.toNat w := by
  simp [Instr.sliceBound, asIntOf, h0, h1]
theorem VRo.some_inv {K : KM} {w : World} {v : EV} {mx : Option Value} (h : VRo K w (some v) mx) : ∃ mv, mx = some mv ∧ VR K w v mv := by
  cases mx with
  | none => exact h.elim
  | some mv => exact ⟨mv, rfl, h⟩
theorem VRo.none_inv {K : KM} {w : World} {mx : Option Value} (h : VRo K w none mx) : mx = none := by
  cases mx with
  | none => rfl
  | some mv => exact h.elim
theorem boundOf_some {x : Option EV} {d : Nat} {i : Int} (h : boundOf x d = some i) : (x = none ∧ i = d) ∨ ∃ k, x = some (.int k i) := by
  unfold boundOf at h
  split at h
  · exact .inl ⟨rfl, (Option.some.inj h).symm⟩
  · rename_i k i'
    obtain rfl := Option.some.inj h
    exact .inr ⟨k, rfl⟩
  · simp at h
theorem run_bounds2 {K : KM} {w : World} {lo hi : Option EV} {mlo mhi : Option Value} {sl : Bool} {len cap : Nat} {l h : Int} (hl : boundOf lo 0 = some l) (hh : boundOf hi len = some h)
    (rl : VRo K w lo mlo) (rh : VRo K w hi mhi) (h0 : 0 ≤ l) (h1 : l ≤ h) (h2 : h ≤ cap) :
    (Instr.sliceBounds sl len cap mlo mhi none).run P w = .ok (l.toNat, h.toNat, cap) w := by
  unfold Instr.sliceBounds
  rcases boundOf_some hh with ⟨rfl, rfl⟩ | ⟨k, rfl⟩
  · obtain rfl := rh.none_inv
    rcases boundOf_some hl with ⟨rfl, rfl⟩ | ⟨k', rfl⟩
    · obtain rfl := rl.none_inv
      simp
    · obtain ⟨mv, rfl, hv⟩ := rl.some_inv
      obtain rfl := hv.int_inv
      simp only [Sem.run_bind, Sem.run_pure, Result.andThen_ok]
      rw [run_sliceBound h0 (by omega)]
      simp
  · obtain ⟨mv, rfl, hv⟩ := rh.some_inv
    obtain rfl := hv.int_inv
    rcases boundOf_some hl with ⟨rfl, rfl⟩ | ⟨k', rfl⟩
    · obtain rfl := rl.none_inv
      simp only [Sem.run_bind, Sem.run_pure, Result.andThen_ok]
      rw [run_sliceBound (by omega) h2]
      simp
    · obtain ⟨mv, rfl, hv⟩ := rl.some_inv
      obtain rfl := hv.int_inv
      simp only [Sem.run_bind, Sem.run_pure, Result.andThen_ok]
      rw [run_sliceBound (by omega) h2]
      simp only [Result.andThen_ok]
      rw [run_sliceBound h0 (by omega)]
      simp
theorem run_bounds3 {K : KM} {w : World} {lo hi : Option EV} {mlo mhi : Option Value} {sl : Bool} {len cap : Nat} {l h m : Int} {mmx : Value} {k : IntKind} (hl : boundOf lo 0 = some l)
    (hh : boundOf hi len = some h) (hhi : hi ≠ none)
    (rl : VRo K w lo mlo) (rh : VRo K w hi mhi) (hm : mmx = .int k m) (h0 : 0 ≤ l) (h1 : l ≤ h) (h2 : h ≤ m) (h3 : m ≤ cap) :
    (Instr.sliceBounds sl len cap mlo mhi (some mmx)).run P w = .ok (l.toNat, h.toNat, m.toNat) w := by
  subst hm
  unfold Instr.sliceBounds
  rcases boundOf_some hh with ⟨rfl, rfl⟩ | ⟨k', rfl⟩
  · exact absurd rfl hhi
  · obtain ⟨mv, rfl, hv⟩ := rh.some_inv
    obtain rfl := hv.int_inv
    simp only [Sem.run_bind]
    rw [run_sliceBound (by omega) h3]
    simp only [Result.andThen_ok]
    rw [run_sliceBound (by omega) (by omega)]
    simp only [Result.andThen_ok]
    rcases boundOf_some hl with ⟨rfl, rfl⟩ | ⟨k', rfl⟩
    · obtain rfl := rl.none_inv
      simp
    · obtain ⟨mv, rfl, hv⟩ := rl.some_inv
      obtain rfl := hv.int_inv
      simp only [Sem.run_bind]
      rw [run_sliceBound h0 (by omega)]
      simp
theorem and4 {a b c d : Prop} [Decidable a] [Decidable b] [Decidable c] [Decidable d] (h : (decide a && decide b && decide c && decide d) = true) : a ∧ b ∧ c ∧ d := by
  simp only [Bool.and_eq_true, decide_eq_true_eq] at h
  exact ⟨h.1.1.1, h.1.1.2, h.1.2, h.2⟩
theorem and3 {a b c : Prop} [Decidable a] [Decidable b] [Decidable c] (h : (decide a && decide b && decide c) = true) : a ∧ b ∧ c := by
  simp only [Bool.and_eq_true, decide_eq_true_eq] at h
  exact ⟨h.1.1, h.1.2, h.2⟩
theorem isl_cut {K : KM} {w : World} {esz len : Nat} {row : Nat → List EV} {b o cap : Nat} {sp : Option Nat} {mv : Nat → Nat → Value} (hF : 0 < len → K.F b) (hcap : len ≤ cap) (hsp : 0 < len → sp = none)
    (hl : ∀ i, i < len → (row i).length = esz) (hc : ∀ i, i < len → ∀ j, j < esz → cellAt w b (o + i * esz + j) = some (mv i j) ∧ (mv i j).oneCell' = true)
    (hv : ∀ i, i < len → ∀ j (h : j < (row i).length), PR K.F w (row i)[j] (mv i j)) (l h m n : Nat) (hn : 0 < len → esz = n) (h1 : l ≤ h) (h2 : h ≤ len) (h3 : h ≤ m) :
    VR K w (.isl true esz (h - l) fun i => row (l + i)) (.slice (if m = l then some ⟨b, o, sp⟩ else some ((⟨b, o, sp⟩ : Addr).add (l * n))) (h - l) (m - l)) := by
  refine .pure _ _ ?_
  split
  · rename_i hm
    have h0 : h - l = 0 := by omega
    rw [h0]
    exact .isl esz 0 _ b o _ (fun _ _ => default) (by omega) (by omega) sp (by omega) (by omega) (by omega) (by omega)
  · by_cases h0 : h - l = 0
    · rw [h0]
      generalize hadd : (⟨b, o, sp⟩ : Addr).add (l * n) = a'
      obtain ⟨b', o', sp'⟩ := a'
      exact .isl esz 0 _ b' o' _ (fun _ _ => default) (by omega) (by omega) sp' (by omega) (by omega) (by omega) (by omega)
    · have hlen : 0 < len := by omega
      obtain rfl := hsp hlen
      obtain rfl := hn hlen
      rw [add_none]
      refine .isl esz (h - l) _ b (o + l * esz) _ (fun i j => mv (l + i) j) (fun _ => hF hlen) (by omega) none (fun _ => rfl) (fun i hi => hl _ (by omega)) (fun i hi j hj => ?_) (fun i hi j hj => hv _ (by omega) j hj)
      have := hc (l + i) (by omega) j hj
      rw [Nat.add_mul, ← Nat.add_assoc] at this
      exact this
theorem ms_cut {K : KM} {w : World} {r esz off len mcap : Nat} {a : Addr} (hal : K.al r) (hle : len ≤ mcap) (haddr : mcap ≠ 0 → a = ⟨K.blk r, K.off r + off * esz, none⟩)
    (l h m : Nat) (cap' : Option Nat) (h1 : l ≤ h) (h2 : h ≤ m) (hm : m ≤ mcap) (hlen : off + h ≤ K.len r)
    (hcap : ∀ c, cap' = some c → m - l = c ∧ off + l + c ≤ K.len r) (hnone : cap' = none → K.off r + (off + l + (m - l)) * esz = K.ext r) :
    VR K w (.ms r esz (off + l) (h - l) cap') (.slice (if m = l then some a else some (a.add (l * esz))) (h - l) (m - l)) := by
  split
  · exact .ms r esz _ _ _ _ _ hal (by omega) (by omega) hcap hnone (by omega)
  · obtain rfl := haddr (by omega)
    rw [add_none]
    refine .ms r esz _ _ _ _ _ hal (by omega) (by omega) hcap hnone fun _ => ?_
    rw [Nat.add_mul, Nat.add_assoc]
set_option maxHeartbeats 1000000 in
theorem eSlice_ok (hD : DOk V P G D) (look : Look) (t : TypeId) (x : EV) (lo hi mx : Option EV) :
    Ok V (eSlice D P look t x lo hi mx) fun v => ∀ K w mxv mlo mhi mmx, LookOk look K w → VR K w x mxv → VRo K w lo mlo → VRo K w hi mhi → VRo K w mx mmx →
      ∃ mv, (Instr.sliceAt t mxv mlo mhi mmx).run P w = .ok mv w ∧ VR K w v mv := by
  unfold eSlice
  split
  · rename_i s hu
    refine Ok.ite (fun _ => Ok.fail) fun hmx => ?_
    refine Ok.bind (Ok.lift (Φ := fun z => boundOf hi s.size = some z) fun n h => h) fun h => ?_
    refine Ok.bind (Ok.lift (Φ := fun z => boundOf lo 0 = some z) fun n h => h) fun l => ?_
    refine Ok.bind (hD.chk _) fun _ => Ok.pure ?_
    intro hb hl hh K w mxv mlo mhi mmx hL hx rl rh rm
    obtain ⟨h0, h1, h2⟩ := and3 hb
    obtain rfl := hx.str_inv
    obtain rfl : mx = none := by cases mx <;> simp at hmx ⊢
    obtain rfl := rm.none_inv
    refine ⟨.string (s.extract l.toNat h.toNat), ?_, .pure _ _ (.str _)⟩
    simp only [Instr.sliceAt, Sem.run_bind, run_under hu, Result.andThen_ok]
    simp only [Instr.slice, Sem.run_bind, run_under hu, Result.andThen_ok, Option.isSome_none, Bool.false_eq_true, if_false]
    rw [run_bounds2 hl hh rl rh h0 h1 h2]
    rfl
  · rename_i elem nn esz len row hu
    refine Ok.bind (Ok.lift (Φ := fun n => sizeE P elem = some n) fun n h => h) fun n => ?_
    refine Ok.bind (Ok.lift (Φ := fun z => boundOf hi len = some z) fun n h => h) fun h => ?_
    refine Ok.bind (Ok.lift (Φ := fun z => boundOf lo 0 = some z) fun n h => h) fun l => ?_
    refine Ok.bind (Ok.lift (Φ := fun z => boundOf mx len = some z) fun n h => h) fun m => ?_
    refine Ok.ite (fun _ => Ok.fail) fun hne => ?_
    refine Ok.bind (hD.chk _) fun _ => Ok.pure ?_
    intro hb hm hl hh hn K w mxv mlo mhi mmx hL hx rl rh rm
    obtain ⟨h0, h1, h2, h3⟩ := and4 hb
    simp only [Instr.sliceAt, Sem.run_bind, run_under hu, Result.andThen_ok]
    simp only [Instr.slice]
    have run : ∀ (cap : Nat), len ≤ cap → ∃ m' : Nat, (h.toNat ≤ m' ∧ m' ≤ cap) ∧ (Instr.sliceBounds true len cap mlo mhi mmx).run P w = .ok (l.toNat, h.toNat, m') w := by
      intro cap hcap
      rcases boundOf_some hm with ⟨rfl, rfl⟩ | ⟨k, rfl⟩
      · obtain rfl := rm.none_inv
        exact ⟨cap, by omega, run_bounds2 hl hh rl rh h0 h1 (by omega)⟩
      · obtain ⟨mmv, rfl, hmv⟩ := rm.some_inv
        have hhi : hi ≠ none := by
          rintro rfl
          exact hne (.inr ⟨rfl, rfl⟩)
        exact ⟨m.toNat, by omega, run_bounds3 hl hh hhi rl rh hmv.int_inv h0 h1 h2 (by omega)⟩
    rcases hx.isl_inv with ⟨rfl, rfl, rfl⟩ | ⟨rfl, b, o, cap, sp, mv, rfl, hF, hcap, hsp, hlr, hc, hv⟩
    · obtain ⟨m', hm1, hm2⟩ := run 0 (Nat.le_refl _)
      refine ⟨.slice none 0 0, ?_, ?_⟩
      · simp only [Sem.run_bind, run_under hu, Result.andThen_ok, hm2, run_size hn, Sem.run_pure]
        rw [show h.toNat - l.toNat = 0 from by omega, show m' - l.toNat = 0 from by omega]
        simp
      · rw [show h.toNat - l.toNat = 0 from by omega]
        exact .pure _ _ (.isln _ _)
    · obtain ⟨m', hm1, hm2⟩ := run cap hcap
      refine ⟨_, ?_, isl_cut hF hcap hsp hlr hc hv l.toNat h.toNat m' n (fun _ => by
        by_cases he : esz = n
        · exact he
        · exact absurd (.inl ⟨rfl, he⟩) hne) (by omega) (by omega) hm1.1⟩
      simp only [Sem.run_bind, run_under hu, Result.andThen_ok, hm2, run_size hn, Sem.run_pure, Option.map_some]
  · rename_i elem r esz off len cap hu
    refine Ok.bind (Ok.lift (Φ := fun n => sizeE P elem = some n) fun n h => h) fun n => ?_
    refine Ok.bind (Ok.lift (Φ := fun z => boundOf hi len = some z) fun n h => h) fun h => ?_
    refine Ok.bind (Ok.lift (Φ := fun z => boundOf lo 0 = some z) fun n h => h) fun l => ?_
    refine Ok.ite (fun _ => Ok.fail) fun hne => ?_
    have hesz : esz = n := by
      by_cases he : esz = n
      · exact he
      · exact absurd (.inl he) hne
    split
    · rename_i c
      refine Ok.bind (hD.chk _) fun _ => Ok.pure ?_
      intro hb hl hh hn K w mxv mlo mhi mmx hL hx rl rh rm
      obtain ⟨h0, h1, h2⟩ := and3 hb
      obtain rfl := rm.none_inv
      obtain ⟨a, mcap, rfl, hal, hle, hlen, hcap, hnone, haddr⟩ := hx.ms_inv
      obtain ⟨rfl, hoc⟩ := hcap _ rfl
      refine ⟨_, ?_, ms_cut hal hle haddr l.toNat h.toNat mcap (some (mcap - l.toNat)) (by omega) (by omega) (Nat.le_refl _) (by omega) (fun c hc => by
        obtain rfl := Option.some.inj hc
        exact ⟨rfl, by omega⟩) (fun hc => by cases hc)⟩
      simp only [Instr.sliceAt, Sem.run_bind, run_under hu, Result.andThen_ok, Instr.slice]
      rw [run_bounds2 hl hh rl rh h0 h1 (by omega)]
      simp only [Result.andThen_ok, run_size hn, hesz, Sem.run_pure, Option.map_some]
    · refine Ok.bind (hD.chk _) fun _ => Ok.pure ?_
      intro hb hl hh hn K w mxv mlo mhi mmx hL hx rl rh rm
      obtain ⟨h0, h1, h2⟩ := and3 hb
      obtain rfl := rm.none_inv
      obtain ⟨a, mcap, rfl, hal, hle, hlen, hcap, hnone, haddr⟩ := hx.ms_inv
      refine ⟨_, ?_, ms_cut hal hle haddr l.toNat h.toNat mcap none (by omega) (by omega) (Nat.le_refl _) (by omega) (fun c hc => by cases hc) (fun _ => by
        rw [show off + l.toNat + (mcap - l.toNat) = off + mcap from by omega]; exact hnone rfl)⟩
      simp only [Instr.sliceAt, Sem.run_bind, run_under hu, Result.andThen_ok, Instr.slice]
      rw [run_bounds2 hl hh rl rh h0 h1 (by omega)]
      simp only [Result.andThen_ok, run_size hn, hesz, Sem.run_pure, Option.map_some]
    · rename_i m
      refine Ok.bind (Ok.lift (Φ := fun z => boundOf (some m) 0 = some z) fun n h => h) fun mi => ?_
      refine Ok.bind (hD.chk _) fun _ => Ok.pure ?_
      intro hb hm hl hh hn K w mxv mlo mhi mmx hL hx rl rh rm
      obtain ⟨h0, h1, h2, h3⟩ := and4 hb
      obtain ⟨mmv, rfl, hmv⟩ := rm.some_inv
      rcases boundOf_some hm with ⟨hc, _⟩ | ⟨k, hk⟩
      · cases hc
      obtain rfl := Option.some.inj hk
      have hhi : hi ≠ none := by
        rintro rfl
        exact hne (.inr ⟨rfl, rfl⟩)
      obtain ⟨a, mcap, rfl, hal, hle, hlen, hcap, hnone, haddr⟩ := hx.ms_inv
      refine ⟨_, ?_, ms_cut hal hle haddr l.toNat h.toNat mi.toNat (some (mi.toNat - l.toNat)) (by omega) (by omega) (by omega) (by omega) (fun c hc => by
        obtain rfl := Option.some.inj hc
        exact ⟨rfl, by omega⟩) (fun hc => by cases hc)⟩
      simp only [Instr.sliceAt, Sem.run_bind, run_under hu, Result.andThen_ok, Instr.slice]
      rw [run_bounds3 hl hh hhi rl rh hmv.int_inv h0 h1 h2 (by omega)]
      simp only [Result.andThen_ok, run_size hn, hesz, Sem.run_pure, Option.map_some]
  · rename_i cnt elem r esz hu
    refine Ok.bind (Ok.lift (Φ := fun n => sizeE P elem = some n) fun n h => h) fun n => ?_
    refine Ok.bind (Ok.lift (Φ := fun z => boundOf hi cnt = some z) fun n h => h) fun h => ?_
    refine Ok.bind (Ok.lift (Φ := fun z => boundOf lo 0 = some z) fun n h => h) fun l => ?_
    refine Ok.ite (fun _ => Ok.fail) fun hne => ?_
    split
    · rename_i fr pf esz' ex len row hlook
      refine Ok.ite (fun _ => Ok.fail) fun hlc => ?_
      have hlc : len = cnt := by simpa using hlc
      refine Ok.bind (hD.chk _) fun _ => Ok.pure ?_
      intro hb hl hh hn K w mxv mlo mhi mmx hL hx rl rh rm
      obtain ⟨h0, h1, h2⟩ := and3 hb
      have hmx : mx = none := by
        cases mx with
        | none => rfl
        | some v => exact absurd (.inl rfl) hne
      subst hmx
      obtain rfl := rm.none_inv
      have hesz : esz = n := by
        by_cases he : esz = n
        · exact he
        · exact absurd (.inr he) hne
      subst hesz hlc
      obtain ⟨rfl, hal, hi0⟩ := hx.pe_inv
      have hkl : K.len r = len := (hL r _ hlook).2.1
      have cut := ms_cut (K := K) (w := w) (r := r) (esz := esz) (off := 0) (len := len) (mcap := len) (a := ⟨K.blk r, K.off r + 0 * esz + 0, none⟩) hal (Nat.le_refl _) (fun _ => rfl) l.toNat h.toNat len (some (len - l.toNat)) (by omega) (by omega) (Nat.le_refl _) (by omega) (fun c hc => by
        obtain rfl := Option.some.inj hc
        exact ⟨rfl, by omega⟩) (fun hc => by cases hc)
      refine ⟨_, ?_, cut⟩
      simp only [Instr.sliceAt, Sem.run_bind, run_under hu, Result.andThen_ok, Instr.sureAddr, Sem.run_pure]
      rw [run_bounds2 hl hh rl rh h0 h1 (by omega)]
      simp only [Result.andThen_ok, run_size hn, Sem.run_pure]
      split <;> rfl
    · exact Ok.fail
  · rename_i cnt elem cells k hu
    refine Ok.bind (Ok.lift (Φ := fun n => sizeE P elem = some n) fun n h => h) fun n => ?_
    refine Ok.bind (Ok.lift (Φ := fun z => boundOf hi cnt = some z) fun n h => h) fun h => ?_
    refine Ok.bind (Ok.lift (Φ := fun z => boundOf lo 0 = some z) fun n h => h) fun l => ?_
    refine Ok.ite (fun _ => Ok.fail) fun hne => ?_
    refine Ok.bind (hD.chk _) fun _ => Ok.pure ?_
    intro hb hl hh hn K w mxv mlo mhi mmx hL hx rl rh rm
    obtain ⟨h0, h1, h2⟩ := and3 hb
    have hmx : mx = none := by
      cases mx with
      | none => rfl
      | some v => exact absurd (.inl rfl) hne
    subst hmx
    obtain rfl := rm.none_inv
    have hk : k + cnt * n ≤ cells.length := by
      rcases Nat.lt_or_ge cells.length (k + cnt * n) with h' | h'
      · exact absurd (.inr (.inr h')) hne
      · exact h'
    obtain ⟨b, o, rfl, _, _, hF, mv, hc, hv⟩ := hx.ip_inv
    have cut := isl_cut (K := K) (w := w) (esz := n) (len := cnt) (row := fun i => (cells.drop (k + i * n)).take n) (b := b) (o := o + k) (cap := cnt) (sp := none)
      (mv := fun i j => mv (k + i * n + j)) (fun _ => hF) (Nat.le_refl _) (fun _ => rfl)
      (fun i hi => by
        have : (i + 1) * n ≤ cnt * n := Nat.mul_le_mul_right _ hi
        rw [Nat.add_mul, Nat.one_mul] at this
        simp; omega)
      (fun i hi j hj => by
        have : (i + 1) * n ≤ cnt * n := Nat.mul_le_mul_right _ hi
        rw [Nat.add_mul, Nat.one_mul] at this
        have := hc (k + i * n + j) (by omega)
        rw [show o + (k + i * n + j) = o + k + i * n + j from by omega] at this
        exact this)
      (fun i hi j hj => by
        simp only [List.getElem_take, List.getElem_drop]
        exact hv _ _)
      l.toNat h.toNat cnt n (fun _ => rfl) (by omega) (by omega) (by omega)
    refine ⟨_, ?_, cut⟩
    simp only [Instr.sliceAt, Sem.run_bind, run_under hu, Result.andThen_ok, Instr.sureAddr, Sem.run_pure]
    rw [run_bounds2 hl hh rl rh h0 h1 (by omega)]
    simp only [Result.andThen_ok, run_size hn, Sem.run_pure]
    split <;> rfl
  · exact Ok.fail
end
end Go.Ev
namespace Go.Ev
section
variable {P : Program} {S : Type} {V : S → Prop} {G : Nat → Option (List EV)} {D : Drv S}
theorem findE_ok (hD : DOk V P G D) (kt : TypeId) (k : EV) : ∀ (es : List (EV × EV)) (i : Nat), Ok V (findE D P kt k es i) (findB P kt k es i)
  | [], i => by unfold findE; exact Ok.pure rfl
  | e :: es, i => by
    unfold findE
    refine Ok.bind (Ok.lift (Φ := fun b => eqE P 40 kt k e.1 = some b) fun n h => h) fun b => ?_
    refine Ok.bind (hD.br _) fun d => ?_
    refine Ok.ite (fun hd => Ok.pure fun hb he => ?_) fun hd => (findE_ok hD kt k es (i + 1)).mono fun r hr hb he => ?_
    · subst hd; subst hb
      exact ⟨true, he, fun _ => rfl, fun h => by cases h⟩
    · refine ⟨b, he, fun h => ?_, fun _ => hr⟩
      subst h; exact absurd hb hd
theorem eFind_ok (hD : DOk V P G D) (kt : TypeId) (k : EV) (es : List (EV × EV)) : Ok V (eFind D P kt k es) (findB P kt k es 0) := by
  unfold eFind
  refine Ok.bind (hD.find kt k es) fun o => ?_
  cases o with
  | some r => exact Ok.pure fun h => h r rfl
  | none => exact (findE_ok hD kt k es 0).mono fun r h _ => h
def VE (K : KM) (w : World) (es : List (EV × EV)) (mes : List MapEntry) : Prop :=
  es.length = mes.length ∧ ∀ i (h : i < es.length) (h' : i < mes.length), VR K w es[i].1 mes[i].key ∧ VR K w es[i].2 mes[i].val
theorem VE.cons {K : KM} {w : World} {e : EV × EV} {es : List (EV × EV)} {mes : List MapEntry} (h : VE K w (e :: es) mes) :
    ∃ m ms, mes = m :: ms ∧ VR K w e.1 m.key ∧ VR K w e.2 m.val ∧ VE K w es ms := by
  obtain ⟨hl, hv⟩ := h
  cases mes with
  | nil => simp at hl
  | cons m ms =>
    exact ⟨m, ms, rfl, (hv 0 (by simp) (by simp)).1, (hv 0 (by simp) (by simp)).2, by simpa using hl, fun i a b => hv (i + 1) (by simpa using a) (by simpa using b)⟩
def Found (K : KM) (w : World) (mes : List MapEntry) (i : Nat) (r : Option (Nat × EV)) (mr : Option (Nat × Value)) : Prop :=
  match r, mr with
  | none, none => True
  | some (j, v), some (j', mv) => j = j' ∧ i ≤ j ∧ (mes[j - i]?).map (·.val) = some mv ∧ VR K w v mv
  | _, _ => False
theorem Found.shift {K : KM} {w : World} {m : MapEntry} {ms : List MapEntry} {i : Nat} {r : Option (Nat × EV)} {mr : Option (Nat × Value)} (h : Found K w ms (i + 1) r mr) : Found K w (m :: ms) i r mr := by
  match r, mr, h with
  | none, none, _ => trivial
  | some (j, v), some (j', mv), h =>
    obtain ⟨h1, h5, h6, h7⟩ := h
    refine ⟨h1, by omega, ?_, h7⟩
    rw [show j - i = (j - (i + 1)) + 1 from by omega, List.getElem?_cons_succ]
    exact h6
theorem found_asking {K : KM} {w : World} {kt : TypeId} {k : EV} {mk : Value} (hk : VR K w k mk) : ∀ (es : List (EV × EV)) (mes : List MapEntry) (i : Nat) (r : Option (Nat × EV)),
    findB P kt k es i r → VE K w es mes → ∃ mr, (Instr.findAsking kt mk mes i).run P w = .ok mr w ∧ Found K w mes i r mr := by
  intro es
  induction es with
  | nil =>
    intro mes i r h hv
    cases mes with
    | nil => exact ⟨none, by simp [Instr.findAsking], by rw [show r = none from h]; trivial⟩
    | cons => simp [VE] at hv
  | cons e es ih =>
    intro mes i r h hv
    obtain ⟨m, ms, rfl, h1, h2, h3⟩ := hv.cons
    obtain ⟨b, hb, ht, hf⟩ := h
    have heq := eqE_run (P := P) 40 kt k e.1 b hb K w mk m.key hk h1 Op.maxDepth (by decide)
    cases b with
    | true =>
      refine ⟨some (i, m.val), by simp [Instr.findAsking, Op.equal, heq], ?_⟩
      rw [ht rfl]
      exact ⟨rfl, Nat.le_refl _, by simp, h2⟩
    | false =>
      obtain ⟨mr, r1, r2⟩ := ih ms (i + 1) r (hf rfl) h3
      refine ⟨mr, by simp [Instr.findAsking, Op.equal, heq, r1], ?_⟩
      exact r2.shift
theorem VR.of_int {K : KM} {w : World} {x : EV} {k : IntKind} {n : Int} (h : VR K w x (.int k n)) : x = .undef ∨ x = .int k n := by
  cases h with
  | pure _ _ hp => cases hp <;> simp
theorem found_now {K : KM} {w : World} {kt : TypeId} {kd : TypeDesc} {k : EV} {mk : Value} (hu : P.underlying kt = some kd) (hk : VR K w k mk)
    (hkd : (∃ q n q', kd = .int q ∧ k = .int q' n) ∨ (kd = .string ∧ ∃ s, k = .str s) ∨ (kd = .bool ∧ ∃ b, k = .bool b)) : ∀ (es : List (EV × EV)) (mes : List MapEntry) (i : Nat) (r : Option (Nat × EV)),
    findB P kt k es i r → VE K w es mes → ∃ mr, Instr.findNow kd mk mes i = some mr ∧ Found K w mes i r mr := by
  intro es
  induction es with
  | nil =>
    intro mes i r h hv
    cases mes with
    | nil => exact ⟨none, rfl, by rw [show r = none from h]; trivial⟩
    | cons => simp [VE] at hv
  | cons e es ih =>
    intro mes i r h hv
    obtain ⟨m, ms, rfl, h1, h2, h3⟩ := hv.cons
    obtain ⟨b, hb, ht, hf⟩ := h
    have same : Instr.sameNow kd mk m.key = some b := by
      rcases hkd with ⟨q, n, q', rfl, rfl⟩ | ⟨rfl, s, rfl⟩ | ⟨rfl, b', rfl⟩
      · obtain rfl := hk.int_inv
        unfold eqE at hb
        rw [hu] at hb
        cases he : e.1 with
        | int k' n' =>
          rw [he] at hb h1
          rw [h1.int_inv]
          simpa [Instr.sameNow] using hb
        | _ => rw [he] at hb; simp at hb
      · obtain rfl := hk.str_inv
        unfold eqE at hb
        rw [hu] at hb
        cases he : e.1 with
        | str s' =>
          rw [he] at hb h1
          rw [h1.str_inv]
          simpa [Instr.sameNow] using hb
        | _ => rw [he] at hb; simp at hb
      · obtain rfl := hk.bool_inv
        unfold eqE at hb
        rw [hu] at hb
        cases he : e.1 with
        | bool s' =>
          rw [he] at hb h1
          rw [h1.bool_inv]
          simpa [Instr.sameNow] using hb
        | _ => rw [he] at hb; simp at hb
    cases b with
    | true =>
      refine ⟨some (i, m.val), by simp [Instr.findNow, same], ?_⟩
      rw [ht rfl]
      exact ⟨rfl, Nat.le_refl _, by simp, h2⟩
    | false =>
      obtain ⟨mr, r1, r2⟩ := ih ms (i + 1) r (hf rfl) h3
      refine ⟨mr, by simp [Instr.findNow, same, r1], ?_⟩
      exact r2.shift
theorem findNow_asks {kd : TypeDesc} {mk : Value} (h : ∀ k', Instr.sameNow kd mk k' = none) : ∀ (m : MapEntry) (ms : List MapEntry) (i : Nat), Instr.findNow kd mk (m :: ms) i = none := by
  intro m ms i
  simp [Instr.findNow, h]
theorem find_run {K : KM} {w : World} {kt : TypeId} {k : EV} {mk : Value} {d : Nat} (hok : keyOk P d kt k = true) (hk : VR K w k mk) {es : List (EV × EV)} {mes : List MapEntry} {r : Option (Nat × EV)}
    (hf : findB P kt k es 0 r) (hv : VE K w es mes) : ∃ mr, (Instr.findKey kt mk mes).run P w = .ok mr w ∧ Found K w mes 0 r mr := by
  cases d with
  | zero => simp [keyOk] at hok
  | succ d =>
    have now : ∀ {kd : TypeDesc}, P.underlying kt = some kd → ((∃ q n q', kd = .int q ∧ k = .int q' n) ∨ (kd = .string ∧ ∃ s, k = .str s) ∨ (kd = .bool ∧ ∃ b, k = .bool b)) →
        ∃ mr, (Instr.findKey kt mk mes).run P w = .ok mr w ∧ Found K w mes 0 r mr := by
      intro kd hu hkd
      obtain ⟨mr, h1, h2⟩ := found_now hu hk hkd es mes 0 r hf hv
      exact ⟨mr, by simp [Instr.findKey, run_under hu, h1], h2⟩
    have ask : ∀ {kd : TypeDesc}, P.underlying kt = some kd → (∀ k', Instr.sameNow kd mk k' = none) →
        ∃ mr, (Instr.findKey kt mk mes).run P w = .ok mr w ∧ Found K w mes 0 r mr := by
      intro kd hu hs
      cases mes with
      | nil =>
        obtain ⟨mr, h1, h2⟩ := found_asking (P := P) hk es [] 0 r hf hv
        refine ⟨none, by simp [Instr.findKey, run_under hu, Instr.findNow], ?_⟩
        simp only [Instr.findAsking, Sem.run_pure, Result.ok.injEq, and_true] at h1
        subst h1
        exact h2
      | cons m ms =>
        obtain ⟨mr, h1, h2⟩ := found_asking (P := P) hk es (m :: ms) 0 r hf hv
        exact ⟨mr, by simp only [Instr.findKey, Sem.run_bind, run_under hu, Result.andThen_ok, findNow_asks hs]; exact h1, h2⟩
    unfold keyOk at hok
    split at hok
    · rename_i hu; exact now hu (.inl ⟨_, _, _, rfl, rfl⟩)
    · rename_i hu; exact now hu (.inr (.inl ⟨rfl, _, rfl⟩))
    · rename_i hu; exact now hu (.inr (.inr ⟨rfl, _, rfl⟩))
    · rename_i hu
      obtain ⟨mcs, rfl, _⟩ := hk.agg_inv
      exact ask hu fun k' => by cases k' <;> rfl
    · rename_i hu
      obtain ⟨mcs, rfl, _⟩ := hk.agg_inv
      exact ask hu fun k' => by cases k' <;> rfl
    · simp at hok
theorem run_checkFields {mcs : Array Value} {n : Nat} (fs : List Field) (e : Bool) (w : World)
    (h : ∀ f ∈ fs, ∃ mv, (part f.type mcs f.offset).run P w = .ok mv w ∧ (Instr.checkKey e n f.type mv).run P w = .ok () w) :
    (forIn (m := Sem) fs PUnit.unit fun f (_ : PUnit) =>
      if f.name ≠ "_" then do
        Instr.checkKey e n f.type (← part f.type mcs f.offset)
        pure (ForInStep.yield PUnit.unit)
      else pure (ForInStep.yield PUnit.unit)).run P w = .ok PUnit.unit w := by
  induction fs with
  | nil => simp
  | cons f fs ih =>
    obtain ⟨mv, h1, h2⟩ := h f (by simp)
    have ih' := ih fun f hf => h f (by simp [hf])
    rw [List.forIn_cons, Sem.run_bind]
    split
    · simp only [Sem.run_bind, h1, h2, Result.andThen_ok, Sem.run_pure]
      exact ih'
    · simp only [Sem.run_pure, Result.andThen_ok]
      exact ih'
theorem run_checkItems {mcs : Array Value} {n sz : Nat} {elem : TypeId} (is : List Nat) (e : Bool) (w : World) (hs : sizeE P elem = some sz)
    (h : ∀ i ∈ is, ∃ mv, (part elem mcs (i * sz)).run P w = .ok mv w ∧ (Instr.checkKey e n elem mv).run P w = .ok () w) :
    (forIn (m := Sem) is PUnit.unit fun i (_ : PUnit) => do
        Instr.checkKey e n elem (← part elem mcs (i * (← sizeOf elem)))
        pure (ForInStep.yield PUnit.unit)).run P w = .ok PUnit.unit w := by
  induction is with
  | nil => simp
  | cons f fs ih =>
    obtain ⟨mv, h1, h2⟩ := h f (by simp)
    have ih' := ih fun f hf => h f (by simp [hf])
    rw [List.forIn_cons, Sem.run_bind]
    simp only [Sem.run_bind, run_size hs, h1, h2, Result.andThen_ok, Sem.run_pure]
    exact ih'
theorem run_checkKey {K : KM} {w : World} (e : Bool) : ∀ (d : Nat) (t : TypeId) (k : EV) (mk : Value), keyOk P d t k = true → VR K w k mk → ∀ D, d ≤ D → (Instr.checkKey e D t mk).run P w = .ok () w := by
  intro d
  induction d with
  | zero => intro t k mk h; simp [keyOk] at h
  | succ d ih =>
    intro t k mk h hk D hD
    obtain ⟨D, rfl⟩ : ∃ D', D = D' + 1 := ⟨D - 1, by omega⟩
    unfold keyOk at h
    split at h
    · rename_i hu
      obtain rfl := hk.int_inv
      simp [Instr.checkKey, run_under hu]
    · rename_i hu
      obtain rfl := hk.str_inv
      simp [Instr.checkKey, run_under hu]
    · rename_i hu
      obtain rfl := hk.bool_inv
      simp [Instr.checkKey, run_under hu]
    · rename_i fields cs hu
      obtain ⟨mcs, rfl, hl, hc⟩ := hk.agg_inv
      simp only [Instr.checkKey, Sem.run_bind, run_under hu, Result.andThen_ok]
      rw [← Array.forIn_toList]
      rw [run_checkFields]
      · rfl
      · intro f hf
        have := List.all_eq_true.1 h f hf
        split at this
        · rename_i n g hn hg
          split at this
          · rename_i x hx
            obtain ⟨mv, p1, p2⟩ := run_part (P := P) hn hg hl hc hx
            exact ⟨mv, p1, ih _ _ _ this p2 D (by omega)⟩
          · simp at this
        · simp at this
    · rename_i len elem cs hu
      obtain ⟨mcs, rfl, hl, hc⟩ := hk.agg_inv
      split at h
      · rename_i n g hn hg
        simp only [Instr.checkKey, Sem.run_bind, run_under hu, Result.andThen_ok]
        rw [Std.Legacy.Range.forIn_eq_forIn_range']
        simp only [Std.Legacy.Range.size, Nat.sub_zero, Nat.add_sub_cancel, Nat.div_one]
        rw [run_checkItems _ _ _ hn]
        · rfl
        · intro i hi
          have := List.all_eq_true.1 h i hi
          split at this
          · rename_i x hx
            obtain ⟨mv, p1, p2⟩ := run_part (P := P) hn hg hl hc hx
            exact ⟨mv, p1, ih _ _ _ this p2 D (by omega)⟩
          · simp at this
      · simp at h
    · simp at h
theorem entries_run {look : Look} {K : KM} {w : World} (hL : LookOk look K w) {m : EV} {mm : Value} {es : List (EV × EV)} (h : entriesOf look m = some es) (hm : VR K w m mm) :
    (mm = .map none ∧ es = []) ∨ ∃ b mes clock, mm = .map (some b) ∧ w.heap[b]? = some (.map mes clock) ∧ VE K w es mes.toList := by
  unfold entriesOf at h
  split at h
  · obtain rfl := Option.some.inj h
    exact .inl ⟨hm.nilm_inv, rfl⟩
  · obtain rfl := Option.some.inj h
    obtain ⟨b, mes, clock, rfl, _, hb, hl, hk, hv⟩ := hm.im_inv
    exact .inr ⟨b, mes, clock, rfl, hb, by simpa using hl, fun i h1 h2 => ⟨.pure _ _ (by simpa using hk i h1 (by simpa using h2)), .pure _ _ (by simpa using hv i h1 (by simpa using h2))⟩⟩
  · rename_i r
    split at h
    · rename_i fr pf es' hr
      obtain rfl := Option.some.inj h
      obtain ⟨rfl, _⟩ := hm.mm_inv
      obtain ⟨_, mes, clock, hb, hl, _, hv, _⟩ := hL r _ hr
      exact .inr ⟨_, mes, clock, rfl, hb, by simpa using hl, fun i h1 h2 => by simpa using hv i h1 (by simpa using h2)⟩
    · simp at h
  · simp at h
theorem eLookup_ok (hD : DOk V P G D) (look : Look) (t : TypeId) (m k : EV) (ok : Bool) :
    Ok V (eLookup D P look t m k ok) fun v => ∀ K w mm mk, LookOk look K w → VR K w m mm → VR K w k mk → ∃ mv, (Instr.lookup t mm mk ok).run P w = .ok mv w ∧ VR K w v mv := by
  have tup : ∀ {K w} {v : EV} {mv : Value} (b : Bool), VR K w v mv → VR K w (if ok then .tuple [v, .bool b] else v) (if ok then .tuple #[mv, .bool b] else mv) := by
    intro K w v mv b h
    cases ok
    · exact h
    · refine .tuple _ _ rfl fun i h1 h2 => ?_
      match i, h1 with
      | 0, _ => exact h
      | 1, _ => exact .pure _ _ (.bool b)
  unfold eLookup
  split
  · rename_i kt et hu
    refine Ok.bind (Ok.lift (Φ := fun z => entriesOf look m = some z) fun n h => h) fun es => ?_
    refine Ok.bind (Ok.lift (Φ := fun z => zeroV P et = some z) fun n h => h) fun zv => ?_
    refine Ok.ite (fun hkey => ?_) fun _ => Ok.fail
    refine Ok.bind (eFind_ok hD kt k es) fun r => Ok.pure ?_
    intro hf hz hes K w mm mk hL hm hk
    obtain ⟨z, z1, z2⟩ := zero_value hz K w
    rcases entries_run hL hes hm with ⟨rfl, rfl⟩ | ⟨b, mes, clock, rfl, hb, hv⟩
    · obtain ⟨mr, f1, f2⟩ := find_run (P := P) hkey hk hf (K := K) (w := w) (mes := []) ⟨rfl, fun i h => by simp at h⟩
      simp only [Instr.lookup, Sem.run_bind, run_under hu, Result.andThen_ok, Sem.run_pure, run_checkKey (P := P) (w := w) _ 3 kt k mk hkey hk 10000 (by decide), f1]
      match r, mr, f2 with
      | none, none, _ =>
        refine ⟨if ok then .tuple #[z, .bool false] else z, ?_, tup false z2⟩
        simp only [Sem.run_bind, z1, Result.andThen_ok, Sem.run_pure]
      | some (j, v), some (j', mv), hfd =>
        refine ⟨if ok then .tuple #[mv, .bool true] else mv, ?_, tup true hfd.2.2.2⟩
        simp only [Sem.run_bind, Result.andThen_ok, Sem.run_pure]
    · obtain ⟨mr, f1, f2⟩ := find_run (P := P) hkey hk hf hv
      simp only [Instr.lookup, Sem.run_bind, run_under hu, Result.andThen_ok, run_getMap hb, Sem.run_pure, run_checkKey (P := P) (w := w) _ 3 kt k mk hkey hk 10000 (by decide), f1]
      match r, mr, f2 with
      | none, none, _ =>
        refine ⟨if ok then .tuple #[z, .bool false] else z, ?_, tup false z2⟩
        simp only [Sem.run_bind, z1, Result.andThen_ok, Sem.run_pure]
      | some (j, v), some (j', mv), hfd =>
        refine ⟨if ok then .tuple #[mv, .bool true] else mv, ?_, tup true hfd.2.2.2⟩
        simp only [Sem.run_bind, Result.andThen_ok, Sem.run_pure]
  · exact Ok.fail
end
end Go.Ev
