/- A part of the proof: EvFork, EvRen, EvIn, EvLaid. -/
import Derived.Test.YtodbllcfofohdaaGreatDoorEvC
import Derived.ChangeArms
import Derived.ChangeShapes
import Derived.OpenShut
import Derived.FnData
import GoSem.ClaimJoined
set_option linter.unusedSimpArgs false
set_option linter.unusedVariables false
namespace Go.Ev
structure BLe (x y : EV) : Prop where
  p : PLe x y
  v : VLe x y
theorem BLe.refl (x : EV) : BLe x x := ⟨PLe.refl x, VLe.refl x⟩
theorem BLe.undef {x : EV} : BLe x .undef := ⟨PLe.undef, VLe.undef⟩
def zipM (f : EV → EV → EV) : List EV → List EV → List EV
  | x :: xs, y :: ys => f x y :: zipM f xs ys
  | _, _ => []
def mergeV (b : Bool) : Nat → EV → EV → EV
  | 0, _, _ => .undef
  | n + 1, x, y =>
    match x with
    | .int k a => match y with
      | .int k' a' => if k = k' then .int k (bif b then a else a') else .undef
      | _ => .undef
    | .bool a => match y with
      | .bool a' => .bool (bif b then a else a')
      | _ => .undef
    | .str a => match y with
      | .str a' => .str (bif b then a else a')
      | _ => .undef
    | .isl nn esz len row => match y with
      | .isl nn' esz' len' row' => if esz = esz' then .isl (bif b then nn else nn') esz (bif b then len else len') (fun i => bif b then row i else row' i) else .undef
      | _ => .undef
    | .agg xs => match y with
      | .agg ys => if xs.length = ys.length then .agg (zipM (mergeV b n) xs ys) else .undef
      | _ => .undef
    | .tuple xs => match y with
      | .tuple ys => if xs.length = ys.length then .tuple (zipM (mergeV b n) xs ys) else .undef
      | _ => .undef
    | .ptr r k => match y with
      | .ptr r' k' => if r = r' ∧ k = k' then .ptr r k else .undef
      | _ => .undef
    | .pe r esz i k => match y with
      | .pe r' esz' i' k' => if r = r' ∧ esz = esz' ∧ k = k' then .pe r esz (bif b then i else i') k else .undef
      | _ => .undef
    | .ms r esz off len none => match y with
      | .ms r' esz' off' len' none => if r = r' ∧ esz = esz' then .ms r esz (bif b then off else off') (bif b then len else len') none else .undef
      | _ => .undef
    | .ms r esz off len (some c) => match y with
      | .ms r' esz' off' len' (some c') => if r = r' ∧ esz = esz' then .ms r esz (bif b then off else off') (bif b then len else len') (some (bif b then c else c')) else .undef
      | _ => .undef
    | .mm r => match y with
      | .mm r' => if r = r' then .mm r else .undef
      | _ => .undef
    | .it r => match y with
      | .it r' => if r = r' then .it r else .undef
      | _ => .undef
    | .nilp => match y with
      | .nilp => .nilp
      | _ => .undef
    | .nilm => match y with
      | .nilm => .nilm
      | _ => .undef
    | .nilf => match y with
      | .nilf => .nilf
      | _ => .undef
    | .nili => match y with
      | .nili => .nili
      | _ => .undef
    | .im es => match y with
      | .im es' => .im (bif b then es else es')
      | _ => .undef
    | .iface t v => match y with
      | .iface t' v' => if t = t' then .iface t (mergeV b n v v') else .undef
      | _ => .undef
    | .ip xs k => match y with
      | .ip ys k' => if k = k' ∧ xs.length = ys.length then .ip (zipM (mergeV b n) xs ys) k else .undef
      | _ => .undef
    | _ => .undef
theorem zipM_get {f : EV → EV → EV} : ∀ {xs ys : List EV}, xs.length = ys.length → (zipM f xs ys).length = xs.length ∧ ∀ i (h : i < (zipM f xs ys).length) (h1 : i < xs.length) (h2 : i < ys.length), (zipM f xs ys)[i] = f xs[i] ys[i]
  | [], [], _ => ⟨rfl, fun i h => by simp [zipM] at h⟩
  | x :: xs, y :: ys, h => by
    obtain ⟨a, b⟩ := zipM_get (f := f) (xs := xs) (ys := ys) (by simpa using h)
    refine ⟨by simp [zipM, a], fun i h h1 h2 => ?_⟩
    cases i with
    | zero => rfl
    | succ i => exact b i (by simpa [zipM] using h) (by simpa using h1) (by simpa using h2)
  | [], _ :: _, h => by simp at h
  | _ :: _, [], h => by simp at h
theorem BLe.agg {xs ys : List EV} (hl : ys.length = xs.length) (h : ∀ i (h1 : i < xs.length) (h2 : i < ys.length), BLe xs[i] ys[i]) : BLe (.agg xs) (.agg ys) := by
  have hp : ∀ (F : Nat → Prop) (w : World) mv, PR F w (.agg xs) mv → PR F w (.agg ys) mv := by
    intro F w mv hp
    cases hp with
    | agg _ mcs g1 g2 g3 => exact .agg ys mcs (hl.trans g1) g2 fun i a b => (h i (by omega) a).p F w _ (g3 i (by omega) b)
  refine ⟨hp, fun K w mv hv => ?_⟩
  cases hv with
  | pure _ _ q => exact .pure _ _ (hp _ _ _ q)
  | agg _ mcs g1 g2 g3 => exact .agg ys mcs (hl.trans g1) g2 fun i a b => (h i (by omega) a).v K w _ (g3 i (by omega) b)
theorem BLe.tuple {xs ys : List EV} (hl : ys.length = xs.length) (h : ∀ i (h1 : i < xs.length) (h2 : i < ys.length), BLe xs[i] ys[i]) : BLe (.tuple xs) (.tuple ys) := by
  have hp : ∀ (F : Nat → Prop) (w : World) mv, PR F w (.tuple xs) mv → PR F w (.tuple ys) mv := by
    intro F w mv hp
    cases hp with
    | tuple _ mcs g1 g3 => exact .tuple ys mcs (hl.trans g1) fun i a b => (h i (by omega) a).p F w _ (g3 i (by omega) b)
  refine ⟨hp, fun K w mv hv => ?_⟩
  cases hv with
  | pure _ _ q => exact .pure _ _ (hp _ _ _ q)
  | tuple _ mcs g1 g3 => exact .tuple ys mcs (hl.trans g1) fun i a b => (h i (by omega) a).v K w _ (g3 i (by omega) b)
theorem BLe.iface {t : TypeId} {x y : EV} (h : BLe x y) : BLe (.iface t x) (.iface t y) := by
  have hp : ∀ (F : Nat → Prop) (w : World) mv, PR F w (.iface t x) mv → PR F w (.iface t y) mv := by
    intro F w mv hp
    cases hp with
    | iface _ _ mv g => exact .iface t _ mv (h.p F w mv g)
  refine ⟨hp, fun K w mv hv => ?_⟩
  cases hv with
  | pure _ _ q => exact .pure _ _ (hp _ _ _ q)
  | iface _ _ mv g => exact .iface t _ mv (h.v K w mv g)
theorem BLe.ip {xs ys : List EV} {k : Nat} (hl : ys.length = xs.length) (h : ∀ i (h1 : i < xs.length) (h2 : i < ys.length), BLe xs[i] ys[i]) : BLe (.ip xs k) (.ip ys k) := by
  have hp : ∀ (F : Nat → Prop) (w : World) mv, PR F w (.ip xs k) mv → PR F w (.ip ys k) mv := by
    intro F w mv hp
    cases hp with
    | ip _ _ b o mv hF hk hc hv => exact .ip ys k b o mv hF (by omega) (fun j hj => hc j (by omega)) fun j hj => (h j (by omega) hj).p F w _ (hv j (by omega))
  refine ⟨hp, fun K w mv hv => ?_⟩
  cases hv with
  | pure _ _ q => exact .pure _ _ (hp _ _ _ q)
theorem mergeV_le (b : Bool) : ∀ (n : Nat) (x y : EV), BLe (bif b then x else y) (mergeV b n x y) := by
  intro n
  induction n with
  | zero => intro x y; exact .undef
  | succ n ih =>
    have lst : ∀ xs ys : List EV, xs.length = ys.length → (zipM (mergeV b n) xs ys).length = (bif b then xs else ys).length ∧ ∀ i (h1 : i < (bif b then xs else ys).length) (h2 : i < (zipM (mergeV b n) xs ys).length), BLe (bif b then xs else ys)[i] (zipM (mergeV b n) xs ys)[i] := by
      intro xs ys h
      obtain ⟨a, g⟩ := zipM_get (f := mergeV b n) h
      cases b with
      | true =>
        refine ⟨a, fun i h1 h2 => ?_⟩
        have h1' : i < xs.length := h1
        rw [g i h2 h1' (by omega)]
        exact ih xs[i] _
      | false =>
        refine ⟨a.trans h, fun i h1 h2 => ?_⟩
        have h1' : i < ys.length := h1
        rw [g i h2 (by omega) h1']
        exact ih _ ys[i]
    intro x y
    unfold mergeV
    split
    · split
      · split
        · rename_i h; subst h; cases b <;> exact .refl _
        · exact .undef
      · exact .undef
    · split
      · cases b <;> exact .refl _
      · exact .undef
    · split
      · cases b <;> exact .refl _
      · exact .undef
    · split
      · split
        · rename_i h; subst h; cases b <;> exact .refl _
        · exact .undef
      · exact .undef
    · split
      · split
        · rename_i xs _ ys h
          obtain ⟨h1, h2⟩ := lst xs ys h
          have e : (bif b then EV.agg xs else EV.agg ys) = .agg (bif b then xs else ys) := by cases b <;> rfl
          rw [e]
          exact .agg h1 h2
        · exact .undef
      · exact .undef
    · split
      · split
        · rename_i xs _ ys h
          obtain ⟨h1, h2⟩ := lst xs ys h
          have e : (bif b then EV.tuple xs else EV.tuple ys) = .tuple (bif b then xs else ys) := by cases b <;> rfl
          rw [e]
          exact .tuple h1 h2
        · exact .undef
      · exact .undef
    · split
      · split
        · rename_i h; obtain ⟨rfl, rfl⟩ := h; cases b <;> exact .refl _
        · exact .undef
      · exact .undef
    · split
      · split
        · rename_i h; obtain ⟨rfl, rfl, rfl⟩ := h; cases b <;> exact .refl _
        · exact .undef
      · exact .undef
    · split
      · split
        · rename_i h; obtain ⟨rfl, rfl⟩ := h; cases b <;> exact .refl _
        · exact .undef
      · exact .undef
    · split
      · split
        · rename_i h; obtain ⟨rfl, rfl⟩ := h; cases b <;> exact .refl _
        · exact .undef
      · exact .undef
    · split
      · split
        · rename_i h; subst h; cases b <;> exact .refl _
        · exact .undef
      · exact .undef
    · split
      · split
        · rename_i h; subst h; cases b <;> exact .refl _
        · exact .undef
      · exact .undef
    · split
      · cases b <;> exact .refl _
      · exact .undef
    · split
      · cases b <;> exact .refl _
      · exact .undef
    · split
      · cases b <;> exact .refl _
      · exact .undef
    · split
      · cases b <;> exact .refl _
      · exact .undef
    · split
      · cases b <;> exact .refl _
      · exact .undef
    · split
      · split
        · rename_i t v _ t' v' h
          subst h
          have e : (bif b then EV.iface t v else EV.iface t v') = .iface t (bif b then v else v') := by cases b <;> rfl
          rw [e]
          exact .iface (ih v v')
        · exact .undef
      · exact .undef
    · split
      · split
        · rename_i xs k _ ys k' h
          obtain ⟨rfl, h⟩ := h
          obtain ⟨h1, h2⟩ := lst xs ys h
          have e : (bif b then EV.ip xs k else EV.ip ys k) = .ip (bif b then xs else ys) k := by cases b <;> rfl
          rw [e]
          exact .ip h1 h2
        · exact .undef
      · exact .undef
    · exact .undef
def mergeO (b : Bool) (o o' : EObj) : EObj :=
  match o with
  | .var fr pf cells => match o' with
    | .var fr' pf' cells' => if fr = fr' ∧ cells.length = cells'.length then .var fr (pf && pf') (zipM (mergeV b 20) cells cells') else .dead
    | _ => .dead
  | .arr fr pf esz ex len row => match o' with
    | .arr fr' pf' esz' ex' len' row' => if fr = fr' ∧ esz = esz' ∧ ex = ex' then .arr fr (pf && pf') esz ex (bif b then len else len') (fun i => bif b then row i else row' i) else .dead
    | _ => .dead
  | .map fr pf es => match o' with
    | .map fr' pf' es' => if fr = fr' then .map fr (pf && pf') (bif b then es else es') else .dead
    | _ => .dead
  | _ => .dead
theorem OLe.var2 {fr pf pf' : Bool} {cells cells' : List EV} (hl : cells'.length = cells.length) (hpf : pf' = true → pf = true) (h : ∀ i (h1 : i < cells.length) (h2 : i < cells'.length), BLe cells[i] cells'[i]) : OLe (.var fr pf cells) (.var fr pf' cells') := by
  refine ⟨fun K w r ho => ?_, id, id⟩
  obtain ⟨h1, h2, c, e, q1, q2, q3, q4, q5, q6, q7⟩ := ho
  exact ⟨h1, h2, c, e, q1, by rw [q2, hl], q3, q4, q5, fun i a b => (h i (by omega) a).v K w _ (q6 i (by omega) b), fun hp i a b => (h i (by omega) a).p K.F w _ (q7 (hpf hp) i (by omega) b)⟩
theorem OLe.arr2 {fr pf pf' ex : Bool} {esz len : Nat} {row : Nat → List EV} (hpf : pf' = true → pf = true) : OLe (.arr fr pf esz ex len row) (.arr fr pf' esz ex len row) := by
  refine ⟨fun K w r ho => ?_, id, id⟩
  obtain ⟨h1, h2, c, e, fz, q2, q3, q4, q5, q6, q7, q8, q9, q10, q11⟩ := ho
  exact ⟨h1, h2, c, e, fz, q2, q3, q4, q5, q6, q7, q8, q9, q10, fun hp => q11 (hpf hp)⟩
theorem OLe.map2 {fr pf pf' : Bool} {es : List (EV × EV)} (hpf : pf' = true → pf = true) : OLe (.map fr pf es) (.map fr pf' es) := by
  refine ⟨fun K w r ho => ?_, id, id⟩
  obtain ⟨h1, mes, clock, q2, q3, q4, q5, q6, q7, q8⟩ := ho
  exact ⟨h1, mes, clock, q2, q3, q4, q5, q6, fun hp => q7 (hpf hp), q8⟩
theorem mergeO_le (b : Bool) (o o' : EObj) : OLe (bif b then o else o') (mergeO b o o') := by
  unfold mergeO
  split
  · split
    · split
      · rename_i fr pf cells _ fr' pf' cells' h
        obtain ⟨rfl, h⟩ := h
        obtain ⟨a, g⟩ := zipM_get (f := mergeV b 20) h
        cases b with
        | true => exact .var2 a (fun h => by simp at h; exact h.1) fun i h1 h2 => by rw [g i h2 h1 (by omega)]; exact mergeV_le true 20 cells[i] _
        | false => exact .var2 (a.trans h) (fun h => by simp at h; exact h.2) fun i h1 h2 => by rw [g i h2 (by omega) h1]; exact mergeV_le false 20 _ cells'[i]
      · exact .dead
    · exact .dead
  · split
    · split
      · rename_i h
        obtain ⟨rfl, rfl, rfl⟩ := h
        cases b with
        | true => exact .arr2 fun h => by simp at h; exact h.1
        | false => exact .arr2 fun h => by simp at h; exact h.2
      · exact .dead
    · exact .dead
  · split
    · split
      · rename_i h
        subst h
        cases b with
        | true => exact .map2 fun h => by simp at h; exact h.1
        | false => exact .map2 fun h => by simp at h; exact h.2
      · exact .dead
    · exact .dead
  · exact .dead
inductive It where
  | b (x : Bool)
  | i (x : Int)
  | n (x : Nat)
  | s (x : ByteArray)
  | r (x : Nat → List EV)
  | e (x : List (EV × EV))
abbrev Eqs := List (It × It)
def catQ : Option Eqs → Option Eqs → Option Eqs
  | some a, some b => some (a ++ b)
  | _, _ => none
def eqLs (f : EV → EV → Option Eqs) : List EV → List EV → Option Eqs
  | [], [] => some []
  | x :: xs, y :: ys => catQ (f x y) (eqLs f xs ys)
  | _, _ => none
def eqV : Nat → EV → EV → Option Eqs
  | 0, _, _ => none
  | n + 1, x, y =>
    match x with
    | .undef => match y with
      | .undef => some []
      | _ => none
    | .int k a => match y with
      | .int k' a' => if k = k' then some [(.i a, .i a')] else none
      | _ => none
    | .bool a => match y with
      | .bool a' => some [(.b a, .b a')]
      | _ => none
    | .str a => match y with
      | .str a' => some [(.s a, .s a')]
      | _ => none
    | .isl nn esz len row => match y with
      | .isl nn' esz' len' row' => if esz = esz' then some [(.b nn, .b nn'), (.n len, .n len'), (.r row, .r row')] else none
      | _ => none
    | .agg xs => match y with
      | .agg ys => eqLs (eqV n) xs ys
      | _ => none
    | .tuple xs => match y with
      | .tuple ys => eqLs (eqV n) xs ys
      | _ => none
    | .ptr r k => match y with
      | .ptr r' k' => if r = r' ∧ k = k' then some [] else none
      | _ => none
    | .pe r esz i k => match y with
      | .pe r' esz' i' k' => if r = r' ∧ esz = esz' ∧ k = k' then some [(.n i, .n i')] else none
      | _ => none
    | .ms r esz off len none => match y with
      | .ms r' esz' off' len' none => if r = r' ∧ esz = esz' then some [(.n off, .n off'), (.n len, .n len')] else none
      | _ => none
    | .ms r esz off len (some c) => match y with
      | .ms r' esz' off' len' (some c') => if r = r' ∧ esz = esz' then some [(.n off, .n off'), (.n len, .n len'), (.n c, .n c')] else none
      | _ => none
    | .mm r => match y with
      | .mm r' => if r = r' then some [] else none
      | _ => none
    | .it r => match y with
      | .it r' => if r = r' then some [] else none
      | _ => none
    | .nilp => match y with
      | .nilp => some []
      | _ => none
    | .nilm => match y with
      | .nilm => some []
      | _ => none
    | .nilf => match y with
      | .nilf => some []
      | _ => none
    | .nili => match y with
      | .nili => some []
      | _ => none
    | .im es => match y with
      | .im es' => some [(.e es, .e es')]
      | _ => none
    | .iface t v => match y with
      | .iface t' v' => if t = t' then eqV n v v' else none
      | _ => none
    | .ip xs k => match y with
      | .ip ys k' => if k = k' then eqLs (eqV n) xs ys else none
      | _ => none
    | .func (.func f) xs zs => match y with
      | .func (.func f') ys us => if f = f' then catQ (eqLs (eqV n) xs ys) (eqLs (eqV n) zs us) else none
      | _ => none
    | _ => none
def Holds (q : Eqs) : Prop := ∀ p ∈ q, p.1 = p.2
theorem catQ_ok {x y : Option Eqs} {q : Eqs} (h : catQ x y = some q) (hq : Holds q) : ∃ a b, x = some a ∧ y = some b ∧ Holds a ∧ Holds b := by
  unfold catQ at h
  split at h
  · rename_i a b
    obtain rfl := Option.some.inj h
    exact ⟨a, b, rfl, rfl, fun p hp => hq p (List.mem_append_left _ hp), fun p hp => hq p (List.mem_append_right _ hp)⟩
  · cases h
theorem eqLs_ok {f : EV → EV → Option Eqs} (hf : ∀ x y q, f x y = some q → Holds q → x = y) : ∀ {xs ys : List EV} {q : Eqs}, eqLs f xs ys = some q → Holds q → xs = ys
  | [], [], _, _, _ => rfl
  | x :: xs, y :: ys, q, h, hq => by
    unfold eqLs at h
    obtain ⟨a, b, h1, h2, h3, h4⟩ := catQ_ok h hq
    rw [hf x y a h1 h3, eqLs_ok hf h2 h4]
  | [], _ :: _, _, h, _ => by cases h
  | _ :: _, [], _, h, _ => by cases h
theorem Holds.at {q : Eqs} (h : Holds q) {x y : It} (hm : (x, y) ∈ q) : x = y := h _ hm
theorem eqV_ok : ∀ (n : Nat) (x y : EV) (q : Eqs), eqV n x y = some q → Holds q → x = y := by
  intro n
  induction n with
  | zero => intro x y q h; cases h
  | succ n ih =>
    intro x y q h hq
    unfold eqV at h
    have one : ∀ {a b : It}, some [(a, b)] = some q → a = b := fun h => by
      obtain rfl := Option.some.inj h
      exact hq.at (List.mem_cons_self ..)
    split at h
    · split at h
      · rfl
      · cases h
    · split at h
      · split at h
        · rename_i hk; subst hk; rw [It.i.inj (one h)]
        · cases h
      · cases h
    · split at h
      · rw [It.b.inj (one h)]
      · cases h
    · split at h
      · rw [It.s.inj (one h)]
      · cases h
    · split at h
      · split at h
        · rename_i nn esz len row _ nn' esz' len' row' hk
          subst hk
          obtain rfl := Option.some.inj h
          rw [It.b.inj (hq.at (x := .b nn) (y := .b nn') (List.mem_cons_self ..)), It.n.inj (hq.at (x := .n len) (y := .n len') (List.mem_cons_of_mem _ (List.mem_cons_self ..))), It.r.inj (hq.at (x := .r row) (y := .r row') (List.mem_cons_of_mem _ (List.mem_cons_of_mem _ (List.mem_cons_self ..))))]
        · cases h
      · cases h
    · split at h
      · rw [eqLs_ok ih h hq]
      · cases h
    · split at h
      · rw [eqLs_ok ih h hq]
      · cases h
    · split at h
      · split at h
        · rename_i hk; obtain ⟨rfl, rfl⟩ := hk; rfl
        · cases h
      · cases h
    · split at h
      · split at h
        · rename_i hk; obtain ⟨rfl, rfl, rfl⟩ := hk; rw [It.n.inj (one h)]
        · cases h
      · cases h
    · split at h
      · split at h
        · rename_i r esz off len _ r' esz' off' len' hk
          obtain ⟨rfl, rfl⟩ := hk
          obtain rfl := Option.some.inj h
          rw [It.n.inj (hq.at (x := .n off) (y := .n off') (List.mem_cons_self ..)), It.n.inj (hq.at (x := .n len) (y := .n len') (List.mem_cons_of_mem _ (List.mem_cons_self ..)))]
        · cases h
      · cases h
    · split at h
      · split at h
        · rename_i r esz off len c _ r' esz' off' len' c' hk
          obtain ⟨rfl, rfl⟩ := hk
          obtain rfl := Option.some.inj h
          rw [It.n.inj (hq.at (x := .n off) (y := .n off') (List.mem_cons_self ..)), It.n.inj (hq.at (x := .n len) (y := .n len') (List.mem_cons_of_mem _ (List.mem_cons_self ..))), It.n.inj (hq.at (x := .n c) (y := .n c') (List.mem_cons_of_mem _ (List.mem_cons_of_mem _ (List.mem_cons_self ..))))]
        · cases h
      · cases h
    · split at h
      · split at h
        · rename_i hk; rw [hk]
        · cases h
      · cases h
    · split at h
      · split at h
        · rename_i hk; rw [hk]
        · cases h
      · cases h
    · split at h
      · rfl
      · cases h
    · split at h
      · rfl
      · cases h
    · split at h
      · rfl
      · cases h
    · split at h
      · rfl
      · cases h
    · split at h
      · rw [It.e.inj (one h)]
      · cases h
    · split at h
      · split at h
        · rename_i hk; rw [hk, ih _ _ _ h hq]
        · cases h
      · cases h
    · split at h
      · split at h
        · rename_i hk; rw [hk, eqLs_ok ih h hq]
        · cases h
      · cases h
    · split at h
      · split at h
        · rename_i hk
          obtain ⟨a, b, h1, h2, h3, h4⟩ := catQ_ok h hq
          rw [hk, eqLs_ok ih h1 h3, eqLs_ok ih h2 h4]
        · cases h
      · cases h
    · cases h
def eqO (o o' : EObj) : Option Eqs :=
  match o with
  | .var fr pf cells => match o' with
    | .var fr' pf' cells' => if fr = fr' ∧ pf = pf' then eqLs (eqV 20) cells cells' else none
    | _ => none
  | .arr fr pf esz ex len row => match o' with
    | .arr fr' pf' esz' ex' len' row' => if fr = fr' ∧ pf = pf' ∧ esz = esz' ∧ ex = ex' then some [(.n len, .n len'), (.r row, .r row')] else none
    | _ => none
  | .map fr pf es => match o' with
    | .map fr' pf' es' => if fr = fr' ∧ pf = pf' then some [(.e es, .e es')] else none
    | _ => none
  | .free => match o' with
    | .free => some []
    | _ => none
  | .dead => match o' with
    | .dead => some []
    | _ => none
  | _ => none
theorem eqO_ok {o o' : EObj} {q : Eqs} (h : eqO o o' = some q) (hq : Holds q) : o = o' := by
  unfold eqO at h
  split at h
  · split at h
    · split at h
      · rename_i hk; obtain ⟨rfl, rfl⟩ := hk; rw [eqLs_ok (eqV_ok 20) h hq]
      · cases h
    · cases h
  · split at h
    · split at h
      · rename_i hk
        obtain ⟨rfl, rfl, rfl, rfl⟩ := hk
        rename_i len row _ len' row'
        obtain rfl := Option.some.inj h
        rw [It.n.inj (hq.at (x := .n len) (y := .n len') (List.mem_cons_self ..)), It.r.inj (hq.at (x := .r row) (y := .r row') (List.mem_cons_of_mem _ (List.mem_cons_self ..)))]
      · cases h
    · cases h
  · split at h
    · split at h
      · rename_i es _ _ _ es' hk
        obtain ⟨rfl, rfl⟩ := hk
        obtain rfl := Option.some.inj h
        rw [It.e.inj (hq.at (x := .e es) (y := .e es') (List.mem_cons_self ..))]
      · cases h
    · cases h
  · split at h
    · rfl
    · cases h
  · split at h
    · rfl
    · cases h
  · cases h
def mergeT (b : Bool) (mt st : Nat) : Nat → List EV → List EV → List EV
  | i, x :: xs, y :: ys => (bif mt.testBit i then mergeV b 20 x y else bif st.testBit i then x else .undef) :: mergeT b mt st (i + 1) xs ys
  | _, _, _ => []
def sameT (st : Nat) : Nat → List EV → List EV → Option Eqs
  | i, x :: xs, y :: ys => bif st.testBit i then catQ (eqV 20 x y) (sameT st (i + 1) xs ys) else sameT st (i + 1) xs ys
  | _, _, _ => some []
def mergeH (b : Bool) (mt st : Nat) : Nat → Heap → Heap → Heap
  | i, x :: xs, y :: ys => (bif mt.testBit i then mergeO b x y else bif st.testBit i then x else .dead) :: mergeH b mt st (i + 1) xs ys
  | _, _, _ => []
def sameH (st : Nat) : Nat → Heap → Heap → Option Eqs
  | i, x :: xs, y :: ys => bif st.testBit i then catQ (eqO x y) (sameH st (i + 1) xs ys) else sameH st (i + 1) xs ys
  | _, _, _ => some []
theorem mergeT_le (b : Bool) (mt st : Nat) : ∀ (i : Nat) (xs ys : List EV) (q : Eqs), xs.length = ys.length → sameT st i xs ys = some q → Holds q → VLes (bif b then xs else ys) (mergeT b mt st i xs ys)
  | i, [], [], _, _, _, _ => by cases b <;> exact .nil
  | i, x :: xs, y :: ys, q, hl, h, hq => by
    have hl' : xs.length = ys.length := by simpa using hl
    have e : (bif b then x :: xs else y :: ys) = (bif b then x else y) :: (bif b then xs else ys) := by cases b <;> rfl
    rw [e]
    unfold mergeT
    unfold sameT at h
    cases hs : st.testBit i with
    | true =>
      rw [hs] at h
      obtain ⟨q1, q2, h1, h2, h3, h4⟩ := catQ_ok h hq
      refine .cons ?_ (mergeT_le b mt st (i + 1) xs ys q2 hl' h2 h4)
      cases hm : mt.testBit i with
      | true => exact (mergeV_le b 20 x y).v
      | false =>
        obtain rfl := eqV_ok 20 x y q1 h1 h3
        cases b <;> exact VLe.refl _
    | false =>
      rw [hs] at h
      refine .cons ?_ (mergeT_le b mt st (i + 1) xs ys q hl' h hq)
      cases hm : mt.testBit i with
      | true => exact (mergeV_le b 20 x y).v
      | false => exact VLe.undef
  | i, [], _ :: _, _, hl, _, _ => by simp at hl
  | i, _ :: _, [], _, hl, _, _ => by simp at hl
theorem mergeH_le (b : Bool) (mt st : Nat) : ∀ (i : Nat) (xs ys : Heap) (q : Eqs), xs.length = ys.length → sameH st i xs ys = some q → Holds q → HLe (bif b then xs else ys) (mergeH b mt st i xs ys)
  | i, [], [], _, _, _, _ => by cases b <;> exact .nil
  | i, x :: xs, y :: ys, q, hl, h, hq => by
    have hl' : xs.length = ys.length := by simpa using hl
    have e : (bif b then x :: xs else y :: ys) = (bif b then x else y) :: (bif b then xs else ys) := by cases b <;> rfl
    rw [e]
    unfold mergeH
    unfold sameH at h
    cases hs : st.testBit i with
    | true =>
      rw [hs] at h
      obtain ⟨q1, q2, h1, h2, h3, h4⟩ := catQ_ok h hq
      refine .cons ?_ (mergeH_le b mt st (i + 1) xs ys q2 hl' h2 h4)
      cases hm : mt.testBit i with
      | true => exact mergeO_le b x y
      | false =>
        obtain rfl := eqO_ok h1 h3
        cases b <;> exact OLe.refl _
    | false =>
      rw [hs] at h
      refine .cons ?_ (mergeH_le b mt st (i + 1) xs ys q hl' h hq)
      cases hm : mt.testBit i with
      | true => exact mergeO_le b x y
      | false => exact OLe.dead
  | i, [], _ :: _, _, hl, _, _ => by simp at hl
  | i, _ :: _, [], _, hl, _, _ => by simp at hl
def padH (h : Heap) (n : Nat) : Heap := h ++ List.replicate (n - h.length) .dead
theorem padH_get {h : Heap} {n r : Nat} {o : EObj} (hg : (padH h n)[r]? = some o) : h[r]? = some o ∨ o = .dead := by
  unfold padH at hg
  by_cases hr : r < h.length
  · rw [List.getElem?_append_left hr] at hg; exact .inl hg
  · rw [List.getElem?_append_right (by omega)] at hg
    exact .inr (List.eq_of_mem_replicate (List.mem_of_getElem? hg))
theorem padH_owned {K : KM} {h : Heap} {n b : Nat} (ho : Owned K (padH h n) b) : Owned K h b := by
  obtain ⟨r, o, h1, h2, h3⟩ := ho
  rcases padH_get h1 with h1 | rfl
  · exact ⟨r, o, h1, h2, h3⟩
  · cases h2
theorem padH_len (h : Heap) (n : Nat) : (padH h n).length = max h.length n := by
  simp [padH]; omega
theorem Rel.padH {K : KM} {σ : Heap} {w : World} (n : Nat) (h : Rel K σ w) : Rel K (padH σ n) w := by
  refine ⟨fun r o hg => ?_, fun r r' o o' h1 h2 l1 l2 hb => ?_, fun b ho => h.notF b (padH_owned ho), fun r o hg ht => ?_, h.Flt, fun r ha => ?_⟩
  · rcases padH_get hg with hg | rfl
    · exact h.obj r o hg
    · trivial
  · rcases padH_get h1 with h1 | rfl
    · rcases padH_get h2 with h2 | rfl
      · exact h.inj r r' o o' h1 h2 l1 l2 hb
      · cases l2
    · cases l1
  · rcases padH_get hg with hg | rfl
    · exact h.lt r o hg ht
    · cases ht
  · have := h.alt r ha
    rw [padH_len]
    omega
theorem PostC.pad {K : KM} {σ : Heap} {w : World} {ds : List Deferred} {ex : EX} {t : List EV} {σ2 : Heap} (n : Nat) {e : Exit} {a : Act} {w' : World}
    (h : PostC K σ w ds (ex, t, σ2) e a w') : PostC K σ w ds (ex, t, padH σ2 n) e a w' := by
  have main : (∃ K' bs, Ext K σ w K' σ2 w' ∧ Rel K' σ2 w' ∧ VRs K' w' t a.tmps ∧ Marks K' σ2 w w' ds a.defers bs) → ∃ K' bs, Ext K σ w K' (padH σ2 n) w' ∧ Rel K' (padH σ2 n) w' ∧ VRs K' w' t a.tmps ∧ Marks K' (padH σ2 n) w w' ds a.defers bs := by
    rintro ⟨K', bs, h3, h4, h5, h6, h7, h8⟩
    exact ⟨K', bs, ⟨by rw [padH_len]; have := h3.len; omega, h3.al, h3.blk, h3.F, h3.F', fun b hb => h3.own b (padH_owned hb), h3.stay, h3.size, h3.os, h3.tape, h3.output⟩, h4.padH n, h5, h6, h7, fun b hb => let ⟨x, y, z, u⟩ := h8 b hb; ⟨x, y, fun ho => z (padH_owned ho), u⟩⟩
  cases e with
  | outgrown => exact h.elim
  | normal => exact ⟨h.1, main h.2⟩
  | exit i => exact ⟨h.1, main h.2⟩
  | goto l => exact ⟨h.1, main h.2⟩
  | ret => exact ⟨h.1, main h.2⟩
  | panic c => exact ⟨h.1, main h.2⟩
theorem SemCL.pad {P : Program} {G : Nat → Option (List EV)} {rnd : Bool} {c : Code} {t t' : List EV} {σ σ' : Heap} {ex : EX} (n : Nat) (h : SemCL P G rnd c t σ (ex, t', σ')) : SemCL P G rnd c t σ (ex, t', padH σ' n) :=
  ⟨fun ro K w a hro hR hG hv => wpIn_mono (h.1 ro K w a hro hR hG hv) fun _ _ _ hp => hp.pad n,
   fun b hb ro K w a hro hR hG hv => wpL_mono (h.2 b hb ro K w a hro hR hG hv) fun _ _ _ hp => hp.pad n⟩
def sameEX : EX → EX → Bool
  | .normal, .normal => true
  | .leave i, .leave j => Nat.beq i j
  | .ret, .ret => true
  | _, _ => false
theorem sameEX_eq {a b : EX} (h : sameEX a b = true) : a = b := by
  unfold sameEX at h
  split at h
  · rfl
  · rw [Nat.eq_of_beq_eq_true h]
  · rfl
  · cases h
abbrev RC := EX × List EV × Heap
def mergeR (b : Bool) (mt st mh sh : Nat) (r1 r2 : RC) : Option (RC × Eqs) :=
  match r1, r2 with
  | (e1, t1, h1), (e2, t2, h2) =>
    bif sameEX e1 e2 && Nat.beq t1.length t2.length then
      match catQ (sameT st 0 t1 t2) (sameH sh 0 (padH h1 h2.length) (padH h2 h1.length)) with
      | some q => some ((e1, mergeT b mt st 0 t1 t2, mergeH b mh sh 0 (padH h1 h2.length) (padH h2 h1.length)), q)
      | none => none
    else none
theorem mergeR_ok {P : Program} {G : Nat → Option (List EV)} {rnd : Bool} {c : Code} {t : List EV} {σ : Heap} {b : Bool} {mt st mh sh : Nat} {r1 r2 r : RC} {q : Eqs} (hm : mergeR b mt st mh sh r1 r2 = some (r, q)) (hq : ∀ p ∈ q, p.1 = p.2)
    (h1 : b = true → SemCL P G rnd c t σ r1) (h2 : b = false → SemCL P G rnd c t σ r2) : SemCL P G rnd c t σ r := by
  obtain ⟨e1, t1, s1⟩ := r1
  obtain ⟨e2, t2, s2⟩ := r2
  dsimp only [mergeR] at hm
  cases hc : (sameEX e1 e2 && Nat.beq t1.length t2.length) with
  | false => rw [hc] at hm; cases hm
  | true =>
    rw [hc] at hm
    simp only [cond_true] at hm
    split at hm
    rotate_left
    · cases hm
    rename_i q' hcq
    simp only [Option.some.injEq, Prod.mk.injEq] at hm
    obtain ⟨rfl, rfl⟩ := hm
    obtain ⟨q1, q2, g1, g2, g3, g4⟩ := catQ_ok hcq hq
    simp only [Bool.and_eq_true] at hc
    obtain ⟨hc1, hc2⟩ := hc
    obtain rfl := sameEX_eq hc1
    have hlt := mergeT_le b mt st 0 t1 t2 q1 (Nat.eq_of_beq_eq_true hc2) g1 g3
    have hlh := mergeH_le b mh sh 0 (padH s1 s2.length) (padH s2 s1.length) q2 (by rw [padH_len, padH_len]; omega) g2 g4
    cases b with
    | true => exact ((h1 rfl).pad s2.length).weaken (VLes.refl _) (HLe.refl _) hlt hlh
    | false => exact ((h2 rfl).pad s1.length).weaken (VLes.refl _) (HLe.refl _) hlt hlh
def maskH (m : Nat) : Nat → Heap → Heap
  | _, [] => []
  | i, o :: l => (bif m.testBit i then o else .dead) :: maskH m (i + 1) l
theorem maskH_le (m : Nat) : ∀ (i : Nat) (l : Heap), HLe l (maskH m i l)
  | _, [] => .nil
  | i, o :: l => by
    refine .cons ?_ (maskH_le m (i + 1) l)
    cases m.testBit i with
    | true => exact OLe.refl _
    | false => exact OLe.dead
inductive Q where
  | dec (d : Bool)
  | kn (l k : Nat)
  | no
mutual
inductive PcE where
  | is (m mh : Nat) (r : RC)
  | fork (new b : Bool) (mt st mh sh : Nat) (s1 s2 : Scr)
inductive Scr where
  | mk (qs : List (Nat × Q)) (cs : List (Nat × PcE)) (ps : List (Option EV)) (gs : List (Option (EV × Heap))) (fs : List (Option (Option (Nat × EV))))
end
structure FkS where
  qs : List (Nat × Q)
  cs : List (Nat × PcE)
  ps : List (Option EV)
  gs : List (Option (EV × Heap))
  fs : List (Option (Option (Nat × EV)))
  eqs : Eqs
  owed : List Prop
def Scr.start : Scr → FkS
  | .mk qs cs ps gs fs => ⟨qs, cs, ps, gs, fs, [], []⟩
def AllP : List Prop → Prop
  | [] => True
  | p :: l => p ∧ AllP l
theorem AllP.nil : AllP [] := trivial
theorem AllP.cons {p : Prop} {l : List Prop} (h : p) (t : AllP l) : AllP (p :: l) := ⟨h, t⟩
theorem allP_append {a b : List Prop} (h : AllP (a ++ b)) : AllP a ∧ AllP b := by
  induction a with
  | nil => exact ⟨trivial, h⟩
  | cons p l ih => exact ⟨⟨h.1, (ih h.2).1⟩, (ih h.2).2⟩
def impP (p : Prop) : List Prop → List Prop
  | [] => []
  | q :: l => (p → q) :: impP p l
theorem impP_all {p : Prop} {l : List Prop} (h : AllP (impP p l)) (hp : p) : AllP l := by
  induction l with
  | nil => trivial
  | cons q l ih => exact ⟨h.1 hp, ih h.2⟩
def FkS.V (s : FkS) : Prop := (∀ p ∈ s.eqs, p.1 = p.2) ∧ AllP s.owed
abbrev Knows := List (List (Bool × Bool))
def nthO {α : Type} : List α → Nat → Option α
  | [], _ => none
  | p :: l, k => match k with
    | 0 => some p
    | k + 1 => nthO l k
theorem nthO_mem {α : Type} {F : List α} : ∀ {k : Nat} {p : α}, nthO F k = some p → p ∈ F := by
  induction F with
  | nil => intro k p hg; simp [nthO] at hg
  | cons q l ih =>
    intro k p hg
    cases k with
    | zero => simp only [nthO, Option.some.injEq] at hg; subst hg; exact List.mem_cons_self ..
    | succ k => exact List.mem_cons_of_mem _ (ih hg)
def getK (F : Knows) (l k : Nat) : Option (Bool × Bool) :=
  match nthO F l with
  | some v => nthO v k
  | none => none
def KOk (F : Knows) : Prop := ∀ v ∈ F, ∀ p ∈ v, p.1 = p.2
theorem getK_ok {F : Knows} (h : KOk F) {l k : Nat} {p : Bool × Bool} (hg : getK F l k = some p) : p.1 = p.2 := by
  unfold getK at hg
  split at hg
  · rename_i v hv
    exact h v (nthO_mem hv) p (nthO_mem hg)
  · cases hg
def pushK (new : Bool) (F : Knows) (b d : Bool) : Knows :=
  match new with
  | true => [(b, d)] :: F
  | false => match F with
    | [] => [[(b, d)]]
    | v :: F => (v ++ [(b, d)]) :: F
theorem KOk.push {F : Knows} {b d : Bool} (new : Bool) (h : KOk F) (hb : b = d) : KOk (pushK new F b d) := by
  have one : ∀ p ∈ [(b, d)], p.1 = p.2 := by
    intro p hp
    simp only [List.mem_singleton] at hp
    subst hp
    exact hb
  cases new with
  | true =>
    intro v hv
    rcases List.mem_cons.1 hv with rfl | hv
    · exact one
    · exact h v hv
  | false =>
    cases F with
    | nil => intro v hv; simp only [pushK, List.mem_singleton] at hv; subst hv; exact one
    | cons u F =>
      intro v hv
      rcases List.mem_cons.1 hv with rfl | hv
      · intro p hp
        rcases List.mem_append.1 hp with hp | hp
        · exact h u (List.mem_cons_self ..) p hp
        · exact one p hp
      · exact h v (List.mem_cons_of_mem _ hv)
theorem KOk.nil : KOk [] := fun p h => by cases h
theorem KOk.one {v : List (Bool × Bool)} (h : ∀ p ∈ v, p.1 = p.2) : KOk [v] := by
  intro u hu
  simp only [List.mem_singleton] at hu
  subst hu
  exact h
theorem kNil : ∀ p ∈ ([] : List (Bool × Bool)), p.1 = p.2 := fun p h => by cases h
theorem kCons {v : List (Bool × Bool)} {b d : Bool} (hb : b = d) (h : ∀ p ∈ v, p.1 = p.2) : ∀ p ∈ (b, d) :: v, p.1 = p.2 := by
  intro p hp
  rcases List.mem_cons.1 hp with rfl | hp
  · exact hb
  · exact h p hp
def askF (F : Knows) (b : Bool) (q : Q) (t : List (Nat × Q)) : M FkS Bool := fun s =>
  match q with
  | .dec d => some (d, { s with qs := t, owed := (b = d) :: s.owed })
  | .kn l k => match getK F l k with
    | some (b', d) => some (d, { s with qs := t, eqs := (.b b, .b b') :: s.eqs })
    | none => none
  | .no => none
theorem askF_ok {F : Knows} (hF : KOk F) (b : Bool) (q : Q) (t : List (Nat × Q)) : Ok FkS.V (askF F b q t) fun d => d = b := by
  intro s d s' h hv
  unfold askF at h
  split at h
  · simp only [Option.some.injEq, Prod.mk.injEq] at h; obtain ⟨rfl, rfl⟩ := h; exact ⟨⟨hv.1, hv.2.2⟩, hv.2.1.symm⟩
  · split at h
    · rename_i b' d' hg
      simp only [Option.some.injEq, Prod.mk.injEq] at h
      obtain ⟨rfl, rfl⟩ := h
      have h1 := hv.1 _ (List.mem_cons_self ..)
      have h2 : b = b' := It.b.inj h1
      have h3 := getK_ok hF hg
      simp only at h3
      exact ⟨⟨fun p hp => hv.1 p (List.mem_cons_of_mem _ hp), hv.2⟩, by rw [h2, h3]⟩
    · cases h
  · cases h
def forkBr (F : Knows) (b : Bool) : M FkS Bool := fun s =>
  match s.qs with
  | [] => some (b, s)
  | (0, q) :: t => askF F b q t s
  | (n + 1, q) :: t => some (b, { s with qs := (n, q) :: t })
def forkChk (F : Knows) (b : Bool) : M FkS Unit := fun s =>
  match s.qs with
  | [] => if b then some ((), s) else none
  | (0, q) :: t => match askF F b q t s with
    | some (true, s') => some ((), s')
    | _ => none
  | (n + 1, q) :: t => if b then some ((), { s with qs := (n, q) :: t }) else none
def forkNw (F : Knows) (b : Bool) : M FkS Bool := fun s =>
  match s.qs with
  | [] => some (b, s)
  | (0, .no) :: t => some (false, { s with qs := t })
  | (0, q) :: t => askF F b q t s
  | (n + 1, q) :: t => some (b, { s with qs := (n, q) :: t })
theorem forkBr_ok {F : Knows} (hF : KOk F) (b : Bool) : Ok FkS.V (forkBr F b) fun d => d = b := by
  intro s d s' h hv
  unfold forkBr at h
  split at h
  · simp only [Option.some.injEq, Prod.mk.injEq] at h; obtain ⟨rfl, rfl⟩ := h; exact ⟨hv, rfl⟩
  · exact askF_ok hF b _ _ _ _ _ h hv
  · simp only [Option.some.injEq, Prod.mk.injEq] at h; obtain ⟨rfl, rfl⟩ := h; exact ⟨hv, rfl⟩
theorem forkChk_ok {F : Knows} (hF : KOk F) (b : Bool) : Ok FkS.V (forkChk F b) fun _ => b = true := by
  intro s d s' h hv
  unfold forkChk at h
  split at h
  · split at h
    · simp only [Option.some.injEq, Prod.mk.injEq] at h; obtain ⟨_, rfl⟩ := h; exact ⟨hv, ‹_›⟩
    · cases h
  · split at h
    · rename_i s2 hs
      simp only [Option.some.injEq, Prod.mk.injEq] at h
      obtain ⟨_, rfl⟩ := h
      have := askF_ok hF b _ _ _ _ _ hs hv
      exact ⟨this.1, this.2.symm⟩
    · cases h
  · split at h
    · simp only [Option.some.injEq, Prod.mk.injEq] at h; obtain ⟨_, rfl⟩ := h; exact ⟨hv, ‹_›⟩
    · cases h
theorem forkNw_ok {F : Knows} (hF : KOk F) (b : Bool) : Ok FkS.V (forkNw F b) fun d => d = true → b = true := by
  intro s d s' h hv
  unfold forkNw at h
  split at h
  · simp only [Option.some.injEq, Prod.mk.injEq] at h; obtain ⟨rfl, rfl⟩ := h; exact ⟨hv, id⟩
  · simp only [Option.some.injEq, Prod.mk.injEq] at h; obtain ⟨rfl, rfl⟩ := h; exact ⟨hv, fun h => by cases h⟩
  · have := askF_ok hF b _ _ _ _ _ h hv
    exact ⟨this.1, fun hd => by rw [← this.2]; exact hd⟩
  · simp only [Option.some.injEq, Prod.mk.injEq] at h; obtain ⟨rfl, rfl⟩ := h; exact ⟨hv, id⟩
def forkFind (P : Program) (kt : Go.TypeId) (k : EV) (es : List (EV × EV)) : M FkS (Option (Option (Nat × EV))) := fun s =>
  match s.fs with
  | [] => some (none, s)
  | some r :: t => some (some r, { s with fs := t, owed := findB P kt k es 0 r :: s.owed })
  | none :: t => some (none, { s with fs := t })
theorem forkFind_ok {P : Program} (kt : Go.TypeId) (k : EV) (es : List (EV × EV)) : Ok FkS.V (forkFind P kt k es) fun o => ∀ r, o = some r → findB P kt k es 0 r := by
  intro s d s' h hv
  unfold forkFind at h
  split at h
  · simp only [Option.some.injEq, Prod.mk.injEq] at h; obtain ⟨rfl, rfl⟩ := h; exact ⟨hv, fun r h => by cases h⟩
  · simp only [Option.some.injEq, Prod.mk.injEq] at h; obtain ⟨rfl, rfl⟩ := h; exact ⟨⟨hv.1, hv.2.2⟩, fun r h => by obtain rfl := Option.some.inj h; exact hv.2.1⟩
  · simp only [Option.some.injEq, Prod.mk.injEq] at h; obtain ⟨rfl, rfl⟩ := h; exact ⟨hv, fun r h => by cases h⟩
def forkRun (b : Bool) (mt st mh sh : Nat) (q1 q2 : Option (RC × FkS)) (t : List (Nat × PcE)) : M FkS (Option RC) := fun s =>
  match q1 with
  | none => none
  | some (r1, u1) => match q2 with
    | none => none
    | some (r2, u2) => match mergeR b mt st mh sh r1 r2 with
      | none => none
      | some (r, q) => some (some r, { s with cs := t, eqs := u1.eqs ++ (u2.eqs ++ (q ++ s.eqs)), owed := impP (b = true) u1.owed ++ (impP (b = false) u2.owed ++ s.owed) })
noncomputable def forkD (P : Program) (G : Nat → Option (List EV)) (modes news : FuncId → Bool) : Nat → Knows → Drv FkS
  | 0, F => { br := forkBr F, chk := forkChk F, nw := forkNw F, mode := fun f => pure (modes f), fresh := fun f => pure (news f), room := fun b => pure (if b || news 0 then 3 else 0), keep := pure, find := forkFind P, piece := fun _ _ _ _ => M.fail
              pcall := fun _ _ => M.fail
              gcall := fun _ _ _ => M.fail
              round := fun _ _ _ => M.fail }
  | n + 1, F => { br := forkBr F, chk := forkChk F, nw := forkNw F, mode := fun f => pure (modes f), fresh := fun f => pure (news f), room := fun b => pure (if b || news 0 then 3 else 0), keep := pure, find := forkFind P
                  piece := fun rnd c tmps σ s =>
                    match s.cs with
                    | [] => some (none, s)
                    | (0, .is m mh r) :: t => some (some r, { s with cs := t, owed := SemCL P G rnd c (maskT m 0 tmps) (maskH mh 0 σ) r :: s.owed })
                    | (0, .fork new b mt st mh sh s1 s2) :: t =>
                      forkRun b mt st mh sh (codeE (forkD P G modes news n (pushK new F b true)) P G rnd 100000 c tmps σ s1.start) (codeE (forkD P G modes news n (pushK new F b false)) P G rnd 100000 c tmps σ s2.start) t s
                    | (m + 1, e) :: t => some (none, { s with cs := (m, e) :: t })
                  pcall := fun f args s => match s.ps with
                    | some v :: t => some (v, { s with ps := t, owed := SemP P G f args v :: s.owed })
                    | none :: t => if entersE P f then pureE (forkD P G modes news n F) P G 100000 f args { s with ps := t } else none
                    | [] => if entersE P f then pureE (forkD P G modes news n F) P G 100000 f args s else none
                  gcall := fun f args σ s => match s.gs with
                    | some v :: t => some (v, { s with gs := t, owed := SemF P G f args σ v.1 v.2 :: s.owed })
                    | none :: t => if entersE P f then funE (forkD P G modes news n F) P G 100000 f args σ { s with gs := t } else none
                    | [] => if entersE P f then funE (forkD P G modes news n F) P G 100000 f args σ s else none
                  round := fun c t σ => codeE (forkD P G modes news n F) P G true 100000 c t σ }
theorem forkD_ok {P : Program} (G : Nat → Option (List EV)) (modes news : FuncId → Bool) (hm : P.follows .mixedOrders = true) : ∀ n F, KOk F → DOk FkS.V P G (forkD P G modes news n F) := by
  intro n
  induction n with
  | zero =>
    intro F hF
    exact { br := forkBr_ok hF, chk := forkChk_ok hF, nw := forkNw_ok hF, mode := fun f => Ok.pure trivial, fresh := fun f => Ok.pure trivial, room := fun _ => Ok.pure trivial, keep := fun q => Ok.pure rfl, find := forkFind_ok, piece := fun _ _ _ _ => Ok.fail, pcall := fun _ _ => Ok.fail, gcall := fun _ _ _ => Ok.fail, round := fun c t σ => Ok.fail }
  | succ n ih =>
    intro F hF
    refine { br := forkBr_ok hF, chk := forkChk_ok hF, nw := forkNw_ok hF, mode := fun f => Ok.pure trivial, fresh := fun f => Ok.pure trivial, room := fun _ => Ok.pure trivial, keep := fun q => Ok.pure rfl, find := forkFind_ok, piece := fun rnd c tmps σ s o s' h hv => ?_, pcall := fun f args s v s' h hv => ?_, gcall := fun f args σ s v s' h hv => ?_, round := fun c t σ => (codeE_ok (ih F hF) hm true 100000 c t σ).mono fun r h => h.1 }
    · unfold forkD at h
      dsimp only at h
      split at h
      · simp only [Option.some.injEq, Prod.mk.injEq] at h; obtain ⟨rfl, rfl⟩ := h; exact ⟨⟨hv.1, hv.2.2⟩, hv.2.1⟩
      · obtain ⟨he, h⟩ := ok_ite_none (V := FkS.V) h
        have r := semP_of (s := _) (ih F hF) hm he h hv
        exact ⟨r.1, r.2⟩
      · obtain ⟨he, h⟩ := ok_ite_none (V := FkS.V) h
        have r := semP_of (s := _) (ih F hF) hm he h hv
        exact ⟨r.1, r.2⟩
    · unfold forkD at h
      dsimp only at h
      split at h
      · simp only [Option.some.injEq, Prod.mk.injEq] at h; obtain ⟨rfl, rfl⟩ := h; exact ⟨⟨hv.1, hv.2.2⟩, hv.2.1⟩
      · obtain ⟨he, h⟩ := ok_ite_none (V := FkS.V) h
        obtain ⟨x, y⟩ := v
        have := semF_of (ih F hF) hm he h hv
        have hv0 := (funE_ok (ih F hF) hm 100000 f args σ _ _ _ h hv).1
        exact ⟨hv0, this⟩
      · obtain ⟨he, h⟩ := ok_ite_none (V := FkS.V) h
        obtain ⟨x, y⟩ := v
        have := semF_of (ih F hF) hm he h hv
        have hv0 := (funE_ok (ih F hF) hm 100000 f args σ _ _ _ h hv).1
        exact ⟨hv0, this⟩
    · unfold forkD at h
      dsimp only at h
      split at h
      · simp only [Option.some.injEq, Prod.mk.injEq] at h; obtain ⟨rfl, rfl⟩ := h; exact ⟨hv, fun r h => by cases h⟩
      · simp only [Option.some.injEq, Prod.mk.injEq] at h; obtain ⟨rfl, rfl⟩ := h; exact ⟨⟨hv.1, hv.2.2⟩, fun r h => by obtain rfl := Option.some.inj h; exact SemCL.weaken (maskT_le _ 0 _) (maskH_le _ 0 _) hv.2.1 (VLes.refl _) (HLe.refl _)⟩
      · rename_i new b mt st mh sh s1 s2 t hcs
        unfold forkRun at h
        split at h
        · cases h
        · rename_i r1 u1 hr1
          split at h
          · cases h
          · rename_i r2 u2 hr2
            split at h
            · cases h
            · rename_i r q hmr
              simp only [Option.some.injEq, Prod.mk.injEq] at h
              obtain ⟨rfl, rfl⟩ := h
              obtain ⟨he, ho⟩ := hv
              dsimp only at he ho
              obtain ⟨o1, ho⟩ := allP_append ho
              obtain ⟨o2, o3⟩ := allP_append ho
              have e1 : ∀ p ∈ u1.eqs, p.1 = p.2 := fun p hp => he p (by simp [hp])
              have e2 : ∀ p ∈ u2.eqs, p.1 = p.2 := fun p hp => he p (by simp [hp])
              have e3 : ∀ p ∈ q, p.1 = p.2 := fun p hp => he p (by simp [hp])
              have e4 : ∀ p ∈ s.eqs, p.1 = p.2 := fun p hp => he p (by simp [hp])
              refine ⟨⟨e4, o3⟩, fun r' hr' => ?_⟩
              obtain rfl := Option.some.inj hr'
              refine mergeR_ok hmr e3 (fun hb => ?_) (fun hb => ?_)
              · exact (codeE_ok (ih _ (hF.push new hb)) hm rnd 100000 c tmps σ _ _ _ hr1 ⟨e1, impP_all o1 hb⟩).2
              · exact (codeE_ok (ih _ (hF.push new hb)) hm rnd 100000 c tmps σ _ _ _ hr2 ⟨e2, impP_all o2 hb⟩).2
      · simp only [Option.some.injEq, Prod.mk.injEq] at h; obtain ⟨rfl, rfl⟩ := h; exact ⟨hv, fun r h => by cases h⟩
def outF {α : Type} : Option (α × FkS) → Option (α × List Prop)
  | some (a, s) => some (a, s.owed)
  | none => none
def eqL {α : Type} : Option (α × FkS) → List It
  | some (_, s) => s.eqs.map Prod.fst
  | none => []
def eqR {α : Type} : Option (α × FkS) → List It
  | some (_, s) => s.eqs.map Prod.snd
  | none => []
theorem eqs_of {q : Eqs} (h : q.map Prod.fst = q.map Prod.snd) : ∀ p ∈ q, p.1 = p.2 := by
  induction q with
  | nil => intro p hp; cases hp
  | cons x l ih =>
    simp only [List.map_cons, List.cons.injEq] at h
    intro p hp
    rcases List.mem_cons.1 hp with rfl | hp
    · exact h.1
    · exact ih h.2 p hp
theorem outF_ok {α : Type} {x : Option (α × FkS)} {a : α} {ow : List Prop} (h : outF x = some (a, ow)) (hq : eqL x = eqR x) (ho : AllP ow) : ∃ s, x = some (a, s) ∧ s.V := by
  cases x with
  | none => cases h
  | some p =>
    obtain ⟨b, s⟩ := p
    simp only [outF, Option.some.injEq, Prod.mk.injEq] at h
    obtain ⟨rfl, rfl⟩ := h
    exact ⟨s, rfl, eqs_of hq, ho⟩
section
variable {P : Program} {G : Nat → Option (List EV)}
theorem semP_fork {modes news : FuncId → Bool} {n fuel : Nat} {F : Knows} {f : FuncId} {args : List EV} {v : EV} {s : Scr} {ow : List Prop} (hm : P.follows .mixedOrders = true) (hF : KOk F) (he : entersE P f = true)
    (h : outF (pureE (forkD P G modes news n F) P G fuel f args s.start) = some (v, ow)) (hq : eqL (pureE (forkD P G modes news n F) P G fuel f args s.start) = eqR (pureE (forkD P G modes news n F) P G fuel f args s.start))
    (ho : AllP ow) : SemP P G f args v := by
  obtain ⟨s', h1, h2⟩ := outF_ok h hq ho
  exact (semP_of (forkD_ok G modes news hm n F hF) hm he h1 h2).2
end
theorem HLe.append {a b c : Heap} (h : HLe a b) : HLe (a ++ c) (b ++ c) := by
  induction h with
  | nil => exact HLe.refl _
  | cons h _ ih => exact .cons h ih
def cutR (m mh n : Nat) : Option (RC × FkS) → Option (RC × FkS)
  | some ((ex, t, h), s) => some ((ex, maskT m 0 t, maskH mh 0 (h.take n)), s)
  | none => none
def cutF (mh n : Nat) : Option ((EV × Heap) × FkS) → Option ((EV × Heap) × FkS)
  | some ((v, h), s) => some ((v, maskH mh 0 (h.take n)), s)
  | none => none
theorem SemF.trunc {P : Program} {G : Nat → Option (List EV)} {f : FuncId} {args : List EV} {v : EV} {σ σ0 g : Heap} (h : SemF P G f args σ v (σ0 ++ g)) (hlen : σ.length ≤ σ0.length)
    (hl : σ0.all (lowO σ0.length) = true) (hv : (v.refs.all fun r => Decidable.decide (r < σ0.length)) = true) : SemF P G f args σ v σ0 := by
  refine ⟨h.1, fun K w margs hR hG hargs => (h.2 K w margs hR hG hargs).mono fun e w' hp => ?_⟩
  cases e with
  | outgrown => exact hp
  | panicked _ => exact hp
  | returned mv =>
    obtain ⟨K', h3, h4, h5⟩ := hp
    exact ⟨K'.upto σ0.length, ⟨hlen, fun r ha => ⟨h3.al r ha, Nat.lt_of_lt_of_le (hR.alt r ha) hlen⟩, h3.blk, h3.F, h3.F', fun b hb => h3.own b hb.pre, h3.stay, h3.size, h3.os, h3.tape, h3.output⟩, h4.low hl, h5.low fun r hr => by simpa using List.all_eq_true.1 hv r hr⟩
theorem SemF.weaken {P : Program} {G : Nat → Option (List EV)} {f : FuncId} {args args' : List EV} {v v' : EV} {σ0 σ1 σ2 σ3 : Heap} (ha : VLes args args') (h0 : HLe σ0 σ1) (h : SemF P G f args' σ1 v σ2) (hv : VLe v v') (h2 : HLe σ2 σ3) : SemF P G f args σ0 v' σ3 :=
  ⟨h.1, fun K w margs hR hG hargs => (h.2 K w margs (h0.rel hR) hG (ha.vrs hargs)).mono fun e w' hp => by
    cases e with
    | outgrown => exact hp
    | panicked _ => exact hp
    | returned mv =>
      obtain ⟨K', h3, h4, h5⟩ := hp
      exact ⟨K', h3.weaken h0 h2, h2.rel h4, hv _ _ _ h5⟩⟩
section
variable {P : Program} {G : Nat → Option (List EV)}
theorem semC_cut {modes news : FuncId → Bool} {n fuel : Nat} {F : Knows} {rnd : Bool} {c : Code} {tmps t : List EV} {σ σ' : Heap} {ex : EX} {s : Scr} {ow : List Prop} (m mh k : Nat) (hm : P.follows .mixedOrders = true) (hF : KOk F)
    (h : outF (cutR m mh k (codeE (forkD P G modes news n F) P G rnd fuel c tmps σ s.start)) = some ((ex, t, σ'), ow)) (hq : eqL (codeE (forkD P G modes news n F) P G rnd fuel c tmps σ s.start) = eqR (codeE (forkD P G modes news n F) P G rnd fuel c tmps σ s.start))
    (hl : (Nat.ble σ.length σ'.length && σ'.all (lowO σ'.length) && t.all fun v => v.refs.all fun r => Decidable.decide (r < σ'.length)) = true)
    (ho : AllP ow) : SemC P G rnd c tmps σ (ex, t, σ') := by
  simp only [Bool.and_eq_true] at hl
  obtain ⟨⟨l1, l2⟩, l3⟩ := hl
  cases hr : codeE (forkD P G modes news n F) P G rnd fuel c tmps σ s.start with
  | none => rw [hr] at h; cases h
  | some q =>
    obtain ⟨⟨ex', t', h'⟩, s'⟩ := q
    rw [hr] at h hq
    simp only [cutR, outF, Option.some.injEq, Prod.mk.injEq] at h
    obtain ⟨⟨rfl, rfl, rfl⟩, rfl⟩ := h
    have hs := (codeE_ok (forkD_ok G modes news hm n F hF) hm rnd fuel c tmps σ _ _ _ hr ⟨eqs_of hq, ho⟩).2.1
    refine SemC.trunc (g := h'.drop k) ?_ (Nat.le_of_ble_eq_true l1) l2 l3
    refine hs.weaken (VLes.refl _) (HLe.refl _) (maskT_le m 0 t') ?_
    have := (maskH_le mh 0 (h'.take k)).append (c := h'.drop k)
    rwa [List.take_append_drop] at this
end
end Go.Ev
namespace Go.Ev
def renH (σ : Heap) (L : List Nat) : List Nat → Option Heap
  | [] => some []
  | r :: rs => match σ[r]? with
    | some .dead => (renH σ L rs).map (.dead :: ·)
    | some .free => (renH σ L rs).map (.dead :: ·)
    | some o => if o.frz && o.refs.all (L.contains ·) then (renH σ L rs).map (o.ren (L.idxOf ·) :: ·) else none
    | none => none
def renV (L : List Nat) (v : EV) : EV := if v.refs.all (L.contains ·) then v.ren (L.idxOf ·) else .undef
def fixesB (m : Nat) (L : List Nat) : Bool := (List.range m).all fun i => match L[i]? with | some j => Nat.beq i j | none => false
theorem fixesB_ok {m : Nat} {L : List Nat} (h : fixesB m L = true) : m ≤ L.length ∧ ∀ i, i < m → L.getD i 0 = i := by
  have h1 : ∀ i, i < m → L[i]? = some i := by
    intro i hi
    have := List.all_eq_true.1 h i (by simpa using hi)
    split at this
    · rename_i j hj; rw [hj, Nat.eq_of_beq_eq_true this]
    · cases this
  refine ⟨?_, fun i hi => by rw [List.getD_eq_getElem?_getD, h1 i hi]; rfl⟩
  cases m with
  | zero => omega
  | succ m =>
    have := h1 m (by omega)
    have := (List.getElem?_eq_some_iff.1 this).1
    omega
theorem renH_spec {σ : Heap} {L : List Nat} : ∀ (rs : List Nat) (s : Heap), renH σ L rs = some s →
    s.length = rs.length ∧ ∀ (i : Nat) (o : EObj), s[i]? = some o → o = .dead ∨ ∃ r o0, rs[i]? = some r ∧ σ[r]? = some o0 ∧ o0.frz = true ∧ (∀ r' ∈ o0.refs, r' ∈ L) ∧ o = o0.ren (L.idxOf ·) := by
  intro rs
  induction rs with
  | nil =>
    intro s h
    simp only [renH, Option.some.injEq] at h
    subst h
    exact ⟨rfl, fun i o h => by simp at h⟩
  | cons x rs ih =>
    intro s h
    have dead : (renH σ L rs).map (EObj.dead :: ·) = some s → s.length = (x :: rs).length ∧ ∀ (i : Nat) (o : EObj), s[i]? = some o → o = .dead ∨ ∃ r o0, (x :: rs)[i]? = some r ∧ σ[r]? = some o0 ∧ o0.frz = true ∧ (∀ r' ∈ o0.refs, r' ∈ L) ∧ o = o0.ren (L.idxOf ·) := by
      intro h
      cases hf : renH σ L rs with
      | none => rw [hf] at h; cases h
      | some s' =>
        rw [hf] at h
        simp only [Option.map_some, Option.some.injEq] at h
        subst h
        obtain ⟨h1, h2⟩ := ih _ hf
        refine ⟨by simp [h1], fun i o ho => ?_⟩
        cases i with
        | zero => simp only [List.getElem?_cons_zero, Option.some.injEq] at ho; exact .inl ho.symm
        | succ i => simpa using h2 i o (by simpa using ho)
    unfold renH at h
    split at h
    · exact dead h
    · exact dead h
    · rename_i o _ _ ho
      split at h
      · rename_i hc
        simp only [Bool.and_eq_true, List.all_eq_true, List.contains_iff_mem] at hc
        cases hf : renH σ L rs with
        | none => rw [hf] at h; cases h
        | some s' =>
          rw [hf] at h
          simp only [Option.map_some, Option.some.injEq] at h
          subst h
          obtain ⟨h1, h2⟩ := ih _ hf
          refine ⟨by simp [h1], fun i o' ho' => ?_⟩
          cases i with
          | zero => simp only [List.getElem?_cons_zero, Option.some.injEq] at ho'; exact .inr ⟨x, o, by simp, ho, hc.1, hc.2, ho'.symm⟩
          | succ i => simpa using h2 i o' (by simpa using ho')
      · cases h
    · cases h
theorem ren_rel {K : KM} {σ s : Heap} {w : World} (hR : Rel K σ w) {L : List Nat} (hnd : L.Nodup) (h : renH σ L L = some s) : Rel (K.loc L) s w ∧ ∀ b, Owned (K.loc L) s b → Owned K σ b := by
  obtain ⟨h1, h2⟩ := renH_spec L s h
  have hget : ∀ i o, s[i]? = some o → o = .dead ∨ ∃ r o0, L[i]? = some r ∧ L.getD i 0 = r ∧ L.idxOf r = i ∧ r ∈ L ∧ σ[r]? = some o0 ∧ o0.frz = true ∧ (∀ r' ∈ o0.refs, r' ∈ L) ∧ o = o0.ren (L.idxOf ·) := by
    intro i o hi
    rcases h2 i o hi with rfl | ⟨r, o0, q1, q2, q3, q4, rfl⟩
    · exact .inl rfl
    · obtain ⟨hlt, rfl⟩ := List.getElem?_eq_some_iff.1 q1
      exact .inr ⟨L[i], o0, q1, by rw [List.getD_eq_getElem?_getD, q1]; rfl, hnd.idxOf_getElem i hlt, List.getElem_mem hlt, q2, q3, q4, rfl⟩
  have hown : ∀ b, Owned (K.loc L) s b → Owned K σ b := by
    rintro b ⟨i, o, hi, hlv, hb⟩
    rcases hget i o hi with rfl | ⟨r, o0, a1, a2, a3, a4, a5, a6, a7, rfl⟩
    · cases hlv
    · rw [ren_live] at hlv
      exact ⟨r, o0, a5, hlv, by simpa only [KM.loc, a2] using hb⟩
  refine ⟨⟨fun i o hi => ?_, fun i i' o1 o2 hi hi' l1 l2 hb => ?_, fun b hb => hR.notF b (hown b hb), fun i o hi ht => ?_, hR.Flt, fun i ha => by rw [h1]; exact ha.1⟩, hown⟩
  · rcases hget i o hi with rfl | ⟨r, o0, a1, a2, a3, a4, a5, a6, a7, rfl⟩
    · trivial
    · have := OR.ren (K := K) (K' := K.loc L) (ρ := (L.idxOf ·)) rfl a6 (hR.obj r o0 a5) (loc_moves a4) fun r' hr' => loc_moves (a7 r' hr')
      simpa only [a3] using this
  · rcases hget i o1 hi with rfl | ⟨r, o0, a1, a2, a3, a4, a5, a6, a7, rfl⟩
    · cases l1
    rcases hget i' o2 hi' with rfl | ⟨r', p0, b1, b2, b3, b4, b5, b6, b7, rfl⟩
    · cases l2
    rw [ren_live] at l1 l2
    have := hR.inj r r' o0 p0 a5 b5 l1 l2 (by simpa only [KM.loc, a2, b2] using hb)
    rw [← a3, ← b3, this]
  · rcases hget i o hi with rfl | ⟨r, o0, a1, a2, a3, a4, a5, a6, a7, rfl⟩
    · cases ht
    · have := hR.lt r o0 a5 (there_of_frz a6)
      simpa only [KM.loc, a2] using this
def At (K0 : KM) (σ0 : Heap) (w0 : World) (ds0 : List Deferred) (t : List EV) (σ : Heap) (a : Act) (w : World) : Prop :=
  ∃ K bs, Ext K0 σ0 w0 K σ w ∧ Rel K σ w ∧ VRs K w t a.tmps ∧ Marks K σ w0 w ds0 a.defers bs
theorem At.ren {K0 : KM} {σ0 : Heap} {w0 : World} {ds0 : List Deferred} {t : List EV} {σ s : Heap} {a : Act} {w : World} (h : At K0 σ0 w0 ds0 t σ a w) {m : Nat} {L : List Nat} (hm : σ0.length ≤ m) (hal : ∀ r, K0.al r → r < m) (hfix : fixesB m L = true) (hnd : L.Nodup)
    (hr : renH σ L L = some s) : At K0 σ0 w0 ds0 (t.map (renV L)) s a w := by
  obtain ⟨K, bs, h1, h2, h3, h4, h5, h6⟩ := h
  obtain ⟨f1, f2⟩ := fixesB_ok hfix
  obtain ⟨r1, r2⟩ := ren_rel h2 hnd hr
  have hs : s.length = L.length := (renH_spec L s hr).1
  refine ⟨K.loc L, bs, ⟨by omega, fun r ha => ⟨by have := hal r ha; omega, by rw [f2 r (hal r ha)]; exact h1.al r ha⟩, fun r ha => by simp only [KM.loc, f2 r (hal r ha)]; exact h1.blk r ha, h1.F, h1.F', fun b hb => h1.own b (r2 b hb), h1.stay, h1.size, h1.os, h1.tape, h1.output⟩, r1, ⟨by simp [h3.1], fun i a1 b1 => ?_⟩, h4, h5, fun b hb => let ⟨x, y, z, u⟩ := h6 b hb; ⟨x, y, fun ho => z (r2 b ho), u⟩⟩
  rw [List.getElem_map]
  have := h3.2 i (by simpa using a1) b1
  unfold renV
  split
  · rename_i hall
    exact VR.ren (K := K) (K' := K.loc L) rfl this fun r hr => loc_moves (by simpa using List.all_eq_true.1 hall r hr)
  · exact .pure _ _ (.undef _)
theorem At.weaken {K0 : KM} {σ0 : Heap} {w0 : World} {ds0 : List Deferred} {t t' : List EV} {σ s : Heap} {a : Act} {w : World} (h : At K0 σ0 w0 ds0 t σ a w) (ht : VLes t t') (hh : HLe σ s) : At K0 σ0 w0 ds0 t' s a w := by
  obtain ⟨K, bs, h1, h2, h3, h4, h5, h6⟩ := h
  exact ⟨K, bs, h1.weaken (HLe.refl _) hh, hh.rel h2, ht.vrs h3, h4, h5, fun b hb => let ⟨x, y, z, u⟩ := h6 b hb; ⟨x, y, fun ho => z (hh.owned ho), u⟩⟩
section
variable {P : Program} {G : Nat → Option (List EV)}
def SemLR (P : Program) (G : Nat → Option (List EV)) (rnd : Bool) (m : Nat) (c : Code) (t : List EV) (σ : Heap) (r : RC) : Prop :=
  ∀ (ro : Option Nat) (K0 : KM) (σ0 : Heap) (w0 : World) (ds0 : List Deferred) (a : Act) (w : World), (ro.isSome = true → rnd = true) → σ0.length ≤ m → Rel K0 σ0 w0 → GOk G K0.F w0 → At K0 σ0 w0 ds0 t σ a w →
    wpL ro P c (PostC K0 σ0 w0 ds0 r) a w
theorem SemLR.toL {rnd : Bool} {m : Nat} {c : Code} {t : List EV} {σ : Heap} {r : RC} (h : SemLR P G rnd m c t σ r) (hm : Nat.ble σ.length m = true) : SemL P G rnd c t σ r :=
  fun ro K w a hro hR hG hv => h ro K σ w a.defers a w hro (Nat.le_of_ble_eq_true hm) hR hG ⟨K, [], Ext.refl _ _ _, hR, hv, Marks.none⟩
theorem PostC.at {K0 K : KM} {σ0 σ : Heap} {w0 w : World} {ds0 : List Deferred} {a0 : Act} {bs : List Nat} {r : RC} (h1 : Ext K0 σ0 w0 K σ w) (h2 : Rel K0 σ0 w0) (hM : Marks K σ w0 w ds0 a0.defers bs) {e : Exit} {a : Act} {w' : World}
    (h : PostC K σ w a0.defers r e a w') : r.1.same e ∧ At K0 σ0 w0 ds0 r.2.1 r.2.2 a w' := by
  have main : (∃ K' bs, Ext K σ w K' r.2.2 w' ∧ Rel K' r.2.2 w' ∧ VRs K' w' r.2.1 a.tmps ∧ Marks K' r.2.2 w w' a0.defers a.defers bs) → At K0 σ0 w0 ds0 r.2.1 r.2.2 a w' := by
    rintro ⟨K', bs', h3, h4, h5, h6⟩
    exact ⟨K', bs' ++ bs, h1.trans h3, h4, h5, Marks.trans h1.size h3 hM h6⟩
  cases e with
  | outgrown => exact h.elim
  | normal => exact ⟨h.1, main h.2⟩
  | exit i => exact ⟨h.1, main h.2⟩
  | goto l => exact ⟨h.1, main h.2⟩
  | ret => exact ⟨h.1, main h.2⟩
  | panic c => exact ⟨h.1, main h.2⟩
theorem At.post {K0 : KM} {σ0 : Heap} {w0 : World} {ds0 : List Deferred} {r : RC} {e : Exit} {a : Act} {w : World} (hs : r.1.same e) (h : At K0 σ0 w0 ds0 r.2.1 r.2.2 a w) : PostC K0 σ0 w0 ds0 r e a w := by
  cases e with
  | outgrown => obtain ⟨ex, t, s⟩ := r; cases ex <;> exact hs.elim
  | normal => exact ⟨hs, h⟩
  | exit i => exact ⟨hs, h⟩
  | goto l => exact ⟨hs, h⟩
  | ret => exact ⟨hs, h⟩
  | panic c => exact ⟨hs, h⟩
def okRen (m : Nat) (L : List Nat) : Bool := fixesB m L && decide L.Nodup
theorem PostC.normalQ {K : KM} {σ : Heap} {w : World} {ds : List Deferred} {t : List EV} {s : Heap} {next : Act → World → Prop} {Q : Exit → Act → World → Prop}
    (hn : ∀ K' w' a' bs, Ext K σ w K' s w' → Rel K' s w' → VRs K' w' t a'.tmps → Marks K' s w w' ds a'.defers bs → next a' w') {e : Exit} {a : Act} {w' : World}
    (hp : PostC K σ w ds (.normal, t, s) e a w') : Exit.then next Q e a w' := by
  cases e with
  | outgrown => exact hp.elim
  | normal => obtain ⟨_, K', bs, e1, h3, h4, h5⟩ := hp; exact hn K' w' a bs e1 h3 h4 h5
  | exit i => exact hp.1.elim
  | goto l => exact hp.1.elim
  | ret => exact hp.1.elim
  | panic c => exact hp.1.elim
theorem SemLR.step {rnd : Bool} {m : Nat} {c : Code} {t t1 t2 : List EV} {σ s1 s2 s3 : Heap} {r : RC} (L : List Nat) (h : SemC P G rnd c t σ (.normal, t1, s1)) (hL : okRen m L = true) (hr : renH s1 L L = some s2)
    (ht : VLes (t1.map (renV L)) t2) (hh : HLe s2 s3) (hl : SemLR P G rnd m c t2 s3 r) : SemLR P G rnd m c t σ r := by
  simp only [okRen, Bool.and_eq_true, decide_eq_true_eq] at hL
  intro ro K0 σ0 w0 ds0 a w hro hm hR hG hA
  obtain ⟨K, bs, e1, r1, v1, m1⟩ := hA
  refine wpL_of (wpIn_mono (h ro K w a hro r1 (hG.ext e1 hR) v1) fun e a' w' hp => PostC.normalQ (fun K' w'' a'' bs' e2 r2 v2 m2 => ?_) hp)
  have hA2 : At K0 σ0 w0 ds0 t1 s1 a'' w'' := ⟨K', bs' ++ bs, e1.trans e2, r2, v2, Marks.trans e1.size e2 m1 m2⟩
  have hA3 := (hA2.ren hm (fun r ha => Nat.lt_of_lt_of_le (hR.alt r ha) hm) hL.1 hL.2 hr).weaken ht hh
  exact wpL_mono (hl ro K0 σ0 w0 ds0 a'' w'' hro hm hR hG hA3) fun e a w hq => hq
theorem SemLR.last {rnd : Bool} {m : Nat} {c : Code} {t t1 t2 : List EV} {σ s1 s2 s3 : Heap} {ex : EX} (L : List Nat) (h : SemC P G rnd c t σ (ex, t1, s1)) (hex : ex ≠ .normal) (hL : okRen m L = true) (hr : renH s1 L L = some s2)
    (ht : VLes (t1.map (renV L)) t2) (hh : HLe s2 s3) : SemLR P G rnd m c t σ (ex, t2, s3) := by
  simp only [okRen, Bool.and_eq_true, decide_eq_true_eq] at hL
  intro ro K0 σ0 w0 ds0 a w hro hm hR hG hA
  obtain ⟨K, bs, e1, r1, v1, m1⟩ := hA
  refine wpL_of (wpIn_mono (h ro K w a hro r1 (hG.ext e1 hR) v1) fun e a' w' hp => ?_)
  have hp2 : PostC K0 σ0 w0 ds0 (ex, t2, s3) e a' w' := by
    obtain ⟨q1, q2⟩ := PostC.at e1 hR m1 hp
    exact At.post q1 ((q2.ren hm (fun r ha => Nat.lt_of_lt_of_le (hR.alt r ha) hm) hL.1 hL.2 hr).weaken ht hh)
  exact hp2.other hex
theorem SemCL.ren {rnd : Bool} {c : Code} {t t1 t2 : List EV} {σ s1 s2 s3 : Heap} {ex : EX} (L : List Nat) (h : SemCL P G rnd c t σ (ex, t1, s1)) (hL : okRen σ.length L = true) (hr : renH s1 L L = some s2)
    (ht : VLes (t1.map (renV L)) t2) (hh : HLe s2 s3) : SemCL P G rnd c t σ (ex, t2, s3) := by
  simp only [okRen, Bool.and_eq_true, decide_eq_true_eq] at hL
  have main : ∀ {K : KM} {w : World} {a : Act} {e : Exit} {a' : Act} {w' : World}, Rel K σ w → PostC K σ w a.defers (ex, t1, s1) e a' w' → PostC K σ w a.defers (ex, t2, s3) e a' w' := by
    intro K w a e a' w' hR hp
    obtain ⟨q1, q2⟩ := PostC.at (Ext.refl K σ w) hR (Marks.none (ds := a.defers)) (a0 := a) hp
    exact At.post q1 ((q2.ren (Nat.le_refl _) (fun r ha => hR.alt r ha) hL.1 hL.2 hr).weaken ht hh)
  exact ⟨fun ro K w a hro hR hG hv => wpIn_mono (h.1 ro K w a hro hR hG hv) fun _ _ _ hp => main hR hp,
    fun b hb ro K w a hro hR hG hv => wpL_mono (h.2 b hb ro K w a hro hR hG hv) fun _ _ _ hp => main hR hp⟩
def renR (m mh : Nat) (L : List Nat) : Option (RC × FkS) → Option (RC × FkS)
  | some ((ex, t, h), s) => match renH h L L with
    | some h' => some ((ex, maskT m 0 (t.map (renV L)), maskH mh 0 h'), s)
    | none => none
  | none => none
theorem semCL_ren {modes news : FuncId → Bool} {n fuel : Nat} {F : Knows} {rnd : Bool} {c : Code} {tmps t : List EV} {σ σ' : Heap} {ex : EX} {s : Scr} {ow : List Prop} (m mh : Nat) (L : List Nat) (hm : P.follows .mixedOrders = true) (hF : KOk F)
    (h : outF (renR m mh L (codeE (forkD P G modes news n F) P G rnd fuel c tmps σ s.start)) = some ((ex, t, σ'), ow)) (hq : eqL (codeE (forkD P G modes news n F) P G rnd fuel c tmps σ s.start) = eqR (codeE (forkD P G modes news n F) P G rnd fuel c tmps σ s.start))
    (hL : okRen σ.length L = true) (ho : AllP ow) : SemCL P G rnd c tmps σ (ex, t, σ') := by
  cases hr : codeE (forkD P G modes news n F) P G rnd fuel c tmps σ s.start with
  | none => rw [hr] at h; cases h
  | some q =>
    obtain ⟨⟨ex', t', h'⟩, s'⟩ := q
    rw [hr] at h hq
    cases hn : renH h' L L with
    | none => simp only [renR, hn] at h; cases h
    | some h2 =>
      simp only [renR, hn, outF, Option.some.injEq, Prod.mk.injEq] at h
      obtain ⟨⟨rfl, rfl, rfl⟩, rfl⟩ := h
      have hs := (codeE_ok (forkD_ok G modes news hm n F hF) hm rnd fuel c tmps σ _ _ _ hr ⟨eqs_of hq, ho⟩).2
      exact SemCL.ren L hs hL hn (maskT_le m 0 _) (maskH_le mh 0 _)
theorem SemF.ren {f : FuncId} {args : List EV} {v v' : EV} {σ s1 s2 s3 : Heap} (L : List Nat) (h : SemF P G f args σ v s1) (hL : okRen σ.length L = true) (hr : renH s1 L L = some s2) (hv : VLe (renV L v) v') (hh : HLe s2 s3) : SemF P G f args σ v' s3 := by
  simp only [okRen, Bool.and_eq_true, decide_eq_true_eq] at hL
  refine ⟨h.1, fun K w margs hR hG hargs => (h.2 K w margs hR hG hargs).mono fun e w' hp => ?_⟩
  cases e with
  | outgrown => exact hp
  | panicked _ => exact hp
  | returned mv =>
    obtain ⟨K', h3, h4, h5⟩ := hp
    obtain ⟨f1, f2⟩ := fixesB_ok hL.1
    obtain ⟨r1, r2⟩ := ren_rel h4 hL.2 hr
    have hs : s2.length = L.length := (renH_spec L s2 hr).1
    have hal : ∀ r, K.al r → r < σ.length := hR.alt
    have e1 : Ext K σ w (K'.loc L) s2 w' := ⟨by omega, fun r ha => ⟨by have := hal r ha; omega, by rw [f2 r (hal r ha)]; exact h3.al r ha⟩, fun r ha => by simp only [KM.loc, f2 r (hal r ha)]; exact h3.blk r ha, h3.F, h3.F', fun b hb => h3.own b (r2 b hb), h3.stay, h3.size, h3.os, h3.tape, h3.output⟩
    refine ⟨K'.loc L, e1.weaken (HLe.refl _) hh, hh.rel r1, hv _ _ _ ?_⟩
    unfold renV
    split
    · rename_i hall
      exact VR.ren (K := K') (K' := K'.loc L) rfl h5 fun r hr => loc_moves (by simpa using List.all_eq_true.1 hall r hr)
    · exact .pure _ _ (.undef _)
def renF (mh : Nat) (L : List Nat) : Option ((EV × Heap) × FkS) → Option ((EV × Heap) × FkS)
  | some ((v, h), s) => match renH h L L with
    | some h' => some ((renV L v, maskH mh 0 h'), s)
    | none => none
  | none => none
theorem semF_ren {modes news : FuncId → Bool} {n fuel : Nat} {F : Knows} {f : FuncId} {args : List EV} {v : EV} {σ σ' : Heap} {s : Scr} {ow : List Prop} (mh : Nat) (L : List Nat) (hm : P.follows .mixedOrders = true) (hF : KOk F) (he : entersE P f = true)
    (h : outF (renF mh L (funE (forkD P G modes news n F) P G fuel f args σ s.start)) = some ((v, σ'), ow)) (hq : eqL (funE (forkD P G modes news n F) P G fuel f args σ s.start) = eqR (funE (forkD P G modes news n F) P G fuel f args σ s.start))
    (hL : okRen σ.length L = true) (ho : AllP ow) : SemF P G f args σ v σ' := by
  cases hr : funE (forkD P G modes news n F) P G fuel f args σ s.start with
  | none => rw [hr] at h; cases h
  | some q =>
    obtain ⟨⟨v', h'⟩, s'⟩ := q
    rw [hr] at h hq
    cases hn : renH h' L L with
    | none => simp only [renF, hn] at h; cases h
    | some h2 =>
      simp only [renF, hn, outF, Option.some.injEq, Prod.mk.injEq] at h
      obtain ⟨⟨rfl, rfl⟩, rfl⟩ := h
      have hs := semF_of (forkD_ok G modes news hm n F hF) hm he hr ⟨eqs_of hq, ho⟩
      exact SemF.ren L hs hL hn (VLe.refl _) (maskH_le mh 0 _)
theorem OLe.rows {fr pf ex : Bool} {esz len : Nat} {row row' : Nat → List EV} (hl : ∀ i, i < len → (row' i).length = (row i).length) (h : ∀ i, i < len → ∀ j (h1 : j < (row i).length) (h2 : j < (row' i).length), BLe (row i)[j] (row' i)[j]) : OLe (.arr fr pf esz ex len row) (.arr fr pf esz ex len row') := by
  refine ⟨fun K w r ho => ?_, id, id⟩
  obtain ⟨h1, h2, c, e, fz, q2, q3, q4, q5, q6, q7, q8, q9, q10, q11⟩ := ho
  exact ⟨h1, h2, c, e, fz, q2, q3, q4, q5, q6, q7, q8, fun i hi => (hl i hi).trans (q9 i hi), fun i hi j hj hc => (h i hi j (by rw [← hl i hi]; exact hj) hj).v K w _ (q10 i hi j (by rw [← hl i hi]; exact hj) hc),
    fun hp i hi j hj hc => (h i hi j (by rw [← hl i hi]; exact hj) hj).p K.F w _ (q11 hp i hi j (by rw [← hl i hi]; exact hj) hc)⟩
end
theorem SemL.toCL {P : Program} {G : Nat → Option (List EV)} {rnd : Bool} {c path : Code} {t : List EV} {σ : Heap} {r : RC} (h : SemL P G rnd c t σ r) (hp : path = .loop c) : SemCL P G rnd path t σ r := by
  subst hp
  exact ⟨h.toC, fun b hb => by cases hb; exact h⟩
end Go.Ev
namespace Go.Ev
def TypedFs (T : Go.TypeId → List EV → Prop) : List Field → List EV → Prop
  | [], vs => vs = []
  | f :: fs, vs => ∃ a b, vs = a ++ b ∧ T f.type a ∧ TypedFs T fs b
def Typed (P : Program) : Nat → Go.TypeId → List EV → Prop
  | 0, _, _ => False
  | n + 1, t, vs => match P.underlying t with
    | some .bool => ∃ b, vs = [.bool b]
    | some (.int k) => ∃ i, vs = [.int k i] ∧ k.min ≤ i ∧ i ≤ k.max
    | some .string => ∃ s : ByteArray, vs = [.str s] ∧ s.size ≤ maxLen
    | some (.slice e) => vs = [.isl false (P.cellsOf e) 0 fun _ => []] ∨ ∃ len row, vs = [.isl true (P.cellsOf e) len row] ∧ len ≤ maxLen ∧ ∀ i, i < len → Typed P n e (row i)
    | some (.struct fs) => TypedFs (Typed P n) fs.toList vs
    | _ => False
def coverB (P : Program) (ok : Go.TypeId → Bool) : List Field → Nat → Nat → Bool
  | [], o, tot => Nat.beq o tot
  | f :: fs, o, tot => Nat.beq f.offset o && ok f.type && coverB P ok fs (o + P.cellsOf f.type) tot
def okT (P : Program) : Nat → Go.TypeId → Bool
  | 0, _ => false
  | n + 1, t => match P.underlying t with
    | some .bool => true
    | some (.int _) => true
    | some .string => true
    | some (.slice e) => !Nat.beq (P.cellsOf e) 0 && okT P n e
    | some (.struct fs) => coverB P (okT P n) fs.toList 0 (P.cellsOf t)
    | _ => false
def CellsP (F : Nat → Prop) (w : World) (vs : List EV) (cs : List Value) : Prop :=
  vs.length = cs.length ∧ ∀ i (h1 : i < vs.length) (h2 : i < cs.length), (cs[i]).oneCell' = true ∧ PR F w vs[i] cs[i]
theorem CellsP.one {F : Nat → Prop} {w : World} {v : EV} {m : Value} (h1 : m.oneCell' = true) (h : PR F w v m) : CellsP F w [v] [m] := by
  refine ⟨rfl, fun i a b => ?_⟩
  have : i = 0 := by simpa using a
  subst this
  exact ⟨h1, h⟩
theorem CellsP.app {F : Nat → Prop} {w : World} {a b : List EV} {c d : List Value} (h : CellsP F w a c) (g : CellsP F w b d) : CellsP F w (a ++ b) (c ++ d) := by
  obtain ⟨h1, h2⟩ := h
  obtain ⟨g1, g2⟩ := g
  refine ⟨by simp [h1, g1], fun i x y => ?_⟩
  by_cases hi : i < a.length
  · have hi' : i < c.length := by omega
    rw [List.getElem_append_left hi, List.getElem_append_left hi']
    exact h2 i hi hi'
  · have hi' : ¬ i < c.length := by omega
    rw [List.getElem_append_right (by omega), List.getElem_append_right (by omega)]
    simp only [List.length_append] at x y
    have := g2 (i - a.length) (by omega) (by omega)
    simpa [h1] using this
section
variable {H : Type} {enc : TypeId × Value → H} {P : Program} {w : World} {spare : Nat → Bool} {held : Bool} {F : Nat → Prop}
theorem typed_fs {T : Go.TypeId → List EV → Prop} {ok : Go.TypeId → Bool} {n : Nat} {cs : List Value} {tot : Nat} (hl : cs.length = tot)
    (ih : ∀ t cs' x, ok t = true → DataW.trod enc P w 0 spare held n t cs' = some x → ∃ vs, CellsP F w vs cs' ∧ T t vs) :
    ∀ (fs : List Field) (o : Nat) (xs : List (DataW H × List MemPlace)), coverB P ok fs o tot = true → xs.length = fs.length →
      (∀ (i : Nat) (f : Field), fs[i]? = some f → DataW.trod enc P w 0 spare held n f.type ((cs.drop f.offset).take (P.cellsOf f.type)) = xs[i]?) →
      ∃ vs, CellsP F w vs (cs.drop o) ∧ TypedFs T fs vs
  | [], o, xs, hc, _, _ => by
    have : o = tot := Nat.eq_of_beq_eq_true hc
    refine ⟨[], ⟨by simp; omega, fun i h => by simp at h⟩, rfl⟩
  | f :: fs, o, xs, hc, hx, h => by
    simp only [coverB, Bool.and_eq_true] at hc
    obtain ⟨⟨ho, hk⟩, hr⟩ := hc
    have ho : f.offset = o := Nat.eq_of_beq_eq_true ho
    match xs, hx with
    | x :: xs, hx =>
      have h0 := h 0 f rfl
      obtain ⟨a, ha, hta⟩ := ih _ _ x hk h0
      obtain ⟨b, hb, htb⟩ := typed_fs hl ih fs (o + P.cellsOf f.type) xs hr (by simpa using hx) (fun i g hg => by simpa using h (i + 1) g (by simpa using hg))
      refine ⟨a ++ b, ?_, a, b, rfl, hta, htb⟩
      have := ha.app hb
      rw [ho, ← List.drop_drop, List.take_append_drop] at this
      exact this
theorem typed_of_trod (hF : ∀ b, b < w.heap.size → F b) : ∀ (n fuel : Nat) (t : Go.TypeId) (cs : List Value) (x : DataW H × List MemPlace), okT P n t = true →
    DataW.trod enc P w 0 spare held fuel t cs = some x → ∃ vs, CellsP F w vs cs ∧ Typed P n t vs
  | 0, _, _, _, _, hk, _ => by cases hk
  | n + 1, fuel, t, cs, x, hk, h => by
    unfold okT at hk
    unfold Typed
    split at hk
    · rename_i hu
      obtain ⟨b, rfl, _⟩ := DataW.trod_bool hu h
      exact ⟨[.bool b], .one rfl (.bool b), b, rfl⟩
    · rename_i k hu
      obtain ⟨i, rfl, _, hw⟩ := DataW.trod_int hu h
      simp only [Lit.wf, Bool.and_eq_true, decide_eq_true_eq] at hw
      exact ⟨[.int k i], .one rfl (.int k i), i, rfl, hw⟩
    · rename_i hu
      obtain ⟨s, rfl, _, hs⟩ := DataW.trod_string hu h
      exact ⟨[.str s], .one rfl (.str s), s, rfl, hs⟩
    · rename_i e hu
      simp only [Bool.and_eq_true, Bool.not_eq_true'] at hk
      obtain ⟨hz, hk⟩ := hk
      have hz : 0 < P.cellsOf e := Nat.pos_of_ne_zero fun hz' => by rw [hz'] at hz; cases hz
      rcases DataW.trod_slice hu h with ⟨rfl, _⟩ | ⟨a, len, cap, elems, rest, m, _, rfl, _, _, hlc, hcm, hlen, hel, _, _⟩
      · exact ⟨[.isl false (P.cellsOf e) 0 fun _ => []], .one rfl (.isln _ _), .inl rfl⟩
      · have hi : ∀ i, ∃ p : List EV × List Value, i < len → w.cells? 0 (a.add (i * P.cellsOf e)) (P.cellsOf e) = some p.2 ∧ CellsP F w p.1 p.2 ∧ Typed P n e p.1 := by
          intro i
          by_cases hi : i < len
          · have h1 := hel i hi
            rw [List.getElem?_eq_getElem (by omega), Option.bind_eq_some_iff] at h1
            obtain ⟨ci, h1, h2⟩ := h1
            obtain ⟨vs, h3, h4⟩ := typed_of_trod hF n m e ci _ hk h2
            exact ⟨(vs, ci), fun _ => ⟨h1, h3, h4⟩⟩
          · exact ⟨([], []), fun h => absurd h hi⟩
        obtain ⟨f, hf⟩ := Classical.axiomOfChoice hi
        obtain ⟨b, o, sp⟩ := a
        have hsp : 0 < len → sp = none := by
          intro h0
          obtain ⟨_, h2, h3⟩ := World.cells?_some (hf 0 h0).1
          have h3 := h3 0 hz
          rw [List.getElem?_eq_getElem (by omega), Nat.zero_mul] at h3
          simp only [Addr.add, if_true] at h3
          unfold World.cell? at h3
          split at h3
          · cases sp with
            | none => rfl
            | some _ => simp at h3
          · cases h3
        have hc : ∀ i, i < len → ∀ j, j < P.cellsOf e → cellAt w b (o + i * P.cellsOf e + j) = (f i).2[j]? := by
          intro i hi j hj
          obtain ⟨_, h2, h3⟩ := World.cells?_some (hf i hi).1
          have := h3 j hj
          rw [hsp (by omega), add_none, add_none, cell?_eq] at this
          exact this
        refine ⟨[.isl true (P.cellsOf e) len fun i => (f i).1], .one rfl (.isl _ _ _ b o cap (fun i j => (f i).2.getD j default) ?_ hlc sp hsp ?_ ?_ ?_), .inr ⟨len, _, rfl, by omega, fun i hi => (hf i hi).2.2⟩⟩
        · intro h0
          refine hF b ?_
          have := hc 0 h0 0 hz
          obtain ⟨_, h2, _⟩ := World.cells?_some (hf 0 h0).1
          rw [List.getElem?_eq_getElem (by omega)] at this
          unfold cellAt at this
          split at this
          · rename_i hb; exact (Array.getElem?_eq_some_iff.1 hb).1
          · cases this
        · intro i hi
          obtain ⟨_, h2, _⟩ := World.cells?_some (hf i hi).1
          have := (hf i hi).2.1.1
          omega
        · intro i hi j hj
          obtain ⟨_, h2, _⟩ := World.cells?_some (hf i hi).1
          have h1 := (hf i hi).2.1.1
          have hj' : j < (f i).2.length := by omega
          have h3 := (hf i hi).2.1.2 j (by omega) hj'
          rw [hc i hi j hj, List.getElem?_eq_getElem hj']
          simp only [List.getD_eq_getElem?_getD, List.getElem?_eq_getElem hj', Option.getD_some]
          exact ⟨trivial, h3.1⟩
        · intro i hi j hj
          have h1 := (hf i hi).2.1.1
          have hj' : j < (f i).2.length := by omega
          have h3 := (hf i hi).2.1.2 j hj hj'
          simp only [List.getD_eq_getElem?_getD, List.getElem?_eq_getElem hj', Option.getD_some]
          exact h3.2
    · rename_i fs hu
      obtain ⟨xs, m, rfl, _, hl, hx, hf⟩ := DataW.trod_struct hu h
      obtain ⟨vs, h1, h2⟩ := typed_fs (T := Typed P n) (ok := okT P n) hl (fun t' cs' x' a b => typed_of_trod hF n m t' cs' x' a b) fs.toList 0 xs hk (by simpa using hx) (fun i f hf' => hf i f (by simpa using hf'))
      exact ⟨vs, by simpa using h1, h2⟩
    · cases hk
theorem arg_pure {r : Reach} {b0 n : Nat} {t : Go.TypeId} {fs : Array Field} {v : Value} {d : DataW H} {ps : List MemPlace} (hF : ∀ b, b < w.heap.size → F b) (hu : P.underlying t = some (.struct fs))
    (hval : Value.okWide P w r b0 t v) (hk : okT P n t = true) (hd : DataW.Trod enc P w 0 spare held t v d ps) : ∃ vs, PR F w (.agg vs) v ∧ Typed P n t vs := by
  obtain ⟨cs, rfl, _⟩ := Go.WideShapes.okWide_struct hu hval
  obtain ⟨fuel, hf⟩ := hd
  obtain ⟨vs, ⟨h1, h2⟩, h3⟩ := typed_of_trod hF n fuel t _ _ hk hf
  refine ⟨vs, .agg vs cs (by simpa [Value.cells] using h1) (fun i h => ?_) (fun i a b => ?_), h3⟩
  · have := (h2 i (by rw [h1]; simpa [Value.cells] using h) (by simpa [Value.cells] using h)).1
    simpa [Value.cells] using this
  · have := (h2 i a (by simpa [Value.cells] using b)).2
    simpa [Value.cells] using this
end
end Go.Ev
namespace Go.Ev
def catO : List (Option (List EV)) → Option (List EV)
  | [] => some []
  | x :: xs => match x, catO xs with | some a, some b => some (a ++ b) | _, _ => none
def dE {H : Type} : Nat → DataW H → Option (List EV)
  | 0, _ => none
  | n + 1, d => match d with
    | .lit (.int k i) => some [.int k i]
    | .lit (.string b) => some [.str ⟨b.toArray⟩]
    | .lit (.bool b) => some [.bool b]
    | .agg ds => catO (ds.map (dE n))
    | _ => none
def okD (P : Program) : Nat → Go.TypeId → Bool
  | 0, _ => false
  | n + 1, t => match P.underlying t with
    | some .bool => true
    | some (.int _) => true
    | some .string => true
    | some (.array m e) => Nat.beq (P.cellsOf t) (m * P.cellsOf e) && okD P n e
    | some (.struct fs) => coverB P (okD P n) fs.toList 0 (P.cellsOf t)
    | _ => false
section
variable {H : Type} {enc : TypeId × Value → H} {P : Program} {w : World} {base : Nat} {spare : Nat → Bool} {held : Bool} {F : Nat → Prop}
theorem laid_arr {f m k : Nat} {e : Go.TypeId} (ih : ∀ cs' x l, DataW.trod enc P w base spare held f e cs' = some x → dE m x.1 = some l → CellsP F w l cs') :
    ∀ (xs : List (DataW H × List MemPlace)) (cs : List Value) (l : List EV), cs.length = xs.length * k →
      (∀ i x, xs[i]? = some x → DataW.trod enc P w base spare held f e ((cs.drop (i * k)).take k) = some x) → catO ((xs.map (·.1)).map (dE m)) = some l → CellsP F w l cs
  | [], cs, l, hl, _, hd => by
    obtain rfl : cs = [] := List.eq_nil_of_length_eq_zero (by simpa using hl)
    simp only [List.map_nil, catO, Option.some.injEq] at hd
    subst hd
    exact ⟨rfl, fun i h => by simp at h⟩
  | x :: xs, cs, l, hl, h, hd => by
    simp only [List.map_cons, catO] at hd
    split at hd
    · rename_i a b ha hb
      simp only [Option.some.injEq] at hd
      subst hd
      have h0 := h 0 x rfl
      rw [Nat.zero_mul, List.drop_zero] at h0
      have h1 := ih _ x a h0 ha
      have h2 := laid_arr (k := k) ih xs (cs.drop k) b (by rw [List.length_drop, hl, List.length_cons, Nat.add_mul]; omega) (fun i y hy => by
        rw [List.drop_drop, show k + i * k = (i + 1) * k from by rw [Nat.add_mul]; omega]
        exact h (i + 1) y (by simpa using hy)) hb
      have := h1.app h2
      rwa [List.take_append_drop] at this
    · cases hd
theorem laid_fs {f m tot : Nat} {ok : Go.TypeId → Bool} {cs : List Value} (hl : cs.length = tot)
    (ih : ∀ t cs' x l, ok t = true → DataW.trod enc P w base spare held f t cs' = some x → dE m x.1 = some l → CellsP F w l cs') :
    ∀ (fs : List Field) (o : Nat) (xs : List (DataW H × List MemPlace)) (l : List EV), coverB P ok fs o tot = true → xs.length = fs.length →
      (∀ (i : Nat) (g : Field), fs[i]? = some g → DataW.trod enc P w base spare held f g.type ((cs.drop g.offset).take (P.cellsOf g.type)) = xs[i]?) →
      catO ((xs.map (·.1)).map (dE m)) = some l → CellsP F w l (cs.drop o)
  | [], o, xs, l, hc, hx, _, hd => by
    have : o = tot := Nat.eq_of_beq_eq_true hc
    obtain rfl : xs = [] := List.eq_nil_of_length_eq_zero (by simpa using hx)
    simp only [List.map_nil, catO, Option.some.injEq] at hd
    subst hd
    exact ⟨by simp; omega, fun i h => by simp at h⟩
  | g :: fs, o, xs, l, hc, hx, h, hd => by
    simp only [coverB, Bool.and_eq_true] at hc
    obtain ⟨⟨ho, hk⟩, hr⟩ := hc
    have ho : g.offset = o := Nat.eq_of_beq_eq_true ho
    match xs, hx with
    | x :: xs, hx =>
      simp only [List.map_cons, catO] at hd
      split at hd
      · rename_i a b ha hb
        simp only [Option.some.injEq] at hd
        subst hd
        have h0 := h 0 g rfl
        have h1 := ih _ _ x a hk h0 ha
        have h2 := laid_fs hl ih fs (o + P.cellsOf g.type) xs b hr (by simpa using hx) (fun i y hy => by simpa using h (i + 1) y (by simpa using hy)) hb
        have := h1.app h2
        rwa [ho, ← List.drop_drop, List.take_append_drop] at this
      · cases hd
theorem laid_cells : ∀ (n m fuel : Nat) (t : Go.TypeId) (cs : List Value) (x : DataW H × List MemPlace) (l : List EV), okD P n t = true →
    DataW.trod enc P w base spare held fuel t cs = some x → dE m x.1 = some l → CellsP F w l cs
  | 0, _, _, _, _, _, _, hk, _, _ => by cases hk
  | _, 0, _, _, _, _, _, _, _, hd => by cases hd
  | n + 1, m + 1, fuel, t, cs, x, l, hk, h, hd => by
    unfold okD at hk
    split at hk
    · rename_i hu
      obtain ⟨b, rfl, rfl⟩ := DataW.trod_bool hu h
      simp only [dE, Option.some.injEq] at hd
      subst hd
      exact .one rfl (.bool b)
    · rename_i k hu
      obtain ⟨i, rfl, rfl, _⟩ := DataW.trod_int hu h
      simp only [dE, Option.some.injEq] at hd
      subst hd
      exact .one rfl (.int k i)
    · rename_i hu
      obtain ⟨s, rfl, rfl, _⟩ := DataW.trod_string hu h
      simp only [dE, Option.some.injEq] at hd
      subst hd
      exact .one rfl (.str s)
    · rename_i z e hu
      simp only [Bool.and_eq_true] at hk
      obtain ⟨xs, f, rfl, rfl, hl, hx, hf⟩ := DataW.trod_array hu h
      have hz := Nat.eq_of_beq_eq_true hk.1
      exact laid_arr (k := P.cellsOf e) (fun cs' x' l' a b => laid_cells n m f e cs' x' l' hk.2 a b) xs cs l (by rw [hl, hz, hx]) (fun i y hy => by
        have hi : i < xs.length := (List.getElem?_eq_some_iff.1 hy).1
        rw [hf i (by omega), hy]) hd
    · rename_i fs hu
      obtain ⟨xs, f, rfl, rfl, hl, hx, hf⟩ := DataW.trod_struct hu h
      have := laid_fs (ok := okD P n) hl (fun t' cs' x' l' a b c => laid_cells n m f t' cs' x' l' a b c) fs.toList 0 xs l hk (by simpa using hx) (fun i g hg => hf i g (by simpa using hg)) hd
      simpa using this
    · cases hk
end
theorem laid_var {P : Program} {w : World} : ∀ {laid : List (String × DataW Unit)} {ps : List MemPlace}, DataW.LaidVars P w laid ps → ∀ x ∈ laid,
    ∃ g t cs fuel p, P.globalNamed x.1 = some g ∧ (P.globals[g]?).map (·.type) = some t ∧ w.var? P x.1 = some cs ∧ DataW.trod (fun _ => ()) P w 0 (fun _ => true) false fuel t cs.toList = some (x.2, p)
  | [], _, _ => fun x hx => by cases hx
  | (n, d) :: r, ps, h => by
    obtain ⟨g, t, cs, fuel, p, q, h1, h2, h3, h4, h5, _⟩ := h
    intro x hx
    rcases List.mem_cons.1 hx with rfl | hx
    · exact ⟨g, t, cs, fuel, p, h1, h2, h3, h4⟩
    · exact laid_var h5 x hx
theorem laid_gok {P : Program} {w : World} {laid : List (String × DataW Unit)} {F : Nat → Prop} (hF : ∀ b, b < w.heap.size → F b) (h : laidMet P laid w) {n : String} {d : DataW Unit} (hx : (n, d) ∈ laid) {g : Nat} {t : Go.TypeId} {l : List EV} {k : Nat}
    (hg : P.globalNamed n = some g) (ht : (P.globals[g]?).map (·.type) = some t) (hk : okD P k t = true) (hd : dE k d = some l) (hne : l ≠ []) :
    F g ∧ l ≠ [] ∧ ∃ mv : Nat → Value, ∀ j (h : j < l.length), cellAt w g j = some (mv j) ∧ (mv j).oneCell' = true ∧ PR F w l[j] (mv j) := by
  obtain ⟨ps, hv, _⟩ := h
  obtain ⟨g', t', cs, fuel, p, h1, h2, h3, h4⟩ := laid_var hv _ hx
  obtain rfl : g = g' := Option.some.inj (hg.symm.trans h1)
  obtain rfl : t = t' := Option.some.inj (ht.symm.trans h2)
  obtain ⟨c1, c2⟩ := laid_cells (F := F) k k fuel t _ _ l hk h4 hd
  have hc : ∀ j, cellAt w g j = cs[j]? := fun j => by rw [← cell?_eq]; exact World.var?_cell h1 h3 j
  have hl : 0 < l.length := Nat.pos_of_ne_zero fun e => hne (List.eq_nil_of_length_eq_zero e)
  refine ⟨hF g ?_, hne, fun j => cs.toList.getD j default, fun j hj => ?_⟩
  · have := hc 0
    have h0 : 0 < cs.size := by rw [← Array.length_toList, ← c1]; exact hl
    rw [Array.getElem?_eq_getElem h0] at this
    unfold cellAt at this
    split at this
    · rename_i hb; exact (Array.getElem?_eq_some_iff.1 hb).1
    · cases this
  · have hj' : j < cs.toList.length := by omega
    have hj2 : j < cs.size := by simpa using hj'
    have := c2 j hj hj'
    have e : cs.toList.getD j default = cs.toList[j] := by rw [List.getD_eq_getElem?_getD, List.getElem?_eq_getElem hj', Option.getD_some]
    show cellAt w g j = some (cs.toList.getD j default) ∧ _
    rw [e, hc j, Array.getElem?_eq_getElem hj2]
    refine ⟨by simp, ?_⟩
    show (cs.toList.getD j default).oneCell' = true ∧ PR F w l[j] (cs.toList.getD j default)
    rw [e]
    exact this
end Go.Ev
