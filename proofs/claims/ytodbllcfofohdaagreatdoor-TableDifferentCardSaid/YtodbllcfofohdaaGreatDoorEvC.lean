/- A part of the proof: EvRegion, EvDraw, EvDraw2, EvCode, EvAuto, EvGlobs, EvSym, EvLe, EvFact. -/
import Derived.Test.YtodbllcfofohdaaGreatDoorEvB
import Derived.RangeFuncLeaves
import Derived.RangeFuncRecord
import Derived.Test.YtodbllcfofohdaaGreatDoorEvA
set_option linter.unusedSimpArgs false
set_option linter.unusedVariables false
namespace Go.Ev
theorem putE_get (tmps : List EV) (dst : Option Tmp) (v : EV) (t : Nat) : (putE tmps dst v)[t]? = if dst = some t ∧ t < tmps.length then some v else tmps[t]? := by
  unfold putE
  split
  · rename_i d
    rw [setT_eq, List.getElem?_set]
    by_cases h : d = t
    · subst h
      by_cases h' : d < tmps.length <;> simp [h']
    · simp [h]
  · simp
theorem putE_len (tmps : List EV) (dst : Option Tmp) (v : EV) : (putE tmps dst v).length = tmps.length := by
  unfold putE; split <;> simp [setT_eq]
theorem VRs.put {K : KM} {w : World} {tmps : List EV} {a : Act} (h : VRs K w tmps a.tmps) (dst : Option Tmp) {v : EV} {mv : Value} (hv : VR K w v mv) : VRs K w (putE tmps dst v) (a.put dst mv).tmps := by
  cases dst with
  | none => exact h
  | some d =>
    refine ⟨by simp [putE, setT_eq, Act.put, h.1], fun i h1 h2 => ?_⟩
    simp only [putE, setT_eq, Act.put] at h1 h2 ⊢
    by_cases hd : d = i
    · subst hd
      simpa using hv
    · rw [List.getElem_set_ne hd, Array.getElem_setIfInBounds_ne (by simpa using h2) hd]
      exact h.2 i (by simpa using h1) (by simpa using h2)
theorem put_defers (a : Act) (dst : Option Tmp) (v : Value) : (a.put dst v).defers = a.defers := by cases dst <;> rfl
section
variable {P : Program} {S : Type} {V : S → Prop} {G : Nat → Option (List EV)} {D : Drv S}
theorem Rel.pad {K : KM} {σ : Heap} {w : World} (hr : Rel K σ w) (n : Nat) : Ext K σ w K (σ ++ List.replicate n .free) w ∧ Rel K (σ ++ List.replicate n .free) w := by
  have hget : ∀ r o, (σ ++ List.replicate n EObj.free)[r]? = some o → σ[r]? = some o ∨ (o = .free ∧ σ.length ≤ r) := by
    intro r o h
    rw [List.getElem?_append] at h
    split at h
    · exact .inl h
    · rename_i hge
      have := List.mem_of_getElem? h
      exact .inr ⟨List.eq_of_mem_replicate this, by omega⟩
  have hown : ∀ b, Owned K (σ ++ List.replicate n EObj.free) b → Owned K σ b := by
    rintro b ⟨r, o, h1, h2, h3⟩
    rcases hget r o h1 with h | ⟨rfl, _⟩
    · exact ⟨r, o, h, h2, h3⟩
    · simp [EObj.live] at h2
  refine ⟨⟨by simp, fun _ h => h, fun _ _ => ⟨rfl, rfl, rfl, rfl⟩, fun _ h => h, fun _ h => .inl h, fun b h => .inr (hown b h), fun _ _ _ => rfl, Nat.le_refl _, rfl, rfl, rfl⟩, ?_, ?_, fun b hb => hr.notF b (hown b hb), ?_, hr.Flt, fun r h => by have := hr.alt r h; simp; omega⟩
  · intro r o h
    rcases hget r o h with h | ⟨rfl, hge⟩
    · exact hr.obj r o h
    · intro hal
      have := hr.alt r hal; omega
  · intro r1 r2 o1 o2 h1 h2 l1 l2 hb
    rcases hget r1 o1 h1 with h1 | ⟨rfl, _⟩
    · rcases hget r2 o2 h2 with h2 | ⟨rfl, _⟩
      · exact hr.inj r1 r2 o1 o2 h1 h2 l1 l2 hb
      · simp [EObj.live] at l2
    · simp [EObj.live] at l1
  · intro r o h ht
    rcases hget r o h with h | ⟨rfl, _⟩
    · exact hr.lt r o h ht
    · simp [EObj.there] at ht
def WantSem (ops : Array Oper) (tmps : List EV) (o : Oper) (d : Bool) : Prop :=
  match o.guard with
  | none => d = true
  | some (j, want) => ∃ dst, ((ops[j]?).bind (·.dst)) = some dst ∧ ((∃ b, tmps[dst]? = some (.bool b) ∧ d = (b == want)) ∨ (tmps[dst]? = some (.tuple []) ∧ d = false))
theorem wantedE_ok (hD : DOk V P G D) (ops : Array Oper) (tmps : List EV) (o : Oper) : Ok V (wantedE D ops tmps o) (WantSem ops tmps o) := by
  unfold wantedE WantSem
  cases hg : o.guard with
  | none => exact Ok.pure rfl
  | some q =>
    obtain ⟨j, want⟩ := q
    dsimp only
    split
    · rename_i b hb
      refine Ok.bind (hD.br b) fun d => Ok.pure fun hd => ?_
      obtain ⟨dst, h1, h2⟩ := Option.map_eq_some_iff.1 hb
      subst hd
      refine ⟨dst, h1, .inl ⟨d, ?_, rfl⟩⟩
      rw [getT_eq, List.getD_eq_getElem?_getD] at h2
      cases h : tmps[dst]? with
      | none => rw [h] at h2; simp at h2
      | some x => rw [h] at h2; simpa using h2
    · rename_i hb
      refine Ok.pure ?_
      obtain ⟨dst, h1, h2⟩ := Option.map_eq_some_iff.1 hb
      refine ⟨dst, h1, .inr ⟨?_, rfl⟩⟩
      rw [getT_eq, List.getD_eq_getElem?_getD] at h2
      cases h : tmps[dst]? with
      | none => rw [h] at h2; simp at h2
      | some x => rw [h] at h2; simpa using h2
    · exact Ok.fail
theorem WantSem.wanted {ops : Array Oper} {tmps : List EV} {o : Oper} {d : Bool} (h : WantSem ops tmps o d) {K : KM} {w : World} {a : Act}
    (ht : ∀ j want dst, o.guard = some (j, want) → ((ops[j]?).bind (·.dst)) = some dst → ∀ v, tmps[dst]? = some v → ∃ mv, a.tmps[dst]? = some mv ∧ VR K w v mv) :
    Region.wanted o (yielded ops a.tmps) = d := by
  unfold WantSem at h
  unfold Region.wanted
  split at h
  · rename_i hg; simp [hg, h]
  · rename_i j want hg
    obtain ⟨dst, h1, ⟨b, h2, h3⟩ | ⟨h2, h3⟩⟩ := h
    · obtain ⟨mv, hm, hv⟩ := ht j want dst hg h1 _ h2
      obtain rfl := hv.bool_inv
      simp only [hg, yielded, h1, Option.bind_some, hm, h3]
      cases b <;> cases want <;> rfl
    · obtain ⟨mv, hm, hv⟩ := ht j want dst hg h1 _ h2
      obtain ⟨mcs, rfl, _, _⟩ := hv.tuple_inv
      simp only [hg, yielded, h1, Option.bind_some, hm, h3]
      cases want <;> rfl
theorem freeAt_ok {σ : Heap} {nm k : Nat} {o : Oper} (h : freeAt σ nm k o = true) : ∀ i, i < slots k o.op → σ[nm + i]? = some .free := by
  intro i hi
  unfold freeAt at h
  rw [Bool.and_eq_true, List.all_eq_true] at h
  have := h.2 i (by simpa using hi)
  split at this
  · assumption
  · cases this
theorem freeAt_nd {σ : Heap} {nm k : Nat} {o : Oper} (h : freeAt σ nm k o = true) : isDefer o.op = false := by
  unfold freeAt at h
  rw [Bool.and_eq_true] at h
  simpa using h.1
def OpsSem (P : Program) (G : Nat → Option (List EV)) (ops : Array Oper) (os : List Oper) (tmps : List EV) (σ : Heap) (r : List EV × Heap) : Prop :=
  ∀ (ro : Option Nat) (ds : List Deferred) (K : KM) (w : World) (a : Act) (l : List Nat), Rel K σ w → GOk G K.F w → VRs K w tmps a.tmps → a.defers = ds → l.map (fun i => ops[i]?) = os.map some →
    ∀ Q, (∀ K' w' a', Ext K σ w K' r.2 w' → Rel K' r.2 w' → VRs K' w' r.1 a'.tmps → a'.defers = ds → Q .normal a' w') → wpOpsIn (fen ro) 0 P ops Q l a w
theorem opsE_ok (hD : DOk V P G D) (k : Nat) (ops : Array Oper) : ∀ (os : List Oper) (nm : Nat) (tmps : List EV) (σ : Heap), Ok V (opsE D P G k ops os nm tmps σ) (OpsSem P G ops os tmps σ)
  | [], nm, tmps, σ => by
    unfold opsE
    refine Ok.pure fun ro ds K w a l hR hG ht hd hl Q hQ => ?_
    obtain rfl : l = [] := by simpa using hl
    exact hQ K w a (Ext.refl _ _ _) hR ht hd
  | o :: rest, nm, tmps, σ => by
    unfold opsE
    refine Ok.bind (wantedE_ok hD ops tmps o) fun d => ?_
    have hguard : ∀ {K : KM} {w : World} {a : Act}, VRs K w tmps a.tmps → ∀ j want dst, o.guard = some (j, want) → ((ops[j]?).bind (·.dst)) = some dst → ∀ v, tmps[dst]? = some v → ∃ mv, a.tmps[dst]? = some mv ∧ VR K w v mv := by
      intro K w a ht j want dst _ _ v hv
      obtain ⟨h1, rfl⟩ := List.getElem?_eq_some_iff.1 hv
      have h2 : dst < a.tmps.size := by rw [← ht.1]; exact h1
      exact ⟨a.tmps[dst], by simp [h2], ht.2 dst h1 h2⟩
    refine Ok.ite (fun hdt => ?_) fun hdf => ?_
    · refine Ok.ite (fun hfree => ?_) fun _ => Ok.fail
      refine Ok.bind (eOpK_ok hD (evalE G tmps) (fun r => σ[r]?) nm k (some σ) o) fun r => ?_
      obtain ⟨v, e⟩ := r
      dsimp only
      refine (opsE_ok hD k ops rest _ (putE tmps o.dst v) (e.on σ)).mono fun q hq hsem hw ro ds K w a l hR hG ht hd hl Q hQ => ?_
      cases l with
      | nil => simp at hl
      | cons i l =>
        simp only [List.map_cons, List.cons.injEq] at hl
        obtain ⟨hio, hl⟩ := hl
        have hwant : Region.wanted o (yielded ops a.tmps) = true := by rw [hw.wanted (hguard ht)]; exact hdt
        simp only [wpOpsIn, hio, hwant, if_true]
        have hrun := hsem K σ w a hR hG (fun r o h => h) (freeAt_ok hfree) (fun s hs => Option.some.inj hs) (fun _ _ => by simp) (fun x => eval_ok hG ht x)
        refine hrun.wp (freeAt_nd hfree) (fun mv w' hv => ?_)
        obtain ⟨K', e1, r1, v1⟩ := hv
        refine hq ro ds K' w' (a.put o.dst mv) l r1 (hG.ext e1 hR) ((ht.ext e1 hR).put o.dst v1) (by rw [put_defers]; exact hd) hl Q ?_
        intro K'' w'' a'' e2 r2 v2 d2
        exact hQ K'' w'' a'' (e1.trans e2) r2 v2 d2
    · refine (opsE_ok hD k ops rest _ (putE tmps o.dst (.tuple [])) σ).mono fun q hq hw ro ds K w a l hR hG ht hd hl Q hQ => ?_
      cases l with
      | nil => simp at hl
      | cons i l =>
        simp only [List.map_cons, List.cons.injEq] at hl
        obtain ⟨hio, hl⟩ := hl
        have hwant : Region.wanted o (yielded ops a.tmps) = false := by rw [hw.wanted (hguard ht)]; simpa using hdf
        simp only [wpOpsIn, hio, hwant, Bool.false_eq_true, if_false]
        exact ⟨fun _ _ => trivial, hq ro ds K w (a.put o.dst undef) l hR hG (ht.put o.dst (.pure _ _ (.tuple [] #[] rfl fun i h => by simp at h))) (by rw [put_defers]; exact hd) hl Q hQ⟩
theorem applyU_len (σ : Heap) (u : Upd) : (applyU σ u).length = σ.length := by
  induction u generalizing σ with
  | nil => rfl
  | cons p u ih => obtain ⟨r, o⟩ := p; simp [applyU, ih]
theorem applyU_get (u : Upd) : ∀ (s1 s2 : Heap) (r : Nat), s1.length = s2.length → (s1[r]? = s2[r]? ∨ (u.any fun p => p.1 == r) = true) → (applyU s1 u)[r]? = (applyU s2 u)[r]? := by
  induction u with
  | nil => intro s1 s2 r _ h; simpa [applyU] using h
  | cons p u ih =>
    obtain ⟨k, o⟩ := p
    intro s1 s2 r hl h
    refine ih (s1.set k o) (s2.set k o) r (by simp [hl]) ?_
    by_cases hk : k = r
    · subst hk
      left
      simp only [List.getElem?_set_self', hl]
      by_cases hlt : k < s1.length
      · have : k < s2.length := by omega
        simp [hlt, this]
      · have : ¬ k < s2.length := by omega
        simp [hlt, this]
    · rcases h with h | h
      · left; simp [List.getElem?_set, hk, h]
      · right; simpa [hk] using h
theorem applyU_other (u : Upd) : ∀ (s : Heap) (r : Nat), (u.any fun p => p.1 == r) = false → (applyU s u)[r]? = s[r]? := by
  induction u with
  | nil => intro s r _; rfl
  | cons p u ih =>
    obtain ⟨k, o⟩ := p
    intro s r h
    simp only [List.any_cons, Bool.or_eq_false_iff, beq_eq_false_iff_ne] at h
    unfold applyU
    rw [ih _ _ h.2, List.getElem?_set, if_neg h.1]
def Rec.writes (r : Nat) (rc : Rec) : Bool := rc.upd.any fun p => p.1 == r
def Rec.puts (t : Nat) (rc : Rec) : Bool := rc.dst == some t
theorem applyR_get (r : Nat) : ∀ (rs : List Rec) (s1 s2 : Heap), s1.length = s2.length → s1[r]? = s2[r]? → (applyR s1 rs)[r]? = (applyR s2 (rs.filter (Rec.writes r)))[r]? := by
  intro rs
  induction rs with
  | nil => intro s1 s2 _ h; simpa [applyR] using h
  | cons rc rs ih =>
    intro s1 s2 hl h
    rw [List.filter_cons]
    split
    · rename_i hw
      simp only [applyR, List.foldl_cons]
      exact ih _ _ (by simp [applyU_len, hl]) (applyU_get _ _ _ _ hl (.inl h))
    · rename_i hw
      simp only [applyR, List.foldl_cons]
      exact ih _ _ (by simp [applyU_len, hl]) (by rw [applyU_other _ _ _ (by simpa only [Rec.writes, Bool.not_eq_true] using hw)]; exact h)
theorem putR_get (t : Nat) : ∀ (rs : List Rec) (s1 s2 : List EV), s1.length = s2.length → s1[t]? = s2[t]? → (putR s1 rs)[t]? = (putR s2 (rs.filter (Rec.puts t)))[t]? := by
  intro rs
  induction rs with
  | nil => intro s1 s2 _ h; simpa [putR] using h
  | cons rc rs ih =>
    intro s1 s2 hl h
    rw [List.filter_cons]
    split
    · simp only [putR, List.foldl_cons]
      refine ih _ _ (by simp [putE_len, hl]) ?_
      rw [putE_get, putE_get, hl, h]
    · rename_i hw
      simp only [putR, List.foldl_cons]
      refine ih _ _ (by simp [putE_len, hl]) ?_
      rw [putE_get, if_neg (by intro hc; apply hw; simp [Rec.puts, hc.1]), h]
theorem applyR_len (σ : Heap) (rs : List Rec) : (applyR σ rs).length = σ.length := by
  induction rs generalizing σ with
  | nil => rfl
  | cons rc rs ih => simp only [applyR, List.foldl_cons] at *; rw [ih, applyU_len]
theorem putR_len (t : List EV) (rs : List Rec) : (putR t rs).length = t.length := by
  induction rs generalizing t with
  | nil => rfl
  | cons rc rs ih => simp only [putR, List.foldl_cons] at *; rw [ih, putE_len]
end
end Go.Ev
namespace Go.Ev
def bfStep (acc : Array Nat) (o : Oper) : Array Nat := acc.push (o.after.foldl (fun s e => if Region.binds .any e then s ||| 2 ^ e.on ||| acc.getD e.on 0 else s) 0)
theorem before_eq (ops : Array Oper) : Region.before ops = ops.toList.foldl bfStep #[] := by
  unfold Region.before
  rw [← Array.foldl_toList]
  rfl
theorem bf_inner (acc : Array Nat) (i : Nat) : ∀ (l : List Edge) (s : Nat), (l.foldl (fun s e => if Region.binds .any e then s ||| 2 ^ e.on ||| acc.getD e.on 0 else s) s).testBit i = true →
    s.testBit i = true ∨ ∃ e ∈ l, Region.binds .any e = true ∧ (e.on = i ∨ (acc.getD e.on 0).testBit i = true) := by
  intro l
  induction l with
  | nil => intro s h; exact .inl h
  | cons e l ih =>
    intro s h
    simp only [List.foldl_cons] at h
    rcases ih _ h with h1 | ⟨e', h1, h2, h3⟩
    · by_cases hb : Region.binds .any e = true
      · rw [if_pos hb] at h1
        simp only [Nat.testBit_or, Bool.or_eq_true] at h1
        rcases h1 with (h1 | h1) | h1
        · exact .inl h1
        · exact .inr ⟨e, by simp, hb, .inl (by simpa [Nat.testBit_two_pow] using h1)⟩
        · exact .inr ⟨e, by simp, hb, .inr h1⟩
      · rw [if_neg hb] at h1; exact .inl h1
    · exact .inr ⟨e', by simp [h1], h2, h3⟩
def BitOk (pre : List Oper) (acc : Array Nat) : Prop := acc.size = pre.length ∧ ∀ j i, (acc.getD j 0).testBit i = true →
  ∃ o e, pre[j]? = some o ∧ e ∈ o.after.toList ∧ Region.binds .any e = true ∧ (e.on = i ∨ (acc.getD e.on 0).testBit i = true)
theorem bf_spec : ∀ (l pre : List Oper) (acc : Array Nat), BitOk pre acc → BitOk (pre ++ l) (l.foldl bfStep acc) := by
  intro l
  induction l with
  | nil => intro pre acc h; simpa using h
  | cons o l ih =>
    intro pre acc h
    have := ih (pre ++ [o]) (bfStep acc o) (by
      obtain ⟨hs, hb⟩ := h
      have hget : ∀ j, (bfStep acc o).getD j 0 = if j < acc.size then acc.getD j 0 else if j = acc.size then (o.after.foldl (fun s e => if Region.binds .any e then s ||| 2 ^ e.on ||| acc.getD e.on 0 else s) 0) else 0 := by
        intro j
        simp only [bfStep, Array.getD_eq_getD_getElem?, Array.getElem?_push]
        by_cases h1 : j < acc.size
        · rw [if_pos h1, if_neg (by omega)]
        · rw [if_neg h1]
          by_cases h2 : j = acc.size
          · simp [h2]
          · rw [if_neg h2, if_neg h2]; simp [h1]
      have hmono : ∀ j i, (acc.getD j 0).testBit i = true → ((bfStep acc o).getD j 0).testBit i = true := by
        intro j i h
        rw [hget]
        by_cases h1 : j < acc.size
        · rw [if_pos h1]; exact h
        · have : acc.getD j 0 = 0 := by simp [Array.getD, h1]
          rw [this] at h; simp at h
      refine ⟨by simp [bfStep, hs], fun j i h => ?_⟩
      rw [hget] at h
      by_cases h1 : j < acc.size
      · rw [if_pos h1] at h
        obtain ⟨o', e, g1, g2, g3, g4⟩ := hb j i h
        refine ⟨o', e, ?_, g2, g3, g4.imp id (hmono _ _)⟩
        rw [List.getElem?_append, if_pos (by omega)]; exact g1
      · rw [if_neg h1] at h
        by_cases h2 : j = acc.size
        · rw [if_pos h2] at h
          rw [← Array.foldl_toList] at h
          rcases bf_inner acc i _ 0 h with h3 | ⟨e, g1, g2, g3⟩
          · simp at h3
          · refine ⟨o, e, ?_, g1, g2, g3.imp id (hmono _ _)⟩
            rw [List.getElem?_append, if_neg (by omega)]
            simp [show j - pre.length = 0 by omega]
        · rw [if_neg h2] at h; simp at h)
    simpa using this
theorem before_spec (ops : Array Oper) : ∀ j i, ((Region.before ops).getD j 0).testBit i = true →
    ∃ o e, ops[j]? = some o ∧ e ∈ o.after.toList ∧ Region.binds .any e = true ∧ (e.on = i ∨ ((Region.before ops).getD e.on 0).testBit i = true) := by
  rw [before_eq]
  have := bf_spec ops.toList [] #[] ⟨rfl, fun j i h => by simp [Array.getD] at h⟩
  intro j i h
  obtain ⟨o, e, h1, h2⟩ := this.2 j i h
  exact ⟨o, e, by simpa using h1, h2⟩
theorem edgesOk_spec : ∀ (os : List Oper) (k : Nat), edgesOk os k = true → ∀ j o, os[j]? = some o → ∀ e ∈ o.after.toList, Region.binds .any e = true → e.on < k + j := by
  intro os
  induction os with
  | nil => intro k _ j o h; simp at h
  | cons x os ih =>
    intro k h j o ho e he hb
    simp only [edgesOk, Bool.and_eq_true] at h
    cases j with
    | zero =>
      simp only [List.getElem?_cons_zero, Option.some.injEq] at ho
      subst ho
      have := List.all_eq_true.1 h.1 e he
      rw [hb] at this
      simpa using this
    | succ j =>
      have := ih (k + 1) h.2 j o (by simpa using ho) e he hb
      omega
def Closed (ops : Array Oper) (Z : Nat → Bool) : Prop := ∀ j o, Z j = true → ops[j]? = some o → ∀ e ∈ o.after.toList, Region.binds .any e = true → Z e.on = true
theorem Closed.before {ops : Array Oper} {Z : Nat → Bool} (he : edgesOk ops.toList 0 = true) (hc : Closed ops Z) : ∀ (n j i : Nat), j ≤ n → ((Region.before ops).getD j 0).testBit i = true →
    (∀ o, ops[j]? = some o → ∀ e ∈ o.after.toList, Region.binds .any e = true → Z e.on = true) → Z i = true := by
  intro n
  induction n with
  | zero =>
    intro j i hj h hd
    obtain ⟨o, e, h1, h2, h3, h4⟩ := before_spec ops j i h
    have := edgesOk_spec ops.toList 0 he j o (by simpa using h1) e h2 h3
    omega
  | succ n ih =>
    intro j i hj h hd
    obtain ⟨o, e, h1, h2, h3, h4⟩ := before_spec ops j i h
    have hlt := edgesOk_spec ops.toList 0 he j o (by simpa using h1) e h2 h3
    have hz := hd o h1 e h2 h3
    rcases h4 with h4 | h4
    · rw [← h4]; exact hz
    · exact ih e.on i (by omega) h4 fun o' ho' e' he' hb' => hc e.on o' hz ho' e' he' hb'
def Numbered (lo : Nat) (rs : List Rec) : Prop := ∀ (k : Nat) (rc : Rec), rs[k]? = some rc → rc.i = lo + k
def sel (Z : Nat → Bool) (rs : List Rec) : List Rec := rs.filter fun rc => Z rc.i
theorem take_filter : ∀ (rs : List Rec) (k0 i : Nat), (∀ k rc, rs[k]? = some rc → rc.i = k0 + k) → rs.filter (fun rc => decide (rc.i < k0 + i)) = rs.take i := by
  intro rs
  induction rs with
  | nil => intro k0 i _; simp
  | cons rc rs ih =>
    intro k0 i h
    have h0 := h 0 rc (by simp)
    have ih' := fun i => ih (k0 + 1) i fun k rc' hk => by have := h (k + 1) rc' (by simpa using hk); omega
    cases i with
    | zero =>
      rw [List.filter_cons, if_neg (by simp; omega)]
      have := ih' 0
      rw [List.take_zero] at this ⊢
      rw [List.filter_eq_nil_iff] at this ⊢
      intro a ha
      have := this a ha
      simp only [decide_eq_true_eq] at *
      omega
    | succ i =>
      rw [List.filter_cons, if_pos (by simp; omega), List.take_succ_cons]
      have := ih' i
      rw [show k0 + 1 + i = k0 + (i + 1) from by omega] at this
      rw [this]
theorem sel_take {lo : Nat} {rs : List Rec} (hn : Numbered lo rs) {Z : Nat → Bool} {k : Nat} {p : Rec → Bool} (h : ∀ rc ∈ rs, p rc = true → (Z rc.i = true ↔ rc.i < lo + k)) :
    (sel Z rs).filter p = (rs.take k).filter p := by
  have := take_filter rs lo k hn
  rw [← this, sel, List.filter_filter, List.filter_filter]
  apply List.filter_congr
  intro rc hrc
  by_cases hp : p rc = true
  · have := h rc hrc hp
    by_cases hz : Z rc.i = true
    · simp [hp, hz, this.1 hz]
    · have hlt : ¬ rc.i < lo + k := fun h' => hz (this.2 h')
      simp only [hp, hz, hlt, decide_false, Bool.and_false, Bool.true_and]
  · simp [hp]
theorem sel_add_out {lo : Nat} {rs : List Rec} (hn : Numbered lo rs) {Z : Nat → Bool} {k : Nat} {rc : Rec} (hi : rs[k]? = some rc) {p : Rec → Bool} (hp : p rc = false) :
    (sel (fun j => Z j || j == lo + k) rs).filter p = (sel Z rs).filter p := by
  rw [sel, sel, List.filter_filter, List.filter_filter]
  apply List.filter_congr
  intro rc' hrc'
  obtain ⟨k', hk, rfl⟩ := List.mem_iff_getElem.1 hrc'
  have h1 := hn k' rs[k'] (by simp [hk])
  by_cases hki : k' = k
  · subst hki
    rw [List.getElem?_eq_getElem hk] at hi
    obtain rfl := Option.some.inj hi
    simp [hp]
  · have : (rs[k'].i == lo + k) = false := by rw [h1]; simp; omega
    simp [this]
theorem sel_add_in {lo : Nat} {rs : List Rec} (hn : Numbered lo rs) {Z : Nat → Bool} {k : Nat} {rc : Rec} (hi : rs[k]? = some rc) {p : Rec → Bool} (hp : p rc = true) (hz : Z (lo + k) = false)
    (h : ∀ rc' ∈ rs, p rc' = true → Z rc'.i = true → rc'.i < lo + k) : (sel (fun j => Z j || j == lo + k) rs).filter p = (sel Z rs).filter p ++ [rc] := by
  have hlt : k < rs.length := (List.getElem?_eq_some_iff.1 hi).1
  have hsplit : rs = rs.take k ++ rc :: rs.drop (k + 1) := by
    rw [List.getElem?_eq_getElem hlt] at hi
    obtain rfl := Option.some.inj hi
    rw [← List.drop_eq_getElem_cons hlt, List.take_append_drop]
  have hri : rc.i = lo + k := hn k rc hi
  have htake : ∀ rc' ∈ rs.take k, rc'.i < lo + k := by
    intro rc' hrc'
    obtain ⟨j, hj, rfl⟩ := List.mem_iff_getElem.1 hrc'
    simp only [List.length_take] at hj
    rw [List.getElem_take, hn j _ (List.getElem?_eq_getElem (by omega))]
    omega
  have hdrop : ∀ rc' ∈ rs.drop (k + 1), lo + k < rc'.i ∧ rc' ∈ rs := by
    intro rc' hrc'
    obtain ⟨j, hj, rfl⟩ := List.mem_iff_getElem.1 hrc'
    simp only [List.length_drop] at hj
    rw [List.getElem_drop, hn (k + 1 + j) _ (List.getElem?_eq_getElem (by omega))]
    exact ⟨by omega, List.getElem_mem _⟩
  have f1 : ∀ (q : Rec → Bool), (∀ rc' ∈ rs.drop (k + 1), q rc' = false) → rs.filter q = (rs.take k).filter q ++ (if q rc then [rc] else []) := by
    intro q hq
    conv => lhs; rw [hsplit]
    rw [List.filter_append, List.filter_cons, show (rs.drop (k + 1)).filter q = [] from List.filter_eq_nil_iff.2 fun a ha => by simp [hq a ha]]
  rw [sel, sel, List.filter_filter, List.filter_filter, f1, f1]
  · simp only [hri, hz, hp, Bool.false_or, beq_self_eq_true, Bool.and_self, if_true, Bool.and_false, Bool.false_eq_true, if_false, List.append_nil]
    congr 1
    apply List.filter_congr
    intro rc' hrc'
    have := htake rc' hrc'
    have : (rc'.i == lo + k) = false := by simp; omega
    simp [this]
  · intro rc' hrc'
    obtain ⟨h1, h2⟩ := hdrop rc' hrc'
    by_cases hpr : p rc' = true
    · have hzf : Z rc'.i = false := by
        cases hzz : Z rc'.i with
        | false => rfl
        | true => have := h rc' h2 hpr hzz; omega
      simp [hzf]
    · simp [hpr]
  · intro rc' hrc'
    obtain ⟨h1, h2⟩ := hdrop rc' hrc'
    by_cases hpr : p rc' = true
    · have hzf : Z rc'.i = false := by
        cases hzz : Z rc'.i with
        | false => rfl
        | true => have := h rc' h2 hpr hzz; omega
      have : (rc'.i == lo + k) = false := by simp; omega
      simp [hzf, this]
    · simp [hpr]
end Go.Ev
namespace Go.Ev
section
variable {P : Program} {S : Type} {V : S → Prop} {G : Nat → Option (List EV)} {D : Drv S}
structure RecOk (P : Program) (G : Nat → Option (List EV)) (ops : Array Oper) (tmps : List EV) (σ : Heap) (o : Oper) (nm k i : Nat) (rc : Rec) : Prop where
  i : rc.i = i
  dst : rc.dst = o.dst
  looks : rc.looks = o.looksAt ops
  want : WantSem ops tmps o rc.run
  sem : rc.run = true → OpSem P G (evalM G rc.looks tmps) (lookM rc.reads σ) nm k none o (rc.v, .upd rc.upd)
  nd : rc.run = true → isDefer o.op = false
  free : rc.run = true → ∀ i, i < slots k o.op → nm + i ∈ rc.reads ∧ σ[nm + i]? = some .free
  idle : rc.run = false → rc.v = .tuple [] ∧ rc.upd = []
def DrawSem (P : Program) (G : Nat → Option (List EV)) (ops : Array Oper) : List Oper → Nat → List EV → Heap → List Rec → Prop
  | [], _, _, _, rs => rs = []
  | o :: rest, i, tmps, σ, rs => ∃ nm k rc rs', rs = rc :: rs' ∧ RecOk P G ops tmps σ o nm k i rc ∧ DrawSem P G ops rest (i + 1) (putE tmps rc.dst rc.v) (applyU σ rc.upd) rs'
theorem drawOpsE_ok (hD : DOk V P G D) (k : Nat) (ops : Array Oper) : ∀ (os : List Oper) (i nm : Nat) (tmps : List EV) (σ : Heap), Ok V (drawOpsE D P G k ops os i nm tmps σ) (DrawSem P G ops os i tmps σ)
  | [], i, nm, tmps, σ => by
    unfold drawOpsE
    exact Ok.pure rfl
  | o :: rest, i, nm, tmps, σ => by
    unfold drawOpsE
    refine Ok.bind (wantedE_ok hD ops tmps o) fun d => ?_
    refine Ok.ite (fun hdt => ?_) fun hdf => ?_
    · refine Ok.ite (fun hfree => ?_) fun _ => Ok.fail
      refine Ok.bind (eOpK_ok hD (evalM G (o.looksAt ops) tmps) (lookM _ σ) nm k none o) fun r => ?_
      obtain ⟨v, e⟩ := r
      dsimp only
      split
      · exact Ok.fail
      · rename_i u
        refine Ok.ite (fun _ => ?_) fun _ => Ok.fail
        refine Ok.bind (drawOpsE_ok hD k ops rest (i + 1) _ (putE tmps o.dst v) (applyU σ u)) fun rs => Ok.pure fun hrs hsem hw => ?_
        subst hdt
        refine ⟨nm, k, _, rs, rfl, ⟨rfl, rfl, rfl, hw, fun _ => hsem, fun _ => freeAt_nd hfree, fun _ i hi => ⟨by simp only [List.mem_append, List.mem_range'_1]; exact .inl ⟨by omega, by omega⟩, freeAt_ok hfree i hi⟩, fun h => by simp at h⟩, hrs⟩
    · refine Ok.bind (drawOpsE_ok hD k ops rest (i + 1) _ (putE tmps o.dst (.tuple [])) σ) fun rs => Ok.pure fun hrs hw => ?_
      have hdf' : d = false := by simpa using hdf
      subst hdf'
      exact ⟨nm, k, _, rs, rfl, ⟨rfl, rfl, rfl, hw, fun h => by simp at h, fun h => by simp at h, fun h => by simp at h, fun _ => ⟨rfl, rfl⟩⟩, hrs⟩
theorem DrawSem.at {ops : Array Oper} : ∀ {os : List Oper} {i : Nat} {tmps : List EV} {σ : Heap} {rs : List Rec}, DrawSem P G ops os i tmps σ rs →
    rs.length = os.length ∧ ∀ k o, os[k]? = some o → ∃ nm kk rc, rs[k]? = some rc ∧ RecOk P G ops (putR tmps (rs.take k)) (applyR σ (rs.take k)) o nm kk (i + k) rc := by
  intro os
  induction os with
  | nil => intro i tmps σ rs h; simp only [DrawSem] at h; subst h; simp
  | cons o os ih =>
    intro i tmps σ rs h
    obtain ⟨nm, kk, rc, rs', rfl, h1, h2⟩ := h
    obtain ⟨hl, hk⟩ := ih h2
    refine ⟨by simp [hl], fun k o' ho => ?_⟩
    cases k with
    | zero =>
      simp only [List.getElem?_cons_zero, Option.some.injEq] at ho
      subst ho
      exact ⟨nm, kk, rc, rfl, by simpa [putR, applyR] using h1⟩
    | succ k =>
      obtain ⟨nm', kk', rc', g1, g2⟩ := hk k o' (by simpa using ho)
      refine ⟨nm', kk', rc', by simpa using g1, ?_⟩
      rw [show i + (k + 1) = i + 1 + k from by omega]
      simpa [putR, applyR] using g2
theorem noClash_spec {bf : Array Nat} {rs : List Rec} (h : noClash bf rs = true) {a b : Rec} (ha : a ∈ rs) (hb : b ∈ rs) (hlt : a.i < b.i) (hc : a.clash b = true) : (bf.getD b.i 0).testBit a.i = true := by
  have h0 := List.all_eq_true.1 h b hb
  rw [Bool.or_eq_true] at h0
  rcases h0 with h0 | h0
  · have e := congrArg (·.testBit a.i) (beq_iff_eq.1 h0)
    simpa [Nat.testBit_mod_two_pow, Nat.testBit_two_pow_sub_one, hlt] using e
  have h1 := List.all_eq_true.1 h0 a ha
  cases hbit : (bf.getD b.i 0).testBit a.i with
  | true => rfl
  | false => rw [hbit, hc] at h1; simp [hlt] at h1
theorem clash_writes_reads {a b : Rec} {r : Nat} (ha : a.writes r = true) (hb : r ∈ b.reads) : a.clash b = true ∧ b.clash a = true := by
  obtain ⟨p, hp, hpr⟩ := List.any_eq_true.1 ha
  have hpr' : p.1 = r := by simpa using hpr
  have h1 : (a.upd.any fun p => b.reads.contains p.1) = true := List.any_eq_true.2 ⟨p, hp, by simp [hpr', hb]⟩
  have h2 : (a.upd.any fun p => b.reads.contains p.1 || b.upd.any fun q => q.1 == p.1) = true := List.any_eq_true.2 ⟨p, hp, by simp [hpr', hb]⟩
  exact ⟨by simp only [Rec.clash, h2, Bool.or_true, Bool.true_or], by simp only [Rec.clash, h1, Bool.or_true, Bool.true_or]⟩
theorem clash_writes_writes {a b : Rec} {r : Nat} (ha : a.writes r = true) (hb : b.writes r = true) : a.clash b = true := by
  obtain ⟨p, hp, hpr⟩ := List.any_eq_true.1 ha
  have hpr' : p.1 = r := by simpa using hpr
  have h2 : (a.upd.any fun p => b.reads.contains p.1 || b.upd.any fun q => q.1 == p.1) = true := List.any_eq_true.2 ⟨p, hp, by rw [hpr']; simp only [Rec.writes] at hb; simp [hb]⟩
  simp only [Rec.clash, h2, Bool.or_true, Bool.true_or]
theorem clash_puts_looks {a b : Rec} {t : Tmp} (ha : a.puts t = true) (hb : t ∈ b.looks) : a.clash b = true ∧ b.clash a = true := by
  have ha' : a.dst = some t := by simpa [Rec.puts] using ha
  constructor
  · simp [Rec.clash, ha', hb]
  · simp [Rec.clash, ha', hb]
theorem clash_puts_puts {a b : Rec} {t : Tmp} (ha : a.puts t = true) (hb : b.puts t = true) : a.clash b = true := by
  have ha' : a.dst = some t := by simpa [Rec.puts] using ha
  have hb' : b.dst = some t := by simpa [Rec.puts] using hb
  simp [Rec.clash, ha', hb']
structure Fast (P : Program) (G : Nat → Option (List EV)) (ops : Array Oper) (lo : Nat) (tmps : List EV) (σ : Heap) (rs : List Rec) : Prop where
  edges : edgesOk ops.toList 0 = true
  clash : noClash (Region.before ops) rs = true
  len : lo + rs.length ≤ ops.size
  at' : ∀ k o, k < rs.length → ops[lo + k]? = some o → ∃ nm kk rc, rs[k]? = some rc ∧ RecOk P G ops (putR tmps (rs.take k)) (applyR σ (rs.take k)) o nm kk (lo + k) rc
variable {ops : Array Oper} {lo : Nat} {tmps : List EV} {σ : Heap} {rs : List Rec}
theorem Fast.numbered (h : Fast P G ops lo tmps σ rs) : Numbered lo rs := by
  intro k rc hk
  have hlt : k < rs.length := (List.getElem?_eq_some_iff.1 hk).1
  have hlt' : lo + k < ops.size := by have := h.len; omega
  obtain ⟨nm, kk', rc', h1, h2⟩ := h.at' k ops[lo + k] hlt (by simp [hlt'])
  rw [hk] at h1
  obtain rfl := Option.some.inj h1
  exact h2.i
theorem Fast.mem_lt (h : Fast P G ops lo tmps σ rs) {rc : Rec} (hm : rc ∈ rs) : rc.i < lo + rs.length := by
  obtain ⟨k, hk, rfl⟩ := List.mem_iff_getElem.1 hm
  have h1 := h.numbered k rs[k] (by simp [hk])
  omega
theorem Fast.order (h : Fast P G ops lo tmps σ rs) {Z : Nat → Bool} (hc : Closed ops Z) {k : Nat} {rc rc' : Rec} (hk : rs[k]? = some rc) (hm : rc' ∈ rs)
    (hready : ∀ o, ops[lo + k]? = some o → ∀ e ∈ o.after.toList, Region.binds .any e = true → Z e.on = true) (hz : Z (lo + k) = false)
    (h1 : rc'.clash rc = true) (h2 : rc.clash rc' = true) : Z rc'.i = true ↔ rc'.i < lo + k := by
  have hik : rc.i = lo + k := h.numbered k rc hk
  have hkm : rc ∈ rs := List.mem_of_getElem? hk
  constructor
  · intro hz'
    rcases Nat.lt_trichotomy rc'.i (lo + k) with hlt | heq | hgt
    · exact hlt
    · rw [heq, hz] at hz'; cases hz'
    · have hb := noClash_spec h.clash hkm hm (by omega) h2
      rw [hik] at hb
      have := hc.before h.edges rc'.i rc'.i (lo + k) (Nat.le_refl _) hb (fun o ho e he hbind => hc rc'.i o hz' ho e he hbind)
      rw [hz] at this; cases this
  · intro hlt
    have hb := noClash_spec h.clash hm hkm (by omega) h1
    rw [hik] at hb
    exact hc.before h.edges (lo + k) (lo + k) rc'.i (Nat.le_refl _) hb hready
theorem List.ext_get? {α : Type} {a b : List α} (h : ∀ i : Nat, a[i]? = b[i]?) : a = b := List.ext_getElem? h
theorem Fast.heap (h : Fast P G ops lo tmps σ rs) {Z : Nat → Bool} (hc : Closed ops Z) {k : Nat} {rc : Rec} (hk : rs[k]? = some rc)
    (hready : ∀ o, ops[lo + k]? = some o → ∀ e ∈ o.after.toList, Region.binds .any e = true → Z e.on = true) (hz : Z (lo + k) = false) :
    applyU (applyR σ (sel Z rs)) rc.upd = applyR σ (sel (fun j => Z j || j == lo + k) rs) := by
  apply List.ext_get?
  intro r
  by_cases hw : rc.writes r = true
  · rw [applyR_get r (sel (fun j => Z j || j == lo + k) rs) σ σ rfl rfl, sel_add_in h.numbered hk hw hz]
    · have : applyR σ (List.filter (Rec.writes r) (sel Z rs) ++ [rc]) = applyU (applyR σ (List.filter (Rec.writes r) (sel Z rs))) rc.upd := by simp [applyR]
      rw [this]
      exact applyU_get _ _ _ _ (by simp [applyR_len]) (.inr hw)
    · intro rc' hm hw' hz'
      exact (h.order hc hk hm hready hz (clash_writes_writes hw' hw) (clash_writes_writes hw hw')).1 hz'
  · have hw' : rc.writes r = false := by simpa using hw
    rw [applyU_other _ _ _ hw', applyR_get r (sel (fun j => Z j || j == lo + k) rs) σ σ rfl rfl, sel_add_out h.numbered hk hw', ← applyR_get r (sel Z rs) σ σ rfl rfl]
theorem Fast.slots (h : Fast P G ops lo tmps σ rs) {Z : Nat → Bool} (hc : Closed ops Z) {k : Nat} {rc : Rec} (hk : rs[k]? = some rc)
    (hready : ∀ o, ops[lo + k]? = some o → ∀ e ∈ o.after.toList, Region.binds .any e = true → Z e.on = true) (hz : Z (lo + k) = false) :
    putE (putR tmps (sel Z rs)) rc.dst rc.v = putR tmps (sel (fun j => Z j || j == lo + k) rs) := by
  apply List.ext_get?
  intro t
  by_cases hw : rc.puts t = true
  · rw [putR_get t (sel (fun j => Z j || j == lo + k) rs) tmps tmps rfl rfl, sel_add_in h.numbered hk hw hz]
    · have : putR tmps (List.filter (Rec.puts t) (sel Z rs) ++ [rc]) = putE (putR tmps (List.filter (Rec.puts t) (sel Z rs))) rc.dst rc.v := by simp [putR]
      rw [this, putE_get, putE_get]
      have hd : rc.dst = some t := by simpa [Rec.puts] using hw
      simp only [hd, true_and, putR_len]
      split
      · rfl
      · rename_i hlt
        rw [List.getElem?_eq_none (by rw [putR_len]; omega), List.getElem?_eq_none (by rw [putR_len]; omega)]
    · intro rc' hm hw' hz'
      exact (h.order hc hk hm hready hz (clash_puts_puts hw' hw) (clash_puts_puts hw hw')).1 hz'
  · have hw' : rc.puts t = false := by simpa using hw
    rw [putE_get, if_neg (by intro hc'; apply hw; simp [Rec.puts, hc'.1]), putR_get t (sel (fun j => Z j || j == lo + k) rs) tmps tmps rfl rfl, sel_add_out h.numbered hk hw', ← putR_get t (sel Z rs) tmps tmps rfl rfl]
theorem Fast.reads (h : Fast P G ops lo tmps σ rs) {Z : Nat → Bool} (hc : Closed ops Z) {k : Nat} {rc : Rec} (hk : rs[k]? = some rc)
    (hready : ∀ o, ops[lo + k]? = some o → ∀ e ∈ o.after.toList, Region.binds .any e = true → Z e.on = true) (hz : Z (lo + k) = false) {r : Nat} (hr : r ∈ rc.reads) :
    (applyR σ (sel Z rs))[r]? = (applyR σ (rs.take k))[r]? := by
  rw [applyR_get r (sel Z rs) σ σ rfl rfl, applyR_get r (rs.take k) σ σ rfl rfl, sel_take h.numbered]
  intro rc' hm hw
  exact h.order hc hk hm hready hz (clash_writes_reads hw hr).1 (clash_writes_reads hw hr).2
theorem Fast.looks (h : Fast P G ops lo tmps σ rs) {Z : Nat → Bool} (hc : Closed ops Z) {k : Nat} {rc : Rec} (hk : rs[k]? = some rc)
    (hready : ∀ o, ops[lo + k]? = some o → ∀ e ∈ o.after.toList, Region.binds .any e = true → Z e.on = true) (hz : Z (lo + k) = false) {t : Nat} (ht : t ∈ rc.looks) :
    (putR tmps (sel Z rs))[t]? = (putR tmps (rs.take k))[t]? := by
  rw [putR_get t (sel Z rs) tmps tmps rfl rfl, putR_get t (rs.take k) tmps tmps rfl rfl, sel_take h.numbered]
  intro rc' hm hw
  exact h.order hc hk hm hready hz (clash_puts_looks hw ht).1 (clash_puts_looks hw ht).2
theorem evalM_eq {keep : List Tmp} {t1 t2 : List EV} (h : ∀ t ∈ keep, t1[t]? = t2[t]?) (x : Operand) : evalM G keep t1 x = evalM G keep t2 x := by
  cases x with
  | tmp t =>
    simp only [evalM]
    split
    · rename_i hc
      rw [getT_eq, getT_eq, List.getD_eq_getElem?_getD, List.getD_eq_getElem?_getD, h t (by simpa using hc)]
    · rfl
  | _ => rfl
theorem evalM_ok {K : KM} {w : World} {tmps : List EV} {a : Act} {keep : List Tmp} (hG : GOk G K.F w) (ht : VRs K w tmps a.tmps) (x : Operand) : VR K w (evalM G keep tmps x) (a.eval x) := by
  cases x with
  | tmp t =>
    simp only [evalM]
    split
    · exact eval_ok hG ht (.tmp t)
    · exact .pure _ _ (.undef _)
  | const v => exact eval_ok hG ht (.const v)
  | global g => exact eval_ok hG ht (.global g)
  | func f => exact eval_ok hG ht (.func f)
theorem sel_all (rs : List Rec) {Z : Nat → Bool} (h : ∀ rc ∈ rs, Z rc.i = true) : sel Z rs = rs := List.filter_eq_self.2 h
theorem mem_ready_of {listed : Array Bool} (hsz : listed.size = ops.size) {j : Nat} (hj : j < ops.size) (hb : listed.getD j false = false) (he : edgesOk ops.toList 0 = true) (hl : ∀ i, i < j → listed.getD i false = true) :
    j ∈ Region.ready .any ops listed := by
  rw [mem_ready]
  refine ⟨?_, ops[j], by simp [hj], fun e he' hbd => ?_⟩
  · have hjl : j < listed.size := by omega
    simpa [Array.getD, hjl] using hb
  · have := edgesOk_spec ops.toList 0 he j ops[j] (by simp [hj]) e (by simpa using he') hbd
    exact hl e.on (by omega)
theorem exists_ready {listed : Array Bool} (hsz : listed.size = ops.size) (he : edgesOk ops.toList 0 = true) {n : Nat} (hn : n < ops.size) (hb : listed.getD n false = false) : Region.ready .any ops listed ≠ [] := by
  intro hr
  have hall : ∀ m j, j < m → j < ops.size → listed.getD j false = true := by
    intro m
    induction m with
    | zero => intro j hj; omega
    | succ m ih =>
      intro j hj hjs
      cases hb : listed.getD j false with
      | true => rfl
      | false =>
        have := mem_ready_of hsz hjs hb he fun i hi => ih i (by omega) (by omega)
        rw [hr] at this; cases this
  rw [hall (n + 1) n (by omega) hn] at hb
  cases hb
theorem Fast.any (h : Fast P G ops lo tmps σ rs) {ro : Option Nat} {ds : List Deferred} {Q : Exit → Act → World → Prop} {K0 : KM} {σ0 : Heap} {w0 : World}
    (hwin : ∀ (Z : Nat → Bool) (j : Nat) (o : Oper), Closed ops Z → ops[j]? = some o → (∀ e ∈ o.after.toList, Region.binds .any e = true → Z e.on = true) → lo + rs.length ≤ j → ∀ i, i < lo + rs.length → Z i = true)
    (hnext : ∀ (fuel : Nat) (listed : Array Bool) (K : KM) (a : Act) (w : World), listed.size = ops.size → listed.toList.count false ≤ fuel → (∀ j, listed.getD j false = true ↔ j < lo + rs.length) →
      Ext K0 σ0 w0 K (applyR σ rs) w → Rel K (applyR σ rs) w → GOk G K.F w → VRs K w (putR tmps rs) a.tmps → a.defers = ds → wpAnyIn (fen ro) 0 P .any ops Q fuel listed a w) :
    ∀ (fuel : Nat) (listed : Array Bool) (K : KM) (a : Act) (w : World), listed.size = ops.size → listed.toList.count false ≤ fuel → Closed ops (fun j => listed.getD j false) →
      (∀ j, lo + rs.length ≤ j → listed.getD j false = false) → (∀ j, j < lo → listed.getD j false = true) →
      Ext K0 σ0 w0 K (applyR σ (sel (fun j => listed.getD j false) rs)) w → Rel K (applyR σ (sel (fun j => listed.getD j false) rs)) w → GOk G K.F w →
      VRs K w (putR tmps (sel (fun j => listed.getD j false) rs)) a.tmps → a.defers = ds → wpAnyIn (fen ro) 0 P .any ops Q fuel listed a w := by
  intro fuel
  induction fuel with
  | zero =>
    intro listed K a w hsz hf hc hhi hlo he hrel hG ht hd
    have hall : ∀ j, j < ops.size → listed.getD j false = true := by
      intro j hj
      cases hb : listed.getD j false with
      | true => rfl
      | false =>
        have hlt : j < listed.size := by omega
        have h1 : listed[j] = false := by simpa [Array.getD, hlt] using hb
        have hm : false ∈ listed.toList := by rw [← h1]; simp
        have := List.count_pos_iff.2 hm
        omega
    have hs : sel (fun j => listed.getD j false) rs = rs := sel_all rs fun rc hm => hall rc.i (by have := h.mem_lt hm; have := h.len; omega)
    rw [hs] at he hrel ht
    refine hnext 0 listed K a w hsz hf (fun j => ⟨fun hj => ?_, fun hj => hall j (by have := h.len; omega)⟩) he hrel hG ht hd
    rcases Nat.lt_or_ge j (lo + rs.length) with h' | h'
    · exact h'
    · rw [hhi j h'] at hj; cases hj
  | succ fuel ih =>
    intro listed K a w hsz hf hc hhi hlo he hrel hG ht hd
    by_cases hfull : ∀ j, j < lo + rs.length → listed.getD j false = true
    · have hs : sel (fun j => listed.getD j false) rs = rs := sel_all rs fun rc hm => hfull rc.i (h.mem_lt hm)
      rw [hs] at he hrel ht
      refine hnext _ listed K a w hsz hf (fun j => ⟨fun hj => ?_, fun hj => hfull j hj⟩) he hrel hG ht hd
      rcases Nat.lt_or_ge j (lo + rs.length) with h' | h'
      · exact h'
      · rw [hhi j h'] at hj; cases hj
    · have hex : ∃ j, j < lo + rs.length ∧ listed.getD j false = false := by
        apply Classical.byContradiction
        intro hn
        apply hfull
        intro j hj
        cases hb : listed.getD j false with
        | true => rfl
        | false => exact absurd ⟨j, hj, hb⟩ hn
      obtain ⟨j0, hj0, hb0⟩ := hex
      refine ⟨fun hr => absurd hr (exists_ready hsz h.edges (by have := h.len; omega) hb0), fun kk hkk => ?_⟩
      obtain ⟨h0, o, ho, hready⟩ := mem_ready.1 hkk
      have hlt : kk < listed.size := by rw [hsz]; exact (Array.getElem?_eq_some_iff.1 ho).1
      have hkf : listed[kk] = false := by simpa [Array.getD, hlt] using h0
      have hz : listed.getD kk false = false := by simp [Array.getD, hlt, hkf]
      have hge : lo ≤ kk := by
        rcases Nat.lt_or_ge kk lo with h' | h'
        · rw [hlo kk h'] at hz; cases hz
        · exact h'
      have hltw : kk < lo + rs.length := by
        rcases Nat.lt_or_ge kk (lo + rs.length) with h' | h'
        · exact h'
        · have := hwin (fun j => listed.getD j false) kk o hc ho (fun e he hb => hready e (by simpa using he) hb) h' j0 hj0
          rw [hb0] at this; cases this
      obtain ⟨k, rfl⟩ : ∃ k, kk = lo + k := ⟨kk - lo, by omega⟩
      obtain ⟨nm, kn, rc, hrc, hok⟩ := h.at' k o (by omega) ho
      have hready' : ∀ o', ops[lo + k]? = some o' → ∀ e ∈ o'.after.toList, Region.binds .any e = true → listed.getD e.on false = true := by
        intro o' ho' e he'
        rw [ho] at ho'
        obtain rfl := Option.some.inj ho'
        exact hready e (by simpa using he')
      have hset : ∀ j, (listed.setIfInBounds (lo + k) true).getD j false = (listed.getD j false || j == lo + k) := by
        intro j
        by_cases hjk : lo + k = j
        · subst hjk; simp [hlt]
        · rw [getD_set_ne false hjk]
          have : (j == lo + k) = false := by simp; omega
          simp [this]
      have hselset : sel (fun j => (listed.setIfInBounds (lo + k) true).getD j false) rs = sel (fun j => listed.getD j false || j == lo + k) rs := by simp only [hset]
      have hclosed : Closed ops (fun j => (listed.setIfInBounds (lo + k) true).getD j false) := by
        intro j o' hj ho' e he' hb
        simp only [hset, Bool.or_eq_true, beq_iff_eq] at hj ⊢
        rcases hj with hj | hj
        · exact .inl (hc j o' hj ho' e he' hb)
        · subst hj; exact .inl (hready' o' ho' e he' hb)
      have hcount : (listed.setIfInBounds (lo + k) true).toList.count false ≤ fuel := by
        rw [Array.toList_setIfInBounds, List.count_set (by simpa using hlt)]
        have h1 : listed.toList[lo + k] = false := by simpa using hkf
        rw [h1]
        simp only [beq_self_eq_true, if_true]
        have : false ∈ listed.toList := by rw [← h1]; simp
        have := List.count_pos_iff.2 this
        simp only [show (true == false) = false from rfl, Bool.false_eq_true, if_false, Nat.add_zero]
        omega
      have hheap := h.heap hc hrc hready' hz
      have hslots := h.slots hc hrc hready' hz
      have hgo : ∀ (K' : KM) (mv : Value) (w' : World), Ext K (applyR σ (sel (fun j => listed.getD j false) rs)) w K' (applyU (applyR σ (sel (fun j => listed.getD j false) rs)) rc.upd) w' →
          Rel K' (applyU (applyR σ (sel (fun j => listed.getD j false) rs)) rc.upd) w' → VR K' w' rc.v mv → wpAnyIn (fen ro) 0 P .any ops Q fuel (listed.setIfInBounds (lo + k) true) (a.put o.dst mv) w' := by
        intro K' mv w' e1 r1 v1
        refine ih _ K' _ w' (by simp [hsz]) hcount hclosed ?_ ?_ ?_ ?_ (hG.ext e1 hrel) ?_ (by rw [put_defers]; exact hd)
        · intro j hj
          rw [hset, hhi j hj]
          simp; omega
        · intro j hj
          rw [hset, hlo j hj]; rfl
        · rw [hselset, ← hheap]; exact he.trans e1
        · rw [hselset, ← hheap]; exact r1
        · rw [hselset, ← hslots, hok.dst]; exact (ht.ext e1 hrel).put o.dst v1
      have hwant : Region.wanted o (yielded ops a.tmps) = rc.run := by
        have hlk : ∀ t ∈ o.looksAt ops, (putR tmps (sel (fun j => listed.getD j false) rs))[t]? = (putR tmps (rs.take k))[t]? := fun t htm => h.looks hc hrc hready' hz (by rw [hok.looks]; exact htm)
        refine hok.want.wanted (K := K) (w := w) fun j want dst hg hdst v hv => ?_
        rw [← hlk dst (by simp [Oper.looksAt, hg, hdst])] at hv
        obtain ⟨h1, rfl⟩ := List.getElem?_eq_some_iff.1 hv
        have h2 : dst < a.tmps.size := by rw [← ht.1]; exact h1
        exact ⟨a.tmps[dst], by simp [h2], ht.2 dst h1 h2⟩
      unfold wpOpIn
      simp only [ho, hwant]
      cases hrun : rc.run with
      | true =>
        simp only [if_true]
        have hsem := hok.sem hrun K _ w a hrel hG (fun r ob hr => ?_) (fun i hi => ?_) (fun s hs => by cases hs) (fun σ' hs => by cases hs) (fun x => ?_)
        · exact hsem.wp (hok.nd hrun) (fun mv w' hv => by obtain ⟨K', e1, r1, v1⟩ := hv; exact hgo K' mv w' e1 r1 v1)
        · unfold lookM at hr
          split at hr
          · rename_i hcn
            rw [h.reads hc hrc hready' hz (by simpa using hcn)]; exact hr
          · cases hr
        · obtain ⟨h1, h2⟩ := hok.free hrun i hi
          rw [h.reads hc hrc hready' hz h1]; exact h2
        · rw [← evalM_eq (t1 := putR tmps (sel (fun j => listed.getD j false) rs)) (fun t htm => h.looks hc hrc hready' hz htm)]
          exact evalM_ok hG ht x
      | false =>
        simp only [Bool.false_eq_true, if_false]
        obtain ⟨h1, h2⟩ := hok.idle hrun
        have := hgo K undef w (by rw [h2]; exact Ext.refl _ _ _) (by rw [h2]; exact hrel) (by rw [h1]; exact .pure _ _ (.tuple [] #[] rfl fun i h => by simp at h))
        exact ⟨fun _ _ => trivial, this⟩
theorem barrier_spec {bf : Array Nat} {n k : Nat} (h : barrier bf n k = true) : (∀ i, i < k → (bf.getD k 0).testBit i = true) ∧ ∀ j, j < n → k < j → (bf.getD j 0).testBit k = true := by
  simp only [barrier, Bool.and_eq_true, List.all_eq_true, List.mem_range] at h
  refine ⟨h.1, fun j hj hk => ?_⟩
  have := h.2 j hj
  simpa [hk] using this
theorem barrier_win (he : edgesOk ops.toList 0 = true) {k : Nat} (hb : barrier (Region.before ops) ops.size k = true) (Z : Nat → Bool) (j : Nat) (o : Oper) (hc : Closed ops Z) (ho : ops[j]? = some o)
    (hr : ∀ e ∈ o.after.toList, Region.binds .any e = true → Z e.on = true) (hk : k ≤ j) : (∀ i, i < k → Z i = true) ∧ (k < j → Z k = true) := by
  obtain ⟨h1, h2⟩ := barrier_spec hb
  have hr' : ∀ o', ops[j]? = some o' → ∀ e ∈ o'.after.toList, Region.binds .any e = true → Z e.on = true := by
    intro o' ho'
    rw [ho] at ho'
    obtain rfl := Option.some.inj ho'
    exact hr
  rcases Nat.lt_or_ge k j with hlt | hge
  · have hzk : Z k = true := hc.before he j j k (Nat.le_refl _) (h2 j (Array.getElem?_eq_some_iff.1 ho).1 hlt) hr'
    exact ⟨fun i hi => hc.before he k k i (Nat.le_refl _) (h1 i hi) fun o' ho' e he' hbd => hc k o' hzk ho' e he' hbd, fun _ => hzk⟩
  · obtain rfl : k = j := by omega
    exact ⟨fun i hi => hc.before he k k i (Nat.le_refl _) (h1 i hi) hr', fun h => by omega⟩
def SegsSem (P : Program) (G : Nat → Option (List EV)) (ops : Array Oper) (lo : Nat) (tmps : List EV) (σ : Heap) (r : List EV × Heap) : Prop :=
  ∀ (ro : Option Nat) (ds : List Deferred) (Q : Exit → Act → World → Prop) (K0 : KM) (σ0 : Heap) (w0 : World), (∀ K' w' a', Ext K0 σ0 w0 K' r.2 w' → Rel K' r.2 w' → VRs K' w' r.1 a'.tmps → a'.defers = ds → Q .normal a' w') →
    ∀ (fuel : Nat) (listed : Array Bool) (K : KM) (a : Act) (w : World), listed.size = ops.size → listed.toList.count false ≤ fuel → (∀ j, listed.getD j false = true ↔ j < lo) →
      Ext K0 σ0 w0 K σ w → Rel K σ w → GOk G K.F w → VRs K w tmps a.tmps → a.defers = ds → wpAnyIn (fen ro) 0 P .any ops Q fuel listed a w
theorem closed_below (he : edgesOk ops.toList 0 = true) {listed : Array Bool} {lo : Nat} (hl : ∀ j, listed.getD j false = true ↔ j < lo) : Closed ops (fun j => listed.getD j false) := by
  intro j o hj ho e he' hb
  have h1 := (hl j).1 hj
  have := edgesOk_spec ops.toList 0 he j o (by simpa using ho) e he' hb
  exact (hl e.on).2 (by omega)
theorem callRefs_ok (hD : DOk V P G D) (o : Oper) (tmps : List EV) (σ : Heap) : Ok V (callRefs D G o tmps σ) fun _ => True := by
  unfold callRefs
  split
  · exact Ok.pure trivial
  · split
    · exact Ok.bind (hD.fresh _) fun b => Ok.ite (fun _ => Ok.pure fun _ => trivial) fun _ => Ok.pure fun _ => trivial
    · exact Ok.pure trivial
  · exact Ok.pure trivial
  · exact Ok.pure trivial
theorem preRefs_ok (hD : DOk V P G D) : ∀ (os : List Oper) (tmps : List EV) (σ : Heap), Ok V (preRefs D P G os tmps σ) fun _ => True
  | [], tmps, σ => by unfold preRefs; exact Ok.pure trivial
  | o :: rest, tmps, σ => by
    unfold preRefs
    exact Ok.bind (callRefs_ok hD o tmps σ) fun rs => Ok.bind (Φ := fun _ => True) (Ψ := fun _ => True → True) (preRefs_ok hD rest _ σ) fun rs' => Ok.pure fun _ _ => trivial
theorem segsE_ok (hD : DOk V P G D) (kk : Nat) (ops : Array Oper) (he : edgesOk ops.toList 0 = true) : ∀ (f : Nat) (os : List Oper) (lo nm : Nat) (tmps : List EV) (σ : Heap), os = ops.toList.drop lo → lo ≤ ops.size →
    Ok V (segsE D P G kk ops (Region.before ops) f os lo nm tmps σ) (SegsSem P G ops lo tmps σ)
  | 0, os, lo, nm, tmps, σ, _, _ => by unfold segsE; exact Ok.fail
  | f + 1, os, lo, nm, tmps, σ, hos, hlo => by
    unfold segsE
    have hsegl : ∀ (os : List Oper) (i : Nat), ∃ rest, os = segOf (Region.before ops) ops.size os i ++ rest := by
      intro os
      induction os with
      | nil => intro i; exact ⟨[], rfl⟩
      | cons o os ih =>
        intro i
        unfold segOf
        split
        · exact ⟨o :: os, rfl⟩
        · obtain ⟨rest, hr⟩ := ih (i + 1)
          exact ⟨rest, by rw [List.cons_append, ← hr]⟩
    obtain ⟨rest0, hrest0⟩ := hsegl os lo
    generalize hseg : segOf (Region.before ops) ops.size os lo = seg at *
    dsimp only
    refine Ok.bind (preRefs_ok hD seg tmps σ) fun pre => ?_
    refine Ok.mono (Φ := SegsSem P G ops lo tmps σ) ?_ fun r h _ => h
    refine Ok.bind_lift fun u hu => ?_
    generalize hL : List.filter (liveAt σ) pre = L at hu
    refine Ok.bind (drawOpsE_ok hD kk ops seg lo nm tmps _) fun rs => ?_
    refine Ok.ite (fun hc => ?_) fun _ => Ok.fail
    have hdrop : os.drop seg.length = rest0 := by rw [hrest0]; simp
    have hget : ∀ k, k < seg.length → seg[k]? = ops[lo + k]? := by
      intro k hk
      have h1 : os[k]? = seg[k]? := by rw [hrest0, List.getElem?_append_left hk]
      rw [← h1, hos, List.getElem?_drop]; simp
    have hlen : lo + os.length = ops.size := by rw [hos]; simp; omega
    have hlens : seg.length ≤ os.length := by
      have := congrArg List.length hrest0
      simp at this; omega
    -- the window
    have hfast : DrawSem P G ops seg lo tmps (applyU σ u) rs → rs.length = seg.length ∧ Fast P G ops lo tmps (applyU σ u) rs := by
      intro hds
      obtain ⟨h1, h2⟩ := hds.at
      refine ⟨h1, he, hc, by omega, fun k o hk ho => ?_⟩
      obtain ⟨nm, kk, rc, g1, g2⟩ := h2 k o (by rw [hget k (by omega)]; exact ho)
      exact ⟨nm, kk, rc, g1, g2⟩
    have hstart : ∀ {ro : Option Nat} {ds : List Deferred} {Q : Exit → Act → World → Prop} {K0 : KM} {σ0 : Heap} {w0 : World}, DrawSem P G ops seg lo tmps (applyU σ u) rs →
        (∀ (Z : Nat → Bool) (j : Nat) (o : Oper), Closed ops Z → ops[j]? = some o → (∀ e ∈ o.after.toList, Region.binds .any e = true → Z e.on = true) → lo + seg.length ≤ j → ∀ i, i < lo + seg.length → Z i = true) →
        (∀ (fuel : Nat) (listed : Array Bool) (K : KM) (a : Act) (w : World), listed.size = ops.size → listed.toList.count false ≤ fuel → (∀ j, listed.getD j false = true ↔ j < lo + seg.length) →
          Ext K0 σ0 w0 K (applyR (applyU σ u) rs) w → Rel K (applyR (applyU σ u) rs) w → GOk G K.F w → VRs K w (putR tmps rs) a.tmps → a.defers = ds → wpAnyIn (fen ro) 0 P .any ops Q fuel listed a w) →
        ∀ (fuel : Nat) (listed : Array Bool) (K : KM) (a : Act) (w : World), listed.size = ops.size → listed.toList.count false ≤ fuel → (∀ j, listed.getD j false = true ↔ j < lo) →
          Ext K0 σ0 w0 K σ w → Rel K σ w → GOk G K.F w → VRs K w tmps a.tmps → a.defers = ds → wpAnyIn (fen ro) 0 P .any ops Q fuel listed a w := by
      intro ro ds Q K0 σ0 w0 hds hwin hnext fuel listed K a w hsz hcnt hl e0 r0 hG ht hd
      obtain ⟨h1, hF⟩ := hfast hds
      obtain ⟨e1, r1⟩ := Rel.freezeAll L K σ u r0 (fun r o h => .inl h) hu
      have hsel : sel (fun j => listed.getD j false) rs = [] := List.filter_eq_nil_iff.2 fun rc hm => by
        obtain ⟨k, hk, rfl⟩ := List.mem_iff_getElem.1 hm
        have h2 := hF.numbered k rs[k] (by simp [hk])
        intro hh
        have := (hl _).1 hh
        omega
      refine hF.any (K0 := K0) (σ0 := σ0) (w0 := w0) (by rw [h1]; exact hwin) (by rw [h1]; exact hnext) fuel listed (K.frzs L) a w hsz hcnt (closed_below he hl) ?_ ?_ ?_ ?_ (hG.ext e1 r0) ?_ hd
      · intro j hj
        cases hb : listed.getD j false with
        | false => rfl
        | true => have := (hl j).1 hb; omega
      · intro j hj; exact (hl j).2 hj
      · rw [hsel]; exact e0.trans e1
      · rw [hsel]; exact r1
      · rw [hsel]; exact ht.ext e1 r0
    split
    · rename_i hnil
      rw [hdrop] at hnil
      subst hnil
      have hsl : seg.length = os.length := by rw [hrest0]; simp
      refine Ok.pure fun hds ro ds Q K0 σ0 w0 hQ => ?_
      refine hstart hds (fun Z j o _ ho _ hj => ?_) fun fuel listed K a w hsz hcnt hl e0 r0 hG ht hd => ?_
      · have := (Array.getElem?_eq_some_iff.1 ho).1
        omega
      · have hr : Region.ready .any ops listed = [] := by
          apply List.eq_nil_iff_forall_not_mem.2
          intro j hj
          obtain ⟨h0, o, ho, _⟩ := mem_ready.1 hj
          have hlt := (Array.getElem?_eq_some_iff.1 ho).1
          have := (hl j).2 (by omega)
          have hjl : j < listed.size := by omega
          simp only [Array.getD, hjl, dif_pos] at h0 this
          rw [h0] at this; cases this
        cases fuel with
        | zero => exact ⟨hr, hQ K w a e0 r0 ht hd⟩
        | succ fuel => exact ⟨fun _ => hQ K w a e0 r0 ht hd, fun i hi => by rw [hr] at hi; cases hi⟩
    · rename_i o rest hcons
      rw [hdrop] at hcons
      have hopk : ops[lo + seg.length]? = some o := by
        have h1 : os[seg.length]? = some o := by rw [hrest0, List.getElem?_append_right (Nat.le_refl _), hcons]; simp
        rw [hos, List.getElem?_drop] at h1
        simpa using h1
      have hrestdrop : rest = ops.toList.drop (lo + seg.length + 1) := by
        have h1 : os.drop (seg.length + 1) = rest := by rw [← List.drop_drop, hdrop, hcons]; rfl
        rw [← h1, hos, List.drop_drop]; congr 1
      have hltk := (Array.getElem?_eq_some_iff.1 hopk).1
      refine Ok.ite (fun hbar => ?_) fun _ => Ok.fail
      -- the call alone
      have halone : ∀ {ro : Option Nat} {ds : List Deferred} {Q : Exit → Act → World → Prop} {K0 : KM} {σ0 : Heap} {w0 : World} {t2 : List EV} {σ2 : Heap} {v : EV} (σ1 : Heap),
          (∀ (fuel : Nat) (listed : Array Bool) (K : KM) (a : Act) (w : World), listed.size = ops.size → listed.toList.count false ≤ fuel → (∀ j, listed.getD j false = true ↔ j < lo + seg.length + 1) →
            Ext K0 σ0 w0 K σ2 w → Rel K σ2 w → GOk G K.F w → VRs K w (putE t2 o.dst v) a.tmps → a.defers = ds → wpAnyIn (fen ro) 0 P .any ops Q fuel listed a w) →
          ∀ (fuel : Nat) (listed : Array Bool) (K : KM) (a : Act) (w : World), listed.size = ops.size → listed.toList.count false ≤ fuel → (∀ j, listed.getD j false = true ↔ j < lo + seg.length) →
            Ext K0 σ0 w0 K σ1 w → Rel K σ1 w → GOk G K.F w → VRs K w t2 a.tmps → a.defers = ds →
            (∀ Kk : Act → World → Prop, (∀ K' mv w', Ext K σ1 w K' σ2 w' → Rel K' σ2 w' → VR K' w' v mv → Kk (a.put o.dst mv) w') → wpOpIn (fen ro) 0 P ops Q (lo + seg.length) Kk a w) →
            wpAnyIn (fen ro) 0 P .any ops Q fuel listed a w := by
        intro ro ds Q K0 σ0 w0 t2 σ2 v σ1 hnext fuel listed K a w hsz hcnt hl e0 r0 hG ht hd hop
        have hkf : listed.getD (lo + seg.length) false = false := by
          cases hb : listed.getD (lo + seg.length) false with
          | false => rfl
          | true => have := (hl _).1 hb; omega
        have hlt : lo + seg.length < listed.size := by omega
        have hkf' : listed[lo + seg.length] = false := by simpa [Array.getD, hlt] using hkf
        have hmem : false ∈ listed.toList := by rw [← hkf']; simp
        have hpos := List.count_pos_iff.2 hmem
        cases fuel with
        | zero => omega
        | succ fuel =>
          refine ⟨fun hr => absurd hr (exists_ready hsz he hltk hkf), fun kk hkk => ?_⟩
          obtain ⟨h0, o', ho', hready⟩ := mem_ready.1 hkk
          have hkl : kk < listed.size := by rw [hsz]; exact (Array.getElem?_eq_some_iff.1 ho').1
          have hz : listed.getD kk false = false := by
            have : listed[kk] = false := by simpa [Array.getD, hkl] using h0
            simp [Array.getD, hkl, this]
          have hge : lo + seg.length ≤ kk := by
            rcases Nat.lt_or_ge kk (lo + seg.length) with h' | h'
            · rw [(hl kk).2 h'] at hz; cases hz
            · exact h'
          have heq : kk = lo + seg.length := by
            rcases Nat.lt_or_ge (lo + seg.length) kk with h' | h'
            · have := (barrier_win he hbar (fun j => listed.getD j false) kk o' (closed_below he hl) ho' (fun e he hb => hready e (by simpa using he) hb) hge).2 h'
              rw [hkf] at this; cases this
            · omega
          subst heq
          refine hop _ fun K' mv w' e1 r1 v1 => ?_
          refine hnext fuel _ K' _ w' (by simp [hsz]) ?_ ?_ (e0.trans e1) r1 (hG.ext e1 r0) ((ht.ext e1 r0).put o.dst v1) (by rw [put_defers]; exact hd)
          · rw [Array.toList_setIfInBounds, List.count_set (by simpa using hlt)]
            have h1 : listed.toList[lo + seg.length] = false := by simpa using hkf'
            rw [h1]
            simp only [beq_self_eq_true, if_true, show (true == false) = false from rfl, Bool.false_eq_true, if_false, Nat.add_zero]
            omega
          · intro j
            by_cases hj : lo + seg.length = j
            · subst hj; simp [hlt]
            · rw [getD_set_ne false hj, hl j]; omega
      have hguard : ∀ {K : KM} {w : World} {a : Act}, VRs K w (putR tmps rs) a.tmps → ∀ j want dst, o.guard = some (j, want) → ((ops[j]?).bind (·.dst)) = some dst → ∀ v, (putR tmps rs)[dst]? = some v → ∃ mv, a.tmps[dst]? = some mv ∧ VR K w v mv := by
        intro K w a ht j want dst _ _ v hv
        obtain ⟨h1, rfl⟩ := List.getElem?_eq_some_iff.1 hv
        have h2 : dst < a.tmps.size := by rw [← ht.1]; exact h1
        exact ⟨a.tmps[dst], by simp [h2], ht.2 dst h1 h2⟩
      refine Ok.bind (Φ := WantSem ops (putR tmps rs) o) (Ψ := fun r => _ → SegsSem P G ops lo tmps σ r) (wantedE_ok hD ops _ o) fun d => ?_
      refine Ok.ite (fun hdt => ?_) fun hdf => ?_
      · refine Ok.ite (fun hfree => ?_) fun _ => Ok.fail
        refine Ok.bind (eOpK_ok hD (evalE G (putR tmps rs)) (fun r => (applyR (applyU σ u) rs)[r]?) (nm + countSlots kk seg) kk (some (applyR (applyU σ u) rs)) o) fun q => ?_
        obtain ⟨v, e⟩ := q
        dsimp only
        refine (segsE_ok hD kk ops he f rest _ _ (putE (putR tmps rs) o.dst v) (e.on (applyR (applyU σ u) rs)) hrestdrop (by omega)).mono fun r hr hsem hw hds ro ds Q K0 σ0 w0 hQ => ?_
        refine hstart hds (fun Z j o' hcl ho' hrd hj i hi => (barrier_win he hbar Z j o' hcl ho' hrd hj).1 i hi) fun fuel listed K a w hsz hcnt hl e0 r0 hG ht hd => ?_
        refine halone _ (hr ro ds Q K0 σ0 w0 hQ) fuel listed K a w hsz hcnt hl e0 r0 hG ht hd fun Kk hKk => ?_
        have hwant : Region.wanted o (yielded ops a.tmps) = true := by rw [hw.wanted (hguard ht)]; exact hdt
        unfold wpOpIn
        simp only [hopk, hwant, if_true]
        have hrun := hsem K _ w a r0 hG (fun r o h => h) (freeAt_ok hfree) (fun s hs => Option.some.inj hs) (fun _ _ => by simp) (fun x => eval_ok hG ht x)
        exact hrun.wp (freeAt_nd hfree) (fun mv w' hv => by obtain ⟨K', e1, r1, v1⟩ := hv; exact hKk K' mv w' e1 r1 v1)
      · refine (segsE_ok hD kk ops he f rest _ _ (putE (putR tmps rs) o.dst (.tuple [])) (applyR (applyU σ u) rs) hrestdrop (by omega)).mono fun r hr hw hds ro ds Q K0 σ0 w0 hQ => ?_
        refine hstart hds (fun Z j o' hcl ho' hrd hj i hi => (barrier_win he hbar Z j o' hcl ho' hrd hj).1 i hi) fun fuel listed K a w hsz hcnt hl e0 r0 hG ht hd => ?_
        refine halone _ (hr ro ds Q K0 σ0 w0 hQ) fuel listed K a w hsz hcnt hl e0 r0 hG ht hd fun Kk hKk => ?_
        have hwant : Region.wanted o (yielded ops a.tmps) = false := by rw [hw.wanted (hguard ht)]; simpa using hdf
        unfold wpOpIn
        simp only [hopk, hwant, Bool.false_eq_true, if_false]
        exact ⟨fun _ _ => trivial, hKk K undef w (Ext.refl _ _ _) r0 (.pure _ _ (.tuple [] #[] rfl fun i h => by simp at h))⟩
theorem regionE_ok (hD : DOk V P G D) (hm : P.follows .mixedOrders = true) (id : Nat) (ops : Array Oper) (draw rnd : Bool) (tmps : List EV) (σ : Heap) :
    Ok V (regionE D P G ops draw tmps σ) fun r => SemC P G rnd (.region id ops draw) tmps σ (.normal, r.1, r.2) := by
  unfold regionE
  refine Ok.bind (hD.room draw) fun kk => ?_
  refine Ok.mono (Φ := fun r => SemC P G rnd (.region id ops draw) tmps σ (.normal, r.1, r.2)) ?_ fun r h _ => h
  cases draw with
  | true =>
    simp only [if_true]
    refine Ok.ite (fun he => ?_) fun _ => Ok.fail
    refine (segsE_ok hD kk ops he (ops.size + 1) ops.toList 0 σ.length tmps _ (by simp) (by omega)).mono fun r hr ro K w a _ hR hG ht => ?_
    obtain ⟨e0, r0⟩ := hR.pad (countSlots kk ops.toList)
    obtain ⟨e1, r1⟩ := r0.drawn (w.drawn + 1)
    refine wpIn_region_any hm (hr ro a.defers (PostC K σ w a.defers (.normal, r.1, r.2)) K σ w (fun K' w' a' he hr hv hd' => ⟨trivial, K', [], he, hr, hv, by rw [hd']; exact Marks.none⟩) ops.size (Array.replicate ops.size false) K a _ (by simp) (by simp) ?_
      (e0.trans e1) r1 (hG.ext e1 r0) ((ht.ext e0 hR).ext e1 r0) rfl)
    intro j
    simp [Array.getD]
  | false =>
    simp only [Bool.false_eq_true, if_false]
    refine (opsE_ok hD kk ops ops.toList σ.length tmps _).mono fun r hsem ro K w a _ hR hG ht => ?_
    obtain ⟨e0, r0⟩ := hR.pad (countSlots kk ops.toList)
    refine wpIn_region (hsem ro a.defers K w a _ r0 hG (ht.ext e0 hR) rfl ?_ (PostC K σ w a.defers (.normal, r.1, r.2)) fun K' w' a' he hr hv hd' => ⟨trivial, K', [], e0.trans he, hr, hv, by rw [hd']; exact Marks.none⟩)
    apply List.ext_getElem?
    intro i
    by_cases hi : i < ops.size
    · simp [hi]
    · simp [hi]
end
end Go.Ev
namespace Go.Ev
section
variable {P : Program} {S : Type} {V : S → Prop} {G : Nat → Option (List EV)} {D : Drv S}
theorem PostC.trans {K K1 : KM} {σ σ1 : Heap} {w w1 : World} (h : Ext K σ w K1 σ1 w1) {ds ds1 : List Deferred} {bs1 : List Nat} (hm : Marks K1 σ1 w w1 ds ds1 bs1)
    {r : EX × List EV × Heap} {e : Exit} {a : Act} {w' : World} (hp : PostC K1 σ1 w1 ds1 r e a w') : PostC K σ w ds r e a w' := by
  cases e with
  | outgrown => exact hp.elim
  | normal => obtain ⟨h1, K', bs, e1, h3, h4, h5⟩ := hp; exact ⟨h1, K', _, h.trans e1, h3, h4, hm.trans h.size e1 h5⟩
  | exit i => obtain ⟨h1, K', bs, e1, h3, h4, h5⟩ := hp; exact ⟨h1, K', _, h.trans e1, h3, h4, hm.trans h.size e1 h5⟩
  | goto l => obtain ⟨h1, K', bs, e1, h3, h4, h5⟩ := hp; exact ⟨h1, K', _, h.trans e1, h3, h4, hm.trans h.size e1 h5⟩
  | ret => obtain ⟨h1, K', bs, e1, h3, h4, h5⟩ := hp; exact ⟨h1, K', _, h.trans e1, h3, h4, hm.trans h.size e1 h5⟩
  | panic c => obtain ⟨h1, K', bs, e1, h3, h4, h5⟩ := hp; exact ⟨h1, K', _, h.trans e1, h3, h4, hm.trans h.size e1 h5⟩
theorem PostC.other {K : KM} {σ : Heap} {w : World} {ds : List Deferred} {r : EX × List EV × Heap} (hr : r.1 ≠ .normal) {next : Act → World → Prop} {e : Exit} {a : Act} {w' : World}
    (hp : PostC K σ w ds r e a w') : Exit.then next (PostC K σ w ds r) e a w' := by
  cases e with
  | outgrown => exact hp.elim
  | normal =>
    obtain ⟨h1, _⟩ := hp
    obtain ⟨ex, t, s⟩ := r
    cases ex with
    | normal => exact absurd rfl hr
    | leave i => exact h1.elim
    | ret => exact h1.elim
  | exit i => exact hp
  | goto l => exact hp
  | ret => exact hp
  | panic c => exact hp
theorem wpL_of {ro : Option Nat} {c : Code} {Q : Exit → Act → World → Prop} {a : Act} {w : World} (h : c.wpIn (fen ro) 0 P (Exit.then (wpL ro P c Q) Q) a w) : wpL ro P c Q a w := by
  intro b k cs hro
  obtain ⟨e, a₁, w₁, hq, harr⟩ := h b (.inLoop c :: k) cs hro trivial (fen_room _ _)
  cases e with
  | normal =>
    obtain ⟨e₂, a₂, w₂, hq₂, harr₂⟩ := hq b k cs hro
    exact ⟨e₂, a₂, w₂, hq₂, .of_steps (StepsIn.trans harr (.one (fenced_calm (n := 0) trivial (fen_room _ _) rfl) stepR_inLoop)) harr₂⟩
  | exit id => exact ⟨_, a₁, w₁, hq, .pass (x := .inLoop c) rfl (fun _ _ => .inl (by simp)) harr⟩
  | goto l => exact ⟨_, a₁, w₁, hq, .pass (x := .inLoop c) rfl (fun _ _ => .inl (by simp)) harr⟩
  | ret => exact ⟨_, a₁, w₁, hq, .pass (x := .inLoop c) rfl (fun _ _ => .inl (by simp)) harr⟩
  | panic ch => exact ⟨_, a₁, w₁, hq, .pass (x := .inLoop c) rfl (fun _ _ => .inl (by simp)) harr⟩
  | outgrown => exact ⟨_, a₁, w₁, hq, .pass (x := .inLoop c) rfl (fun _ _ => .inl (by simp)) harr⟩
theorem wp_of_wpL {ro : Option Nat} {c : Code} {Q : Exit → Act → World → Prop} {a : Act} {w : World} (h : wpL ro P c Q a w) : (Code.loop c).wpIn (fen ro) 0 P Q a w := by
  intro b k cs hro hb hr
  obtain ⟨e, a', w', hq, harr⟩ := h b k cs hro
  exact ⟨e, a', w', hq, .of_steps (.one (fenced_calm hb hr rfl) stepR_loop) harr⟩
theorem wpL_mono {ro : Option Nat} {c : Code} {Q Q' : Exit → Act → World → Prop} {a : Act} {w : World} (h : wpL ro P c Q a w) (hq : ∀ e a w, Q e a w → Q' e a w) : wpL ro P c Q' a w :=
  fun b k cs hro => let ⟨e, a', w', q, r⟩ := h b k cs hro; ⟨e, a', w', hq _ _ _ q, r⟩
theorem SemL.step {rnd : Bool} {c : Code} {tmps t : List EV} {σ s : Heap} {r : EX × List EV × Heap} (h : SemC P G rnd c tmps σ (.normal, t, s)) (hl : SemL P G rnd c t s r) : SemL P G rnd c tmps σ r := by
  intro ro K w a hro hR hG ht
  refine wpL_of (wpIn_mono (h ro K w a hro hR hG ht) fun e a' w' hp => hp.normal fun K' w'' a'' bs e1 r1 v1 d1 => ?_)
  exact wpL_mono (hl ro K' w'' a'' hro r1 (hG.ext e1 hR) v1) fun e a w hq => PostC.trans e1 d1 hq
theorem SemL.last {rnd : Bool} {c : Code} {tmps : List EV} {σ : Heap} {r : EX × List EV × Heap} (h : SemC P G rnd c tmps σ r) (hr : r.1 ≠ .normal) : SemL P G rnd c tmps σ r := by
  intro ro K w a hro hR hG ht
  exact wpL_of (wpIn_mono (h ro K w a hro hR hG ht) fun e a' w' hp => hp.other hr)
theorem SemL.toC {rnd : Bool} {c : Code} {tmps : List EV} {σ : Heap} {r : EX × List EV × Heap} (h : SemL P G rnd c tmps σ r) : SemC P G rnd (.loop c) tmps σ r :=
  fun ro K w a hro hR hG ht => wp_of_wpL (h ro K w a hro hR hG ht)
theorem SemC.seq {rnd : Bool} {x y : Code} {tmps t : List EV} {σ s : Heap} {r : EX × List EV × Heap} (h : SemC P G rnd x tmps σ (.normal, t, s)) (hl : SemC P G rnd y t s r) : SemC P G rnd (.seq x y) tmps σ r := by
  intro ro K w a hro hR hG ht
  refine wpIn_seq (wpIn_mono (h ro K w a hro hR hG ht) fun e a' w' hp => hp.normal fun K' w'' a'' bs e1 r1 v1 d1 => ?_)
  exact wpIn_mono (hl ro K' w'' a'' hro r1 (hG.ext e1 hR) v1) fun e a w hq => PostC.trans e1 d1 hq
theorem SemC.seq_out {rnd : Bool} {x y : Code} {tmps : List EV} {σ : Heap} {r : EX × List EV × Heap} (h : SemC P G rnd x tmps σ r) (hr : r.1 ≠ .normal) : SemC P G rnd (.seq x y) tmps σ r := by
  intro ro K w a hro hR hG ht
  exact wpIn_seq (wpIn_mono (h ro K w a hro hR hG ht) fun e a' w' hp => hp.other hr)
theorem SemC.block {rnd : Bool} {id : Nat} {c : Code} {tmps : List EV} {σ : Heap} {ex : EX} {t : List EV} {s : Heap} (h : SemC P G rnd c tmps σ (ex, t, s)) :
    SemC P G rnd (.block id c) tmps σ (match ex with | .leave i => if i = id then .normal else .leave i | e => e, t, s) := by
  intro ro K w a hro hR hG ht
  refine wpIn_block (wpIn_mono (h ro K w a hro hR hG ht) fun e a' w' hp => ?_)
  cases e with
  | outgrown => exact hp.elim
  | normal =>
    cases ex with
    | normal => exact hp
    | leave i => exact hp.1.elim
    | ret => exact hp.1.elim
  | exit j =>
    cases ex with
    | normal => exact hp.1.elim
    | leave i =>
      obtain ⟨h1, h2⟩ := hp
      have h1 : i = j := h1
      subst h1
      simp only [Exit.inBlock]
      by_cases hi : i = id
      · rw [if_pos hi, if_pos hi]; exact ⟨trivial, h2⟩
      · rw [if_neg hi, if_neg hi]; exact ⟨rfl, h2⟩
    | ret => exact hp.1.elim
  | goto l => cases ex <;> exact hp.1.elim
  | ret =>
    cases ex with
    | normal => exact hp.1.elim
    | leave i => exact hp.1.elim
    | ret => exact hp
  | panic c => cases ex <;> exact hp.1.elim
theorem Rel.grow {K : KM} {σ : Heap} {w w' : World} (hR : Rel K σ w) {o : Obj} (hN : New w w' o) : Ext K σ w K σ w' ∧ Rel K σ w' := by
  have hE : Ext K σ w K σ w' := ⟨Nat.le_refl _, fun r h => h, fun r h => ⟨rfl, rfl, rfl, rfl⟩, fun b h => h, fun b h => .inl h, fun b h => .inr h, fun b hb _ => hN.other b hb, by rw [hN.size]; omega, hN.os, hN.tape, hN.output⟩
  refine ⟨hE, fun r o ho => ?_, hR.inj, hR.notF, fun r o ho ht => Nat.lt_of_lt_of_le (hR.lt r o ho ht) hE.size, fun b h => Nat.lt_of_lt_of_le (hR.Flt b h) hE.size, hR.alt⟩
  by_cases hf : o = .free
  · subst hf; exact hR.obj r _ ho
  · exact (hR.obj r o ho).ext hE hR hf fun ht => hN.other _ (hR.lt r o ho ht)
theorem SemC.rangeFunc {g : Operand} {ps : Array Tmp} {assign body : Code} {tmps : List EV} {σ : Heap} {f : FuncId} {first captured : List EV} {v : EV} {σ2 : Heap}
    {st : LoopState} {t' : List EV} {ps' : Array Tmp} {x' y' : Code} {pend : Option Code} {ex : EX}
    (hev : evalE G tmps g = .func (.func f) first captured)
    (hsem : SemF P G f (first ++ [.it σ.length] ++ captured) ((σ ++ List.replicate 1 EObj.free).set σ.length (.loop .ready tmps ps assign body none)) v σ2)
    (h2 : σ2[σ.length]? = some (.loop st t' ps' x' y' pend)) (hst : st ≠ .busy) (hp : ex.jump = pend) :
    SemC P G false (.rangeFunc g ps assign body) tmps σ (ex, tmps, σ2.set σ.length (.loop .exhausted t' ps' x' y' pend)) := by
  intro ro K w a hro hR hG ht
  have hro' : ro = none := by cases ro with | none => rfl | some _ => simp at hro
  subst hro'
  refine wpIn_rangeFunc fun fn _ => ?_
  obtain ⟨⟨fn', hfn, hb, hne⟩, hcall⟩ := hsem
  have hbn : fn'.body.isNone = false := by cases h : fn'.body <;> simp_all
  have hg := eval_ok hG ht g
  rw [hev] at hg
  obtain ⟨mf, mc, hge, hf1, hf2⟩ := hg.func_inv
  have N1 : New w (w.alloc (.deferred (some []))) (.deferred (some [])) := New.push w _
  obtain ⟨e1, r1⟩ := hR.grow N1
  obtain ⟨e2, r2⟩ := r1.pad 1
  have hfree : (σ ++ List.replicate 1 EObj.free)[σ.length]? = some .free := by simp
  have N2 : New (w.alloc (.deferred (some []))) ((w.alloc (.deferred (some []))).alloc (.loop { state := .ready, pending := none, fn, tmps := a.tmps, params := ps, assign, body, defers := w.heap.size })) _ := New.push _ _
  have hsz : (w.alloc (.deferred (some []))).heap.size = w.heap.size + 1 := N1.size
  have e12 := e1.trans e2
  obtain ⟨e3, r3⟩ := r2.new (nm := σ.length) hfree N2 (obj := .loop .ready tmps ps assign body none) rfl (off := 0) (e := 0) (l := 0) fun σ' hE => by
    have ht' := (ht.ext e12 hR).ext hE r2
    refine ⟨.inl rfl, fn, a.tmps, w.heap.size, ?_, ht'.1, ht'.2⟩
    simpa [KM.new] using N2.here
  have e123 := e12.trans e3
  generalize hW : ((w.alloc (.deferred (some []))).alloc (.loop { state := .ready, pending := none, fn, tmps := a.tmps, params := ps, assign, body, defers := w.heap.size })) = W at *
  have hval : VR (K.new σ.length (w.alloc (.deferred (some []))).heap.size 0 0 0) W (.it σ.length) (.func (.yield (w.heap.size + 1)) #[] #[]) := by
    have := VR.it (K := K.new σ.length (w.alloc (.deferred (some []))).heap.size 0 0 0) (w := W) σ.length (.inl rfl)
    simpa [KM.new, hsz] using this
  have hargs : VRs (K.new σ.length (w.alloc (.deferred (some []))).heap.size 0 0 0) W (first ++ [.it σ.length] ++ captured) (mf ++ #[.func (.yield (w.heap.size + 1)) #[] #[]] ++ mc) :=
    (VRs.append ((hf1.ext e123 hR)) ⟨rfl, fun i h1 h2 => by
      have : i = 0 := by simp at h1; omega
      subst this; exact hval⟩).append (hf2.ext e123 hR)
  refine ⟨w.heap.size + 1, [markOf w.heap.size], W, { target := .fn (.func f) mc, args := mf ++ #[.func (.yield (w.heap.size + 1)) #[] #[]] }, W, f, mf ++ #[.func (.yield (w.heap.size + 1)) #[] #[]] ++ mc, W, ?_, ?_, fun _ _ => trivial, ?_, by simp [fen], ?_⟩
  · rw [← hW]; exact run_enterLoop_outer fn a.tmps ps assign body
  · have hc : a.eval (.const (.func (.yield (w.heap.size + 1)) #[] #[])) = .func (.yield (w.heap.size + 1)) #[] #[] := rfl
    have harr : (#[Operand.const (.func (.yield (w.heap.size + 1)) #[] #[])] : Array Operand).map a.eval = #[.func (.yield (w.heap.size + 1)) #[] #[]] := by simp [hc]
    simp only [resolve, rangeCall, hge, harr, Deferred.ofValue, Sem.run_pure]
  · simp only [invoke, callFunc, Sem.run_bind, Sem.run_pure, Result.andThen_ok, run_program, hfn, hne, hbn, Bool.false_eq_true, if_false]
  · refine (calls_fen (hcall _ W _ r3 (hG.ext e123 hR) hargs)).mono fun e w' he => ?_
    cases e with
    | outgrown => exact he.elim
    | panicked _ => exact he.elim
    | returned mv =>
      obtain ⟨K', x1, x2, x3⟩ := he
      have hE := e123.trans x1
      obtain ⟨rec, g1, g2, g3, g4, g5, g6, g7, hal, hturn⟩ := turn_record x2 h2
      obtain ⟨y1, y2⟩ := hturn .exhausted pend
      have hblk : K'.blk σ.length = w.heap.size + 1 := by
        rw [(x1.blk σ.length (.inl rfl)).1]
        simp [KM.new, hsz]
      rw [hblk] at y1 y2
      have hend := run_endLoop (P := P) (hblk ▸ g1) (by rw [g2]; exact hst)
      have heq : ({ rec with state := .exhausted } : Loop) = { rec with state := .exhausted, pending := pend } := by rw [← g3]
      rw [heq, g3] at hend
      have hE2 := hE.trans y1
      have hbs : ¬ Owned K' (σ2.set σ.length (.loop .exhausted t' ps' x' y' pend)) w.heap.size ∧ ¬ K'.F w.heap.size := by
        have hEE := (e2.trans (e3.trans x1)).trans y1
        have hno : ¬ Owned K σ w.heap.size := by
          rintro ⟨r, o, h1, h2, h3⟩
          have := hR.lt r o h1 (there_of_live h2)
          omega
        refine ⟨fun ho => ?_, fun hF => ?_⟩
        · rcases hEE.own _ ho with h | h
          · omega
          · exact hno h
        · rcases hEE.F' _ hF with h | h | h
          · have := hR.Flt _ h; omega
          · omega
          · exact hno h
      have hmark : Marks K' (σ2.set σ.length (.loop .exhausted t' ps' x' y' pend)) w (w'.putObj (w.heap.size + 1) (.loop { rec with state := .exhausted, pending := pend })) a.defers (markOf w.heap.size :: a.defers) [w.heap.size] := by
        refine ⟨rfl, by simp, fun b hb => ?_⟩
        obtain rfl : b = w.heap.size := by simpa using hb
        refine ⟨Nat.le_refl _, ?_, hbs.1, hbs.2⟩
        have hEE := (e2.trans (e3.trans x1)).trans y1
        rw [hEE.stay _ (by omega) (fun ho => by
          obtain ⟨r, o, h1, h2, h3⟩ := ho
          have := hR.lt r o h1 (there_of_live h2)
          omega)]
        exact N1.here
      refine ⟨pend, _, hend, ?_⟩
      have fin : ∀ e, ex.same e → PostC K σ w a.defers (ex, tmps, σ2.set σ.length (.loop .exhausted t' ps' x' y' pend)) e { a with defers := [markOf w.heap.size] ++ a.defers } (w'.putObj (w.heap.size + 1) (.loop { rec with state := .exhausted, pending := pend })) := by
        intro e hs
        have hh : ∃ K'' bs, Ext K σ w K'' (σ2.set σ.length (.loop .exhausted t' ps' x' y' pend)) _ ∧ Rel K'' _ _ ∧ VRs K'' _ tmps a.tmps ∧ Marks K'' _ w _ a.defers (markOf w.heap.size :: a.defers) bs := ⟨K', _, hE2, y2, ht.ext hE2 hR, hmark⟩
        cases e with
        | outgrown => cases ex <;> exact hs.elim
        | normal => exact ⟨hs, hh⟩
        | exit i => exact ⟨hs, hh⟩
        | ret => exact ⟨hs, hh⟩
        | goto l => exact ⟨hs, hh⟩
        | panic c => exact ⟨hs, hh⟩
      subst hp
      cases ex with
      | normal => exact fin .normal trivial
      | leave i => exact wpIn_exit (fin (.exit i) rfl)
      | ret => exact wpIn_ret (fin .ret trivial)
theorem codeE_ok (hD : DOk V P G D) (hm : P.follows .mixedOrders = true) : ∀ (rnd : Bool) (n : Nat) (c : Code) (tmps : List EV) (σ : Heap),
    Ok V (codeE D P G rnd n c tmps σ) fun r => SemC P G rnd c tmps σ r ∧ ∀ b, c = .loop b → SemL P G rnd b tmps σ r
  | rnd, 0, c, tmps, σ => by unfold codeE; exact Ok.fail
  | rnd, n + 1, c, tmps, σ => by
    unfold codeE
    have ih := codeE_ok hD hm rnd n
    refine Ok.bind (hD.piece rnd c tmps σ) fun o => ?_
    cases o with
    | some r => exact Ok.pure fun h => h r rfl
    | none =>
    refine Ok.mono (Φ := fun r => SemC P G rnd c tmps σ r ∧ ∀ b, c = .loop b → SemL P G rnd b tmps σ r) ?_ fun r h _ => h
    dsimp only
    split
    · exact Ok.pure ⟨fun ro K w a hro hR hG ht => wpIn_skip ⟨trivial, K, [], Ext.refl _ _ _, hR, ht, Marks.none⟩, fun b hb => by cases hb⟩
    · rename_i id ops draw
      refine Ok.bind (regionE_ok hD hm id ops draw rnd tmps σ) fun r => Ok.pure fun h => ⟨h, fun b hb => by cases hb⟩
    · rename_i x y
      refine Ok.bind (ih x tmps σ) fun r => ?_
      obtain ⟨ex, t, s⟩ := r
      split
      · rename_i he
        dsimp only at he
        subst he
        exact (ih y t s).mono fun r2 h2 h1 => ⟨h1.1.seq h2.1, fun b hb => by cases hb⟩
      · rename_i he
        exact Ok.pure fun h1 => ⟨h1.1.seq_out (by simpa using he), fun b hb => by cases hb⟩
    · rename_i c x y
      split
      · rename_i b hb
        refine Ok.bind (hD.br b) fun d => ?_
        refine Ok.ite (fun hd => ?_) fun hd => ?_
        · refine (ih x tmps σ).mono fun r h hdb => ⟨fun ro K w a hro hR hG ht => ?_, fun b hb => by cases hb⟩
          have h1 := eval_ok hG ht c
          rw [hb] at h1
          have := h1.bool_inv
          rw [hdb.symm.trans hd] at this
          exact wpIn_cond_true this (h.1 ro K w a hro hR hG ht)
        · refine (ih y tmps σ).mono fun r h hdb => ⟨fun ro K w a hro hR hG ht => ?_, fun b hb => by cases hb⟩
          have h1 := eval_ok hG ht c
          rw [hb] at h1
          have := h1.bool_inv
          rw [hdb.symm.trans (by simpa using hd)] at this
          exact wpIn_cond_false this (h.1 ro K w a hro hR hG ht)
      · exact Ok.fail
    · rename_i id c
      refine Ok.bind (ih c tmps σ) fun r => ?_
      obtain ⟨ex, t, s⟩ := r
      split
      · rename_i i he
        dsimp only at he
        subst he
        refine Ok.ite (fun hi => Ok.pure fun h => ⟨?_, fun b hb => by cases hb⟩) fun hi => Ok.pure fun h => ⟨?_, fun b hb => by cases hb⟩
        · have := h.1.block (id := id); simpa only [if_pos hi] using this
        · have := h.1.block (id := id); simpa only [if_neg hi] using this
      · rename_i he
        refine Ok.pure fun h => ⟨?_, fun b hb => by cases hb⟩
        have := h.1.block (id := id)
        cases ex with
        | normal => exact this
        | leave i => exact absurd rfl (he i)
        | ret => exact this
    · exact Ok.pure ⟨fun ro K w a hro hR hG ht => wpIn_exit ⟨rfl, K, [], Ext.refl _ _ _, hR, ht, Marks.none⟩, fun b hb => by cases hb⟩
    · exact Ok.pure ⟨fun ro K w a hro hR hG ht => wpIn_ret ⟨trivial, K, [], Ext.refl _ _ _, hR, ht, Marks.none⟩, fun b hb => by cases hb⟩
    · rename_i c
      refine Ok.bind (ih c tmps σ) fun r => ?_
      obtain ⟨ex, t, s⟩ := r
      dsimp only
      split
      · refine (ih (.loop c) t s).mono fun r2 h2 h1 => ?_
        have := SemL.step h1.1 (h2.2 c rfl)
        exact ⟨this.toC, fun b hb => by cases hb; exact this⟩
      · rename_i he
        refine Ok.pure fun h1 => ?_
        have := SemL.last h1.1 (by simpa using he)
        exact ⟨this.toC, fun b hb => by cases hb; exact this⟩
    · rename_i g ps assign body
      refine Ok.ite (fun _ => Ok.fail) fun hrnd => ?_
      split
      · rename_i f first captured hev
        refine Ok.bind (hD.gcall f _ _) fun r => ?_
        obtain ⟨v, σ2⟩ := r
        dsimp only
        split
        · rename_i st t' ps' x' y' pend h2
          refine Ok.ite (fun _ => Ok.fail) fun hst => ?_
          split
          · rename_i ex hex
            refine Ok.pure fun h => ⟨?_, fun b hb => by cases hb⟩
            have hr : rnd = false := by simpa using hrnd
            subst hr
            exact SemC.rangeFunc hev h h2 hst (EX.ofJump_ok hex)
          · exact Ok.fail
        · exact Ok.fail
      · exact Ok.fail
    · exact Ok.fail
theorem mapM_some {α β : Type} {f : α → Option β} : ∀ {l : List α} {r : List β}, l.mapM f = some r → r.length = l.length ∧ ∀ i (h : i < l.length) (h' : i < r.length), f l[i] = some r[i] := by
  intro l
  induction l with
  | nil => intro r h; simp at h; subst h; simp
  | cons x xs ih =>
    intro r h
    rw [List.mapM_cons] at h
    cases hx : f x with
    | none => rw [hx] at h; simp at h
    | some y =>
      cases hxs : xs.mapM f with
      | none => rw [hx, hxs] at h; simp at h
      | some ys =>
        rw [hx, hxs] at h
        simp at h
        subst h
        obtain ⟨h1, h2⟩ := ih hxs
        refine ⟨by simp [h1], fun i hi hi' => ?_⟩
        cases i with
        | zero => simpa using hx
        | succ i => simpa using h2 i (by simpa using hi) (by simpa using hi')
theorem run_mapM {α : Type} {f : α → Sem Value} {w : World} {g : α → Value} : ∀ (l : List α), (∀ x ∈ l, (f x).run P w = .ok (g x) w) → (l.mapM f).run P w = .ok (l.map g) w := by
  intro l
  induction l with
  | nil => intro _; simp
  | cons x xs ih =>
    intro h
    rw [List.mapM_cons]
    simp only [Sem.run_bind, h x (by simp), Result.andThen_ok, ih fun y hy => h y (by simp [hy]), Sem.run_pure, List.map_cons]
def resM (mt : Array Value) : ResultVar → Sem Value
  | .tmp t => pure (mt.getD t undef)
  | .cell a t => do loadVar t (← asAddr (mt.getD a undef))
theorem results_eq (fn : Func) (mt : Array Value) : results fn mt = (do let vs ← fn.results.mapM (resM mt); pure (if h : vs.size = 1 then vs[0] else .tuple vs)) := by
  unfold results
  congr 1
theorem resultE_ok {K : KM} {w : World} {σ : Heap} {tmps : List EV} {mt : Array Value} (hR : Rel K σ w) (ht : VRs K w tmps mt) {rv : ResultVar} {v : EV} (h : resultE P tmps σ rv = some v) :
    ∃ mv, (resM mt rv).run P w = .ok mv w ∧ VR K w v mv := by
  have hget : ∀ t, VR K w (tmps.getD t .undef) (mt.getD t undef) := by
    intro t
    by_cases h : t < tmps.length
    · have h' : t < mt.size := by rw [← ht.1]; exact h
      have := ht.2 t h h'
      simpa [List.getD_eq_getElem?_getD, h, h'] using this
    · have : tmps.getD t .undef = .undef := by simp [List.getD_eq_getElem?_getD, h]
      rw [this]; exact .pure _ _ (.undef _)
  cases rv with
  | tmp t =>
    simp only [resultE, getT_eq, Option.some.injEq] at h
    subst h
    exact ⟨_, rfl, hget t⟩
  | cell a t =>
    simp only [resultE, getT_eq] at h
    split at h
    · rename_i n g r k hn hg hp
      split at h
      · rename_i fr pf cells hr
        have h1 := hget a
        rw [hp] at h1
        obtain ⟨he, _⟩ := h1.ptr_inv
        obtain ⟨mv, h2, h3⟩ := load_take (P := P) hn hg (CellsAt.ofVar (hR.obj r _ hr)) h
        exact ⟨mv, by simp [resM, he, asAddr, h2], h3⟩
      · cases h
    · cases h
theorem resultsE_ok {K : KM} {w : World} {σ : Heap} {tmps : List EV} {mt : Array Value} (hR : Rel K σ w) (ht : VRs K w tmps mt) {fn : Func} {v : EV} (h : resultsE P fn tmps σ = some v) :
    ∃ mv, (results fn mt).run P w = .ok mv w ∧ VR K w v mv := by
  unfold resultsE at h
  cases hm : fn.results.toList.mapM (resultE P tmps σ) with
  | none => rw [hm] at h; simp at h
  | some vs =>
    rw [hm] at h
    obtain ⟨hl, hi⟩ := mapM_some hm
    have hall : ∀ (l : List ResultVar) (vs : List EV), l.length = vs.length → (∀ i (h : i < l.length) (h' : i < vs.length), resultE P tmps σ l[i] = some vs[i]) →
        ∃ mvs : List Value, (l.mapM (resM mt)).run P w = .ok mvs w ∧
          mvs.length = vs.length ∧ ∀ i (h : i < vs.length) (h' : i < mvs.length), VR K w vs[i] mvs[i] := by
      intro l
      induction l with
      | nil =>
        intro vs h _
        obtain rfl : vs = [] := List.length_eq_zero_iff.1 h.symm
        exact ⟨[], by simp, rfl, by simp⟩
      | cons rv l ih =>
        intro vs h h1
        cases vs with
        | nil => simp at h
        | cons x xs =>
          obtain ⟨mv, p1, p2⟩ := resultE_ok (P := P) hR ht (h1 0 (by simp) (by simp))
          obtain ⟨mvs, q1, q2, q3⟩ := ih xs (by simpa using h) fun i a b => h1 (i + 1) (by simpa using a) (by simpa using b)
          refine ⟨mv :: mvs, ?_, by simp [q2], fun i a b => ?_⟩
          · rw [List.mapM_cons, Sem.run_bind]
            simp only [List.getElem_cons_zero] at p1
            rw [p1, Result.andThen_ok, Sem.run_bind, q1, Result.andThen_ok, Sem.run_pure]
          · cases i with
            | zero => simpa using p2
            | succ i => simpa using q3 i (by simpa using a) (by simpa using b)
    obtain ⟨mvs, g1, g2, g3⟩ := hall fn.results.toList vs hl.symm fun i a b => hi i a b
    refine ⟨if h : mvs.toArray.size = 1 then mvs.toArray[0] else .tuple mvs.toArray, ?_, ?_⟩
    · rw [results_eq, Sem.run_bind, Array.mapM_eq_mapM_toList, map_eq_pure_bind, Sem.run_bind, g1]
      rfl
    · cases vs with
      | nil => 
        obtain rfl : mvs = [] := List.length_eq_zero_iff.1 g2
        obtain rfl := Option.some.inj h
        exact .tuple _ _ rfl (by simp)
      | cons x xs =>
        cases xs with
        | nil =>
          obtain rfl := Option.some.inj h
          have hs : mvs.toArray.size = 1 := by simpa using g2
          rw [dif_pos hs]
          have := g3 0 (by simp) (by rw [g2]; simp)
          simpa using this
        | cons y ys =>
          obtain rfl := Option.some.inj h
          have hs : ¬ mvs.toArray.size = 1 := by simp [g2]
          rw [dif_neg hs]
          exact .tuple _ _ (by simp [g2]) fun i a b => by simpa using g3 i a (by simpa using b)
theorem VR.stay {K : KM} {w w' : World} (hs : Stay K.F w w') {v : EV} {mv : Value} (h : VR K w v mv) : VR K w' v mv := by
  induction h with
  | pure v mv hp => exact .pure v mv (hp.mono (fun _ h => h) hs)
  | ptr r k ha => exact .ptr r k ha
  | pe r esz i k ha hi => exact .pe r esz i k ha hi
  | ms r esz off len cap mcap a ha hle hlen hcap hnone haddr => exact .ms r esz off len cap mcap a ha hle hlen hcap hnone haddr
  | mm r ha => exact .mm r ha
  | it r ha => exact .it r ha
  | agg cs mcs hl h1 _ ih => exact .agg cs mcs hl h1 ih
  | tuple cs mcs hl _ ih => exact .tuple cs mcs hl ih
  | func fn a c mf mc hl hl' _ _ ih ih' => exact .func fn a c mf mc hl hl' ih ih'
  | iface t v mv _ ih => exact .iface t v mv ih
theorem turn_unknown {K K' : KM} {σ σ' : Heap} {w0 w : World} {b : Nat} {o : Obj} (e : Ext K σ w0 K' σ' w) (r : Rel K' σ' w) (hb : w0.heap.size ≤ b) (ho : ¬ Owned K' σ' b) (hF : ¬ K'.F b) :
    Ext K σ w0 K' σ' (w.putObj b o) ∧ Rel K' σ' (w.putObj b o) ∧ Stay K'.F w (w.putObj b o) := by
  have hother : ∀ b', b' ≠ b → (w.putObj b o).heap[b']? = w.heap[b']? := by
    intro b' h
    simp only [World.putObj]
    exact Array.getElem?_setIfInBounds_ne (Ne.symm h)
  have hsz : (w.putObj b o).heap.size = w.heap.size := by simp [World.putObj]
  have hst : Stay K'.F w (w.putObj b o) := fun b' h => hother b' fun hb => hF (hb ▸ h)
  refine ⟨⟨e.len, e.al, e.blk, e.F, e.F', e.own, fun b' h1 h2 => by rw [hother b' (by omega)]; exact e.stay b' h1 h2, by rw [hsz]; exact e.size, e.os, e.tape, e.output⟩, ?_, hst⟩
  have e1 : ∀ r' o', σ'[r']? = some o' → o'.there = true → K'.blk r' ≠ b := by
    intro r' o' h1 ht hbk
    cases hl : o'.live with
    | true => exact ho ⟨r', o', h1, hl, hbk⟩
    | false =>
      apply hF
      rw [← hbk]
      have h2 := r.obj r' o' h1
      cases o' with
      | free => simp [EObj.there] at ht
      | dead => simp [EObj.there] at ht
      | var fr pf c => simp only [EObj.live, Bool.not_eq_false'] at hl; obtain ⟨_, _, _, _, _, _, _, _, h5, _⟩ := h2; exact h5 hl
      | arr fr pf esz ex len row => simp only [EObj.live, Bool.not_eq_false'] at hl; obtain ⟨_, _, _, _, _, _, _, _, _, _, _, h7, _⟩ := h2; exact h7 hl
      | map fr pf es => simp only [EObj.live, Bool.not_eq_false'] at hl; obtain ⟨_, _, _, _, _, h3, _⟩ := h2; exact h3 hl
      | loop st t ps x y p => simp [EObj.live] at hl
      | dfr => simp [EObj.live] at hl
  refine ⟨fun r' o' h1 => ?_, r.inj, r.notF, fun r' o' h1 ht => by rw [hsz]; exact r.lt r' o' h1 ht, fun b' h => by rw [hsz]; exact r.Flt b' h, r.alt⟩
  have h2 := r.obj r' o' h1
  cases o' with
  | free => exact h2
  | dead => trivial
  | var fr pf cells =>
    obtain ⟨ha, h0, c, e, h1', a2, a3, a4, a5, a6, a7⟩ := h2
    exact ⟨ha, h0, c, e, by rw [hother _ (e1 r' _ h1 rfl)]; exact h1', a2, a3, a4, a5, fun i x y => (a6 i x y).stay hst, fun hp i x y => (a7 hp i x y).mono (fun _ h => h) hst⟩
  | arr fr pf esz ex len row =>
    obtain ⟨ha, hl, c, e, fz, h1', a2, a3, a4, a5, a6, a7, a8, a9, a10⟩ := h2
    exact ⟨ha, hl, c, e, fz, by rw [hother _ (e1 r' _ h1 rfl)]; exact h1', a2, a3, a4, a5, a6, a7, a8, fun i hi j hj hc => (a9 i hi j hj hc).stay hst, fun hp i hi j hj hc => (a10 hp i hi j hj hc).mono (fun _ h => h) hst⟩
  | map fr pf es =>
    obtain ⟨ha, mes, clock, h1', a2, a3, a4, a5, a6, a7⟩ := h2
    exact ⟨ha, mes, clock, by rw [hother _ (e1 r' _ h1 rfl)]; exact h1', a2, a3, fun i x y => ⟨(a4 i x y).1.stay hst, (a4 i x y).2.stay hst⟩, fun i x y => (a5 i x y).mono (fun _ h => h) hst, fun hp i x y => (a6 hp i x y).mono (fun _ h => h) hst, a7⟩
  | loop st t ps x y p =>
    obtain ⟨ha, fn, mt, d, h1', a2, a3⟩ := h2
    exact ⟨ha, fn, mt, d, by rw [hother _ (e1 r' _ h1 rfl)]; exact h1', a2, fun i x y => (a3 i x y).stay hst⟩
  | dfr =>
    obtain ⟨ha, h1'⟩ := h2
    exact ⟨ha, by rw [hother _ (e1 r' _ h1 rfl)]; exact h1'⟩
theorem leave_marks {K K' : KM} {σ σ' : Heap} {w0 : World} {fn : Func} {t : List EV} {mt : Array Value} {v : EV} (hv : resultsE P fn t σ' = some v) : ∀ (bs : List Nat) (w : World),
    Ext K σ w0 K' σ' w → Rel K' σ' w → VRs K' w t mt → bs.Nodup → (∀ b ∈ bs, w0.heap.size ≤ b ∧ w.heap[b]? = some (.deferred (some [])) ∧ ¬ Owned K' σ' b ∧ ¬ K'.F b) →
    LeavesInM (fen none) 0 P fn mt (PostF K σ w0 v σ') (bs.map markOf) .returning w := by
  intro bs
  induction bs with
  | nil =>
    intro w e r ht _ _
    obtain ⟨mv, q1, q2⟩ := resultsE_ok r ht hv
    exact ⟨mv, q1, K', e, r, q2⟩
  | cons b bs ih =>
    intro w e r ht hn hb
    obtain ⟨h1, h2, h3, h4⟩ := hb b (by simp)
    obtain ⟨e1, r1, st⟩ := turn_unknown (o := .deferred none) e r h1 h3 h4
    refine ⟨by simp, .inl ⟨b, _, rfl, run_takeDeferred h2, ih _ e1 r1 ⟨ht.1, fun i x y => (ht.2 i x y).stay st⟩ (List.nodup_cons.1 hn).2 fun b' hb' => ?_⟩⟩
    obtain ⟨g1, g2, g3, g4⟩ := hb b' (by simp [hb'])
    have hne : b' ≠ b := fun h => (List.nodup_cons.1 hn).1 (h ▸ hb')
    exact ⟨g1, by simp only [World.putObj]; rw [Array.getElem?_setIfInBounds_ne (Ne.symm hne)]; exact g2, g3, g4⟩
theorem funE_ok (hD : DOk V P G D) (hm : P.follows .mixedOrders = true) (n : Nat) (f : FuncId) (args : List EV) (σ : Heap) :
    Ok V (funE D P G n f args σ) fun r => ∀ (K : KM) (w : World) (margs : Array Value), Rel K σ w → GOk G K.F w → VRs K w args margs → Calls P f margs w (PostF K σ w r.1 r.2) := by
  unfold funE
  split
  · rename_i fn hfn
    split
    · rename_i c hc
      refine Ok.bind (codeE_ok hD hm false n c _ σ) fun r => ?_
      obtain ⟨ex, t, s⟩ := r
      have main : ex ≠ .normal → ex ≠ .ret → Ok V (M.fail : M S (EV × Heap)) fun r => True := fun _ _ => Ok.fail
      split
      · exact Ok.fail
      · rename_i he
        refine Ok.bind (Ok.lift (Φ := fun v => resultsE P fn t s = some v) fun v h => h) fun v => Ok.pure fun hv h K w margs hR hG ha => ?_
        refine CallsIn.calls (callsIn_of_wp_marks (F := fen none) (n := 0) hfn hc trivial (wpIn_mono (h.1 none K w _ (fun h => by simp at h) hR hG ?_) fun e a' w' hp => ?_)) (fen_room none)
        · obtain ⟨h1, h2⟩ := ha
          refine ⟨by simp [h1], fun i g1 g2 => ?_⟩
          by_cases hi : i < args.length
          · have hi' : i < margs.size := by omega
            rw [List.getElem_append_left hi, Array.getElem_append_left hi']
            exact h2 i hi hi'
          · rw [List.getElem_append_right (by omega), List.getElem_replicate]
            exact .pure _ _ (.undef _)
        · have hex : ∀ i, ex ≠ .leave i := fun i hi => he i hi
          cases e with
          | outgrown => exact hp.elim
          | normal =>
            obtain ⟨_, K', bs, e1, r1, v1, m1, m2, m3⟩ := hp
            show LeavesInM _ _ _ _ _ _ a'.defers _ _
            rw [m1, List.append_nil]
            exact leave_marks hv bs w' e1 r1 v1 m2 m3
          | ret =>
            obtain ⟨_, K', bs, e1, r1, v1, m1, m2, m3⟩ := hp
            show LeavesInM _ _ _ _ _ _ a'.defers _ _
            rw [m1, List.append_nil]
            exact leave_marks hv bs w' e1 r1 v1 m2 m3
          | exit i =>
            cases ex with
            | leave j => exact absurd rfl (hex j)
            | normal => exact hp.1.elim
            | ret => exact hp.1.elim
          | goto l => cases ex <;> exact hp.1.elim
          | panic c => cases ex <;> exact hp.1.elim
    · exact Ok.fail
  · exact Ok.fail
def entersE (P : Program) (f : FuncId) : Bool :=
  match P.funcs[f]? with
  | some fn => fn.body.isSome && !(fn.name == "runtime.NumGoroutine")
  | none => false
theorem entersE_ok {f : FuncId} (h : entersE P f = true) : Enters P f := by
  unfold entersE at h
  split at h
  · rename_i fn hfn
    simp only [Bool.and_eq_true, Bool.not_eq_true'] at h
    exact ⟨fn, hfn, h.1, h.2⟩
  · cases h
theorem semF_of (hD : DOk V P G D) (hm : P.follows .mixedOrders = true) {n : Nat} {f : FuncId} {args : List EV} {σ : Heap} {s s' : S} {v : EV} {σ' : Heap} (he : entersE P f = true)
    (h : funE D P G n f args σ s = some ((v, σ'), s')) (hv : V s') : SemF P G f args σ v σ' :=
  ⟨entersE_ok he, (funE_ok hD hm n f args σ s _ s' h hv).2⟩
theorem rel_nil {F : Nat → Prop} {w : World} (hF : ∀ b, F b → b < w.heap.size) : Rel ⟨fun _ => 0, fun _ => 0, fun _ => 0, fun _ => 0, fun _ => False, F⟩ [] w := by
  refine ⟨fun r o h => by simp at h, fun r r' o o' h => by simp at h, ?_, fun r o h => by simp at h, hF, fun r h => h.elim⟩
  rintro b ⟨r, o, h, _⟩
  simp at h
theorem GOk.mono {F F' : Nat → Prop} {w : World} (hF : ∀ b, F b → F' b) (hG : GOk G F w) : GOk G F' w := by
  intro g c hg
  obtain ⟨h1, h2, mv, h3⟩ := hG g c hg
  exact ⟨hF _ h1, h2, mv, fun j hj => ⟨(h3 j hj).1, (h3 j hj).2.1, (h3 j hj).2.2.mono hF fun _ _ => rfl⟩⟩
theorem semP_of (hD : DOk V P G D) (hm : P.follows .mixedOrders = true) {n : Nat} {f : FuncId} {args : List EV} {s s' : S} {v : EV} (he : entersE P f = true)
    (h : pureE D P G n f args s = some (v, s')) (hv : V s') : V s ∧ SemP P G f args v := by
  have hok : Ok V (pureE D P G n f args) fun v => SemP P G f args v := by
    unfold pureE
    refine Ok.bind (funE_ok hD hm n f args []) fun r => ?_
    obtain ⟨v, σ⟩ := r
    refine Ok.bind (Ok.lift (Φ := fun p => purify (fun i => σ[i]?) v = some p) fun p h => h) fun p => ?_
    refine Ok.bind (Ok.lift (Φ := fun u => freezeAll (fun i => σ[i]?) p.2 = some u) fun p h => h) fun u => Ok.pure fun hu hp hf => ?_
    obtain ⟨v', rs⟩ := p
    dsimp only at hu hf ⊢
    refine ⟨entersE_ok he, fun F w margs hF hG ha => ?_⟩
    have hrel := rel_nil hF
    refine (hf _ w margs hrel hG ⟨ha.1, fun i h1 h2 => .pure _ _ (ha.2 i h1 h2)⟩).mono fun e w' hpost => ?_
    cases e with
    | outgrown => exact hpost
    | panicked _ => exact hpost
    | returned mv =>
      obtain ⟨K', e1, r1, v1⟩ := hpost
      obtain ⟨e2, r2⟩ := Rel.freezeAll rs K' σ u r1 (fun r o h => .inl h) hu
      have hpr : PR (K'.frzs rs).F w' v' mv := purify_spec (fun r o h => r1.obj r o h) (fun b hb => (frzs_F K' rs b).2 (.inl hb)) _ _ _ _ _ hp v1 fun r hr => (frzs_F K' rs _).2 (.inr ⟨r, hr, rfl⟩)
      have e3 := e1.trans e2
      have hno : ∀ b, ¬ Owned ⟨fun _ => 0, fun _ => 0, fun _ => 0, fun _ => 0, fun _ => False, F⟩ ([] : Heap) b := by
        rintro b ⟨r, o, h, _⟩
        simp at h
      refine ⟨(K'.frzs rs).F, e3.F, fun b hb => ?_, r2.Flt, fun b hb => e3.stay b hb (hno b), e3.size, e3.os, e3.tape, e3.output, hpr⟩
      rcases e3.F' b hb with h | h | h
      · exact .inl h
      · exact .inr h
      · exact absurd h (hno b)
  exact hok s v s' h hv
end
end Go.Ev
namespace Go.Ev
noncomputable def autoD (P : Program) (G : Nat → Option (List EV)) (pures news : FuncId → Bool) : Nat → Drv Unit
  | 0 => { br := pure, chk := fun b => if b then pure () else M.fail, nw := pure, mode := fun f => pure (pures f), fresh := fun f => pure (news f), room := fun b => pure (if b then 3 else 0), pcall := fun _ _ => M.fail, gcall := fun _ _ _ => M.fail,
           piece := fun _ _ _ _ => M.fail, round := fun _ _ _ => M.fail, keep := pure, find := fun _ _ _ => pure none }
  | n + 1 => { br := pure, chk := fun b => if b then pure () else M.fail, nw := pure, mode := fun f => pure (pures f), fresh := fun f => pure (news f), room := fun b => pure (if b then 3 else 0)
               pcall := fun f args => if entersE P f then pureE (autoD P G pures news n) P G 100000 f args else M.fail
               gcall := fun f args σ => if entersE P f then funE (autoD P G pures news n) P G 100000 f args σ else M.fail
               piece := fun _ _ _ _ => pure none
               keep := pure
               find := fun _ _ _ => pure none
               round := fun c t σ => codeE (autoD P G pures news n) P G true 100000 c t σ }
theorem autoD_ok {P : Program} (G : Nat → Option (List EV)) (pures news : FuncId → Bool) (hm : P.follows .mixedOrders = true) : ∀ n, DOk (fun _ : Unit => True) P G (autoD P G pures news n) := by
  have hchk : ∀ b : Bool, Ok (fun _ : Unit => True) (if b then pure () else M.fail : M Unit Unit) fun _ => b = true := fun b => Ok.ite (fun h => Ok.pure h) fun _ => Ok.fail
  intro n
  induction n with
  | zero =>
    exact { br := fun b => Ok.pure rfl, chk := hchk, nw := fun b => Ok.pure id, mode := fun f => Ok.pure trivial, fresh := fun f => Ok.pure trivial, room := fun _ => Ok.pure trivial, pcall := fun f args => Ok.fail, gcall := fun f args σ => Ok.fail, round := fun c t σ => Ok.fail, piece := fun rnd c t σ => Ok.fail, keep := fun q => Ok.pure rfl, find := fun _ _ _ => Ok.pure (fun r h => by cases h) }
  | succ n ih =>
    exact { br := fun b => Ok.pure rfl, chk := hchk, nw := fun b => Ok.pure id, mode := fun f => Ok.pure trivial, fresh := fun f => Ok.pure trivial, room := fun _ => Ok.pure trivial
            pcall := fun f args => Ok.ite (fun he s v s' h hv => semP_of ih hm he h hv) fun _ => Ok.fail
            gcall := fun f args σ => Ok.ite (fun he s r s' h hv => ⟨trivial, semF_of ih hm he h hv⟩) fun _ => Ok.fail
            round := fun c t σ => (codeE_ok ih hm true 100000 c t σ).mono fun r h => h.1
            piece := fun rnd c t σ => Ok.pure (fun r h => by cases h)
            keep := fun q => Ok.pure rfl, find := fun _ _ _ => Ok.pure (fun r h => by cases h) }
end Go.Ev
namespace Go.Ev
def cells_math_bits_deBruijn32tab : List EV := [.int .u8 0, .int .u8 1, .int .u8 28, .int .u8 2, .int .u8 29, .int .u8 14, .int .u8 24, .int .u8 3, .int .u8 30, .int .u8 22, .int .u8 20, .int .u8 15, .int .u8 25, .int .u8 17, .int .u8 4, .int .u8 8, .int .u8 31, .int .u8 27, .int .u8 13, .int .u8 23, .int .u8 21, .int .u8 19, .int .u8 16, .int .u8 7, .int .u8 26, .int .u8 12, .int .u8 18, .int .u8 6, .int .u8 11, .int .u8 5, .int .u8 10, .int .u8 9]
def cells_math_bits_deBruijn64tab : List EV := [.int .u8 0, .int .u8 1, .int .u8 56, .int .u8 2, .int .u8 57, .int .u8 49, .int .u8 28, .int .u8 3, .int .u8 61, .int .u8 58, .int .u8 42, .int .u8 50, .int .u8 38, .int .u8 29, .int .u8 17, .int .u8 4, .int .u8 62, .int .u8 47, .int .u8 59, .int .u8 36, .int .u8 45, .int .u8 43, .int .u8 51, .int .u8 22, .int .u8 53, .int .u8 39, .int .u8 33, .int .u8 30, .int .u8 24, .int .u8 18, .int .u8 12, .int .u8 5, .int .u8 63, .int .u8 55, .int .u8 48, .int .u8 27, .int .u8 60, .int .u8 41, .int .u8 37, .int .u8 16, .int .u8 46, .int .u8 35, .int .u8 44, .int .u8 21, .int .u8 52, .int .u8 32, .int .u8 23, .int .u8 11, .int .u8 54, .int .u8 26, .int .u8 40, .int .u8 15, .int .u8 34, .int .u8 20, .int .u8 31, .int .u8 10, .int .u8 25, .int .u8 14, .int .u8 19, .int .u8 9, .int .u8 13, .int .u8 8, .int .u8 7, .int .u8 6]
def cells_internal_strconv_uint64pow10 : List EV := [.int .u64 1, .int .u64 10, .int .u64 100, .int .u64 1000, .int .u64 10000, .int .u64 100000, .int .u64 1000000, .int .u64 10000000, .int .u64 100000000, .int .u64 1000000000, .int .u64 10000000000, .int .u64 100000000000, .int .u64 1000000000000, .int .u64 10000000000000, .int .u64 100000000000000, .int .u64 1000000000000000, .int .u64 10000000000000000, .int .u64 100000000000000000, .int .u64 1000000000000000000, .int .u64 10000000000000000000]
def cells_assize_typing_spans : List EV := [.int .i64 0, .int .i64 0, .int .i64 2, .int .i64 24, .int .i64 0, .int .i64 46, .int .i64 0, .int .i64 1, .int .i64 2, .int .i64 24]
def cells_assize_table_names : List EV := [.str ⟨#[97, 103, 97, 105, 110, 115, 116]⟩, .str ⟨#[97, 119, 97, 121, 102, 111, 114]⟩, .str ⟨#[97, 119, 97, 121, 119, 111, 110]⟩, .str ⟨#[98, 121]⟩, .str ⟨#[99, 97, 114, 100, 115]⟩, .str ⟨#[99, 108, 117, 98]⟩, .str ⟨#[100, 114, 97, 119, 110]⟩, .str ⟨#[102, 111, 114]⟩, .str ⟨#[108, 111, 115, 116]⟩, .str ⟨#[112, 108, 97, 121, 101, 100]⟩, .str ⟨#[112, 111, 105, 110, 116, 115]⟩, .str ⟨#[114, 97, 110, 107]⟩, .str ⟨#[119, 111, 110]⟩]
def globs : Nat → Option (List EV)
  | 0 => some cells_assize_table_names
  | 2 => some cells_assize_typing_spans
  | 3 => some cells_internal_strconv_uint64pow10
  | 4 => some cells_math_bits_deBruijn32tab
  | 5 => some cells_math_bits_deBruijn64tab
  | _ => none
end Go.Ev
namespace Go.Ev
def SemCL (P : Program) (G : Nat → Option (List EV)) (rnd : Bool) (c : Code) (tmps : List EV) (σ : Heap) (r : EX × List EV × Heap) : Prop :=
  SemC P G rnd c tmps σ r ∧ ∀ b, c = .loop b → SemL P G rnd b tmps σ r
theorem ok_ite_none {S α : Type} {V : S → Prop} {c : Prop} [Decidable c] {m : M S α} {s s' : S} {a : α} (h : (if c then m s else none) = some (a, s')) : c ∧ m s = some (a, s') := by
  by_cases hc : c
  · rw [if_pos hc] at h; exact ⟨hc, h⟩
  · rw [if_neg hc] at h; cases h
end Go.Ev
namespace Go.Ev
theorem cT {α : Type} {b : Bool} {v x y : α} (h : b = true) (e : v = x) : v = cond b x y := by subst h; exact e
theorem cF {α : Type} {b : Bool} {v x y : α} (h : b = false) (e : v = y) : v = cond b x y := by subst h; exact e
theorem by_bool {p : Prop} (b : Bool) (h1 : b = true → p) (h2 : b = false → p) : p := (Bool.eq_false_or_eq_true b).elim h1 h2
def PLe (v v' : EV) : Prop := ∀ (F : Nat → Prop) (w : World) (mv : Value), PR F w v mv → PR F w v' mv
def VLe (v v' : EV) : Prop := ∀ (K : KM) (w : World) (mv : Value), VR K w v mv → VR K w v' mv
theorem PLe.refl (v : EV) : PLe v v := fun _ _ _ h => h
theorem PLe.eq {v v' : EV} (h : v = v') : PLe v v' := h ▸ PLe.refl v
theorem PLe.undef {v : EV} : PLe v .undef := fun _ _ _ _ => .undef _
theorem PLe.trans {a b c : EV} (h : PLe a b) (g : PLe b c) : PLe a c := fun F w mv x => g F w mv (h F w mv x)
theorem VLe.refl (v : EV) : VLe v v := fun _ _ _ h => h
theorem VLe.eq {v v' : EV} (h : v = v') : VLe v v' := h ▸ VLe.refl v
theorem VLe.undef {v : EV} : VLe v .undef := fun _ _ _ _ => .pure _ _ (.undef _)
theorem VLe.trans {a b c : EV} (h : VLe a b) (g : VLe b c) : VLe a c := fun F w mv x => g F w mv (h F w mv x)
theorem PLe.toV {v v' : EV} (h : PLe v v') (hv : ∀ K w mv, VR K w v mv → PR K.F w v mv) : VLe v v' := fun K w mv x => .pure _ _ (h K.F w mv (hv K w mv x))
theorem PLe.isl {nn : Bool} {esz len : Nat} {row row' : Nat → List EV} (h : ∀ i, i < len → row i = row' i) : PLe (.isl nn esz len row) (.isl nn esz len row') := by
  intro F w mv hp
  cases hp with
  | isln => exact .isln _ _
  | isl _ _ _ b o cap mv hF hcap sp hsp hl hc hv =>
    exact .isl esz len row' b o cap mv hF hcap sp hsp (fun i hi => h i hi ▸ hl i hi) hc (fun i hi j hj => by
      have := hv i hi j (by rw [h i hi]; exact hj)
      simpa only [h i hi] using this)
theorem VLe.isl {nn : Bool} {esz len : Nat} {row row' : Nat → List EV} (h : ∀ i, i < len → row i = row' i) : VLe (.isl nn esz len row) (.isl nn esz len row') := by
  intro K w mv hv
  cases hv with
  | pure _ _ hp => exact .pure _ _ (PLe.isl h _ _ _ hp)
inductive VLes : List EV → List EV → Prop where
  | nil : VLes [] []
  | cons {v v' : EV} {l l' : List EV} (h : VLe v v') (t : VLes l l') : VLes (v :: l) (v' :: l')
theorem VLes.refl : ∀ l, VLes l l
  | [] => .nil
  | v :: l => .cons (VLe.refl v) (VLes.refl l)
theorem VLes.len {l l' : List EV} (h : VLes l l') : l.length = l'.length := by
  induction h with
  | nil => rfl
  | cons _ _ ih => simp [ih]
theorem VLes.get {l l' : List EV} (h : VLes l l') : ∀ i (h1 : i < l.length) (h2 : i < l'.length), VLe l[i] l'[i] := by
  induction h with
  | nil => intro i h; simp at h
  | cons h t ih =>
    intro i h1 h2
    cases i with
    | zero => exact h
    | succ i => simpa using ih i (by simpa using h1) (by simpa using h2)
theorem VLes.vrs {l l' : List EV} (h : VLes l l') {K : KM} {w : World} {mt : Array Value} (ht : VRs K w l mt) : VRs K w l' mt :=
  ⟨h.len.symm.trans ht.1, fun i h1 h2 => h.get i (by rw [h.len]; exact h1) h1 K w _ (ht.2 i (by rw [h.len]; exact h1) h2)⟩
structure OLe (o o' : EObj) : Prop where
  obj : ∀ K w r, OR K w r o → OR K w r o'
  live : o'.live = true → o.live = true
  there : o'.there = true → o.there = true
theorem OLe.refl (o : EObj) : OLe o o := ⟨fun _ _ _ h => h, id, id⟩
theorem OLe.eq {o o' : EObj} (h : o = o') : OLe o o' := h ▸ OLe.refl o
theorem OLe.dead {o : EObj} : OLe o .dead := ⟨fun _ _ _ _ => trivial, (fun h => by cases h), (fun h => by cases h)⟩
theorem OLe.arr {fr pf ex : Bool} {esz len : Nat} {row row' : Nat → List EV} (h : ∀ i, i < len → row i = row' i) : OLe (.arr fr pf esz ex len row) (.arr fr pf esz ex len row') := by
  refine ⟨fun K w r ho => ?_, id, id⟩
  obtain ⟨h1, h2, c, e, fz, q2, q3, q4, q5, q6, q7, q8, q9, q10, q11⟩ := ho
  exact ⟨h1, h2, c, e, fz, q2, q3, q4, q5, q6, q7, q8, fun i hi => h i hi ▸ q9 i hi, fun i hi j hj hc => by
    have := q10 i hi j (by rw [h i hi]; exact hj) hc
    simpa only [h i hi] using this, fun hp i hi j hj hc => by
    have := q11 hp i hi j (by rw [h i hi]; exact hj) hc
    simpa only [h i hi] using this⟩
theorem OLe.var {fr : Bool} {cells cells' : List EV} (h : VLes cells cells') : OLe (.var fr false cells) (.var fr false cells') := by
  refine ⟨fun K w r ho => ?_, id, id⟩
  obtain ⟨h1, h2, c, e, q1, q2, q3, q4, q5, q6, q7⟩ := ho
  exact ⟨h1, h2, c, e, q1, by rw [q2, h.len], q3, q4, q5, fun i a b => h.get i (by rw [h.len]; exact a) a K w _ (q6 i (by rw [h.len]; exact a) b), fun h => by cases h⟩
theorem OLe.varf {fr pf : Bool} {cells : List EV} : OLe (.var fr pf cells) (.var fr false cells) := by
  refine ⟨fun K w r ho => ?_, id, id⟩
  obtain ⟨h1, h2, c, e, q1, q2, q3, q4, q5, q6, q7⟩ := ho
  exact ⟨h1, h2, c, e, q1, q2, q3, q4, q5, q6, fun h => by cases h⟩
theorem OLe.trans {a b c : EObj} (h : OLe a b) (g : OLe b c) : OLe a c := ⟨fun K w r x => g.obj K w r (h.obj K w r x), fun x => h.live (g.live x), fun x => h.there (g.there x)⟩
inductive HLe : Heap → Heap → Prop where
  | nil : HLe [] []
  | cons {o o' : EObj} {l l' : Heap} (h : OLe o o') (t : HLe l l') : HLe (o :: l) (o' :: l')
theorem HLe.refl : ∀ l, HLe l l
  | [] => .nil
  | v :: l => .cons (OLe.refl v) (HLe.refl l)
theorem HLe.len {l l' : Heap} (h : HLe l l') : l.length = l'.length := by
  induction h with
  | nil => rfl
  | cons _ _ ih => simp [ih]
theorem HLe.get {l l' : Heap} (h : HLe l l') : ∀ (i : Nat) (o' : EObj), l'[i]? = some o' → ∃ o, l[i]? = some o ∧ OLe o o' := by
  induction h with
  | nil => intro i o' h; simp at h
  | cons h t ih =>
    intro i o' h1
    cases i with
    | zero =>
      simp only [List.getElem?_cons_zero, Option.some.injEq] at h1
      subst h1
      exact ⟨_, by simp, h⟩
    | succ i =>
      simp only [List.getElem?_cons_succ] at h1 ⊢
      exact ih i o' h1
theorem HLe.owned {σ σ' : Heap} (h : HLe σ σ') {K : KM} {b : Nat} (ho : Owned K σ' b) : Owned K σ b := by
  obtain ⟨r, o', h1, h2, h3⟩ := ho
  obtain ⟨o, g1, g2⟩ := h.get r o' h1
  exact ⟨r, o, g1, g2.live h2, h3⟩
theorem HLe.rel {σ σ' : Heap} (h : HLe σ σ') {K : KM} {w : World} (hR : Rel K σ w) : Rel K σ' w := by
  refine ⟨fun r o' h1 => ?_, fun r r' o1 o2 h1 h2 l1 l2 hb => ?_, fun b ho => hR.notF b (h.owned ho), fun r o' h1 ht => ?_, hR.Flt, fun r ha => by rw [← h.len]; exact hR.alt r ha⟩
  · obtain ⟨o, g1, g2⟩ := h.get r o' h1
    exact g2.obj K w r (hR.obj r o g1)
  · obtain ⟨o, g1, g2⟩ := h.get r o1 h1
    obtain ⟨p, q1, q2⟩ := h.get r' o2 h2
    exact hR.inj r r' o p g1 q1 (g2.live l1) (q2.live l2) hb
  · obtain ⟨o, g1, g2⟩ := h.get r o' h1
    exact hR.lt r o g1 (g2.there ht)
theorem Ext.weaken {K K' : KM} {σ0 σ1 σ2 σ3 : Heap} {w w' : World} (h0 : HLe σ0 σ1) (h : Ext K σ1 w K' σ2 w') (h2 : HLe σ2 σ3) : Ext K σ0 w K' σ3 w' :=
  ⟨by rw [h0.len, ← h2.len]; exact h.len, h.al, h.blk, h.F, fun b hb => (h.F' b hb).imp id (Or.imp id h0.owned), fun b hb => (h.own b (h2.owned hb)).imp id h0.owned,
    fun b hb hn => h.stay b hb fun ho => hn (h0.owned ho), h.size, h.os, h.tape, h.output⟩
section
variable {P : Program} {G : Nat → Option (List EV)}
theorem PostC.weaken {K : KM} {σ0 σ1 : Heap} {w : World} {ds : List Deferred} {ex : EX} {t2 t3 : List EV} {σ2 σ3 : Heap} (h0 : HLe σ0 σ1) (ht : VLes t2 t3) (h2 : HLe σ2 σ3) {e : Exit} {a : Act} {w' : World}
    (h : PostC K σ1 w ds (ex, t2, σ2) e a w') : PostC K σ0 w ds (ex, t3, σ3) e a w' := by
  have main : (∃ K' bs, Ext K σ1 w K' σ2 w' ∧ Rel K' σ2 w' ∧ VRs K' w' t2 a.tmps ∧ Marks K' σ2 w w' ds a.defers bs) → ∃ K' bs, Ext K σ0 w K' σ3 w' ∧ Rel K' σ3 w' ∧ VRs K' w' t3 a.tmps ∧ Marks K' σ3 w w' ds a.defers bs := by
    rintro ⟨K', bs, h3, h4, h5, h6, h7, h8⟩
    exact ⟨K', bs, h3.weaken h0 h2, h2.rel h4, ht.vrs h5, h6, h7, fun b hb => let ⟨x, y, z, u⟩ := h8 b hb; ⟨x, y, fun ho => z (h2.owned ho), u⟩⟩
  cases e with
  | outgrown => exact h.elim
  | normal => exact ⟨h.1, main h.2⟩
  | exit i => exact ⟨h.1, main h.2⟩
  | goto l => exact ⟨h.1, main h.2⟩
  | ret => exact ⟨h.1, main h.2⟩
  | panic c => exact ⟨h.1, main h.2⟩
theorem SemC.weaken {rnd : Bool} {c : Code} {t0 t1 t2 t3 : List EV} {σ0 σ1 σ2 σ3 : Heap} {ex : EX} (ht : VLes t0 t1) (h0 : HLe σ0 σ1) (h : SemC P G rnd c t1 σ1 (ex, t2, σ2)) (ht' : VLes t2 t3) (h2 : HLe σ2 σ3) :
    SemC P G rnd c t0 σ0 (ex, t3, σ3) :=
  fun ro K w a hro hR hG hv => wpIn_mono (h ro K w a hro (h0.rel hR) hG (ht.vrs hv)) fun _ _ _ hp => PostC.weaken h0 ht' h2 hp
theorem SemL.weaken {rnd : Bool} {c : Code} {t0 t1 t2 t3 : List EV} {σ0 σ1 σ2 σ3 : Heap} {ex : EX} (ht : VLes t0 t1) (h0 : HLe σ0 σ1) (h : SemL P G rnd c t1 σ1 (ex, t2, σ2)) (ht' : VLes t2 t3) (h2 : HLe σ2 σ3) :
    SemL P G rnd c t0 σ0 (ex, t3, σ3) :=
  fun ro K w a hro hR hG hv => wpL_mono (h ro K w a hro (h0.rel hR) hG (ht.vrs hv)) fun _ _ _ hp => PostC.weaken h0 ht' h2 hp
inductive PLes : List EV → List EV → Prop where
  | nil : PLes [] []
  | cons {v v' : EV} {l l' : List EV} (h : PLe v v') (t : PLes l l') : PLes (v :: l) (v' :: l')
theorem PLes.refl : ∀ l, PLes l l
  | [] => .nil
  | v :: l => .cons (PLe.refl v) (PLes.refl l)
theorem PLes.prs {l l' : List EV} (h : PLes l l') {F : Nat → Prop} {w : World} : ∀ {mt : Array Value}, PRs F w l mt → PRs F w l' mt := by
  have len : l.length = l'.length := by
    induction h with
    | nil => rfl
    | cons _ _ ih => simp [ih]
  have get : ∀ i (h1 : i < l.length) (h2 : i < l'.length), PLe l[i] l'[i] := by
    clear len
    induction h with
    | nil => intro i h; simp at h
    | cons h t ih =>
      intro i h1 h2
      cases i with
      | zero => exact h
      | succ i => simpa using ih i (by simpa using h1) (by simpa using h2)
  intro mt ht
  exact ⟨len.symm.trans ht.1, fun i h1 h2 => get i (by rw [len]; exact h1) h1 F w _ (ht.2 i (by rw [len]; exact h1) h2)⟩
theorem SemP.weaken {f : FuncId} {as as' : List EV} {v v' : EV} (ha : PLes as as') (h : SemP P G f as' v) (hv : PLe v v') : SemP P G f as v' :=
  ⟨h.1, fun F w margs hF hG hp => (h.2 F w margs hF hG (ha.prs hp)).mono fun e w' hpost => by
    cases e with
    | outgrown => exact hpost
    | panicked _ => exact hpost
    | returned mv =>
      obtain ⟨F', a1, a2, a3, a4, a5, a6, a7, a8, a9⟩ := hpost
      exact ⟨F', a1, a2, a3, a4, a5, a6, a7, a8, hv _ _ _ a9⟩⟩
theorem SemP.res {f : FuncId} {as : List EV} {v v' : EV} (h : SemP P G f as v) (hv : PLe v v') : SemP P G f as v' := h.weaken (PLes.refl as) hv
theorem SemCL.weaken {rnd : Bool} {c : Code} {t0 t1 t2 t3 : List EV} {σ0 σ1 σ2 σ3 : Heap} {ex : EX} (ht : VLes t0 t1) (h0 : HLe σ0 σ1) (h : SemCL P G rnd c t1 σ1 (ex, t2, σ2)) (ht' : VLes t2 t3) (h2 : HLe σ2 σ3) :
    SemCL P G rnd c t0 σ0 (ex, t3, σ3) := ⟨h.1.weaken ht h0 ht' h2, fun b hb => (h.2 b hb).weaken ht h0 ht' h2⟩
def bodyOf (P : Program) (f : FuncId) : Code := match P.funcs[f]? with | some fn => fn.body.getD .skip | none => .skip
def cL : Code → Code | .seq a _ => a | c => c
def cR : Code → Code | .seq _ b => b | c => c
def cT1 : Code → Code | .cond _ a _ => a | c => c
def cT2 : Code → Code | .cond _ _ b => b | c => c
def cB : Code → Code | .block _ b => b | .loop b => b | c => c
theorem list_cons {α : Type} {a b : α} {l m : List α} (h : a = b) (t : l = m) : a :: l = b :: m := by rw [h, t]
theorem var_eq {fr pf : Bool} {l m : List EV} (h : EV.tuple l = EV.tuple m) : EObj.var fr pf l = .var fr pf m := by injection h with h; rw [h]
end
def frame (n : Nat) (l : List (Nat × EV)) : List EV := l.foldl (fun t p => t.set p.1 p.2) (List.replicate n .undef)
def sortedK : List (Nat × EV) → Bool
  | [] => true
  | [_] => true
  | p :: q :: t => Nat.blt p.1 q.1 && sortedK (q :: t)
inductive FLe : List (Nat × EV) → List (Nat × EV) → Prop where
  | nil : FLe [] []
  | keep {k : Nat} {v v' : EV} {l l' : List (Nat × EV)} (h : VLe v v') (t : FLe l l') : FLe ((k, v) :: l) ((k, v') :: l')
  | drop {k : Nat} {v : EV} {l l' : List (Nat × EV)} (t : FLe l l') : FLe ((k, v) :: l) l'
theorem VLes.of_get {l l' : List EV} (hl : l.length = l'.length) (h : ∀ i (h1 : i < l.length) (h2 : i < l'.length), VLe l[i] l'[i]) : VLes l l' := by
  induction l generalizing l' with
  | nil => cases l' with
    | nil => exact .nil
    | cons _ _ => simp at hl
  | cons x xs ih =>
    cases l' with
    | nil => simp at hl
    | cons y ys => exact .cons (h 0 (by simp) (by simp)) (ih (by simpa using hl) fun i h1 h2 => h (i + 1) (by simpa using h1) (by simpa using h2))
theorem sortedK_tail {p : Nat × EV} {t : List (Nat × EV)} (h : sortedK (p :: t) = true) : sortedK t = true ∧ ∀ q ∈ t, p.1 < q.1 := by
  induction t generalizing p with
  | nil => exact ⟨rfl, fun q hq => by simp at hq⟩
  | cons q t ih =>
    simp only [sortedK, Bool.and_eq_true] at h
    have h1 : p.1 < q.1 := by simpa using h.1
    obtain ⟨a, b⟩ := ih h.2
    refine ⟨h.2, fun x hx => ?_⟩
    rcases List.mem_cons.1 hx with rfl | hx
    · exact h1
    · have := b x hx; omega
theorem FLe.vles_aux {l l' : List (Nat × EV)} (h : FLe l l') : sortedK l = true → ∀ (b b' : List EV), VLes b b' → (∀ p ∈ l, ∀ (hi : p.1 < b'.length), b'[p.1] = .undef) →
    VLes (l.foldl (fun t p => t.set p.1 p.2) b) (l'.foldl (fun t p => t.set p.1 p.2) b') := by
  induction h with
  | nil => intro _ b b' hb _; exact hb
  | keep hv t ih =>
    rename_i k v v' l l'
    intro hs b b' hb hu
    obtain ⟨s1, s2⟩ := sortedK_tail hs
    simp only [List.foldl_cons]
    refine ih s1 _ _ (VLes.of_get (by simp [hb.len]) fun i h1 h2 => ?_) fun p hp hi => ?_
    · by_cases hk : k = i
      · subst hk; simpa using hv
      · rw [List.getElem_set_ne hk, List.getElem_set_ne hk]
        exact hb.get i _ _
    · have := s2 p hp
      rw [List.getElem_set_ne (by simp only at this; omega)]
      exact hu p (List.mem_cons_of_mem _ hp) _
  | drop t ih =>
    rename_i k v l l'
    intro hs b b' hb hu
    obtain ⟨s1, s2⟩ := sortedK_tail hs
    simp only [List.foldl_cons]
    refine ih s1 _ _ (VLes.of_get (by simp [hb.len]) fun i h1 h2 => ?_) fun p hp hi => hu p (List.mem_cons_of_mem _ hp) _
    by_cases hk : k = i
    · subst hk
      rw [hu (k, v) (List.mem_cons_self ..) h2]
      exact VLe.undef
    · rw [List.getElem_set_ne hk]
      exact hb.get i _ _
theorem FLe.vles {n : Nat} {l l' : List (Nat × EV)} (hs : sortedK l = true) (h : FLe l l') : VLes (frame n l) (frame n l') :=
  h.vles_aux hs _ _ (VLes.refl _) fun p _ hi => by simp
def maskT (m : Nat) : Nat → List EV → List EV
  | _, [] => []
  | i, v :: l => (bif m.testBit i then v else .undef) :: maskT m (i + 1) l
theorem maskT_le (m : Nat) : ∀ (i : Nat) (l : List EV), VLes l (maskT m i l)
  | _, [] => .nil
  | i, v :: l => by
    refine .cons ?_ (maskT_le m (i + 1) l)
    cases m.testBit i with
    | true => exact VLe.refl _
    | false => exact VLe.undef
theorem inR_i64 (n : Int) : inR .i64 n = (Decidable.decide (-9223372036854775808 ≤ n) && Decidable.decide (n ≤ 9223372036854775807)) := rfl
theorem inR_i32 (n : Int) : inR .i32 n = (Decidable.decide (-2147483648 ≤ n) && Decidable.decide (n ≤ 2147483647)) := rfl
theorem inR_u8 (n : Int) : inR .u8 n = (Decidable.decide (0 ≤ n) && Decidable.decide (n ≤ 255)) := rfl
theorem inR_u16 (n : Int) : inR .u16 n = (Decidable.decide (0 ≤ n) && Decidable.decide (n ≤ 65535)) := rfl
theorem inR_u32 (n : Int) : inR .u32 n = (Decidable.decide (0 ≤ n) && Decidable.decide (n ≤ 4294967295)) := rfl
theorem inR_u64 (n : Int) : inR .u64 n = (Decidable.decide (0 ≤ n) && Decidable.decide (n ≤ 18446744073709551615)) := rfl
def KM.upto (K : KM) (n : Nat) : KM := { K with al := fun r => K.al r ∧ r < n }
theorem VR.low {K : KM} {w : World} {v : EV} {mv : Value} {n : Nat} (h : VR K w v mv) : (∀ r ∈ v.refs, r < n) → VR (K.upto n) w v mv := by
  induction h with
  | pure v mv h => intro _; exact .pure _ _ h
  | ptr r k ha => intro hr; exact .ptr r k ⟨ha, hr r (by simp [EV.refs])⟩
  | pe r esz i k ha hi => intro hr; exact .pe r esz i k ⟨ha, hr r (by simp [EV.refs])⟩ hi
  | ms r esz off len cap mcap a ha hle hlen hcap hnone haddr => intro hr; exact .ms r esz off len cap mcap a ⟨ha, hr r (by simp [EV.refs])⟩ hle hlen hcap hnone haddr
  | mm r ha => intro hr; exact .mm r ⟨ha, hr r (by simp [EV.refs])⟩
  | it r ha => intro hr; exact .it r ⟨ha, hr r (by simp [EV.refs])⟩
  | agg cs mcs hl h1 _ ih => intro hr; exact .agg cs mcs hl h1 fun i a b => ih i a b fun r hx => hr r (by simp only [EV.refs]; exact refs_go_mem a hx)
  | tuple cs mcs hl _ ih => intro hr; exact .tuple cs mcs hl fun i a b => ih i a b fun r hx => hr r (by simp only [EV.refs]; exact refs_go_mem a hx)
  | func fn a c mf mc hl hl' _ _ ih ih' =>
    intro hr
    exact .func fn a c mf mc hl hl' (fun i x y => ih i x y fun r hx => hr r (by simp only [EV.refs, List.mem_append]; exact .inl (refs_go_mem x hx))) fun i x y => ih' i x y fun r hx => hr r (by simp only [EV.refs, List.mem_append]; exact .inr (refs_go_mem x hx))
  | iface t v mv _ ih => intro hr; exact .iface t v mv (ih fun r hx => hr r (by simpa only [EV.refs] using hx))
def lowO (n : Nat) : EObj → Bool
  | .loop .. => false
  | o => o.refs.all fun r => Decidable.decide (r < n)
theorem OR.low {K : KM} {w : World} {r n : Nat} {o : EObj} (hrn : r < n) (h : OR K w r o) (hl : lowO n o = true) : OR (K.upto n) w r o := by
  cases o with
  | free => exact fun ha => h ha.1
  | dead => trivial
  | loop => simp [lowO] at hl
  | dfr => exact ⟨⟨h.1, hrn⟩, h.2⟩
  | var fr pf cells =>
    have hr : ∀ r' ∈ (EObj.var fr pf cells).refs, r' < n := fun r' hr' => by simpa using List.all_eq_true.1 hl r' hr'
    obtain ⟨ha, h0, c, e, q1, q2, q3, q4, q5, q6, q7⟩ := h
    refine ⟨⟨ha, hrn⟩, h0, c, e, q1, q2, q3, q4, q5, fun i a b => ?_, q7⟩
    cases pf with
    | true => exact .pure _ _ (q7 rfl i a b)
    | false => exact (q6 i a b).low fun r' hr' => hr r' (by simp only [EObj.refs, List.mem_flatMap]; exact ⟨_, List.getElem_mem a, hr'⟩)
  | arr fr pf esz ex len row =>
    have hr : ∀ r' ∈ (EObj.arr fr pf esz ex len row).refs, r' < n := fun r' hr' => by simpa using List.all_eq_true.1 hl r' hr'
    obtain ⟨ha, h0, c, e, fz, q1, q2, q3, q4, q5, q6, q7, q8, q9, q10⟩ := h
    refine ⟨⟨ha, hrn⟩, h0, c, e, fz, q1, q2, q3, q4, q5, q6, q7, q8, fun i hi j hj hc => ?_, q10⟩
    cases pf with
    | true => exact .pure _ _ (q10 rfl i hi j hj hc)
    | false => exact (q9 i hi j hj hc).low fun r' hr' => hr r' (by simp only [EObj.refs, List.mem_flatMap]; exact ⟨i, by simpa using hi, _, List.getElem_mem hj, hr'⟩)
  | map fr pf es =>
    have hr : ∀ r' ∈ (EObj.map fr pf es).refs, r' < n := fun r' hr' => by simpa using List.all_eq_true.1 hl r' hr'
    obtain ⟨ha, mes, clock, q1, q2, q3, q4, q5, q6, q7⟩ := h
    refine ⟨⟨ha, hrn⟩, mes, clock, q1, q2, q3, fun i a b => ⟨.pure _ _ (q5 i a b), ?_⟩, q5, q6, q7⟩
    cases pf with
    | true => exact .pure _ _ (q6 rfl i a b)
    | false => exact (q4 i a b).2.low fun r' hr' => hr r' (by simp only [EObj.refs, List.mem_flatMap]; exact ⟨_, List.getElem_mem a, hr'⟩)
theorem get_pre {σ g : Heap} {r : Nat} {o : EObj} (h : σ[r]? = some o) : (σ ++ g)[r]? = some o := by
  rw [List.getElem?_append_left (List.getElem?_eq_some_iff.1 h).1]; exact h
theorem Owned.pre {K : KM} {σ g : Heap} {n b : Nat} (h : Owned (K.upto n) σ b) : Owned K (σ ++ g) b := by
  obtain ⟨r, o, h1, h2, h3⟩ := h
  exact ⟨r, o, get_pre h1, h2, h3⟩
theorem Rel.low {K : KM} {σ g : Heap} {w : World} (h : Rel K (σ ++ g) w) (hl : σ.all (lowO σ.length) = true) : Rel (K.upto σ.length) σ w := by
  refine ⟨fun r o ho => ?_, fun r r' o o' h1 h2 => h.inj r r' o o' (get_pre h1) (get_pre h2), fun b hb => h.notF b hb.pre, fun r o ho => h.lt r o (get_pre ho), h.Flt, fun r ha => ha.2⟩
  exact (h.obj r o (get_pre ho)).low (List.getElem?_eq_some_iff.1 ho).1 (List.all_eq_true.1 hl o (List.mem_of_getElem? ho))
theorem SemC.trunc {P : Program} {G : Nat → Option (List EV)} {rnd : Bool} {c : Code} {t t' : List EV} {σ σ0 g : Heap} {ex : EX} (h : SemC P G rnd c t σ (ex, t', σ0 ++ g)) (hlen : σ.length ≤ σ0.length)
    (hl : σ0.all (lowO σ0.length) = true) (ht : (t'.all fun v => v.refs.all fun r => Decidable.decide (r < σ0.length)) = true) : SemC P G rnd c t σ (ex, t', σ0) := by
  intro ro K w a hro hR hG hv
  refine wpIn_mono (h ro K w a hro hR hG hv) fun e a' w' hp => ?_
  have main : (∃ K' bs, Ext K σ w K' (σ0 ++ g) w' ∧ Rel K' (σ0 ++ g) w' ∧ VRs K' w' t' a'.tmps ∧ Marks K' (σ0 ++ g) w w' a.defers a'.defers bs) → ∃ K' bs, Ext K σ w K' σ0 w' ∧ Rel K' σ0 w' ∧ VRs K' w' t' a'.tmps ∧ Marks K' σ0 w w' a.defers a'.defers bs := by
    rintro ⟨K', bs, h3, h4, h5, h6, h7, h8⟩
    refine ⟨K'.upto σ0.length, bs, ⟨hlen, fun r ha => ⟨h3.al r ha, Nat.lt_of_lt_of_le (hR.alt r ha) hlen⟩, h3.blk, h3.F, h3.F', fun b hb => h3.own b hb.pre, h3.stay, h3.size, h3.os, h3.tape, h3.output⟩, h4.low hl, ⟨h5.1, fun i a b => ?_⟩, h6, h7, fun b hb => let ⟨x, y, z, u⟩ := h8 b hb; ⟨x, y, fun ho => z ho.pre, u⟩⟩
    exact (h5.2 i a b).low fun r hr => by simpa using List.all_eq_true.1 (List.all_eq_true.1 ht _ (List.getElem_mem a)) r hr
  cases e with
  | outgrown => exact hp.elim
  | normal => exact ⟨hp.1, main hp.2⟩
  | exit i => exact ⟨hp.1, main hp.2⟩
  | goto l => exact ⟨hp.1, main hp.2⟩
  | ret => exact ⟨hp.1, main hp.2⟩
  | panic c => exact ⟨hp.1, main hp.2⟩
end Go.Ev
namespace Go.Ev
def sameL (s : EV → EV → Bool) : List EV → List EV → Bool
  | [], [] => true
  | x :: xs, y :: ys => s x y && sameL s xs ys
  | _, _ => false
def sameR (s : EV → EV → Bool) (row row' : Nat → List EV) : Nat → Nat → Bool
  | _, 0 => true
  | i, n + 1 => sameL s (row i) (row' i) && sameR s row row' (i + 1) n
def sameP (s : EV → EV → Bool) : List (EV × EV) → List (EV × EV) → Bool
  | [], [] => true
  | x :: xs, y :: ys => s x.1 y.1 && s x.2 y.2 && sameP s xs ys
  | _, _ => false
def sameFn : Fn → Fn → Bool
  | .func f, .func g => f == g
  | _, _ => false
def sameN : Nat → EV → EV → Bool
  | 0, _, _ => false
  | n + 1, x, y =>
    match x, y with
    | .int k a, .int k' b => decide (k = k') && decide (a = b)
    | .bool a, .bool b => a == b
    | .str a, .str b => decide (a.data.toList = b.data.toList)
    | .isl nn esz len row, .isl nn' esz' len' row' => nn == nn' && esz == esz' && len == len' && sameR (sameN n) row row' 0 len
    | .agg a, .agg b => sameL (sameN n) a b
    | .tuple a, .tuple b => sameL (sameN n) a b
    | .nilp, .nilp | .nilm, .nilm | .nilf, .nilf | .nili, .nili => true
    | .ip a k, .ip b k' => k == k' && sameL (sameN n) a b
    | .im a, .im b => sameP (sameN n) a b
    | .func fn a c, .func fn' a' c' => sameFn fn fn' && sameL (sameN n) a a' && sameL (sameN n) c c'
    | .iface t v, .iface t' v' => t == t' && sameN n v v'
    | _, .undef => true
    | _, _ => false
section
variable {s : EV → EV → Bool}
theorem sameL_len : ∀ {a b : List EV}, sameL s a b = true → a.length = b.length
  | [], [], _ => rfl
  | x :: xs, y :: ys, h => by
    simp only [sameL, Bool.and_eq_true] at h
    simp [sameL_len h.2]
  | [], _ :: _, h => by simp [sameL] at h
  | _ :: _, [], h => by simp [sameL] at h
theorem sameL_get : ∀ {a b : List EV}, sameL s a b = true → ∀ i (h1 : i < a.length) (h2 : i < b.length), s a[i] b[i] = true
  | [], _, _ => fun i h => by simp at h
  | x :: xs, [], h => by simp [sameL] at h
  | x :: xs, y :: ys, h => by
    simp only [sameL, Bool.and_eq_true] at h
    intro i h1 h2
    cases i with
    | zero => exact h.1
    | succ i => simpa using sameL_get h.2 i (by simpa using h1) (by simpa using h2)
theorem sameR_get {row row' : Nat → List EV} : ∀ (n i : Nat), sameR s row row' i n = true → ∀ j, i ≤ j → j < i + n → sameL s (row j) (row' j) = true
  | 0, i, _ => fun j h1 h2 => by omega
  | n + 1, i, h => by
    simp only [sameR, Bool.and_eq_true] at h
    intro j h1 h2
    by_cases hj : j = i
    · subst hj; exact h.1
    · exact sameR_get n (i + 1) h.2 j (by omega) (by omega)
theorem sameP_len : ∀ {a b : List (EV × EV)}, sameP s a b = true → a.length = b.length
  | [], [], _ => rfl
  | x :: xs, y :: ys, h => by
    simp only [sameP, Bool.and_eq_true] at h
    simp [sameP_len h.2]
  | [], _ :: _, h => by simp [sameP] at h
  | _ :: _, [], h => by simp [sameP] at h
theorem sameP_get : ∀ {a b : List (EV × EV)}, sameP s a b = true → ∀ i (h1 : i < a.length) (h2 : i < b.length), s a[i].1 b[i].1 = true ∧ s a[i].2 b[i].2 = true
  | [], _, _ => fun i h => by simp at h
  | x :: xs, [], h => by simp [sameP] at h
  | x :: xs, y :: ys, h => by
    simp only [sameP, Bool.and_eq_true] at h
    intro i h1 h2
    cases i with
    | zero => exact h.1
    | succ i => simpa using sameP_get h.2 i (by simpa using h1) (by simpa using h2)
end
theorem bytes_eq {a b : ByteArray} (h : a.data.toList = b.data.toList) : a = b := by
  obtain ⟨⟨a⟩⟩ := a
  obtain ⟨⟨b⟩⟩ := b
  simp only at h
  subst h
  rfl
theorem sameN_le : ∀ (n : Nat) (x y : EV), sameN n x y = true → PLe x y := by
  intro n
  induction n with
  | zero => intro x y h; simp [sameN] at h
  | succ n ih =>
    intro x y h F w mv hp
    have lst : ∀ (a b : List EV) (mvs : Array Value), sameL (sameN n) a b = true → (∀ i (h : i < a.length) (h' : i < mvs.size), PR F w a[i] mvs[i]) → ∀ i (h : i < b.length) (h' : i < mvs.size), PR F w b[i] mvs[i] := by
      intro a b mvs hs ha i h1 h2
      have hl := sameL_len hs
      exact ih _ _ (sameL_get hs i (by omega) h1) F w _ (ha i (by omega) h2)
    unfold sameN at h
    split at h
    · simp only [Bool.and_eq_true, decide_eq_true_eq] at h
      obtain ⟨rfl, rfl⟩ := h
      exact hp
    · simp only [beq_iff_eq] at h
      subst h
      exact hp
    · simp only [decide_eq_true_eq] at h
      rw [← bytes_eq h]
      exact hp
    · rename_i nn esz len row nn' esz' len' row'
      simp only [Bool.and_eq_true, beq_iff_eq] at h
      obtain ⟨⟨⟨rfl, rfl⟩, rfl⟩, h⟩ := h
      have hg : ∀ i, i < len → sameL (sameN n) (row i) (row' i) = true := fun i hi => sameR_get len 0 h i (by omega) (by omega)
      cases hp with
      | isln => exact .isln _ _
      | isl _ _ _ b o cap mv hF hcap sp hsp hl hc hv =>
        refine .isl esz len row' b o cap mv hF hcap sp hsp (fun i hi => by rw [← sameL_len (hg i hi)]; exact hl i hi) hc fun i hi j hj => ?_
        have hl' := sameL_len (hg i hi)
        exact ih _ _ (sameL_get (hg i hi) j (by omega) hj) F w _ (hv i hi j (by omega))
    · cases hp with
      | agg _ mcs hl h1 hv => exact .agg _ mcs (by rw [← sameL_len h]; exact hl) h1 (lst _ _ mcs h hv)
    · cases hp with
      | tuple _ mcs hl hv => exact .tuple _ mcs (by rw [← sameL_len h]; exact hl) (lst _ _ mcs h hv)
    · exact hp
    · exact hp
    · exact hp
    · exact hp
    · rename_i a k b k'
      simp only [Bool.and_eq_true, beq_iff_eq] at h
      obtain ⟨rfl, h⟩ := h
      have hl := sameL_len h
      cases hp with
      | ip _ _ bb o mv hF hk hc hv =>
        refine .ip b k bb o mv hF (by omega) (fun j hj => hc j (by omega)) fun j hj => ?_
        exact ih _ _ (sameL_get h j (by omega) hj) F w _ (hv j (by omega))
    · rename_i a b
      have hl := sameP_len h
      cases hp with
      | im _ bb mes clock hF hm hle hk hv =>
        refine .im b bb mes clock hF hm (by omega) (fun i h1 h2 => ?_) fun i h1 h2 => ?_
        · exact ih _ _ (sameP_get h i (by omega) h1).1 F w _ (hk i (by omega) h2)
        · exact ih _ _ (sameP_get h i (by omega) h1).2 F w _ (hv i (by omega) h2)
    · rename_i fn a c fn' a' c'
      simp only [Bool.and_eq_true] at h
      obtain ⟨⟨h0, h1⟩, h2⟩ := h
      have hfn : fn = fn' := by
        unfold sameFn at h0
        split at h0
        · simp only [beq_iff_eq] at h0; rw [h0]
        · cases h0
      subst hfn
      cases hp with
      | func _ _ _ mf mc l1 l2 v1 v2 => exact .func fn a' c' mf mc (by rw [← sameL_len h1]; exact l1) (by rw [← sameL_len h2]; exact l2) (lst _ _ mf h1 v1) (lst _ _ mc h2 v2)
    · simp only [Bool.and_eq_true, beq_iff_eq] at h
      obtain ⟨rfl, h⟩ := h
      cases hp with
      | iface _ _ mv hv => exact .iface _ _ mv (ih _ _ h F w mv hv)
    · exact .undef _
    · cases h
abbrev Facts := List (FuncId × List EV × EV)
def findFact : Facts → FuncId → List EV → Option EV
  | [], _, _ => none
  | (g, as, v) :: t, f, args => if f = g then (if sameL (sameN 40) args as then some v else findFact t f args) else findFact t f args
def AllF (P : Program) (G : Nat → Option (List EV)) : Facts → Prop
  | [] => True
  | (g, as, v) :: t => SemP P G g as v ∧ AllF P G t
theorem sameL_ples : ∀ {a b : List EV}, sameL (sameN 40) a b = true → PLes a b
  | [], [], _ => .nil
  | x :: xs, y :: ys, h => by
    simp only [sameL, Bool.and_eq_true] at h
    exact .cons (sameN_le 40 x y h.1) (sameL_ples h.2)
  | [], _ :: _, h => by simp [sameL] at h
  | _ :: _, [], h => by simp [sameL] at h
theorem findFact_ok {P : Program} {G : Nat → Option (List EV)} : ∀ (T : Facts), AllF P G T → ∀ f args v, findFact T f args = some v → SemP P G f args v
  | [], _ => fun f args v h => by simp [findFact] at h
  | (g, as, x) :: t, hT => by
    intro f args v h
    unfold findFact at h
    split at h
    · rename_i hf
      subst hf
      split at h
      · rename_i hs
        obtain rfl := Option.some.inj h
        exact hT.1.weaken (sameL_ples hs) (PLe.refl _)
      · exact findFact_ok t hT.2 _ _ _ h
    · exact findFact_ok t hT.2 _ _ _ h
noncomputable def factD (P : Program) (G : Nat → Option (List EV)) (T : Facts) (pures news : FuncId → Bool) : Nat → Drv Unit
  | 0 => autoD P G pures news 0
  | n + 1 => { br := pure, chk := fun b => if b then pure () else M.fail, nw := pure, mode := fun f => pure (pures f), fresh := fun f => pure (news f), room := fun b => pure (if b then 3 else 0)
               pcall := fun f args => match findFact T f args with
                 | some v => pure v
                 | none => if entersE P f then pureE (factD P G T pures news n) P G 100000 f args else M.fail
               gcall := fun f args σ => if entersE P f then funE (factD P G T pures news n) P G 100000 f args σ else M.fail
               piece := fun _ _ _ _ => pure none
               keep := pure
               find := fun _ _ _ => pure none
               round := fun c t σ => codeE (factD P G T pures news n) P G true 100000 c t σ }
theorem factD_ok {P : Program} (G : Nat → Option (List EV)) (T : Facts) (hT : AllF P G T) (pures news : FuncId → Bool) (hm : P.follows .mixedOrders = true) : ∀ n, DOk (fun _ : Unit => True) P G (factD P G T pures news n) := by
  have hchk : ∀ b : Bool, Ok (fun _ : Unit => True) (if b then pure () else M.fail : M Unit Unit) fun _ => b = true := fun b => Ok.ite (fun h => Ok.pure h) fun _ => Ok.fail
  intro n
  induction n with
  | zero => exact autoD_ok G pures news hm 0
  | succ n ih =>
    exact { br := fun b => Ok.pure rfl, chk := hchk, nw := fun b => Ok.pure id, mode := fun f => Ok.pure trivial, fresh := fun f => Ok.pure trivial, room := fun _ => Ok.pure trivial
            pcall := fun f args => by
              show Ok _ (match findFact T f args with | some v => pure v | none => if entersE P f then pureE (factD P G T pures news n) P G 100000 f args else M.fail) _
              split
              · rename_i v hv
                exact Ok.pure (findFact_ok T hT f args v hv)
              · exact Ok.ite (fun he s v s' h hv => semP_of ih hm he h hv) fun _ => Ok.fail
            gcall := fun f args => fun σ => Ok.ite (fun he s r s' h hv => ⟨trivial, semF_of ih hm he h hv⟩) fun _ => Ok.fail
            round := fun c t σ => (codeE_ok ih hm true 100000 c t σ).mono fun r h => h.1
            piece := fun rnd c t σ => Ok.pure (fun r h => by cases h)
            keep := fun q => Ok.pure rfl, find := fun _ _ _ => Ok.pure (fun r h => by cases h) }
def comesTo (v : EV) : Option (EV × Unit) → Bool
  | some (x, _) => sameN 40 x v
  | none => false
theorem semP_fact {P : Program} {G : Nat → Option (List EV)} {T : Facts} (hT : AllF P G T) {pures news : FuncId → Bool} {n fuel : Nat} {f : FuncId} {args : List EV} {v : EV} (hm : P.follows .mixedOrders = true) (he : entersE P f = true)
    (h : comesTo v (pureE (factD P G T pures news n) P G fuel f args ()) = true) : SemP P G f args v := by
  cases hr : pureE (factD P G T pures news n) P G fuel f args () with
  | none => rw [hr] at h; cases h
  | some r =>
    obtain ⟨x, u⟩ := r
    rw [hr] at h
    exact (semP_of (factD_ok G T hT pures news hm n) hm he hr trivial).2.res (sameN_le 40 x v h)
end Go.Ev
