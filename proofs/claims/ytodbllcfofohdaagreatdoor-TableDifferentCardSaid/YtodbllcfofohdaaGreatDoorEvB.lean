/- A part of the proof: EvMem, EvMem2, EvLoud, EvLoud2, EvLoud3, EvLoud4, EvLoud5, EvLoud6, EvOp, EvOp2. -/
import Derived.Test.YtodbllcfofohdaaGreatDoorEvA
import Derived.RangeFuncRecord
set_option linter.unusedSimpArgs false
set_option linter.unusedVariables false
namespace Go.Ev
structure Wr (w w' : World) (b : Nat) (o : Obj) : Prop where
  size : w'.heap.size = w.heap.size
  other : ∀ b', b' ≠ b → w'.heap[b']? = w.heap[b']?
  here : w'.heap[b]? = some o
  os : w'.os = w.os
  tape : w'.tape = w.tape
  output : w'.output = w.output
structure New (w w' : World) (o : Obj) : Prop where
  size : w'.heap.size = w.heap.size + 1
  other : ∀ b', b' < w.heap.size → w'.heap[b']? = w.heap[b']?
  here : w'.heap[w.heap.size]? = some o
  os : w'.os = w.os
  tape : w'.tape = w.tape
  output : w'.output = w.output
theorem New.push (w : World) (o : Obj) : New w { w with heap := w.heap.push o } o :=
  ⟨by simp, fun b' h => by simp only [Array.getElem?_push]; rw [if_neg (by omega)], by simp, rfl, rfl, rfl⟩
theorem New.drawn {w w' : World} {o : Obj} (h : New w w' o) (n : Nat) : New w { w' with drawn := n } o := ⟨h.size, h.other, h.here, h.os, h.tape, h.output⟩
theorem New.drawn0 {w w' : World} {o : Obj} (n : Nat) (h : New { w with drawn := n } w' o) : New w w' o := ⟨h.size, h.other, h.here, h.os, h.tape, h.output⟩
def KM.new (K : KM) (nm b o e l : Nat) : KM where
  blk := fun r => if r = nm then b else K.blk r
  off := fun r => if r = nm then o else K.off r
  ext := fun r => if r = nm then e else K.ext r
  len := fun r => if r = nm then l else K.len r
  al := fun r => r = nm ∨ K.al r
  F := K.F
theorem OR.al {K : KM} {w : World} {r : Nat} {o : EObj} (h : OR K w r o) (ht : o.there = true) : K.al r := by
  cases o with
  | free => simp [EObj.there] at ht
  | dead => simp [EObj.there] at ht
  | var => exact h.1
  | arr => exact h.1
  | map => exact h.1
  | loop => exact h.1
  | dfr => exact h.1
theorem OR.ext {K K' : KM} {σ σ' : Heap} {w w' : World} (h : Ext K σ w K' σ' w') (hr : Rel K σ w) {r : Nat} {o : EObj} (ho : OR K w r o) (hf : o ≠ .free)
    (hb : o.there = true → w'.heap[K.blk r]? = w.heap[K.blk r]?) : OR K' w' r o := by
  cases o with
  | free => exact absurd rfl hf
  | dead => trivial
  | var fr pf cells =>
    obtain ⟨ha, h0, c, e, h1, h2, h3, h4, h5, h6, h7⟩ := ho
    obtain ⟨b1, b2, b3, b4⟩ := h.blk r ha
    refine ⟨h.al r ha, b2.trans h0, c, e, ?_, h2, b3.trans h3, h4, fun hfr => ?_, fun i a b => (h6 i a b).ext h hr, fun hp i a b => (h7 hp i a b).ext h hr⟩
    · rw [b1, hb rfl]; exact h1
    · rw [b1]; exact h.F _ (h5 hfr)
  | arr fr pf esz ex len row =>
    obtain ⟨ha, hl, c, e, fz, h1, h2, h3, h4, h5, h6, h7, h8, h9, h10⟩ := ho
    obtain ⟨b1, b2, b3, b4⟩ := h.blk r ha
    refine ⟨h.al r ha, b4.trans hl, c, e, fz, ?_, h2, b3.trans h3, h4, by rw [b2]; exact h5, fun he => by rw [b2]; exact h6 he, fun hfr => ?_, h8, ?_, ?_⟩
    · rw [b1, hb rfl]; exact h1
    · rw [b1]; exact h.F _ (h7 hfr)
    · intro i hi j hj hc; exact (by rw [b2] at hc; simpa only [b2] using (h9 i hi j hj hc).ext h hr)
    · intro hp i hi j hj hc; exact (by rw [b2] at hc; simpa only [b2] using (h10 hp i hi j hj hc).ext h hr)
  | map fr pf es =>
    obtain ⟨ha, mes, clock, h1, h2, h3, h4, h5, h6, h7⟩ := ho
    obtain ⟨b1, b2, b3, b4⟩ := h.blk r ha
    refine ⟨h.al r ha, mes, clock, ?_, h2, fun hfr => ?_, fun i a b => ⟨(h4 i a b).1.ext h hr, (h4 i a b).2.ext h hr⟩, fun i a b => (h5 i a b).ext h hr, fun hp i a b => (h6 hp i a b).ext h hr, h7⟩
    · rw [b1, hb rfl]; exact h1
    · rw [b1]; exact h.F _ (h3 hfr)
  | loop st tmps ps assign body pend =>
    obtain ⟨ha, fn, mt, d, h1, h2, h3⟩ := ho
    obtain ⟨b1, b2, b3, b4⟩ := h.blk r ha
    exact ⟨h.al r ha, fn, mt, d, by rw [b1, hb rfl]; exact h1, h2, fun i a b => (h3 i a b).ext h hr⟩
  | dfr =>
    obtain ⟨ha, h1⟩ := ho
    obtain ⟨b1, b2, b3, b4⟩ := h.blk r ha
    exact ⟨h.al r ha, by rw [b1, hb rfl]; exact h1⟩
theorem there_of_live {o : EObj} (h : o.live = true) : o.there = true := by cases o <;> simp [EObj.live, EObj.there] at *
theorem Rel.new {K : KM} {σ : Heap} {w w' : World} (hr : Rel K σ w) {nm : Nat} (hfree : σ[nm]? = some .free) {o : Obj} (hN : New w w' o) {obj : EObj} (hlive : obj.live = true) {off e l : Nat}
    (hO : ∀ σ', Ext K σ w (K.new nm w.heap.size off e l) σ' w' → OR (K.new nm w.heap.size off e l) w' nm obj) :
    Ext K σ w (K.new nm w.heap.size off e l) (σ.set nm obj) w' ∧ Rel (K.new nm w.heap.size off e l) (σ.set nm obj) w' := by
  have hnal : ¬ K.al nm := hr.obj nm .free hfree
  have hlt : nm < σ.length := by
    rcases Nat.lt_or_ge nm σ.length with h | h
    · exact h
    · rw [List.getElem?_eq_none h] at hfree; cases hfree
  have hget : ∀ r, (σ.set nm obj)[r]? = if r = nm then some obj else σ[r]? := by
    intro r
    rw [List.getElem?_set]
    by_cases h : nm = r
    · subst h; simp [hlt]
    · simp [h, Ne.symm h]
  have hne : ∀ r, K.al r → r ≠ nm := fun r ha h => hnal (h ▸ ha)
  have hE : Ext K σ w (K.new nm w.heap.size off e l) (σ.set nm obj) w' := by
    refine ⟨by simp, fun r h => .inr h, fun r h => ?_, fun b h => h, fun b h => .inl h, ?_, fun b hb _ => hN.other b hb, by rw [hN.size]; omega, hN.os, hN.tape, hN.output⟩
    · simp [KM.new, hne r h]
    · rintro b ⟨r, o', h1, h2, h3⟩
      rw [hget] at h1
      by_cases hrn : r = nm
      · subst hrn
        left; simp only [KM.new, if_pos] at h3; omega
      · rw [if_neg hrn] at h1
        right; exact ⟨r, o', h1, h2, by simpa [KM.new, hrn] using h3⟩
  refine ⟨hE, ?_, ?_, ?_, ?_, ?_, ?_⟩
  · intro r o' h1
    rw [hget] at h1
    by_cases hrn : r = nm
    · subst hrn
      rw [if_pos rfl] at h1
      obtain rfl := Option.some.inj h1
      exact hO _ hE
    · rw [if_neg hrn] at h1
      by_cases hfr : o' = .free
      · subst hfr
        have := hr.obj r _ h1
        rintro (h | h)
        · exact hrn h
        · exact this h
      · exact (hr.obj r o' h1).ext hE hr hfr fun ht => hN.other _ (hr.lt r o' h1 ht)
  · intro r r' o1 o2 h1 h2 l1 l2 hb
    rw [hget] at h1 h2
    by_cases hrn : r = nm
    · by_cases hrn' : r' = nm
      · rw [hrn, hrn']
      · rw [if_neg hrn'] at h2
        have := hr.lt r' o2 h2 (there_of_live l2)
        simp only [KM.new, hrn, hrn', if_pos, if_false] at hb
        omega
    · by_cases hrn' : r' = nm
      · rw [if_neg hrn] at h1
        have := hr.lt r o1 h1 (there_of_live l1)
        simp only [KM.new, hrn, hrn', if_pos, if_false] at hb
        omega
      · rw [if_neg hrn] at h1
        rw [if_neg hrn'] at h2
        simp only [KM.new, hrn, hrn', if_false] at hb
        exact hr.inj r r' o1 o2 h1 h2 l1 l2 hb
  · intro b hb hF
    rcases hE.own b hb with h | h
    · have := hr.Flt b hF; omega
    · exact hr.notF b h hF
  · intro r o' h1 ht
    rw [hget] at h1
    rw [hN.size]
    by_cases hrn : r = nm
    · simp only [KM.new, hrn, if_pos]; omega
    · rw [if_neg hrn] at h1
      have := hr.lt r o' h1 ht
      simp only [KM.new, hrn, if_false]; omega
  · intro b hF
    have := hr.Flt b hF
    rw [hN.size]; omega
  · rintro r (h | h)
    · simp; omega
    · simp; exact hr.alt r h
theorem Rel.write {K : KM} {σ : Heap} {w w' : World} (hr : Rel K σ w) {r : Nat} {obj obj' : EObj} (hobj : σ[r]? = some obj) (hlive : obj.live = true) {o : Obj} (hW : Wr w w' (K.blk r) o) (hlive' : obj'.live = true)
    (hO : ∀ σ', Ext K σ w K σ' w' → OR K w' r obj') :
    Ext K σ w K (σ.set r obj') w' ∧ Rel K (σ.set r obj') w' := by
  have hlt : r < σ.length := by
    rcases Nat.lt_or_ge r σ.length with h | h
    · exact h
    · rw [List.getElem?_eq_none h] at hobj; cases hobj
  have hget : ∀ r', (σ.set r obj')[r']? = if r' = r then some obj' else σ[r']? := by
    intro r'
    rw [List.getElem?_set]
    by_cases h : r = r'
    · subst h; simp [hlt]
    · simp [h, Ne.symm h]
  have hown : Owned K σ (K.blk r) := ⟨r, obj, hobj, hlive, rfl⟩
  have hE : Ext K σ w K (σ.set r obj') w' := by
    refine ⟨by simp, fun r h => h, fun r h => ⟨rfl, rfl, rfl, rfl⟩, fun b h => h, fun b h => .inl h, ?_, fun b hb hn => hW.other b (fun h => hn (h ▸ hown)), by rw [hW.size]; omega, hW.os, hW.tape, hW.output⟩
    rintro b ⟨r', o', h1, h2, h3⟩
    rw [hget] at h1
    by_cases hrn : r' = r
    · subst hrn; right; exact h3 ▸ hown
    · rw [if_neg hrn] at h1
      right; exact ⟨r', o', h1, h2, h3⟩
  refine ⟨hE, ?_, ?_, ?_, ?_, ?_, ?_⟩
  · intro r' o' h1
    rw [hget] at h1
    by_cases hrn : r' = r
    · subst hrn
      rw [if_pos rfl] at h1
      obtain rfl := Option.some.inj h1
      exact hO _ hE
    · rw [if_neg hrn] at h1
      by_cases hfr : o' = .free
      · subst hfr
        exact hr.obj r' _ h1
      · refine (hr.obj r' o' h1).ext hE hr hfr fun ht => hW.other _ fun hb => ?_
        cases hl : o'.live with
        | true => exact hrn (hr.inj r' r o' obj h1 hobj hl hlive hb)
        | false =>
          have hF : K.F (K.blk r') := by
            have ho := hr.obj r' o' h1
            cases o' with
            | free => simp [EObj.there] at ht
            | dead => simp [EObj.there] at ht
            | var fr pf c => simp only [EObj.live, Bool.not_eq_false'] at hl; obtain ⟨_, _, _, _, _, _, _, _, h5, _⟩ := ho; exact h5 hl
            | arr fr pf esz ex len row => simp only [EObj.live, Bool.not_eq_false'] at hl; obtain ⟨_, _, _, _, _, _, _, _, _, _, _, h7, _⟩ := ho; exact h7 hl
            | map fr pf es => simp only [EObj.live, Bool.not_eq_false'] at hl; obtain ⟨_, _, _, _, _, h3, _⟩ := ho; exact h3 hl
            | loop st t ps x y p => simp [EObj.live] at hl
            | dfr => simp [EObj.live] at hl
          exact hr.notF _ hown (hb ▸ hF)
  · intro r1 r2 o1 o2 h1 h2 l1 l2 hb
    rw [hget] at h1 h2
    have e1 : ∃ o1', σ[r1]? = some o1' ∧ o1'.live = true := by
      by_cases h : r1 = r
      · subst h; exact ⟨obj, hobj, hlive⟩
      · rw [if_neg h] at h1; exact ⟨o1, h1, l1⟩
    have e2 : ∃ o1', σ[r2]? = some o1' ∧ o1'.live = true := by
      by_cases h : r2 = r
      · subst h; exact ⟨obj, hobj, hlive⟩
      · rw [if_neg h] at h2; exact ⟨o2, h2, l2⟩
    obtain ⟨p1, q1, q2⟩ := e1
    obtain ⟨p2, q3, q4⟩ := e2
    exact hr.inj r1 r2 p1 p2 q1 q3 q2 q4 hb
  · intro b hb hF
    rcases hE.own b hb with h | h
    · have := hr.Flt b hF; omega
    · exact hr.notF b h hF
  · intro r' o' h1 ht
    rw [hget] at h1
    rw [hW.size]
    by_cases hrn : r' = r
    · subst hrn; exact hr.lt r' obj hobj (there_of_live hlive)
    · rw [if_neg hrn] at h1
      exact hr.lt r' o' h1 ht
  · intro b hF
    rw [hW.size]; exact hr.Flt b hF
  · intro r' h
    simp; exact hr.alt r' h
end Go.Ev
namespace Go.Ev
theorem set_get {σ : Heap} {r : Nat} {o o' : EObj} (h : σ[r]? = some o) (r' : Nat) : (σ.set r o')[r']? = if r' = r then some o' else σ[r']? := by
  have hlt : r < σ.length := by
    rcases Nat.lt_or_ge r σ.length with h' | h'
    · exact h'
    · rw [List.getElem?_eq_none h'] at h; cases h
  rw [List.getElem?_set]
  by_cases h : r = r'
  · subst h; simp [hlt]
  · simp [h, Ne.symm h]
theorem Rel.kill {K : KM} {σ : Heap} {w : World} (hr : Rel K σ w) {r : Nat} {o : EObj} (ho : σ[r]? = some o) : Ext K σ w K (σ.set r .dead) w ∧ Rel K (σ.set r .dead) w := by
  have hget := set_get (o' := .dead) ho
  have hown : ∀ b, Owned K (σ.set r .dead) b → Owned K σ b := by
    rintro b ⟨r', o', h1, h2, h3⟩
    rw [hget] at h1
    by_cases hrn : r' = r
    · rw [if_pos hrn] at h1; obtain rfl := Option.some.inj h1; simp [EObj.live] at h2
    · rw [if_neg hrn] at h1; exact ⟨r', o', h1, h2, h3⟩
  refine ⟨⟨by simp, fun r h => h, fun r h => ⟨rfl, rfl, rfl, rfl⟩, fun b h => h, fun b h => .inl h, fun b h => .inr (hown b h), fun _ _ _ => rfl, Nat.le_refl _, rfl, rfl, rfl⟩, ?_, ?_, fun b hb => hr.notF b (hown b hb), ?_, hr.Flt, fun r h => by simpa using hr.alt r h⟩
  · intro r' o' h1
    rw [hget] at h1
    by_cases hrn : r' = r
    · rw [if_pos hrn] at h1; obtain rfl := Option.some.inj h1; trivial
    · rw [if_neg hrn] at h1; exact hr.obj r' o' h1
  · intro r1 r2 o1 o2 h1 h2 l1 l2 hb
    rw [hget] at h1 h2
    by_cases e1 : r1 = r
    · rw [if_pos e1] at h1; obtain rfl := Option.some.inj h1; simp [EObj.live] at l1
    · by_cases e2 : r2 = r
      · rw [if_pos e2] at h2; obtain rfl := Option.some.inj h2; simp [EObj.live] at l2
      · rw [if_neg e1] at h1; rw [if_neg e2] at h2
        exact hr.inj r1 r2 o1 o2 h1 h2 l1 l2 hb
  · intro r' o' h1 ht
    rw [hget] at h1
    by_cases hrn : r' = r
    · rw [if_pos hrn] at h1; obtain rfl := Option.some.inj h1; simp [EObj.there] at ht
    · rw [if_neg hrn] at h1; exact hr.lt r' o' h1 ht
theorem Rel.inherit {K : KM} {σ : Heap} {w w' : World} (hr : Rel K σ w) {nm r : Nat} (hfree : σ[nm]? = some .free) {obj0 : EObj} (hobj : σ[r]? = some obj0) (hlive0 : obj0.live = true)
    {o : Obj} (hW : Wr w w' (K.blk r) o) {obj : EObj} (hlive : obj.live = true) {off e l : Nat}
    (hO : ∀ σ', Ext K σ w (K.new nm (K.blk r) off e l) σ' w' → OR (K.new nm (K.blk r) off e l) w' nm obj) :
    Ext K σ w (K.new nm (K.blk r) off e l) ((σ.set nm obj).set r .dead) w' ∧ Rel (K.new nm (K.blk r) off e l) ((σ.set nm obj).set r .dead) w' := by
  have hnal : ¬ K.al nm := hr.obj nm .free hfree
  have hnr : nm ≠ r := by
    rintro rfl
    rw [hfree] at hobj; obtain rfl := Option.some.inj hobj; simp [EObj.live] at hlive0
  have hown0 : Owned K σ (K.blk r) := ⟨r, obj0, hobj, hlive0, rfl⟩
  have hget : ∀ r', ((σ.set nm obj).set r .dead)[r']? = if r' = r then some .dead else if r' = nm then some obj else σ[r']? := by
    intro r'
    have h1 := set_get (o' := obj) hfree
    have h2 : (σ.set nm obj)[r]? = some obj0 := by rw [h1, if_neg (Ne.symm hnr)]; exact hobj
    rw [set_get h2, h1]
  have hne : ∀ r, K.al r → r ≠ nm := fun r ha h => hnal (h ▸ ha)
  have hE : Ext K σ w (K.new nm (K.blk r) off e l) ((σ.set nm obj).set r .dead) w' := by
    refine ⟨by simp, fun r h => .inr h, fun r h => ?_, fun b h => h, fun b h => .inl h, ?_, fun b hb hn => hW.other b (fun h => hn (h ▸ hown0)), by rw [hW.size]; omega, hW.os, hW.tape, hW.output⟩
    · simp [KM.new, hne r h]
    · rintro b ⟨r', o', h1, h2, h3⟩
      rw [hget] at h1
      right
      by_cases e1 : r' = r
      · rw [if_pos e1] at h1; obtain rfl := Option.some.inj h1; simp [EObj.live] at h2
      · rw [if_neg e1] at h1
        by_cases e2 : r' = nm
        · subst e2; simp only [KM.new, if_pos] at h3; exact h3 ▸ hown0
        · rw [if_neg e2] at h1
          exact ⟨r', o', h1, h2, by simpa [KM.new, e2] using h3⟩
  have hblk : ∀ r' o', σ[r']? = some o' → r' ≠ r → o'.there = true → K.blk r' ≠ K.blk r := by
    intro r' o' h1 hrn ht hb
    cases hl : o'.live with
    | true => exact hrn (hr.inj r' r o' obj0 h1 hobj hl hlive0 hb)
    | false =>
      have hF : K.F (K.blk r') := by
        have ho := hr.obj r' o' h1
        cases o' with
        | free => simp [EObj.there] at ht
        | dead => simp [EObj.there] at ht
        | var fr pf c => simp only [EObj.live, Bool.not_eq_false'] at hl; obtain ⟨_, _, _, _, _, _, _, _, h5, _⟩ := ho; exact h5 hl
        | arr fr pf esz ex len row => simp only [EObj.live, Bool.not_eq_false'] at hl; obtain ⟨_, _, _, _, _, _, _, _, _, _, _, h7, _⟩ := ho; exact h7 hl
        | map fr pf es => simp only [EObj.live, Bool.not_eq_false'] at hl; obtain ⟨_, _, _, _, _, h3, _⟩ := ho; exact h3 hl
        | loop st t ps x y p => simp [EObj.live] at hl
        | dfr => simp [EObj.live] at hl
      exact hr.notF _ hown0 (hb ▸ hF)
  refine ⟨hE, ?_, ?_, ?_, ?_, ?_, ?_⟩
  · intro r' o' h1
    rw [hget] at h1
    by_cases e1 : r' = r
    · rw [if_pos e1] at h1; obtain rfl := Option.some.inj h1; trivial
    · rw [if_neg e1] at h1
      by_cases e2 : r' = nm
      · subst e2
        rw [if_pos rfl] at h1
        obtain rfl := Option.some.inj h1
        exact hO _ hE
      · rw [if_neg e2] at h1
        by_cases hfr : o' = .free
        · subst hfr
          rintro (h | h)
          · exact e2 h
          · exact hr.obj r' _ h1 h
        · exact (hr.obj r' o' h1).ext hE hr hfr fun ht => hW.other _ (hblk r' o' h1 e1 ht)
  · intro r1 r2 o1 o2 h1 h2 l1 l2 hb
    rw [hget] at h1 h2
    by_cases e1 : r1 = r
    · rw [if_pos e1] at h1; obtain rfl := Option.some.inj h1; simp [EObj.live] at l1
    by_cases e2 : r2 = r
    · rw [if_pos e2] at h2; obtain rfl := Option.some.inj h2; simp [EObj.live] at l2
    rw [if_neg e1] at h1
    rw [if_neg e2] at h2
    by_cases n1 : r1 = nm
    · by_cases n2 : r2 = nm
      · rw [n1, n2]
      · rw [if_neg n2] at h2
        simp only [KM.new, n1, n2, if_pos, if_false] at hb
        exact absurd hb.symm (hblk r2 o2 h2 e2 (there_of_live l2))
    · by_cases n2 : r2 = nm
      · rw [if_neg n1] at h1
        simp only [KM.new, n1, n2, if_pos, if_false] at hb
        exact absurd hb (hblk r1 o1 h1 e1 (there_of_live l1))
      · rw [if_neg n1] at h1
        rw [if_neg n2] at h2
        simp only [KM.new, n1, n2, if_false] at hb
        exact hr.inj r1 r2 o1 o2 h1 h2 l1 l2 hb
  · intro b hb hF
    rcases hE.own b hb with h | h
    · have := hr.Flt b hF; omega
    · exact hr.notF b h hF
  · intro r' o' h1 ht
    rw [hget] at h1
    rw [hW.size]
    by_cases e1 : r' = r
    · rw [if_pos e1] at h1; obtain rfl := Option.some.inj h1; simp [EObj.there] at ht
    rw [if_neg e1] at h1
    by_cases e2 : r' = nm
    · simp only [KM.new, e2, if_pos]; exact hr.lt r obj0 hobj (there_of_live hlive0)
    · rw [if_neg e2] at h1
      have := hr.lt r' o' h1 ht
      simp only [KM.new, e2, if_false]; omega
  · intro b hF
    have := hr.Flt b hF
    rw [hW.size]; omega
  · rintro r' (h | h)
    · subst h
      simp only [List.length_set]
      rcases Nat.lt_or_ge r' σ.length with h' | h'
      · exact h'
      · rw [List.getElem?_eq_none h'] at hfree; cases hfree
    · simpa using hr.alt r' h
def KM.frz (K : KM) (b : Nat) : KM := { K with F := fun b' => K.F b' ∨ b' = b }
theorem frozenOf_idem (o : EObj) : frozenOf (frozenOf o) = frozenOf o := by cases o <;> rfl
theorem frozenOf_frz (o : EObj) : (frozenOf o).frz = o.frz := by cases o <;> rfl
theorem frozenOf_live (o : EObj) : (frozenOf o).live = false := by cases o <;> rfl
theorem frozenOf_of_dead {o : EObj} (h : o.live = false) : frozenOf o = o := by
  cases o <;> simp_all [frozenOf, EObj.live]
theorem Rel.freeze {K : KM} {σ : Heap} {w : World} (hr : Rel K σ w) {r : Nat} {o : EObj} (ho : σ[r]? = some o) (hfz : o.frz = true) :
    Ext K σ w (K.frz (K.blk r)) (σ.set r (frozenOf o)) w ∧ Rel (K.frz (K.blk r)) (σ.set r (frozenOf o)) w := by
  have hget := set_get (o' := frozenOf o) ho
  have hth : o.there = true := by cases o <;> simp_all [EObj.frz, EObj.there]
  have hblt := hr.lt r o ho hth
  have hown : ∀ b, Owned (K.frz (K.blk r)) (σ.set r (frozenOf o)) b → Owned K σ b ∧ b ≠ K.blk r := by
    rintro b ⟨r', o', h1, h2, h3⟩
    rw [hget] at h1
    by_cases hrn : r' = r
    · rw [if_pos hrn] at h1; obtain rfl := Option.some.inj h1; rw [frozenOf_live] at h2; cases h2
    · rw [if_neg hrn] at h1
      refine ⟨⟨r', o', h1, h2, h3⟩, fun hb => ?_⟩
      subst hb
      cases hl : o.live with
      | true => exact hrn (hr.inj r' r o' o h1 ho h2 hl h3)
      | false =>
        have hF : K.F (K.blk r) := by
          have ho' := hr.obj r o ho
          cases o with
          | free => simp [EObj.there] at hth
          | dead => simp [EObj.there] at hth
          | var fr pf c => simp only [EObj.live, Bool.not_eq_false'] at hl; obtain ⟨_, _, _, _, _, _, _, _, h5, _⟩ := ho'; exact h5 hl
          | arr fr pf esz ex len row => simp only [EObj.live, Bool.not_eq_false'] at hl; obtain ⟨_, _, _, _, _, _, _, _, _, _, _, h7, _⟩ := ho'; exact h7 hl
          | map fr pf es => simp only [EObj.live, Bool.not_eq_false'] at hl; obtain ⟨_, _, _, _, _, h3', _⟩ := ho'; exact h3' hl
          | loop st t ps x y p => simp [EObj.live] at hl
          | dfr => simp [EObj.live] at hl
        exact hr.notF _ ⟨r', o', h1, h2, h3⟩ hF
  have hE : Ext K σ w (K.frz (K.blk r)) (σ.set r (frozenOf o)) w := by
    refine ⟨by simp, fun r h => h, fun r h => ⟨rfl, rfl, rfl, rfl⟩, fun b h => .inl h, fun b h => ?_, fun b h => .inr (hown b h).1, fun _ _ _ => rfl, Nat.le_refl _, rfl, rfl, rfl⟩
    rcases h with h | h
    · exact .inl h
    · subst h
      cases hl : o.live with
      | true => exact .inr (.inr ⟨r, o, ho, hl, rfl⟩)
      | false =>
        left
        have ho' := hr.obj r o ho
        cases o with
        | free => simp [EObj.there] at hth
        | dead => simp [EObj.there] at hth
        | var fr pf c => simp only [EObj.live, Bool.not_eq_false'] at hl; obtain ⟨_, _, _, _, _, _, _, _, h5, _⟩ := ho'; exact h5 hl
        | arr fr pf esz ex len row => simp only [EObj.live, Bool.not_eq_false'] at hl; obtain ⟨_, _, _, _, _, _, _, _, _, _, _, h7, _⟩ := ho'; exact h7 hl
        | map fr pf es => simp only [EObj.live, Bool.not_eq_false'] at hl; obtain ⟨_, _, _, _, _, h3', _⟩ := ho'; exact h3' hl
        | loop st t ps x y p => simp [EObj.live] at hl
        | dfr => simp [EObj.live] at hl
  refine ⟨hE, ?_, ?_, ?_, ?_, ?_, ?_⟩
  · intro r' o' h1
    rw [hget] at h1
    by_cases hrn : r' = r
    · subst hrn
      rw [if_pos rfl] at h1
      obtain rfl := Option.some.inj h1
      have hfr : o ≠ .free := by rintro rfl; simp [EObj.there] at hth
      have := (hr.obj r' o ho).ext hE hr hfr fun _ => rfl
      cases o with
      | free => exact absurd rfl hfr
      | dead => trivial
      | var fr pf c =>
        obtain ⟨a1, a2, c, e, a3, a4, a5, a6, _, a7, a8⟩ := this
        exact ⟨a1, a2, c, e, a3, a4, a5, a6, fun _ => .inr rfl, a7, a8⟩
      | arr fr pf esz ex len row =>
        obtain ⟨a1, a2, c, e, fz, a3, a4, a5, a6, a7, a8, _, a9⟩ := this
        exact ⟨a1, a2, c, e, fz, a3, a4, a5, a6, a7, a8, fun _ => .inr rfl, a9⟩
      | map fr pf es =>
        obtain ⟨a1, mes, clock, a2, a3, _, a4⟩ := this
        exact ⟨a1, mes, clock, a2, a3, fun _ => .inr rfl, a4⟩
      | loop st t ps x y p => simp [EObj.frz] at hfz
      | dfr => simp [EObj.frz] at hfz
    · rw [if_neg hrn] at h1
      by_cases hfr : o' = .free
      · subst hfr; exact hr.obj r' _ h1
      · exact (hr.obj r' o' h1).ext hE hr hfr fun _ => rfl
  · intro r1 r2 o1 o2 h1 h2 l1 l2 hb
    rw [hget] at h1 h2
    by_cases e1 : r1 = r
    · rw [if_pos e1] at h1; obtain rfl := Option.some.inj h1; rw [frozenOf_live] at l1; cases l1
    · by_cases e2 : r2 = r
      · rw [if_pos e2] at h2; obtain rfl := Option.some.inj h2; rw [frozenOf_live] at l2; cases l2
      · rw [if_neg e1] at h1; rw [if_neg e2] at h2
        exact hr.inj r1 r2 o1 o2 h1 h2 l1 l2 hb
  · rintro b hb (hF | hF)
    · exact hr.notF b (hown b hb).1 hF
    · exact (hown b hb).2 hF
  · intro r' o' h1 ht
    rw [hget] at h1
    by_cases hrn : r' = r
    · subst hrn; exact hblt
    · rw [if_neg hrn] at h1; exact hr.lt r' o' h1 ht
  · rintro b (hF | hF)
    · exact hr.Flt b hF
    · subst hF; exact hblt
  · intro r' h; simpa using hr.alt r' h
def KM.frzs (K : KM) : List Nat → KM
  | [] => K
  | r :: rs => (K.frz (K.blk r)).frzs rs
theorem frzs_blk (K : KM) : ∀ rs, (K.frzs rs).blk = K.blk ∧ (K.frzs rs).off = K.off ∧ (K.frzs rs).ext = K.ext ∧ (K.frzs rs).len = K.len ∧ (K.frzs rs).al = K.al := by
  intro rs
  induction rs generalizing K with
  | nil => exact ⟨rfl, rfl, rfl, rfl, rfl⟩
  | cons r rs ih => exact ih (K.frz (K.blk r))
theorem frzs_F (K : KM) : ∀ rs b, (K.frzs rs).F b ↔ K.F b ∨ ∃ r ∈ rs, b = K.blk r := by
  intro rs
  induction rs generalizing K with
  | nil => intro b; simp [KM.frzs]
  | cons r rs ih =>
    intro b
    rw [show (K.frzs (r :: rs)) = (K.frz (K.blk r)).frzs rs from rfl, ih]
    simp [KM.frz, or_assoc]
theorem Rel.freezeAll {look : Look} {w : World} : ∀ (rs : List Nat) (K : KM) (σ : Heap) (u : Upd), Rel K σ w → (∀ r o, look r = some o → σ[r]? = some o ∨ σ[r]? = some (frozenOf o)) →
    freezeAll look rs = some u → Ext K σ w (K.frzs rs) (applyU σ u) w ∧ Rel (K.frzs rs) (applyU σ u) w := by
  intro rs
  induction rs with
  | nil =>
    intro K σ u hr _ h
    simp only [Ev.freezeAll, Option.some.injEq] at h
    subst h
    exact ⟨Ext.refl _ _ _, hr⟩
  | cons r rs ih =>
    intro K σ u hr hl h
    unfold Ev.freezeAll at h
    split at h
    · rename_i o u' ho hu
      split at h
      · rename_i hpf
        have hlive : (if o.live = true then some ((r, frozenOf o) :: u') else some u') = some u := h
        have step : Ext K σ w (K.frz (K.blk r)) (σ.set r (frozenOf o)) w ∧ Rel (K.frz (K.blk r)) (σ.set r (frozenOf o)) w := by
          rcases hl r o ho with h1 | h1
          · exact hr.freeze h1 hpf
          · have := hr.freeze h1 (by rw [frozenOf_frz]; exact hpf)
            rw [frozenOf_idem] at this
            exact this
        obtain ⟨e1, r1⟩ := step
        have hlt : ∃ o1, σ[r]? = some o1 := by rcases hl r o ho with h1 | h1 <;> exact ⟨_, h1⟩
        obtain ⟨o1, ho1⟩ := hlt
        have := ih (K.frz (K.blk r)) (σ.set r (frozenOf o)) u' r1 (fun r' o' h' => by
          rw [set_get ho1]
          by_cases hrn : r' = r
          · subst hrn
            rw [ho] at h'
            obtain rfl := Option.some.inj h'
            right; simp
          · rw [if_neg hrn]; exact hl r' o' h') hu
        cases hlv : o.live with
        | true =>
          rw [if_pos hlv] at hlive
          obtain rfl := Option.some.inj hlive
          exact ⟨e1.trans this.1, this.2⟩
        | false =>
          rw [if_neg (by simp [hlv])] at hlive
          obtain rfl := Option.some.inj hlive
          have hfo := frozenOf_of_dead hlv
          have hset : σ.set r (frozenOf o) = σ := by
            rw [hfo]
            have h1 : σ[r]? = some o := by rcases hl r o ho with h1 | h1; exact h1; rw [hfo] at h1; exact h1
            apply List.ext_getElem?
            intro i
            rw [List.getElem?_set]
            by_cases hi : r = i
            · subst hi
              have hlt := (List.getElem?_eq_some_iff.1 h1).1
              rw [if_pos rfl, if_pos hlt, h1]
            · simp [hi]
          rw [hset] at this e1
          exact ⟨e1.trans this.1, this.2⟩
      · simp at h
    · simp at h
end Go.Ev
namespace Go.Ev
section
variable {look : Look} {K : KM} {w : World} {F' : Nat → Prop} {pv : EV → Option (EV × List Nat)}
theorem purifyL_spec (hpv : ∀ v v' rs mv, pv v = some (v', rs) → VR K w v mv → (∀ r ∈ rs, F' (K.blk r)) → PR F' w v' mv) : ∀ (cs cs' : List EV) (rs : List Nat) (mv : Nat → Value),
    purifyL pv cs = some (cs', rs) → (∀ i (h : i < cs.length), VR K w cs[i] (mv i)) → (∀ r ∈ rs, F' (K.blk r)) → cs'.length = cs.length ∧ ∀ i (h : i < cs'.length), PR F' w cs'[i] (mv i) := by
  intro cs
  induction cs with
  | nil =>
    intro cs' rs mv h hv hrs
    simp only [purifyL, Option.some.injEq, Prod.mk.injEq] at h
    obtain ⟨rfl, rfl⟩ := h
    exact ⟨rfl, fun i h => by simp at h⟩
  | cons c cs ih =>
    intro cs' rs mv h hv hrs
    unfold purifyL at h
    split at h
    · rename_i x l xs l' hx hxs
      simp only [Option.some.injEq, Prod.mk.injEq] at h
      obtain ⟨rfl, rfl⟩ := h
      have p0 := hpv c x l _ hx (hv 0 (by simp)) fun r hr => hrs r (by simp [hr])
      obtain ⟨q1, q2⟩ := ih xs l' (fun i => mv (i + 1)) hxs (fun i h => hv (i + 1) (by simpa using h)) fun r hr => hrs r (by simp [hr])
      refine ⟨by simp [q1], fun i h => ?_⟩
      cases i with
      | zero => exact p0
      | succ i => simpa using q2 i (by simpa using h)
    · simp at h
theorem purifyR_spec (hpv : ∀ v v' rs mv, pv v = some (v', rs) → VR K w v mv → (∀ r ∈ rs, F' (K.blk r)) → PR F' w v' mv) (row : Nat → List EV) : ∀ (n i : Nat) (cs' : List (List EV)) (rs : List Nat) (mv : Nat → Nat → Value),
    purifyR pv row i n = some (cs', rs) → (∀ k, k < n → ∀ j (h : j < (row (i + k)).length), VR K w (row (i + k))[j] (mv (i + k) j)) → (∀ r ∈ rs, F' (K.blk r)) →
      cs'.length = n ∧ ∀ k, k < n → (cs'.getD k []).length = (row (i + k)).length ∧ ∀ j (h : j < (cs'.getD k []).length), PR F' w (cs'.getD k [])[j] (mv (i + k) j) := by
  intro n
  induction n with
  | zero =>
    intro i cs' rs mv h _ _
    simp only [purifyR, Option.some.injEq, Prod.mk.injEq] at h
    obtain ⟨rfl, rfl⟩ := h
    exact ⟨rfl, fun k hk => by omega⟩
  | succ n ih =>
    intro i cs' rs mv h hv hrs
    unfold purifyR at h
    split at h
    · rename_i c l cs l' hc hcs
      simp only [Option.some.injEq, Prod.mk.injEq] at h
      obtain ⟨rfl, rfl⟩ := h
      obtain ⟨p1, p2⟩ := purifyL_spec hpv (row i) c l (mv i) hc (fun j hj => by simpa using hv 0 (by omega) j hj) fun r hr => hrs r (by simp [hr])
      obtain ⟨q1, q2⟩ := ih (i + 1) cs l' mv hcs (fun k hk j hj => by
        have := hv (k + 1) (by omega) j (by rw [show i + (k + 1) = i + 1 + k from by omega]; exact hj)
        have e : i + (k + 1) = i + 1 + k := by omega
        simpa only [e] using this) fun r hr => hrs r (by simp [hr])
      refine ⟨by simp [q1], fun k hk => ?_⟩
      cases k with
      | zero => exact ⟨p1, p2⟩
      | succ k =>
        have := q2 k (by omega)
        have e : i + (k + 1) = i + 1 + k := by omega
        simpa only [List.getD_cons_succ, e] using this
    · simp at h
theorem purifyM_spec (hpv : ∀ v v' rs mv, pv v = some (v', rs) → VR K w v mv → (∀ r ∈ rs, F' (K.blk r)) → PR F' w v' mv) : ∀ (es es' : List (EV × EV)) (rs : List Nat) (mv : Nat → Value),
    purifyM pv es = some (es', rs) → (∀ i (h : i < es.length), VR K w es[i].2 (mv i)) → (∀ r ∈ rs, F' (K.blk r)) →
      es'.length = es.length ∧ ∀ i (h : i < es'.length) (h' : i < es.length), es'[i].1 = es[i].1 ∧ PR F' w es'[i].2 (mv i) := by
  intro es
  induction es with
  | nil =>
    intro es' rs mv h hv hrs
    simp only [purifyM, Option.some.injEq, Prod.mk.injEq] at h
    obtain ⟨rfl, rfl⟩ := h
    exact ⟨rfl, fun i h => by simp at h⟩
  | cons c es ih =>
    intro es' rs mv h hv hrs
    unfold purifyM at h
    split at h
    · rename_i x l xs l' hx hxs
      simp only [Option.some.injEq, Prod.mk.injEq] at h
      obtain ⟨rfl, rfl⟩ := h
      have p0 := hpv c.2 x l _ hx (hv 0 (by simp)) fun r hr => hrs r (by simp [hr])
      obtain ⟨q1, q2⟩ := ih xs l' (fun i => mv (i + 1)) hxs (fun i h => hv (i + 1) (by simpa using h)) fun r hr => hrs r (by simp [hr])
      refine ⟨by simp [q1], fun i h h' => ?_⟩
      cases i with
      | zero => exact ⟨rfl, p0⟩
      | succ i => simpa using q2 i (by simpa using h) (by simpa using h')
    · simp at h
theorem purify_spec (hL : LookOk look K w) (hF : ∀ b, K.F b → F' b) : ∀ (n : Nat) (v v' : EV) (rs : List Nat) (mv : Value),
    purifyN look n v = some (v', rs) → VR K w v mv → (∀ r ∈ rs, F' (K.blk r)) → PR F' w v' mv := by
  have stay : Stay K.F w w := fun _ _ => rfl
  intro n
  induction n with
  | zero => intro v v' rs mv h; simp [purifyN] at h
  | succ n ih =>
    have hgo : ∀ (cs cs' : List EV) rs (mcs : Array Value), purifyL (purifyN look n) cs = some (cs', rs) → cs.length = mcs.size →
        (∀ i (h : i < cs.length) (h' : i < mcs.size), VR K w cs[i] mcs[i]) → (∀ r ∈ rs, F' (K.blk r)) → cs'.length = mcs.size ∧ ∀ i (h : i < cs'.length) (h' : i < mcs.size), PR F' w cs'[i] mcs[i] := by
      intro cs cs' rs mcs h hl hv hrs
      obtain ⟨p1, p2⟩ := purifyL_spec ih cs cs' rs (fun i => mcs.getD i default) h (fun i hi => by
        have hi' : i < mcs.size := by omega
        simpa [hi'] using hv i hi hi') hrs
      exact ⟨by omega, fun i a b => by simpa [b] using p2 i a⟩
    intro v v' rs mv h hv hrs
    cases v with
    | ptr r k =>
      simp only [purifyN] at h
      split at h
      · rename_i fr cells hr
        split at h
        · rename_i hk
          simp only [Option.some.injEq, Prod.mk.injEq] at h
          obtain ⟨rfl, rfl⟩ := h
          obtain ⟨rfl, _⟩ := hv.ptr_inv
          obtain ⟨_, h0, c, e, hb, hs, _, h1, _, _, hp⟩ := hL r _ hr
          refine .ip cells k _ _ (fun j => c.getD j default) (hrs r (by simp)) hk (fun j hj => ?_) fun j hj => ?_
          · have hj' : j < c.size := by omega
            refine ⟨by simp [cellAt, hb, h0, hj'], ?_⟩
            simpa [hj'] using h1 j hj'
          · have hj' : j < c.size := by omega
            have := (hp rfl j hj hj').mono hF stay
            simpa [hj'] using this
        · simp at h
      · rename_i fr cells hr
        split at h
        · rename_i hk
          obtain ⟨⟨cs', l⟩, g1, g2⟩ := Option.map_eq_some_iff.1 h
          simp only [Prod.mk.injEq] at g2
          obtain ⟨rfl, rfl⟩ := g2
          obtain ⟨rfl, _⟩ := hv.ptr_inv
          obtain ⟨_, h0, c, e, hb, hs, _, h1, _, hvr, _⟩ := hL r _ hr
          obtain ⟨q1, q2⟩ := purifyL_spec ih cells cs' l (fun j => c.getD j default) g1 (fun j hj => by
            have hj' : j < c.size := by omega
            simpa [hj'] using hvr j hj hj') fun r hr => hrs r (by simp [hr])
          refine .ip cs' k _ _ (fun j => c.getD j default) (hrs r (by simp)) (by omega) (fun j hj => ?_) q2
          have hj' : j < c.size := by omega
          refine ⟨by simp [cellAt, hb, h0, hj'], ?_⟩
          simpa [hj'] using h1 j hj'
        · simp at h
      · simp at h
    | pe r esz i k =>
      simp only [purifyN] at h
      split at h
      · rename_i fr esz' ex len row hr
        split at h
        · rename_i hk
          obtain ⟨rfl, hk⟩ := hk
          simp only [Option.some.injEq, Prod.mk.injEq] at h
          obtain ⟨rfl, rfl⟩ := h
          obtain ⟨rfl, _, hi⟩ := hv.pe_inv
          obtain ⟨_, hln, c, e, fz, hb, _, _, h1, hle, _, _, hlr, _, hp⟩ := hL r _ hr
          have hi' : i < len := by omega
          have hb2 : (i + 1) * esz ≤ len * esz := Nat.mul_le_mul_right _ hi'
          rw [Nat.add_mul, Nat.one_mul] at hb2
          have hrl := hlr i hi'
          refine .ip (row i) k _ _ (fun j => c.getD (K.off r + i * esz + j) default) (hrs r (by simp)) hk (fun j hj => ?_) fun j hj => ?_
          · have hj' : K.off r + i * esz + j < c.size := by omega
            refine ⟨by simp [cellAt, hb, hj'], ?_⟩
            simpa [hj'] using h1 _ hj'
          · have hj' : K.off r + i * esz + j < c.size := by omega
            have := (hp rfl i hi' j hj hj').mono hF stay
            simpa [hj'] using this
        · simp at h
      · rename_i fr esz' ex len row hr
        split at h
        · rename_i hk
          obtain ⟨rfl, hk⟩ := hk
          obtain ⟨⟨cs', l⟩, g1, g2⟩ := Option.map_eq_some_iff.1 h
          simp only [Prod.mk.injEq] at g2
          obtain ⟨rfl, rfl⟩ := g2
          obtain ⟨rfl, _, hi⟩ := hv.pe_inv
          obtain ⟨_, hln, c, e, fz, hb, _, _, h1, hle, _, _, hlr, hvr, _⟩ := hL r _ hr
          have hi' : i < len := by omega
          have hb2 : (i + 1) * esz ≤ len * esz := Nat.mul_le_mul_right _ hi'
          rw [Nat.add_mul, Nat.one_mul] at hb2
          have hrl := hlr i hi'
          obtain ⟨q1, q2⟩ := purifyL_spec ih (row i) cs' l (fun j => c.getD (K.off r + i * esz + j) default) g1 (fun j hj => by
            have hj' : K.off r + i * esz + j < c.size := by omega
            simpa [hj'] using hvr i hi' j hj hj') fun r hr => hrs r (by simp [hr])
          refine .ip cs' k _ _ (fun j => c.getD (K.off r + i * esz + j) default) (hrs r (by simp)) (by omega) (fun j hj => ?_) q2
          have hj' : K.off r + i * esz + j < c.size := by omega
          refine ⟨by simp [cellAt, hb, hj'], ?_⟩
          simpa [hj'] using h1 _ hj'
        · simp at h
      · simp at h
    | ms r esz off len cap =>
      simp only [purifyN] at h
      have hzero : ∀ row', VR K w (.ms r esz off len cap) mv → len = 0 → PR F' w (.isl true esz len row') mv := by
        intro row' hv h0
        obtain ⟨a, mcap, rfl, _, hle', hlen, _, _, haddr⟩ := hv.ms_inv
        subst h0
        obtain ⟨b, o, sp⟩ := a
        exact .isl esz 0 _ b o mcap (fun _ _ => default) (by omega) (by omega) sp (by omega) (by omega) (by omega) (by omega)
      split at h
      · rename_i fr esz' ex olen row hr
        split at h
        · rename_i hk
          subst hk
          simp only [Option.some.injEq, Prod.mk.injEq] at h
          obtain ⟨rfl, rfl⟩ := h
          by_cases h0 : len = 0
          · exact hzero _ hv h0
          · obtain ⟨a, mcap, rfl, _, hle', hlen, _, _, haddr⟩ := hv.ms_inv
            obtain ⟨_, hln, c, e, fz, hb, _, _, h1, hle, _, _, hlr, _, hp⟩ := hL r _ hr
            obtain rfl := haddr (by omega)
            have hcell : ∀ i, i < len → (off + i + 1) * esz ≤ olen * esz := fun i hi => Nat.mul_le_mul_right _ (by omega)
            refine .isl esz len _ _ _ mcap (fun i j => c.getD (K.off r + (off + i) * esz + j) default) (fun _ => hrs r (by simp)) hle' none (fun _ => rfl)
              (fun i hi => hlr _ (by omega)) (fun i hi j hj => ?_) fun i hi j hj => ?_
            · have := hcell i hi
              rw [Nat.add_mul, Nat.one_mul] at this
              have hj' : K.off r + (off + i) * esz + j < c.size := by omega
              rw [show K.off r + off * esz + i * esz + j = K.off r + (off + i) * esz + j from by rw [Nat.add_mul]; omega]
              refine ⟨by simp [cellAt, hb, hj'], ?_⟩
              simpa [hj'] using h1 _ hj'
            · have := hcell i hi
              rw [Nat.add_mul, Nat.one_mul] at this
              have hrl := hlr (off + i) (by omega)
              have hj' : K.off r + (off + i) * esz + j < c.size := by omega
              have := (hp rfl (off + i) (by omega) j hj hj').mono hF stay
              simpa [hj'] using this
        · simp at h
      · rename_i fr esz' ex olen row hr
        split at h
        · rename_i hk
          subst hk
          obtain ⟨⟨cs', l⟩, g1, g2⟩ := Option.map_eq_some_iff.1 h
          simp only [Prod.mk.injEq] at g2
          obtain ⟨rfl, rfl⟩ := g2
          by_cases h0 : len = 0
          · exact hzero _ hv h0
          · obtain ⟨a, mcap, rfl, _, hle', hlen, _, _, haddr⟩ := hv.ms_inv
            obtain ⟨_, hln, c, e, fz, hb, _, _, h1, hle, _, _, hlr, hvr, _⟩ := hL r _ hr
            obtain rfl := haddr (by omega)
            have hcell : ∀ i, i < len → (off + i + 1) * esz ≤ olen * esz := fun i hi => Nat.mul_le_mul_right _ (by omega)
            have hidx : ∀ i, i < len → ∀ j, j < esz → K.off r + (off + i) * esz + j < c.size := by
              intro i hi j hj
              have := hcell i hi
              rw [Nat.add_mul, Nat.one_mul] at this
              omega
            obtain ⟨q1, q2⟩ := purifyR_spec ih row len off cs' l (fun i j => c.getD (K.off r + i * esz + j) default) g1 (fun i hi j hj => by
              have hrl := hlr (off + i) (by omega)
              have hj' := hidx i hi j (by omega)
              simpa [hj'] using hvr (off + i) (by omega) j hj hj') fun r hr => hrs r (by simp [hr])
            refine .isl esz len _ _ _ mcap (fun i j => c.getD (K.off r + (off + i) * esz + j) default) (fun _ => hrs r (by simp)) hle' none (fun _ => rfl)
              (fun i hi => by rw [(q2 i hi).1]; exact hlr _ (by omega)) (fun i hi j hj => ?_) fun i hi j hj => (q2 i hi).2 j hj
            have hj' := hidx i hi j hj
            rw [show K.off r + off * esz + i * esz + j = K.off r + (off + i) * esz + j from by rw [Nat.add_mul]; omega]
            refine ⟨by simp [cellAt, hb, hj'], ?_⟩
            simpa [hj'] using h1 _ hj'
        · simp at h
      · simp at h
    | mm r =>
      simp only [purifyN] at h
      split at h
      · rename_i fr es hr
        simp only [Option.some.injEq, Prod.mk.injEq] at h
        obtain ⟨rfl, rfl⟩ := h
        obtain ⟨rfl, _⟩ := hv.mm_inv
        obtain ⟨_, mes, clock, hb, hl, _, _, hk, hp, _⟩ := hL r _ hr
        exact .im es _ mes clock (hrs r (by simp)) hb hl (fun i a b => (hk i a b).mono hF stay) fun i a b => (hp rfl i a b).mono hF stay
      · rename_i fr es hr
        obtain ⟨⟨es', l⟩, g1, g2⟩ := Option.map_eq_some_iff.1 h
        simp only [Prod.mk.injEq] at g2
        obtain ⟨rfl, rfl⟩ := g2
        obtain ⟨rfl, _⟩ := hv.mm_inv
        obtain ⟨_, mes, clock, hb, hl, _, hvr, hk, _⟩ := hL r _ hr
        obtain ⟨q1, q2⟩ := purifyM_spec ih es es' l (fun i => (mes.getD i default).val) g1 (fun i hi => by
          have hi' : i < mes.size := by omega
          simpa [hi'] using (hvr i hi hi').2) fun r hr => hrs r (by simp [hr])
        refine .im es' _ mes clock (hrs r (by simp)) hb (by omega) (fun i a b => ?_) fun i a b => ?_
        · rw [(q2 i a (by omega)).1]; exact (hk i (by omega) b).mono hF stay
        · simpa [b] using (q2 i a (by omega)).2
      · simp at h
    | it r => simp [purifyN] at h
    | agg cs =>
      simp only [purifyN, Option.map_eq_some_iff] at h
      obtain ⟨⟨cs', l⟩, h1, h2⟩ := h
      simp only [Prod.mk.injEq] at h2
      obtain ⟨rfl, rfl⟩ := h2
      obtain ⟨mcs, rfl, ⟨hl, h1'⟩, hc⟩ := hv.agg_inv
      obtain ⟨q1, q2⟩ := hgo cs cs' l mcs h1 hl hc hrs
      exact .agg cs' mcs q1 h1' q2
    | tuple cs =>
      simp only [purifyN, Option.map_eq_some_iff] at h
      obtain ⟨⟨cs', l⟩, h1, h2⟩ := h
      simp only [Prod.mk.injEq] at h2
      obtain ⟨rfl, rfl⟩ := h2
      obtain ⟨mcs, rfl, hl, hc⟩ := hv.tuple_inv
      obtain ⟨q1, q2⟩ := hgo cs cs' l mcs h1 hl hc hrs
      exact .tuple cs' mcs q1 q2
    | func fn a b =>
      simp only [purifyN] at h
      split at h
      · rename_i a' l b' l' ha hb
        simp only [Option.some.injEq, Prod.mk.injEq] at h
        obtain ⟨rfl, rfl⟩ := h
        obtain ⟨mf, mc, rfl, hva, hvb⟩ := hv.func_inv
        obtain ⟨q1, q2⟩ := hgo a a' l mf ha hva.1 hva.2 fun r hr => hrs r (by simp [hr])
        obtain ⟨q3, q4⟩ := hgo b b' l' mc hb hvb.1 hvb.2 fun r hr => hrs r (by simp [hr])
        exact .func fn a' b' mf mc q1 q3 q2 q4
      · simp at h
    | iface t x =>
      simp only [purifyN, Option.map_eq_some_iff] at h
      obtain ⟨⟨x', l⟩, h1, h2⟩ := h
      simp only [Prod.mk.injEq] at h2
      obtain ⟨rfl, rfl⟩ := h2
      obtain ⟨mx, rfl, hx⟩ := hv.iface_inv
      exact .iface t x' mx (ih x x' l mx h1 hx hrs)
    | _ =>
      simp only [purifyN, Option.some.injEq, Prod.mk.injEq] at h
      obtain ⟨rfl, rfl⟩ := h
      exact (hv.toPR rfl).mono hF stay
theorem purify_all (hL : LookOk look K w) (hF : ∀ b, K.F b → F' b) {vs vs' : List EV} {rs : List Nat} {mvs : Array Value}
    (h : purifyArgs look vs = some (vs', rs)) (hv : VRs K w vs mvs) (hrs : ∀ r ∈ rs, F' (K.blk r)) : PRs F' w vs' mvs := by
  have h1 : purifyN look 31 (.tuple vs) = some (.tuple vs', rs) := by
    have e : purifyN look (30 + 1) (.tuple vs) = (purifyL (purifyN look 30) vs).map fun q => (.tuple q.1, q.2) := rfl
    rw [e, show purifyL (purifyN look 30) vs = some (vs', rs) from h]
    rfl
  have h2 := purify_spec hL hF 31 _ _ _ (.tuple mvs) h1 (.tuple vs mvs hv.1 hv.2) hrs
  cases h2 with
  | tuple _ _ hl hp => exact ⟨hl, hp⟩
end
theorem setCell_block {w : World} {b o : Nat} {c : Array Value} {e : TypeId} {fz : Nat × Nat} (hb : w.heap[b]? = some (.cells c e fz)) (v : Value) :
    Wr w (w.setCell ⟨b, o, none⟩ v) b (.cells (c.setIfInBounds o v) e fz) := by
  refine ⟨by simp [World.setCell], fun b' h => ?_, ?_, rfl, rfl, rfl⟩
  · simp only [World.setCell, Array.getElem?_modify]; rw [if_neg (Ne.symm h)]
  · simp [World.setCell, Array.getElem?_modify, hb]
theorem Wr.trans {w w' w'' : World} {b : Nat} {o o' : Obj} (h : Wr w w' b o) (g : Wr w' w'' b o') : Wr w w'' b o' :=
  ⟨g.size.trans h.size, fun b' hb => (g.other b' hb).trans (h.other b' hb), g.here, g.os.trans h.os, g.tape.trans h.tape, g.output.trans h.output⟩
theorem Wr.refl {w : World} {b : Nat} {o : Obj} (h : w.heap[b]? = some o) : Wr w w b o := ⟨rfl, fun _ _ => rfl, h, rfl, rfl, rfl⟩
theorem run_storeCells (P : Program) {b o : Nat} {e : TypeId} {fz : Nat × Nat} : ∀ (vs : List Value) (i : Nat) (w : World) (c : Array Value), w.heap[b]? = some (.cells c e fz) →
    (∀ v ∈ vs, v.oneCell' = true) → o + i + vs.length ≤ c.size → (∀ j, j < c.size → (fz.1 ≤ j && j < fz.2) = false) →
    ∃ w' c', (storeCells ⟨b, o, none⟩ vs i).run P w = .ok () w' ∧ Wr w w' b (.cells c' e fz) ∧ c'.size = c.size ∧
      ∀ j, c'[j]? = if o + i ≤ j ∧ j < o + i + vs.length then vs[j - (o + i)]? else c[j]? := by
  intro vs
  induction vs with
  | nil =>
    intro i w c hb _ _ _
    exact ⟨w, c, by simp [storeCells], .refl hb, rfl, fun j => by rw [if_neg (by simp)]⟩
  | cons v vs ih =>
    intro i w c hb h1 hle hfz
    have hlt : o + i < c.size := by simp at hle; omega
    have hcell : w.cell? ⟨b, o + i, none⟩ = some c[o + i] := by simp [cell?_eq, cellAt, hb, hlt]
    have hfrz : w.frozen? ⟨b, o + i, none⟩ = false := by simp only [World.frozen?, hb]; exact hfz _ hlt
    have hs : (store ⟨b, o + i, none⟩ v).run P w = .ok () (w.setCell ⟨b, o + i, none⟩ v) := by
      rw [run_store P w _ v .plain (h1 v (by simp)), hcell]; simp [hfrz]
    have hw := setCell_block (o := o + i) hb v
    obtain ⟨w', c', r1, r2, r3, r4⟩ := ih (i + 1) (w.setCell ⟨b, o + i, none⟩ v) (c.setIfInBounds (o + i) v) hw.here (fun x hx => h1 x (by simp [hx])) (by simp at hle ⊢; omega)
      (fun j hj => hfz j (by simpa using hj))
    refine ⟨w', c', ?_, hw.trans r2, by simpa using r3, fun j => ?_⟩
    · simp only [storeCells, Sem.run_bind, add_none, hs, Result.andThen_ok]; exact r1
    · rw [r4]
      by_cases hj : j = o + i
      · subst hj
        rw [if_neg (by omega), if_pos (by simp)]
        simp [hlt]
      · by_cases hc : o + (i + 1) ≤ j ∧ j < o + (i + 1) + vs.length
        · rw [if_pos hc, if_pos (by simp; omega), show j - (o + i) = (j - (o + (i + 1))) + 1 from by omega, List.getElem?_cons_succ]
        · rw [if_neg hc, if_neg (by simp; omega), Array.getElem?_setIfInBounds, if_neg (by omega)]
end Go.Ev
namespace Go.Ev
section
variable {P : Program} {S : Type} {V : S → Prop} {G : Nat → Option (List EV)} {D : Drv S}
theorem allPlain_get {cs : List EV} (h : allPlain cs = true) : ∀ i (hi : i < cs.length), (cs[i]).plain = true := by
  induction cs with
  | nil => intro i hi; simp at hi
  | cons x xs ih =>
    simp only [allPlain, Bool.and_eq_true] at h
    intro i hi
    cases i with
    | zero => exact h.1
    | succ i => exact ih h.2 i (by simpa using hi)
theorem look_ok {look : Look} {K : KM} {σ : Heap} {w : World} (hr : Rel K σ w) (hl : ∀ r o, look r = some o → σ[r]? = some o) : LookOk look K w := fun r o h => hr.obj r o (hl r o h)
theorem VC.ext {K K' : KM} {σ σ' : Heap} {w w' : World} (h : Ext K σ w K' σ' w') (hr : Rel K σ w) {cs : List EV} {ms : Array Value} (hv : VC K w cs ms) : VC K' w' cs ms := ⟨hv.1.ext h hr, hv.2⟩
theorem new_var {K : KM} {σ : Heap} {w : World} (hr : Rel K σ w) {nm : Nat} (hfree : σ[nm]? = some .free) {cells : List EV} {c : Array Value} (hc : VC K w cells c) (t : TypeId) :
    ∃ w' K', (newRow t c).run P w = .ok ⟨w.heap.size, 0, none⟩ w' ∧ Ext K σ w K' (σ.set nm (.var false (allPlain cells) cells)) w' ∧ Rel K' (σ.set nm (.var false (allPlain cells) cells)) w' ∧
      VR K' w' (.ptr nm 0) (.pointer (some ⟨w.heap.size, 0, none⟩)) := by
  have hN := New.push w (.cells c t)
  have := hr.new hfree hN (obj := .var false (allPlain cells) cells) rfl (off := 0) (e := c.size) (l := 0) fun σ' hE => by
    have hc' := hc.ext hE hr
    refine ⟨.inl rfl, by simp [KM.new], c, t, by simp [KM.new], hc.1.1.symm, by simp [KM.new], hc.2, (fun h => by cases h), fun i a b => hc'.1.2 i a b, fun hp i a b => ?_⟩
    exact (hc'.1.2 i a b).toPR (allPlain_get hp i a)
  refine ⟨_, _, rfl, this.1, this.2, ?_⟩
  have := VR.ptr (K := K.new nm w.heap.size 0 c.size 0) (w := { w with heap := w.heap.push (.cells c t) }) nm 0 (.inl rfl)
  simpa [KM.new] using this
theorem eBox_ok (nm : Nat) (t : TypeId) (v : EV) :
    Ok V (eBox (S := S) nm v) fun r => ∀ K σ w mv0, Rel K σ w → σ[nm]? = some .free → VR K w v mv0 →
      ∃ mv w' K', (Instr.box t mv0).run P w = .ok mv w' ∧ Ext K σ w K' (applyU σ r.2) w' ∧ Rel K' (applyU σ r.2) w' ∧ VR K' w' r.1 mv := by
  unfold eBox
  refine Ok.bind (Ok.lift (Φ := fun z => v.cells = some z) fun n h => h) fun vs => Ok.pure ?_
  intro hvs K σ w mv0 hr hfree hv
  obtain ⟨w', K', h1, h2, h3, h4⟩ := new_var (P := P) hr hfree (hv.cells hvs) t
  refine ⟨_, w', K', ?_, h2, h3, h4⟩
  simp only [Instr.box, Sem.run_bind, newVar, h1, Result.andThen_ok, Sem.run_pure]
def RowsAt (K : KM) (w : World) (o esz len : Nat) (row : Nat → List EV) (c : Array Value) : Prop :=
  ∀ i, i < len → (row i).length = esz ∧ ∀ j (h : j < (row i).length) (h' : o + i * esz + j < c.size), VR K w (row i)[j] c[o + i * esz + j]
def PlainRows (len : Nat) (row : Nat → List EV) : Prop := ∀ i, i < len → ∀ j (h : j < (row i).length), ((row i)[j]).plain = true
theorem new_arr {K : KM} {σ : Heap} {w w' : World} (hr : Rel K σ w) {nm : Nat} (hfree : σ[nm]? = some .free) {c : Array Value} {t : TypeId} {fz : Nat × Nat} (hN : New w w' (.cells c t fz))
    (hfz : ∀ j, j < c.size → (fz.1 ≤ j && j < fz.2) = false) {esz len : Nat} {row : Nat → List EV}
    (h1 : ∀ j (h : j < c.size), (c[j]).oneCell' = true) (hle : len * esz ≤ c.size) {exact pf : Bool} (hex : exact = true → len * esz = c.size ∧ fz.1 = fz.2) (hrows : RowsAt K w 0 esz len row c)
    (hpf : pf = true → ∀ i, i < len → ∀ j (h : j < (row i).length) (h' : 0 + i * esz + j < c.size), PR K.F w (row i)[j] c[0 + i * esz + j]) :
    Ext K σ w (K.new nm w.heap.size 0 c.size len) (σ.set nm (.arr false pf esz exact len row)) w' ∧ Rel (K.new nm w.heap.size 0 c.size len) (σ.set nm (.arr false pf esz exact len row)) w' := by
  refine hr.new hfree hN (obj := .arr false pf esz exact len row) rfl (off := 0) (e := c.size) (l := len) fun σ' hE => ?_
  refine ⟨.inl rfl, by simp [KM.new], c, t, fz, by simp only [KM.new, if_pos]; exact hN.here, hfz, by simp [KM.new], h1, by simpa [KM.new] using hle, (fun h => ⟨by simpa [KM.new] using (hex h).1, (hex h).2⟩), (fun h => by cases h),
    fun i hi => (hrows i hi).1, fun i hi j hj hc => ?_, fun hp i hi j hj hc => ?_⟩
  · simp only [KM.new, if_pos] at hc
    have := ((hrows i hi).2 j hj hc).ext hE hr
    simpa only [KM.new, if_pos] using this
  · simp only [KM.new, if_pos] at hc
    have := (hpf hp i hi j hj hc).ext hE hr
    simpa only [KM.new, if_pos] using this
theorem flatten_get {rows : List (List EV)} {n : Nat} (h : ∀ r ∈ rows, r.length = n) : ∀ (i j : Nat), j < n → rows.flatten[i * n + j]? = (rows[i]?).bind (·[j]?) := by
  induction rows with
  | nil => intro i j _; simp
  | cons r rows ih =>
    intro i j hj
    have hr := h r (by simp)
    rw [List.flatten_cons, List.getElem?_append]
    cases i with
    | zero => rw [if_pos (by omega)]; simp
    | succ i =>
      rw [if_neg (by rw [Nat.add_mul]; omega), hr, show (i + 1) * n + j - n = i * n + j from by rw [Nat.add_mul]; omega, ih (fun r hr => h r (by simp [hr])) i j hj]
      simp
theorem flatten_len {rows : List (List EV)} {n : Nat} (h : ∀ r ∈ rows, r.length = n) : rows.flatten.length = rows.length * n := by
  induction rows with
  | nil => simp
  | cons r rows ih =>
    rw [List.flatten_cons, List.length_append, ih fun r hr => h r (by simp [hr]), h r (by simp), List.length_cons, Nat.add_mul]; omega
theorem putCells_flatten {rows : List (List EV)} {n i : Nat} {vs : List EV} (h : ∀ r ∈ rows, r.length = n) (hv : vs.length = n) (hi : i < rows.length) :
    putCells rows.flatten (i * n) vs = some (rows.set i vs).flatten := by
  induction rows generalizing i with
  | nil => simp at hi
  | cons r rows ih =>
    have hr := h r (by simp)
    cases i with
    | zero =>
      simp only [putCells, Nat.zero_mul, Nat.zero_add, List.flatten_cons, List.length_append, List.take_zero, List.nil_append, List.set_cons_zero]
      rw [if_pos (by omega), List.drop_append, List.drop_of_length_le (by omega), hv, ← hr]
      simp
    | succ i =>
      have := ih (i := i) (fun r hr => h r (by simp [hr])) (by simpa using hi)
      unfold putCells at this ⊢
      split at this
      · rename_i hle
        rw [List.set_cons_succ, List.flatten_cons, List.flatten_cons, if_pos (by rw [List.length_append, hr, Nat.add_mul]; omega)]
        simp only [Option.some.injEq] at this ⊢
        rw [← this]
        have e1 : (i + 1) * n = n + i * n := by rw [Nat.add_mul]; omega
        rw [List.take_append, List.take_of_length_le (by rw [e1]; omega), hr, List.drop_append, List.drop_of_length_le (by rw [e1]; omega), hr]
        simp only [List.nil_append, List.append_assoc]
        rw [show (i + 1) * n - n = i * n from by rw [e1]; omega, show (i + 1) * n + vs.length - n = i * n + vs.length from by rw [e1]; omega]
      · simp at this
theorem setE_fill {n : Nat} : ∀ (parts : List (Nat × EV)) (rows rows' : List (List EV)), (∀ r ∈ rows, r.length = n) → setE rows parts n = some rows' →
    fillE (fun i => some (i * n, n)) rows.flatten parts = some rows'.flatten ∧ (∀ r ∈ rows', r.length = n) ∧ rows'.length = rows.length := by
  intro parts
  induction parts with
  | nil => intro rows rows' hr h; simp only [setE, Option.some.injEq] at h; subst h; exact ⟨rfl, hr, rfl⟩
  | cons p parts ih =>
    obtain ⟨i, v⟩ := p
    intro rows rows' hr h
    unfold setE at h
    split at h
    · rename_i vs hvs
      split at h
      · rename_i hc
        have hr' : ∀ r ∈ rows.set i vs, r.length = n := by
          intro r h'
          rcases List.mem_or_eq_of_mem_set h' with h' | h'
          · exact hr r h'
          · subst h'; exact hc.1
        obtain ⟨h1, h2, h3⟩ := ih _ _ hr' h
        refine ⟨?_, h2, by simpa using h3⟩
        unfold fillE
        simp only [hvs]
        rw [if_neg (by omega), putCells_flatten hr hc.1 hc.2]
        exact h1
      · simp at h
    · simp at h
theorem replicate_flatten_get {z : List EV} {n : Nat} (hz : z.length = n) (hn : 0 < n) : ∀ (len j : Nat), j < len * n → (List.replicate len z).flatten[j]? = z[j % n]? := by
  intro len j hj
  have h1 := flatten_get (rows := List.replicate len z) (n := n) (fun r hr => by rw [List.eq_of_mem_replicate hr]; exact hz) (j / n) (j % n) (Nat.mod_lt _ hn)
  rw [show j / n * n + j % n = j from by rw [Nat.mul_comm]; exact Nat.div_add_mod j n] at h1
  rw [h1]
  have : j / n < len := Nat.div_lt_of_lt_mul (by rw [Nat.mul_comm]; exact hj)
  simp [this]
theorem VC_zeros {K : KM} {w : World} {z : List EV} {zc : Array Value} (hz : VC K w z zc) {n : Nat} (hl : z.length = n) (hn : 0 < n) (len : Nat) :
    VC K w (List.replicate len z).flatten ((Array.range (len * n)).map fun i => zc[i % zc.size]!) := by
  have hs : zc.size = n := by rw [← hz.1.1]; exact hl
  have hlen : (List.replicate len z).flatten.length = len * n := by
    rw [flatten_len (n := n) fun r hr => by rw [List.eq_of_mem_replicate hr]; exact hl]; simp
  refine ⟨⟨by rw [hlen]; simp, fun i h1 h2 => ?_⟩, fun i h => ?_⟩
  · have hi : i < len * n := by rw [← hlen]; exact h1
    have e := replicate_flatten_get hl hn len i hi
    have hm : i % n < n := Nat.mod_lt _ hn
    rw [List.getElem?_eq_getElem h1, List.getElem?_eq_getElem (by omega)] at e
    rw [Option.some.inj e]
    simp only [Array.getElem_map, Array.getElem_range, hs]
    rw [getElem!_pos zc (i % n) (by omega)]
    exact hz.1.2 _ (by omega) (by omega)
  · simp only [Array.getElem_map, Array.getElem_range, hs]
    have hm : i % n < n := Nat.mod_lt _ hn
    rw [getElem!_pos zc (i % n) (by omega)]
    exact hz.2 _ (by omega)
theorem allRows_plain {rows : List (List EV)} (h : allRows rows = true) : PlainRows rows.length (fun i => rows.getD i []) := by
  intro i hi j hj
  have h1 := List.all_eq_true.1 h (rows.getD i []) (by simp [List.getD_eq_getElem?_getD, hi])
  exact allPlain_get h1 j hj
theorem rows_of_flatten {K : KM} {w : World} {rows : List (List EV)} {n : Nat} {c : Array Value} (hr : ∀ r ∈ rows, r.length = n) (hv : VC K w rows.flatten c) :
    RowsAt K w 0 n rows.length (fun i => rows.getD i []) c := by
  intro i hi
  have hrow : rows.getD i [] = rows[i] := by simp [List.getD_eq_getElem?_getD, hi]
  show (rows.getD i []).length = n ∧ ∀ j (h : j < (rows.getD i []).length) (h' : 0 + i * n + j < c.size), VR K w (rows.getD i [])[j] c[0 + i * n + j]
  refine ⟨by rw [hrow]; exact hr _ (List.getElem_mem hi), fun j hj hc => ?_⟩
  have hjn : j < n := by rw [hrow, hr _ (List.getElem_mem hi)] at hj; exact hj
  have e := flatten_get hr i j hjn
  have hlt : i * n + j < rows.flatten.length := by
    rw [flatten_len hr]
    have : (i + 1) * n ≤ rows.length * n := Nat.mul_le_mul_right _ hi
    rw [Nat.add_mul] at this; omega
  rw [List.getElem?_eq_getElem hlt, List.getElem?_eq_getElem hi, Option.bind_some] at e
  have hv' := hv.1.2 (i * n + j) hlt (by omega)
  have e2 : (rows.getD i [])[j] = rows.flatten[i * n + j] := by
    have : (rows.getD i [])[j]? = rows[i][j]? := by rw [hrow]
    rw [List.getElem?_eq_getElem hj, ← e] at this
    exact Option.some.inj this
  rw [e2]
  simpa only [Nat.zero_add] using hv'
theorem eBuildSlice_ok (nm : Nat) (t : TypeId) (len : Nat) (parts : List (Nat × EV)) :
    Ok V (eBuildSlice (S := S) P nm t len parts) fun r => ∀ K σ w (mparts : Array (Nat × Value)), Rel K σ w → σ[nm]? = some .free → parts.length = mparts.size →
      (∀ i (h : i < parts.length) (h' : i < mparts.size), parts[i].1 = mparts[i].1 ∧ VR K w parts[i].2 mparts[i].2) →
      ∃ mv w' K', (Instr.buildSlice t len mparts).run P w = .ok mv w' ∧ Ext K σ w K' (applyU σ r.2) w' ∧ Rel K' (applyU σ r.2) w' ∧ VR K' w' r.1 mv := by
  unfold eBuildSlice
  split
  · rename_i elem hu
    refine Ok.bind (Ok.lift (Φ := fun n => sizeE P elem = some n) fun n h => h) fun n => ?_
    refine Ok.bind (Ok.lift (Φ := fun z => zeroE P elem = some z) fun n h => h) fun z => ?_
    refine Ok.ite (fun _ => Ok.fail) fun hne => ?_
    refine Ok.bind (Ok.lift (Φ := fun rows => setE (List.replicate len z) parts n = some rows) fun n h => h) fun rows => Ok.pure ?_
    intro hset hz hn K σ w mparts hr hfree hl hv
    have hn0 : 0 < n := by omega
    have hzl : z.length = n := by omega
    have hbig : ¬ len * n > 2 ^ 24 := by omega
    obtain ⟨zv, z1, z2⟩ := zero_cells hz K w
    obtain ⟨s1, s2, s3⟩ := setE_fill parts _ rows (fun r hr => by rw [List.eq_of_mem_replicate hr]; exact hzl) hset
    have hrl : rows.length = len := by simpa using s3
    obtain ⟨mc, m1, m2⟩ := fillE_run parts mparts.toList _ _ _ s1 (by simpa using hl) (fun i a b => by simpa using hv i a (by simpa using b)) (VC_zeros z2 hzl hn0 len)
    have hsz : mc.size = len * n := by rw [← m2.1.1, flatten_len s2, hrl]
    have hN := New.push w (.cells mc elem)
    have hrows := rows_of_flatten s2 m2
    rw [hrl] at hrows
    have hpl : allRows rows = true → ∀ i, i < len → ∀ j (h : j < (rows.getD i []).length) (h' : 0 + i * n + j < mc.size), PR K.F w (rows.getD i [])[j] mc[0 + i * n + j] := by
      intro hp i hi j hj hc
      have := allRows_plain hp
      rw [hrl] at this
      exact ((hrows i hi).2 j hj hc).toPR (this i hi j hj)
    obtain ⟨e1, r1⟩ := new_arr hr hfree hN (by intro j _; simp) m2.2 (by omega) (exact := true) (pf := allRows rows) (fun _ => by omega) hrows hpl
    refine ⟨.slice (some ⟨w.heap.size, 0, none⟩) len len, _, _, ?_, e1, r1, ?_⟩
    · simp only [Instr.buildSlice, Sem.run_bind, run_under hu, Result.andThen_ok, run_size hn, if_neg hbig]
      by_cases h0 : len * n = 0
      · simp only [h0, if_true]
        have hl0 : len = 0 := by
          rcases Nat.mul_eq_zero.1 h0 with h | h
          · exact h
          · omega
        subst hl0
        simp only [Nat.zero_mul] at m1
        have : (Array.range 0).map (fun x => (#[] : Array Value)[x % (#[] : Array Value).size]!) = (Array.range 0).map fun i => zv.cells[i % zv.cells.size]! := by simp
        simp only [Sem.run_pure, Sem.run_bind, Result.andThen_ok, Nat.zero_mul]
        rw [this, m1]
        simp [newRow]
      · simp only [if_neg h0]
        simp only [Sem.run_bind, z1, Result.andThen_ok, Sem.run_pure]
        rw [m1]
        simp [newRow]
    · refine .ms nm n 0 len (some len) len _ (.inl rfl) (Nat.le_refl _) (by simp [KM.new]) (fun c hc => by obtain rfl := Option.some.inj hc; simp [KM.new]) (fun h => by cases h) fun _ => by simp [KM.new]
  · exact Ok.fail
theorem eAlloc_ok (nm : Nat) (t : TypeId) :
    Ok V (eAlloc (S := S) P nm t) fun r => ∀ K σ w, Rel K σ w → σ[nm]? = some .free →
      ∃ mv w' K', (Instr.alloc t true (.tuple #[])).run P w = .ok mv w' ∧ Ext K σ w K' (applyU σ r.2) w' ∧ Rel K' (applyU σ r.2) w' ∧ VR K' w' r.1 mv := by
  unfold eAlloc
  refine Ok.bind (Ok.lift (Φ := fun z => zeroE P t = some z) fun n h => h) fun z => ?_
  refine Ok.ite (fun hb => Ok.pure ?_) fun _ => Ok.pure ?_
  · intro hz K σ w hr hfree
    obtain ⟨zv, z1, z2⟩ := zero_cells hz K w
    simp only [Bool.and_eq_true] at hb
    have hpos : 1 ≤ z.length := Nat.le_of_ble_eq_true hb.2
    have hlen : z.length = zv.cells.size := z2.1.1
    have hN := New.push w (.cells zv.cells t)
    have hrows : RowsAt K w 0 1 z.length (fun i => [z.getD i .undef]) zv.cells := by
      intro i hi
      refine ⟨rfl, fun j hj hc => ?_⟩
      have hj0 : j = 0 := by simp at hj; exact hj
      subst hj0
      have hi' : i < zv.cells.size := by omega
      have := z2.1.2 i hi hi'
      simp only [List.getElem_cons_zero, List.getD_eq_getElem?_getD, List.getElem?_eq_getElem hi, Option.getD_some]
      simpa using this
    obtain ⟨e1, r1⟩ := new_arr (pf := allPlain z) (exact := true) (len := z.length) hr hfree hN (by intro j _; simp) z2.2 (by omega) (fun _ => ⟨by omega, rfl⟩) hrows
      (fun hp i hi j hj hc => ((hrows i hi).2 j hj hc).toPR (by
        have hj0 : j = 0 := by simp at hj; exact hj
        subst hj0
        simp only [List.getElem_cons_zero, List.getD_eq_getElem?_getD, List.getElem?_eq_getElem hi, Option.getD_some]
        exact allPlain_get hp i hi))
    refine ⟨.pointer (some ⟨w.heap.size, 0, none⟩), _, _, ?_, e1, r1, ?_⟩
    · simp only [Instr.alloc, Sem.run_bind, z1, Result.andThen_ok, newVar, Sem.run_pure]
      rfl
    · have := VR.pe (K := K.new nm w.heap.size 0 zv.cells.size z.length) (w := { w with heap := w.heap.push (.cells zv.cells t) }) nm 1 0 0 (.inl rfl) (by simp [KM.new]; omega)
      simpa [KM.new] using this
  intro hz K σ w hr hfree
  obtain ⟨zv, z1, z2⟩ := zero_cells hz K w
  obtain ⟨w', K', h1, h2, h3, h4⟩ := new_var (P := P) hr hfree z2 t
  refine ⟨_, w', K', ?_, h2, h3, h4⟩
  simp only [Instr.alloc, Sem.run_bind, z1, Result.andThen_ok, newVar, h1, Sem.run_pure]
end
end Go.Ev
namespace Go.Ev
section
variable {P : Program} {S : Type} {V : S → Prop} {G : Nat → Option (List EV)} {D : Drv S}
theorem store_cells {K : KM} {w : World} {b o k n : Nat} {t e : TypeId} {c : Array Value} {fz : Nat × Nat} {cells vs cells' : List EV} {mv : Value} (hb : w.heap[b]? = some (.cells c e fz))
    (hfz : ∀ j, j < c.size → (fz.1 ≤ j && j < fz.2) = false) (h1 : ∀ j (h : j < c.size), (c[j]).oneCell' = true) (hle : o + cells.length ≤ c.size)
    (hv : ∀ j (h : j < cells.length) (h' : o + j < c.size), VR K w cells[j] c[o + j]) (hput : putCells cells k vs = some cells') (hvs : VC K w vs mv.cells) (hn : sizeE P t = some n) (hl : vs.length = n) :
    ∃ w' c', (storeVar t ⟨b, o + k, none⟩ mv).run P w = .ok () w' ∧ Wr w w' b (.cells c' e fz) ∧ c'.size = c.size ∧ (∀ j (h : j < c'.size), (c'[j]).oneCell' = true) ∧
      (∀ j, j < o ∨ o + cells.length ≤ j → c'[j]? = c[j]?) ∧ (∀ j (h : j < cells'.length) (h' : o + j < c'.size), VR K w cells'[j] c'[o + j]) ∧
      (∀ j (h : j < cells'.length) (h' : o + j < c'.size), (j < k ∨ k + vs.length ≤ j) → ∃ (a : j < cells.length) (a' : o + j < c.size), cells'[j] = cells[j] ∧ c'[o + j] = c[o + j]) ∧
      cells'.length = cells.length := by
  obtain ⟨p1, p2, p3⟩ := putCells_get hput
  have hms : mv.cells.size = n := by rw [← hvs.1.1]; exact hl
  obtain ⟨w', c', r1, r2, r3, r4⟩ := run_storeCells P mv.cells.toList 0 w c hb (fun v hv => by
    obtain ⟨i, hi, rfl⟩ := List.mem_iff_getElem.1 hv
    exact hvs.2 i (by simpa using hi)) (o := o + k) (by simp; omega) hfz
  have hlen : mv.cells.toList.length = vs.length := by simp; omega
  refine ⟨w', c', ?_, r2, r3, fun j h => ?_, fun j hj => ?_, fun j hj hc => ?_, fun j hj hc hout => ?_, p2⟩
  · simp only [storeVar, Sem.run_bind, run_size hn, Result.andThen_ok]
    rw [if_neg (by simp [hms])]
    exact r1
  · have := r4 j
    rw [Array.getElem?_eq_getElem h] at this
    by_cases hin : o + k + 0 ≤ j ∧ j < o + k + 0 + mv.cells.toList.length
    · rw [if_pos hin, List.getElem?_eq_getElem (by omega)] at this
      rw [Option.some.inj this]
      simp only [Array.getElem_toList]
      exact hvs.2 _ _
    · rw [if_neg hin, Array.getElem?_eq_getElem (by omega)] at this
      rw [Option.some.inj this]; exact h1 _ _
  · rw [r4, if_neg (by omega)]
  · have q := r4 (o + j)
    have p := p3 j
    rw [List.getElem?_eq_getElem hj] at p
    rw [Array.getElem?_eq_getElem hc] at q
    by_cases hin : k ≤ j ∧ j < k + vs.length
    · rw [if_pos hin, List.getElem?_eq_getElem (by omega)] at p
      rw [if_pos (by omega), List.getElem?_eq_getElem (by omega)] at q
      rw [Option.some.inj p, Option.some.inj q]
      simp only [Array.getElem_toList]
      have := hvs.1.2 (j - k) (by omega) (by omega)
      simpa only [show o + j - (o + k + 0) = j - k from by omega] using this
    · rw [if_neg hin, List.getElem?_eq_getElem (by omega)] at p
      rw [if_neg (by omega), Array.getElem?_eq_getElem (by omega)] at q
      rw [Option.some.inj p, Option.some.inj q]
      exact hv j (by omega) (by omega)
  · have q := r4 (o + j)
    have p := p3 j
    rw [List.getElem?_eq_getElem hj] at p
    rw [Array.getElem?_eq_getElem hc] at q
    rw [if_neg (by omega), List.getElem?_eq_getElem (by omega)] at p
    rw [if_neg (by omega), Array.getElem?_eq_getElem (by omega)] at q
    exact ⟨by omega, by omega, Option.some.inj p, Option.some.inj q⟩
theorem plain_put {cells vs cells' : List EV} {k : Nat} (h : putCells cells k vs = some cells') (hv : allPlain vs = true) : ∀ j (hj : j < cells'.length), (j < k ∨ k + vs.length ≤ j) ∨ (cells'[j]).plain = true := by
  obtain ⟨p1, p2, p3⟩ := putCells_get h
  intro j hj
  by_cases hin : k ≤ j ∧ j < k + vs.length
  · right
    have p := p3 j
    rw [List.getElem?_eq_getElem hj, if_pos hin, List.getElem?_eq_getElem (by omega)] at p
    rw [Option.some.inj p]
    exact allPlain_get hv _ _
  · left; omega
set_option maxHeartbeats 1000000 in
theorem eStore_ok (look : Look) (t : TypeId) (a v : EV) :
    Ok V (eStore (S := S) P look t a v) fun u => ∀ K σ w ma mv, Rel K σ w → (∀ r o, look r = some o → σ[r]? = some o) → VR K w a ma → VR K w v mv →
      ∃ w' K', (Instr.storeAt t ma mv).run P w = .ok () w' ∧ Ext K σ w K' (applyU σ u) w' ∧ Rel K' (applyU σ u) w' := by
  unfold eStore
  refine Ok.bind (Ok.lift (Φ := fun n => sizeE P t = some n) fun n h => h) fun n => ?_
  refine Ok.bind (Ok.lift (Φ := fun z => v.cells = some z) fun n h => h) fun vs => ?_
  refine Ok.ite (fun _ => Ok.fail) fun hne => ?_
  have hl : vs.length = n := by simpa using hne
  split
  · rename_i r k
    split
    · rename_i pf cells hr
      refine Ok.bind (Ok.lift (Φ := fun z => putCells cells k vs = some z) fun n h => h) fun cells' => Ok.pure ?_
      intro hput hvs hn K σ w ma mv hR hlk ha hv
      obtain ⟨rfl, hal⟩ := ha.ptr_inv
      have hσ := hlk r _ hr
      obtain ⟨_, h0, c, e, hb, hs, hext, hone, _, hvr, hpl⟩ := hR.obj r _ hσ
      obtain ⟨w', c', r1, r2, r3, r4, r5, r6, r7, r8⟩ := store_cells (P := P) (o := 0) (k := k) hb (by intro j _; simp) hone (by omega)
        (fun j h h' => by simpa using hvr j h (by omega)) hput (hv.cells hvs) hn hl
      have := hR.write hσ rfl r2 (obj' := .var false (pf && allPlain vs) cells') rfl fun σ' hE => by
        refine ⟨hal, h0, c', e, r2.here, by omega, by omega, r4, (fun h => by cases h), fun i a b => ?_, fun hp i a b => ?_⟩
        · have := (r6 i a (by omega)).ext hE hR
          simpa using this
        · simp only [Bool.and_eq_true] at hp
          rcases plain_put hput hp.2 i a with h | h
          · obtain ⟨a1, a2, a3, a4⟩ := r7 i a (by omega) h
            have h6 := (hpl hp.1 i a1 (by omega)).ext hE hR
            have e4 : c'[i]'(by omega) = c[i]'(by omega) := by simpa only [Nat.zero_add] using a4
            rw [a3, e4]
            exact h6
          · have := ((r6 i a (by omega)).ext hE hR).toPR h
            simpa using this
      refine ⟨w', K, ?_, this.1, this.2⟩
      simp only [Instr.storeAt, Instr.sureAddr, Sem.run_bind, Sem.run_pure, Result.andThen_ok, h0]
      exact r1
    · exact Ok.fail
  · rename_i r esz i k
    split
    · rename_i pf esz' ex len row hr
      refine Ok.ite (fun he => ?_) fun _ => Ok.fail
      subst he
      refine Ok.bind (Ok.lift (Φ := fun z => putCells (row i) k vs = some z) fun n h => h) fun c1 => Ok.pure ?_
      intro hput hvs hn K σ w ma mv hR hlk ha hv
      obtain ⟨rfl, hal, hi⟩ := ha.pe_inv
      have hσ := hlk r _ hr
      obtain ⟨_, hln, c, e, fz, hb, hfz, hext, hone, hle, hexa, _, hrl, hvr, hpl⟩ := hR.obj r _ hσ
      have hi' : i < len := by omega
      have hb2 : (i + 1) * esz ≤ len * esz := Nat.mul_le_mul_right _ hi'
      rw [Nat.add_mul, Nat.one_mul] at hb2
      have hrli := hrl i hi'
      obtain ⟨w', c', r1, r2, r3, r4, r5, r6, r7, r8⟩ := store_cells (P := P) (o := K.off r + i * esz) (k := k) hb hfz hone (by omega)
        (fun j h h' => hvr i hi' j h h') hput (hv.cells hvs) hn hl
      have other : ∀ i', i' < len → i' ≠ i → ∀ j, j < esz → c'[K.off r + i' * esz + j]? = c[K.off r + i' * esz + j]? := by
        intro i' h1 h2 j hj
        refine r5 _ ?_
        rcases Nat.lt_or_ge i' i with h | h
        · have : (i' + 1) * esz ≤ i * esz := Nat.mul_le_mul_right _ h
          rw [Nat.add_mul, Nat.one_mul] at this
          omega
        · have : (i + 1) * esz ≤ i' * esz := Nat.mul_le_mul_right _ (by omega)
          rw [Nat.add_mul, Nat.one_mul] at this
          omega
      have := hR.write hσ rfl r2 (obj' := .arr false (pf && allPlain vs) esz ex len (updRow row i c1)) rfl fun σ' hE => by
        refine ⟨hal, hln, c', e, fz, r2.here, fun j hj => hfz j (by omega), by omega, r4, by omega, fun h => by rw [r3]; exact hexa h, (fun h => by cases h), fun i' h1 => ?_, fun i' h1 j hj hc => ?_, fun hp i' h1 j hj hc => ?_⟩
        · unfold updRow; split
          · rw [r8]; exact hrli
          · exact hrl i' h1
        · by_cases hii : i' = i
          · subst hii
            have hu : updRow row i' c1 i' = c1 := by simp [updRow]
            have h6 := (r6 j (by rw [hu] at hj; exact hj) hc).ext hE hR
            simpa only [hu] using h6
          · have hu : updRow row i c1 i' = row i' := by simp [updRow, hii]
            have hjl : j < (row i').length := by rw [hu] at hj; exact hj
            have h6 := (hvr i' h1 j hjl (by omega)).ext hE hR
            have h5 := other i' h1 hii j (by rw [← hrl i' h1]; exact hjl)
            rw [Array.getElem?_eq_getElem hc, Array.getElem?_eq_getElem (by omega)] at h5
            simp only [hu, Option.some.inj h5]
            exact h6
        · simp only [Bool.and_eq_true] at hp
          by_cases hii : i' = i
          · subst hii
            have hu : updRow row i' c1 i' = c1 := by simp [updRow]
            have hj1 : j < c1.length := by rw [hu] at hj; exact hj
            rcases plain_put hput hp.2 j hj1 with h | h
            · obtain ⟨a1, a2, a3, a4⟩ := r7 j hj1 hc h
              have h6 := (hpl hp.1 i' h1 j a1 a2).ext hE hR
              simp only [hu, a3, a4]
              exact h6
            · have h6 := ((r6 j hj1 hc).ext hE hR).toPR h
              simpa only [hu] using h6
          · have hu : updRow row i c1 i' = row i' := by simp [updRow, hii]
            have hjl : j < (row i').length := by rw [hu] at hj; exact hj
            have h6 := (hpl hp.1 i' h1 j hjl (by omega)).ext hE hR
            have h5 := other i' h1 hii j (by rw [← hrl i' h1]; exact hjl)
            rw [Array.getElem?_eq_getElem hc, Array.getElem?_eq_getElem (by omega)] at h5
            simp only [hu, Option.some.inj h5]
            exact h6
      refine ⟨w', K, ?_, this.1, this.2⟩
      simp only [Instr.storeAt, Instr.sureAddr, Sem.run_bind, Sem.run_pure, Result.andThen_ok]
      exact r1
    · exact Ok.fail
  · exact Ok.fail
theorem eMakeSlice_ok (hD : DOk V P G D) (nm : Nat) (t : TypeId) (l c : EV) :
    Ok V (eMakeSlice D P nm t l c) fun r => ∀ K σ w ml mc, Rel K σ w → σ[nm]? = some .free → VR K w l ml → VR K w c mc →
      ∃ mv w' K', (Instr.makeSlice t ml mc).run P w = .ok mv w' ∧ Ext K σ w K' (applyU σ r.2) w' ∧ Rel K' (applyU σ r.2) w' ∧ VR K' w' r.1 mv := by
  unfold eMakeSlice
  split
  · rename_i elem kl l kc c hu
    refine Ok.bind (Ok.lift (Φ := fun n => sizeE P elem = some n) fun n h => h) fun n => ?_
    refine Ok.bind (Ok.lift (Φ := fun z => zeroE P elem = some z) fun n h => h) fun z => ?_
    refine Ok.ite (fun _ => Ok.fail) fun hne => ?_
    refine Ok.bind (hD.chk _) fun _ => Ok.pure ?_
    intro hchk hz hn K σ w ml mc hR hfree hl hc
    obtain rfl := hl.int_inv
    obtain rfl := hc.int_inv
    obtain ⟨h0, h1, h2, h3⟩ := and4 hchk
    obtain ⟨i, hi, hisz⟩ := sizeE_some hn
    obtain ⟨zv, z1, z2⟩ := zero_cells hz K w
    have hzl : z.length = n := by omega
    have hn0 : 0 < n := by omega
    have hby : ((P.info? elem).map (·.bytes)).getD 0 = i.bytes := by simp [hi]
    rw [hby] at h2
    have hwl : IntKind.i64.wrap l = l := wrap_in (by simp [inR, IntKind.min, IntKind.max, IntKind.signed, IntKind.bits]; omega)
    have hwc : IntKind.i64.wrap c = c := wrap_in (by simp [inR, IntKind.min, IntKind.max, IntKind.signed, IntKind.bits]; omega)
    have hvc := VC_zeros z2 hzl hn0 c.toNat
    have hN := New.push w (.cells ((Array.range (c.toNat * n)).map fun i => zv.cells[i % zv.cells.size]!) elem)
    have hrep : ∀ r ∈ List.replicate c.toNat z, r.length = n := fun r hr => by rw [List.eq_of_mem_replicate hr]; exact hzl
    have hrows := rows_of_flatten hrep hvc
    simp only [List.length_replicate] at hrows
    have hrows' : RowsAt K w 0 n c.toNat (fun _ => z) ((Array.range (c.toNat * n)).map fun i => zv.cells[i % zv.cells.size]!) := by
      intro i hi
      have := hrows i hi
      have he : (List.replicate c.toNat z).getD i [] = z := by simp [List.getD_eq_getElem?_getD, hi]
      simpa only [he] using this
    obtain ⟨e1, r1⟩ := new_arr (pf := allPlain z) (exact := true) hR hfree hN (by intro j _; simp) hvc.2 (by simp) (fun _ => ⟨by simp, rfl⟩) hrows'
      (fun hp i hi j hj hc => ((hrows' i hi).2 j hj hc).toPR (allPlain_get hp j hj))
    refine ⟨.slice (some ⟨w.heap.size, 0, none⟩) l.toNat c.toNat, _, _, ?_, e1, r1, ?_⟩
    · have ht : ∀ n : Int, 0 ≤ n → n ≤ c → (decide (n < 0) || decide ((i.bytes : Int) * n > 2 ^ 48)) = false := by
        intro n hn0 hnc
        simp only [Bool.or_eq_false_iff, decide_eq_false_iff_not]
        refine ⟨by omega, ?_⟩
        have : (i.bytes : Int) * n ≤ i.bytes * c := Int.mul_le_mul_of_nonneg_left hnc (by omega)
        have h2' : (i.bytes : Int) * c ≤ 2 ^ 46 := by rw [Int.mul_comm]; exact h2
        omega
      simp only [Instr.makeSlice, Sem.run_bind, run_under hu, Result.andThen_ok, asInt, asIntOf, Sem.run_map, Sem.run_pure, run_info hi, hwl, hwc]
      have hfalse : (((decide (c < 0) || decide ((i.bytes : Int) * c > 2 ^ 48)) || decide (l < 0)) || decide (l > c)) = false := by
        rw [ht c (by omega) (Int.le_refl _)]
        simp; omega
      rw [hfalse]
      simp only [Bool.false_eq_true, if_false, run_askRoom, Result.andThen_ok, run_size hn, Sem.run_bind]
      by_cases hc0 : c.toNat * n = 0
      · have hcz : c.toNat = 0 := by
          rcases Nat.mul_eq_zero.1 hc0 with h | h
          · exact h
          · omega
        simp only [hc0, if_true, Sem.run_pure, Result.andThen_ok]
        simp only [newRow, hcz, Nat.zero_mul, show Array.range 0 = #[] from rfl, Array.map_empty, Sem.run_bind, run_newObj, Result.andThen_ok, Sem.run_pure]
      · simp only [if_neg hc0, Sem.run_bind, z1, Result.andThen_ok, Sem.run_pure]
        simp [newRow]
    · refine .ms nm n 0 l.toNat (some c.toNat) c.toNat _ (.inl rfl) (by omega) (by simp [KM.new]; omega) (fun c' hc => by obtain rfl := Option.some.inj hc; simp [KM.new]) (fun h => by cases h) fun _ => by simp [KM.new]
  · exact Ok.fail
end
end Go.Ev
namespace Go.Ev
section
variable {P : Program} {S : Type} {V : S → Prop} {G : Nat → Option (List EV)} {D : Drv S}
structure Loaded (K : KM) (w : World) (n m : Nat) (row : Nat → List EV) (pf : Bool) (cs : Array Value) : Prop where
  size : cs.size = m * n
  len : ∀ i, i < m → (row i).length = n
  val : ∀ i, i < m → ∀ j (h : j < (row i).length) (h' : i * n + j < cs.size), VR K w (row i)[j] cs[i * n + j]
  one : ∀ j (h : j < cs.size), (cs[j]).oneCell' = true
  plain : pf = true → ∀ i, i < m → ∀ j (h : j < (row i).length) (h' : i * n + j < cs.size), PR K.F w (row i)[j] cs[i * n + j]
theorem mul_add_lt {i j m n : Nat} (hi : i < m) (hj : j < n) : i * n + j < m * n := by
  have : (i + 1) * n ≤ m * n := Nat.mul_le_mul_right _ hi
  rw [Nat.add_mul] at this; omega
theorem loaded_of_cells {K : KM} {w : World} {n m b o : Nat} {row : Nat → List EV} {pf : Bool} (hn : 0 < n) (mv : Nat → Nat → Value) (hl : ∀ i, i < m → (row i).length = n)
    (hc : ∀ i, i < m → ∀ j, j < n → cellAt w b (o + i * n + j) = some (mv i j) ∧ (mv i j).oneCell' = true)
    (hv : ∀ i, i < m → ∀ j (h : j < (row i).length), VR K w (row i)[j] (mv i j)) (hp : pf = true → ∀ i, i < m → ∀ j (h : j < (row i).length), PR K.F w (row i)[j] (mv i j)) :
    ∃ cs, (loadCells ⟨b, o, none⟩ (m * n)).run P w = .ok cs w ∧ Loaded K w n m row pf cs := by
  have key : ∀ x, x < m * n → x / n < m ∧ x % n < n ∧ x / n * n + x % n = x := by
    intro x hx
    refine ⟨Nat.div_lt_of_lt_mul (by rw [Nat.mul_comm]; exact hx), Nat.mod_lt _ hn, ?_⟩
    rw [Nat.mul_comm]; exact Nat.div_add_mod x n
  have dm : ∀ i j, j < n → (i * n + j) / n = i ∧ (i * n + j) % n = j := by
    intro i j hj
    constructor
    · rw [Nat.add_comm, Nat.add_mul_div_right _ _ hn, Nat.div_eq_of_lt hj]; omega
    · rw [Nat.add_comm, Nat.add_mul_mod_self_right, Nat.mod_eq_of_lt hj]
  refine ⟨_, run_loadCells (mv := fun x => mv (x / n) (x % n)) fun x hx => ?_, ⟨by simp, hl, fun i hi j hj h' => ?_, fun j hj => ?_, fun hpf i hi j hj h' => ?_⟩⟩
  · obtain ⟨k1, k2, k3⟩ := key x hx
    have := (hc _ k1 _ k2).1
    rw [Nat.add_assoc, k3] at this
    exact this
  · obtain ⟨d1, d2⟩ := dm i j (by rw [← hl i hi]; exact hj)
    simp only [List.getElem_toArray, List.getElem_map, List.getElem_range, d1, d2]
    exact hv i hi j hj
  · simp only [List.size_toArray, List.length_map, List.length_range] at hj
    obtain ⟨k1, k2, k3⟩ := key j hj
    simp only [List.getElem_toArray, List.getElem_map, List.getElem_range]
    exact (hc _ k1 _ k2).2
  · obtain ⟨d1, d2⟩ := dm i j (by rw [← hl i hi]; exact hj)
    simp only [List.getElem_toArray, List.getElem_map, List.getElem_range, d1, d2]
    exact hp hpf i hi j hj
theorem Loaded.nil {K : KM} {w : World} {n : Nat} {row : Nat → List EV} {pf : Bool} : Loaded K w n 0 row pf #[] :=
  ⟨by simp, fun i h => by omega, fun i h => by omega, fun j h => by simp at h, fun _ i h => by omega⟩
theorem arr_cells {K : KM} {w : World} {r esz : Nat} {fr pf ex : Bool} {len : Nat} {row : Nat → List EV} (h : OR K w r (.arr fr pf esz ex len row)) {off m : Nat} (hm : off + m ≤ len) (hn : 0 < esz) :
    ∃ cs, (loadCells ⟨K.blk r, K.off r + off * esz, none⟩ (m * esz)).run P w = .ok cs w ∧ Loaded K w esz m (fun i => row (off + i)) pf cs := by
  obtain ⟨_, hln, c, e, fz, hb, _, _, hone, hle, _, _, hl, hv, hp⟩ := h
  have hlt : ∀ i, i < m → ∀ j, j < esz → K.off r + (off + i) * esz + j < c.size := by
    intro i hi j hj
    have := mul_add_lt (n := esz) (show off + i < len by omega) hj
    omega
  refine loaded_of_cells hn (fun i j => c.getD (K.off r + (off + i) * esz + j) default) (fun i hi => hl _ (by omega)) (fun i hi j hj => ?_) (fun i hi j hj => ?_) fun hpf i hi j hj => ?_
  · have := hlt i hi j hj
    rw [show K.off r + off * esz + i * esz + j = K.off r + (off + i) * esz + j from by rw [Nat.add_mul]; omega]
    exact ⟨by simp [cellAt, hb, this], by simpa [this] using hone _ this⟩
  · have h1 := hlt i hi j (by rw [← hl (off + i) (by omega)]; exact hj)
    simpa [h1] using hv (off + i) (by omega) j hj h1
  · have h1 := hlt i hi j (by rw [← hl (off + i) (by omega)]; exact hj)
    simpa [h1] using hp hpf (off + i) (by omega) j hj h1
theorem rows_run {look : Look} {K : KM} {w : World} (hL : LookOk look K w) {x : EV} {mx : Value} {esz m n : Nat} {row : Nat → List EV} {pf : Bool} (h : rowsOf look x = some (esz, m, row, pf))
    (hx : VR K w x mx) (hn : 0 < n) (he : m ≠ 0 → esz = n) :
    (Builtin.lenOf mx).run P w = .ok m w ∧ ∃ cs, (Builtin.firstCells n m mx).run P w = .ok cs w ∧ Loaded K w n m row pf cs := by
  unfold rowsOf at h
  split at h
  · simp only [Option.some.injEq, Prod.mk.injEq] at h
    obtain ⟨rfl, rfl, rfl, rfl⟩ := h
    rcases hx.isl_inv with ⟨rfl, rfl, rfl⟩ | ⟨rfl, b, o, cap, sp, mv, rfl, hF, hcap, hsp, hl, hc, hv⟩
    · exact ⟨by simp [Builtin.lenOf], #[], by simp [Builtin.firstCells], .nil⟩
    · refine ⟨by simp [Builtin.lenOf], ?_⟩
      rename_i esz len row
      by_cases h0 : len = 0
      · subst h0
        exact ⟨#[], by simp [Builtin.firstCells, loadCells, loadCellsFrom], .nil⟩
      · obtain rfl := he h0
        obtain rfl := hsp (by omega)
        obtain ⟨cs, c1, c2⟩ := loaded_of_cells (P := P) (K := K) (row := row) (pf := true) hn mv hl hc (fun i hi j hj => .pure _ _ (hv i hi j hj)) fun _ i hi j hj => hv i hi j hj
        exact ⟨cs, by simp only [Builtin.firstCells]; exact c1, c2⟩
  · rename_i r esz off len cap
    split at h
    · rename_i fr pf' esz' ex olen row hr
      split at h
      · rename_i hee
        subst hee
        simp only [Option.some.injEq, Prod.mk.injEq] at h
        obtain ⟨rfl, rfl, rfl, rfl⟩ := h
        obtain ⟨a, mcap, rfl, _, hle, hlen, _, _, haddr⟩ := hx.ms_inv
        refine ⟨by simp [Builtin.lenOf], ?_⟩
        by_cases h0 : len = 0
        · subst h0
          exact ⟨#[], by simp [Builtin.firstCells, loadCells, loadCellsFrom], .nil⟩
        · obtain rfl := he h0
          obtain rfl := haddr (by omega)
          have ho := hL r _ hr
          have hln : K.len r = olen := ho.2.1
          obtain ⟨cs, c1, c2⟩ := arr_cells (P := P) ho (off := off) (m := len) (by omega) hn
          exact ⟨cs, by simp only [Builtin.firstCells]; exact c1, c2⟩
      · simp at h
    · simp at h
  · rename_i s
    simp only [Option.some.injEq, Prod.mk.injEq] at h
    obtain ⟨rfl, rfl, rfl, rfl⟩ := h
    obtain rfl := hx.str_inv
    refine ⟨by simp [Builtin.lenOf], ?_⟩
    by_cases h0 : s.size = 0
    · rw [h0]
      refine ⟨#[], ?_, .nil⟩
      simp [Builtin.firstCells, ByteArray.data_extract]
    · obtain rfl := he h0
      have hsz : s.data.size = s.size := rfl
      refine ⟨s.data.map fun b => .int .u8 b.toNat, ?_, ⟨by rw [Array.size_map, Nat.mul_one]; exact hsz, fun i _ => rfl, fun i hi j hj h' => ?_, fun j hj => by simp [Value.oneCell'], fun _ i hi j hj h' => ?_⟩⟩
      · simp only [Builtin.firstCells, Sem.run_pure]
        have : (s.extract 0 s.size).data = s.data := by rw [ByteArray.data_extract, ← hsz, Array.extract_size]
        rw [this]
      · have hj0 : j = 0 := by simp at hj; exact hj
        subst hj0
        simp only [List.getElem_cons_zero, Array.getElem_map, Nat.mul_one, Nat.add_zero]
        have : s.data.getD i 0 = s.data[i] := by simp [Array.getD, hsz, hi]
        rw [this]
        exact .pure _ _ (.int _ _)
      · have hj0 : j = 0 := by simp at hj; exact hj
        subst hj0
        simp only [List.getElem_cons_zero, Array.getElem_map, Nat.mul_one, Nat.add_zero]
        have : s.data.getD i 0 = s.data[i] := by simp [Array.getD, hsz, hi]
        rw [this]
        exact .int _ _
  · simp at h
theorem Loaded.ext {K K' : KM} {σ σ' : Heap} {w w' : World} (h : Ext K σ w K' σ' w') (hr : Rel K σ w) {n m : Nat} {row : Nat → List EV} {pf : Bool} {cs : Array Value} (hl : Loaded K w n m row pf cs) :
    Loaded K' w' n m row pf cs :=
  ⟨hl.size, hl.len, fun i hi j hj h' => (hl.val i hi j hj h').ext h hr, hl.one, fun hp i hi j hj h' => (hl.plain hp i hi j hj h').ext h hr⟩
theorem Loaded.cat {K : KM} {w : World} {n m m' : Nat} {row row' : Nat → List EV} {pf pf' : Bool} {cs cs' : Array Value} (h : Loaded K w n m row pf cs) (h' : Loaded K w n m' row' pf' cs') :
    Loaded K w n (m + m') (catRow m row row') (pf && pf') (cs ++ cs') := by
  have at_ : ∀ i, i < m + m' → ∀ j, j < n → ∃ (hlt : i * n + j < (cs ++ cs').size), True := by
    intro i hi j hj
    refine ⟨?_, trivial⟩
    have := mul_add_lt hi hj
    simp only [Array.size_append, h.size, h'.size, ← Nat.add_mul]; exact this
  refine ⟨by simp only [Array.size_append, h.size, h'.size, Nat.add_mul], fun i hi => ?_, fun i hi j hj hc => ?_, fun j hj => ?_, fun hp i hi j hj hc => ?_⟩
  · unfold catRow; split
    · exact h.len i ‹_›
    · exact h'.len _ (by omega)
  · by_cases hm : i < m
    · have hu : catRow m row row' i = row i := by simp [catRow, hm]
      have hj' : j < (row i).length := by rw [hu] at hj; exact hj
      have hlt : i * n + j < cs.size := by rw [h.size]; exact mul_add_lt hm (by rw [← h.len i hm]; exact hj')
      simp only [hu, Array.getElem_append, hlt, dif_pos]
      exact h.val i hm j hj' hlt
    · have hu : catRow m row row' i = row' (i - m) := by simp [catRow, hm]
      have hj' : j < (row' (i - m)).length := by rw [hu] at hj; exact hj
      have hge : ¬ i * n + j < cs.size := by
        rw [h.size]
        have : m * n ≤ i * n := Nat.mul_le_mul_right _ (by omega)
        omega
      have hlt : (i - m) * n + j < cs'.size := by rw [h'.size]; exact mul_add_lt (by omega) (by rw [← h'.len (i - m) (by omega)]; exact hj')
      have he : i * n + j - cs.size = (i - m) * n + j := by
        rw [h.size, Nat.sub_mul]
        have : m * n ≤ i * n := Nat.mul_le_mul_right _ (by omega)
        omega
      simp only [hu, Array.getElem_append, hge, dif_neg, not_false_eq_true]
      have := h'.val (i - m) (by omega) j hj' hlt
      simpa only [he] using this
  · simp only [Array.getElem_append]
    split
    · exact h.one _ _
    · exact h'.one _ _
  · simp only [Bool.and_eq_true] at hp
    by_cases hm : i < m
    · have hu : catRow m row row' i = row i := by simp [catRow, hm]
      have hj' : j < (row i).length := by rw [hu] at hj; exact hj
      have hlt : i * n + j < cs.size := by rw [h.size]; exact mul_add_lt hm (by rw [← h.len i hm]; exact hj')
      simp only [hu, Array.getElem_append, hlt, dif_pos]
      exact h.plain hp.1 i hm j hj' hlt
    · have hu : catRow m row row' i = row' (i - m) := by simp [catRow, hm]
      have hj' : j < (row' (i - m)).length := by rw [hu] at hj; exact hj
      have hge : ¬ i * n + j < cs.size := by
        rw [h.size]
        have : m * n ≤ i * n := Nat.mul_le_mul_right _ (by omega)
        omega
      have hlt : (i - m) * n + j < cs'.size := by rw [h'.size]; exact mul_add_lt (by omega) (by rw [← h'.len (i - m) (by omega)]; exact hj')
      have he : i * n + j - cs.size = (i - m) * n + j := by
        rw [h.size, Nat.sub_mul]
        have : m * n ≤ i * n := Nat.mul_le_mul_right _ (by omega)
        omega
      simp only [hu, Array.getElem_append, hge, dif_neg, not_false_eq_true]
      have := h'.plain hp.2 (i - m) (by omega) j hj' hlt
      simpa only [he] using this
theorem growBy_le (need : Nat) : ∀ (k c : Nat), c ≤ 2 * need + 192 → Builtin.growBy need k c ≤ 2 * need + 192 := by
  intro k
  induction k with
  | zero => intro c h; exact h
  | succ k ih =>
    intro c h
    unfold Builtin.growBy
    split
    · exact h
    · exact ih _ (by omega)
theorem nextslicecap_le {need old : Nat} (h : old < need) : Builtin.nextslicecap need old ≤ 3 * need := by
  unfold Builtin.nextslicecap
  split
  · omega
  · split
    · omega
    · have := growBy_le need 4 old (by omega)
      omega
theorem run_append_grow {w : World} {t : TypeId} {ts : Array TypeId} {ty elem : TypeId} {base : Option Addr} {sLen sCap n m : Nat} {mx : Value} {i : TypeInfo} {cs cx : Array Value} {d' : TypeDesc}
    (h0 : ts[0]? = some t) (h1 : ts[1]?.bind P.underlying = some d') (hd : ∀ k, d' ≠ .int k) (hu : P.underlying t = some (.slice elem)) (hi : P.info? elem = some i) (hn : i.size = n) (hn0 : 0 < n)
    {zv : Value} (hz : (zeroValue elem).run P { w with drawn := w.drawn + 1 } = .ok zv { w with drawn := w.drawn + 1 }) (hzs : zv.cells.size = n) (hz1 : ∀ j (h : j < zv.cells.size), (zv.cells[j]).oneCell' = true)
    (hlen : (Builtin.lenOf mx).run P w = .ok m w)
    (hs : (Builtin.firstCells n sLen (.slice base sLen sCap)).run P { w with drawn := w.drawn + 1 } = .ok cs { w with drawn := w.drawn + 1 }) (hcs : cs.size = sLen * n)
    (hx : (Builtin.firstCells n m mx).run P { w with drawn := w.drawn + 1 } = .ok cx { w with drawn := w.drawn + 1 }) (hcx : cx.size = m * n)
    (hgt : sCap < sLen + m) (hb : (sLen + m) * i.bytes ≤ 2 ^ 46) (hlt : sLen + m < 2 ^ 62) :
    ∃ (cap : Nat) (rest : Array Value), sLen + m ≤ cap ∧ rest.size = (cap - (sLen + m)) * n ∧ (∀ j (h : j < rest.size), (rest[j]).oneCell' = true) ∧
      (Builtin.append_ ts ty #[.slice base sLen sCap, mx]).run P w = .ok (.slice (some ⟨w.heap.size, 0, none⟩) (sLen + m) cap) (({ w with drawn := w.drawn + 1 } : World).alloc (.cells (cs ++ cx ++ rest) elem)) := by
  obtain ⟨t', ht', hd'⟩ := Option.bind_eq_some_iff.1 h1
  let t0 := w.tape w.drawn (.appendCap (sLen + m) sCap elem)
  refine ⟨sLen + m + t0 % (2 ^ 63 - (sLen + m)), Builtin.zeroCells zv.cells (sLen + m + t0 % (2 ^ 63 - (sLen + m)) - (sLen + m)), by omega, by simp [Builtin.zeroCells, hzs], ?_, ?_⟩
  · intro j h
    simp only [Builtin.zeroCells, Array.getElem_map, Array.getElem_range]
    rw [getElem!_pos zv.cells _ (Nat.mod_lt _ (by omega))]
    exact hz1 _ _
  · have hnext := nextslicecap_le hgt
    have hno : ¬ Builtin.nextslicecap (sLen + m) sCap * i.bytes > 2 ^ 48 := by
      have : Builtin.nextslicecap (sLen + m) sCap * i.bytes ≤ 3 * (sLen + m) * i.bytes := Nat.mul_le_mul_right _ hnext
      rw [Nat.mul_assoc] at this
      omega
    have hno2 : ¬ ((sLen + m : Nat) : Int) > IntKind.i64.max := by
      simp [IntKind.max, IntKind.signed, IntKind.bits]; omega
    have hsz : (sizeOf elem).run P w = .ok n w := run_size (by simp [sizeE, hi, hn])
    have hzeros : (match d' with | .int _ => true | _ => false) = false := by
      cases d' <;> first | rfl | exact absurd rfl (hd _)
    simp only [Builtin.append_, h0, List.getElem?_toArray, List.getElem?_cons_zero, List.getElem?_cons_succ, Sem.run_bind, run_under hu, Result.andThen_ok, hsz, ht', run_under hd', hzeros,
      Bool.false_eq_true, if_false, hlen, Sem.run_pure]
    rw [if_neg (by omega)]
    simp only [Sem.run_ite, Sem.run_bind, run_info hi, Result.andThen_ok]
    rw [if_neg (fun h => hno2 h.1), if_neg hno]
    simp only [Sem.run_bind, Sem.run_pure, Result.andThen_ok, run_choose, Question.forced, Bool.false_eq_true, if_false, Question.cut, run_askRoom]
    simp only [hs, Result.andThen_ok, Bool.not_false, if_true, hx, hz]
    rfl
end
end Go.Ev
namespace Go.Ev
section
variable {P : Program} {S : Type} {V : S → Prop} {G : Nat → Option (List EV)} {D : Drv S}
theorem Rel.drawn {K : KM} {σ : Heap} {w : World} (hr : Rel K σ w) (n : Nat) : Ext K σ w K σ { w with drawn := n } ∧ Rel K σ { w with drawn := n } := by
  have hE : Ext K σ w K σ { w with drawn := n } :=
    ⟨Nat.le_refl _, fun _ h => h, fun _ _ => ⟨rfl, rfl, rfl, rfl⟩, fun _ h => h, fun _ h => .inl h, fun _ h => .inr h, fun _ _ _ => rfl, Nat.le_refl _, rfl, rfl, rfl⟩
  refine ⟨hE, fun r o h => ?_, hr.inj, hr.notF, hr.lt, hr.Flt, hr.alt⟩
  by_cases hf : o = .free
  · subst hf; exact hr.obj r _ h
  · exact (hr.obj r o h).ext hE hr hf fun _ => rfl
theorem mid_at {c c' cx : Array Value} {base n start m : Nat} (hsz : c'.size = c.size) (hx : cx.size = m * n)
    (hg : ∀ j, c'[j]? = if base + start * n ≤ j ∧ j < base + start * n + cx.size then cx[j - (base + start * n)]? else c[j]?) {i j : Nat} (hj : j < n) (hc : base + i * n + j < c'.size) :
    (start ≤ i ∧ i < start + m → ∃ h : (i - start) * n + j < cx.size, c'[base + i * n + j] = cx[(i - start) * n + j]) ∧
    (¬ (start ≤ i ∧ i < start + m) → ∃ h : base + i * n + j < c.size, c'[base + i * n + j] = c[base + i * n + j]) := by
  have h := hg (base + i * n + j)
  rw [Array.getElem?_eq_getElem hc] at h
  constructor
  · intro hin
    have h1 : start * n ≤ i * n := Nat.mul_le_mul_right _ hin.1
    have h2 := mul_add_lt (show i - start < m by omega) hj
    have h3 : (i - start) * n = i * n - start * n := Nat.sub_mul _ _ _
    rw [if_pos (by rw [hx]; omega), Array.getElem?_eq_getElem (by rw [hx]; omega)] at h
    refine ⟨by rw [hx]; exact h2, ?_⟩
    rw [Option.some.inj h]
    congr 1; omega
  · intro hout
    have : ¬ (base + start * n ≤ base + i * n + j ∧ base + i * n + j < base + start * n + cx.size) := by
      rintro ⟨a, b⟩
      apply hout
      constructor
      · rcases Nat.lt_or_ge i start with h' | h'
        · have : (i + 1) * n ≤ start * n := Nat.mul_le_mul_right _ h'
          rw [Nat.add_mul] at this; omega
        · exact h'
      · rcases Nat.lt_or_ge i (start + m) with h' | h'
        · exact h'
        · have : (start + m) * n ≤ i * n := Nat.mul_le_mul_right _ h'
          rw [Nat.add_mul] at this; rw [hx] at b; omega
    rw [if_neg this, Array.getElem?_eq_getElem (by omega)] at h
    exact ⟨by omega, Option.some.inj h⟩
theorem run_append_room {w w' : World} {t : TypeId} {ts : Array TypeId} {ty elem : TypeId} {a : Addr} {sLen sCap n m : Nat} {mx : Value} {cx : Array Value} {d' : TypeDesc}
    (h0 : ts[0]? = some t) (h1 : ts[1]?.bind P.underlying = some d') (hd : ∀ k, d' ≠ .int k) (hu : P.underlying t = some (.slice elem)) (hn : sizeE P elem = some n)
    (hlen : (Builtin.lenOf mx).run P w = .ok m w) (hx : (Builtin.firstCells n m mx).run P w = .ok cx w) (hle : sLen + m ≤ sCap)
    (hst : (storeCells (a.add (sLen * n)) cx.toList).run P w = .ok () w') :
    (Builtin.append_ ts ty #[.slice (some a) sLen sCap, mx]).run P w = .ok (.slice (some a) (sLen + m) sCap) w' := by
  obtain ⟨t', ht', hd'⟩ := Option.bind_eq_some_iff.1 h1
  have hzeros : (match d' with | .int _ => true | _ => false) = false := by
    cases d' <;> first | rfl | exact absurd rfl (hd _)
  simp only [Builtin.append_, h0, List.getElem?_toArray, List.getElem?_cons_zero, List.getElem?_cons_succ, Sem.run_bind, run_under hu, Result.andThen_ok, run_size hn, ht', run_under hd', hzeros,
    Bool.false_eq_true, if_false, hlen, Sem.run_pure]
  rw [if_pos hle]
  simp only [Sem.run_bind, Bool.not_false, if_true, hx, Result.andThen_ok, hst, Sem.run_pure]
theorem run_append_nil {w : World} {t : TypeId} {ts : Array TypeId} {ty elem : TypeId} {n : Nat} {mx : Value} {cx : Array Value} {d' : TypeDesc}
    (h0 : ts[0]? = some t) (h1 : ts[1]?.bind P.underlying = some d') (hd : ∀ k, d' ≠ .int k) (hu : P.underlying t = some (.slice elem)) (hn : sizeE P elem = some n)
    (hlen : (Builtin.lenOf mx).run P w = .ok 0 w) (hx : (Builtin.firstCells n 0 mx).run P w = .ok cx w) :
    (Builtin.append_ ts ty #[.slice none 0 0, mx]).run P w = .ok (.slice none 0 0) w := by
  obtain ⟨t', ht', hd'⟩ := Option.bind_eq_some_iff.1 h1
  have hzeros : (match d' with | .int _ => true | _ => false) = false := by
    cases d' <;> first | rfl | exact absurd rfl (hd _)
  simp only [Builtin.append_, h0, List.getElem?_toArray, List.getElem?_cons_zero, List.getElem?_cons_succ, Sem.run_bind, run_under hu, Result.andThen_ok, run_size hn, ht', run_under hd', hzeros,
    Bool.false_eq_true, if_false, hlen, Sem.run_pure]
  rw [if_pos (by omega)]
  simp only [Sem.run_bind, Bool.not_false, if_true, hx, Result.andThen_ok, Sem.run_pure]
theorem grow_rel {K : KM} {σ : Heap} {w w' : World} (hR : Rel K σ w) {nm : Nat} (hfree : σ[nm]? = some .free) {elem : TypeId} {n m cap : Nat} {row : Nat → List EV} {pf : Bool} {cs rest : Array Value}
    (hl : Loaded K w n m row pf cs) (hcap : m ≤ cap) (hrest : rest.size = (cap - m) * n) (hr1 : ∀ j (h : j < rest.size), (rest[j]).oneCell' = true) (hw : w' = w.alloc (.cells (cs ++ rest) elem)) :
    ∃ K', Ext K σ w K' (σ.set nm (.arr false pf n false m row)) w' ∧ Rel K' (σ.set nm (.arr false pf n false m row)) w' ∧ VR K' w' (.ms nm n 0 m none) (.slice (some ⟨w.heap.size, 0, none⟩) m cap) := by
  subst hw
  have hN : New w (w.alloc (.cells (cs ++ rest) elem)) (.cells (cs ++ rest) elem) := New.push w _
  have hsz : (cs ++ rest).size = cap * n := by
    rw [Array.size_append, hl.size, hrest, ← Nat.add_mul]; congr 1; omega
  obtain ⟨e1, r1⟩ := new_arr hR hfree hN (by intro j _; simp) (esz := n) (len := m) (row := row) (exact := false) (pf := pf)
    (fun j h => by
      simp only [Array.getElem_append]
      split
      · exact hl.one _ _
      · exact hr1 _ _)
    (by rw [hsz]; exact Nat.mul_le_mul_right _ hcap) (fun h => by cases h)
    (fun i hi => ⟨hl.len i hi, fun j hj hc => by
      have hlt : i * n + j < cs.size := by rw [hl.size]; exact mul_add_lt hi (by rw [← hl.len i hi]; exact hj)
      have := hl.val i hi j hj hlt
      simpa only [Nat.zero_add, Array.getElem_append, hlt, dif_pos] using this⟩)
    (fun hp i hi j hj hc => by
      have hlt : i * n + j < cs.size := by rw [hl.size]; exact mul_add_lt hi (by rw [← hl.len i hi]; exact hj)
      have := hl.plain hp i hi j hj hlt
      simpa only [Nat.zero_add, Array.getElem_append, hlt, dif_pos] using this)
  refine ⟨_, e1, r1, .ms nm n 0 m none cap _ (.inl rfl) hcap (by simp [KM.new]) (fun c h => by cases h) (fun _ => by simp only [KM.new, if_pos]; rw [hsz]; simp) fun _ => by simp [KM.new]⟩
set_option maxHeartbeats 2000000 in
theorem eAppend_ok (hD : DOk V P G D) (look : Look) (nm : Nat) (t t' : TypeId) (d' : TypeDesc) (hd' : P.underlying t' = some d') (hd : ∀ k, d' ≠ .int k) (s x : EV) :
    Ok V (eAppend D P look nm t s x) fun r => ∀ K σ w ms mx ty (ts : Array TypeId), ts[0]? = some t → ts[1]? = some t' → Rel K σ w → (∀ r o, look r = some o → σ[r]? = some o) → σ[nm]? = some .free →
      VR K w s ms → VR K w x mx →
      ∃ mv w' K', (Builtin.append_ ts ty #[ms, mx]).run P w = .ok mv w' ∧ Ext K σ w K' (applyU σ r.2) w' ∧ Rel K' (applyU σ r.2) w' ∧ VR K' w' r.1 mv := by
  unfold eAppend
  split
  · rename_i elem hu
    refine Ok.bind (Ok.lift (Φ := fun n => sizeE P elem = some n) fun n h => h) fun n => ?_
    refine Ok.bind (Ok.lift (Φ := fun z => zeroE P elem = some z) fun n h => h) fun z => ?_
    refine Ok.ite (fun _ => Ok.fail) fun hne => ?_
    have hn0 : 0 < n := by omega
    have hzl : z.length = n := by omega
    refine Ok.bind (Ok.lift (Φ := fun q => rowsOf look x = some q) fun n h => h) fun q => ?_
    obtain ⟨esz, m, xrow, xpf⟩ := q
    dsimp only
    refine Ok.ite (fun _ => Ok.fail) fun hes => ?_
    have he : m ≠ 0 → esz = n := by
      intro h
      by_cases h' : esz = n
      · exact h'
      · exact absurd ⟨h', h⟩ hes
    -- where a new block is made
    have grow : sizeE P elem = some n → zeroE P elem = some z → rowsOf look x = some (esz, m, xrow, xpf) → ∀ {K : KM} {σ : Heap} {w : World} {mx : Value} {ty : TypeId} {ts : Array TypeId} {base : Option Addr} {sLen sCap : Nat}
        {srow : Nat → List EV} {spf : Bool} {cs : Array Value}, ts[0]? = some t → ts[1]? = some t' → Rel K σ w → (∀ r o, look r = some o → σ[r]? = some o) → σ[nm]? = some .free → VR K w x mx →
        (Builtin.firstCells n sLen (.slice base sLen sCap)).run P { w with drawn := w.drawn + 1 } = .ok cs { w with drawn := w.drawn + 1 } → Loaded K { w with drawn := w.drawn + 1 } n sLen srow spf cs →
        sCap < sLen + m → (sLen + m) * ((P.info? elem).map (·.bytes)).getD 0 ≤ 2 ^ 46 → sLen + m < 2 ^ 62 →
        ∃ mv w' K', (Builtin.append_ ts ty #[.slice base sLen sCap, mx]).run P w = .ok mv w' ∧ Ext K σ w K' (σ.set nm (.arr false (spf && xpf) n false (sLen + m) (catRow sLen srow xrow))) w' ∧
          Rel K' (σ.set nm (.arr false (spf && xpf) n false (sLen + m) (catRow sLen srow xrow))) w' ∧ VR K' w' (.ms nm n 0 (sLen + m) none) mv := by
      intro hn hz hq K σ w mx ty ts base sLen sCap srow spf cs ht ht' hR hlk hfree hx hcs hls hgt hb hlt
      obtain ⟨i, hi, hisz⟩ := sizeE_some hn
      have hby : ((P.info? elem).map (·.bytes)).getD 0 = i.bytes := by simp [hi]
      rw [hby] at hb
      obtain ⟨eD, rD⟩ := hR.drawn (w.drawn + 1)
      obtain ⟨zv, z1, z2⟩ := zero_cells (P := P) hz K { w with drawn := w.drawn + 1 }
      obtain ⟨x1, _⟩ := rows_run (P := P) (look_ok hR hlk) hq hx hn0 he
      obtain ⟨_, cx, x2, x3⟩ := rows_run (P := P) (look_ok rD hlk) hq (hx.ext eD hR) hn0 he
      obtain ⟨cap, rest, g1, g2, g3, g4⟩ := run_append_grow (P := P) (ty := ty) (i := i) (n := n) ht (by rw [ht']; exact hd') hd hu hi hisz hn0 z1 (by rw [← z2.1.1]; exact hzl) z2.2 x1 hcs hls.size x2 x3.size hgt hb hlt
      obtain ⟨K', e1, r1, v1⟩ := grow_rel rD hfree (hls.cat x3) g1 g2 g3 rfl
      exact ⟨_, _, K', g4, eD.trans e1, r1, v1⟩
    split
    · refine Ok.bind (hD.chk _) fun _ => ?_
      refine Ok.bind (hD.br _) fun d => ?_
      refine Ok.ite (fun hdt => Ok.pure ?_) fun hdf => Ok.pure ?_
      · intro hbr hchk hq hz hn K σ w ms mx ty ts ht ht' hR hlk hfree hs hx
        rw [hdt] at hbr
        have hm : m = 0 := by simpa using hbr.symm
        subst hm
        rcases hs.isl_inv with ⟨_, _, rfl⟩ | ⟨h0, _⟩
        · obtain ⟨x1, cx, x2, x3⟩ := rows_run (P := P) (look_ok hR hlk) hq hx hn0 he
          exact ⟨_, w, K, run_append_nil ht (by rw [ht']; exact hd') hd hu hn x1 x2, Ext.refl _ _ _, hR, .pure _ _ (.isln _ _)⟩
        · cases h0
      · intro hbr hchk hq hz hn K σ w ms mx ty ts ht ht' hR hlk hfree hs hx
        have hm : m ≠ 0 := by
          rintro rfl
          exact hdf (by rw [hbr]; simp)
        simp only [Bool.and_eq_true, decide_eq_true_eq] at hchk
        rcases hs.isl_inv with ⟨_, _, rfl⟩ | ⟨h0, _⟩
        · obtain ⟨mv, w', K', h1, h2, h3, h4⟩ := grow hn hz hq (base := none) (sLen := 0) (sCap := 0) (srow := fun _ => []) (spf := true) (cs := #[]) (ty := ty) ht ht' hR hlk hfree hx (by simp [Builtin.firstCells]) .nil (by omega)
            (by rw [Nat.zero_add]; exact hchk.1) (by omega)
          have hcat : catRow 0 (fun _ => []) xrow = xrow := by funext i; simp [catRow]
          simp only [Nat.zero_add, hcat, Bool.true_and] at h1 h2 h3 h4
          exact ⟨mv, w', K', h1, h2, h3, h4⟩
        · cases h0
    · rename_i r esz0 off len cap
      split
      · rename_i pf esz' ex olen row hr
        refine Ok.ite (fun _ => Ok.fail) fun hne2 => ?_
        have e1 : esz0 = n := by omega
        have e2 : esz' = n := by omega
        subst e1; subst e2
        refine Ok.bind (hD.chk _) fun _ => ?_
        -- the slice's own rows, loaded
        have own : ∀ {K : KM} {σ : Heap} {w : World} {a : Addr} {mcap : Nat}, Rel K σ w → (∀ r o, look r = some o → σ[r]? = some o) → len ≤ mcap → off + len ≤ K.len r →
            (mcap ≠ 0 → a = ⟨K.blk r, K.off r + off * esz', none⟩) →
            ∃ cs, (Builtin.firstCells esz' len (.slice (some a) len mcap)).run P { w with drawn := w.drawn + 1 } = .ok cs { w with drawn := w.drawn + 1 } ∧ Loaded K { w with drawn := w.drawn + 1 } esz' len (fun i => row (off + i)) pf cs := by
          intro K σ w a mcap hR hlk hle hlen haddr
          obtain ⟨eD, rD⟩ := hR.drawn (w.drawn + 1)
          by_cases h0 : len = 0
          · subst h0
            exact ⟨#[], by simp [Builtin.firstCells, loadCells, loadCellsFrom], .nil⟩
          · obtain rfl := haddr (by omega)
            have ho := rD.obj r _ (hlk r _ hr)
            have hln : K.len r = olen := ho.2.1
            obtain ⟨cs, c1, c2⟩ := arr_cells (P := P) ho (off := off) (m := len) (by omega) hn0
            exact ⟨cs, by simp only [Builtin.firstCells]; exact c1, c2⟩
        -- where there is room: the cells that are written
        have room : sizeE P elem = some esz' → rowsOf look x = some (esz, m, xrow, xpf) → ∀ {K : KM} {σ : Heap} {w : World} {a : Addr} {mcap : Nat} {mx : Value} {ty : TypeId} {ts : Array TypeId}, ts[0]? = some t → ts[1]? = some t' →
            Rel K σ w → (∀ r o, look r = some o → σ[r]? = some o) → VR K w x mx → len ≤ mcap → len + m ≤ mcap → K.off r + (off + mcap) * esz' ≤ K.ext r →
            (mcap ≠ 0 → a = ⟨K.blk r, K.off r + off * esz', none⟩) →
            ∃ (w' : World) (c c' cx : Array Value) (e : TypeId) (fz : Nat × Nat), (Builtin.append_ ts ty #[.slice (some a) len mcap, mx]).run P w = .ok (.slice (some a) (len + m) mcap) w' ∧
              w.heap[K.blk r]? = some (.cells c e fz) ∧ Wr w w' (K.blk r) (.cells c' e fz) ∧ c'.size = c.size ∧ K.ext r = c.size ∧ Loaded K w esz' m xrow xpf cx ∧ (∀ j (h : j < c'.size), (c'[j]).oneCell' = true) ∧
              (∀ j, j < c.size → (fz.1 ≤ j && j < fz.2) = false) ∧
              (∀ j, c'[j]? = if K.off r + (off + len) * esz' ≤ j ∧ j < K.off r + (off + len) * esz' + cx.size then cx[j - (K.off r + (off + len) * esz')]? else c[j]?) := by
          intro hn hq K σ w a mcap mx ty ts ht ht' hR hlk hx hle hneed hext haddr
          obtain ⟨x1, cx, x2, x3⟩ := rows_run (P := P) (look_ok hR hlk) hq hx hn0 he
          obtain ⟨_, hln, c, e, fz, hb, hfz, hxt, hone, hcl, _⟩ := hR.obj r _ (hlk r _ hr)
          by_cases hm0 : m = 0
          · subst hm0
            have hcx : cx = #[] := by
              have := x3.size
              simp at this; exact this
            subst hcx
            refine ⟨w, c, c, #[], e, fz, ?_, hb, .refl hb, rfl, hxt, x3, hone, hfz, fun j => by rw [if_neg (by simp)]⟩
            exact run_append_room ht (by rw [ht']; exact hd') hd hu hn x1 x2 (by omega) (by simp [storeCells])
          · obtain rfl := haddr (by omega)
            have hbnd : (off + len + m) * esz' ≤ (off + mcap) * esz' := Nat.mul_le_mul_right _ (by omega)
            have hadd : K.off r + off * esz' + len * esz' = K.off r + (off + len) * esz' := by rw [Nat.add_mul]; omega
            obtain ⟨w', c', s1, s2, s3, s4⟩ := run_storeCells P cx.toList 0 w c hb (fun v hv => by
              obtain ⟨i, hi, rfl⟩ := List.mem_iff_getElem.1 hv
              exact x3.one i (by simpa using hi)) (o := K.off r + (off + len) * esz') (by simp only [Array.length_toList, x3.size]; rw [Nat.add_mul (off + len)] at hbnd; omega) hfz
            refine ⟨w', c, c', cx, e, fz, ?_, hb, s2, s3, hxt, x3, fun j h => ?_, hfz, fun j => ?_⟩
            · refine run_append_room ht (by rw [ht']; exact hd') hd hu hn x1 x2 hneed ?_
              rw [add_none, hadd]; exact s1
            · have := s4 j
              rw [Array.getElem?_eq_getElem h] at this
              split at this
              · rename_i hin
                rw [List.getElem?_eq_getElem (by omega)] at this
                rw [Option.some.inj this, Array.getElem_toList]
                exact x3.one _ _
              · rw [Array.getElem?_eq_getElem (by omega)] at this
                rw [Option.some.inj this]; exact hone _ _
            · rw [s4]; simp
        split
        · rename_i c0
          refine Ok.bind (hD.br _) fun d => ?_
          refine Ok.ite (fun hdt => Ok.pure ?_) fun hdf => Ok.pure ?_
          · -- in place, room that is known
            intro hbr hchk hq hz hn K σ w ms mx ty ts ht ht' hR hlk hfree hs hx
            rw [hdt] at hbr
            have hroom : len + m ≤ c0 := by simpa using hbr.symm
            obtain ⟨a, mcap, rfl, hal, hle, hlen, hcap, hnone, haddr⟩ := hs.ms_inv
            obtain ⟨rfl, hoc⟩ := hcap _ rfl
            have hσ := hlk r _ hr
            obtain ⟨_, hln, c1, e1, fz1, hb1, _, hxt1, _, hcl, hexa, _, hrl, hvr, hpl⟩ := hR.obj r _ hσ
            have hext : K.off r + (off + mcap) * esz' ≤ K.ext r := by
              have : (off + mcap) * esz' ≤ olen * esz' := Nat.mul_le_mul_right _ (by omega)
              omega
            obtain ⟨w', c, c', cx, e, fz, g1, hb, g2, g3, g4, x3, g5, g6, g7⟩ := room hn hq (ty := ty) ht ht' hR hlk hx hle hroom hext haddr
            rw [hb] at hb1
            simp only [Option.some.injEq, Obj.cells.injEq] at hb1
            obtain ⟨rfl, rfl, rfl⟩ := hb1
            have := hR.write hσ rfl g2 (obj' := .arr false (pf && xpf) esz' ex olen (midRow (off + len) m row xrow)) rfl fun σ' hE => by
              have x3' := x3.ext hE hR
              refine ⟨hal, hln, c', e, fz, g2.here, fun j hj => g6 j (by omega), by omega, g5, by omega, fun h => by rw [g3]; exact hexa h, (fun h => by cases h), fun i hi => ?_, fun i hi j hj hc => ?_, fun hp i hi j hj hc => ?_⟩
              · unfold midRow
                split
                · exact hrl i hi
                · split
                  · exact x3.len _ (by omega)
                  · exact hrl i hi
              · by_cases hin : off + len ≤ i ∧ i < off + len + m
                · have hu : midRow (off + len) m row xrow i = xrow (i - (off + len)) := by simp only [midRow]; rw [if_neg (by omega), if_pos (by omega)]
                  have hj' : j < (xrow (i - (off + len))).length := by rw [hu] at hj; exact hj
                  obtain ⟨hlt, heq⟩ := (mid_at g3 x3.size g7 (by rw [← x3.len (i - (off + len)) (by omega)]; exact hj') hc).1 hin
                  simp only [hu, heq]
                  exact x3'.val _ (by omega) j hj' hlt
                · have hu : midRow (off + len) m row xrow i = row i := by simp only [midRow]; split; rfl; rw [if_neg (by omega)]
                  have hj' : j < (row i).length := by rw [hu] at hj; exact hj
                  obtain ⟨hlt, heq⟩ := (mid_at g3 x3.size g7 (by rw [← hrl i hi]; exact hj') hc).2 hin
                  simp only [hu, heq]
                  exact (hvr i hi j hj' hlt).ext hE hR
              · simp only [Bool.and_eq_true] at hp
                by_cases hin : off + len ≤ i ∧ i < off + len + m
                · have hu : midRow (off + len) m row xrow i = xrow (i - (off + len)) := by simp only [midRow]; rw [if_neg (by omega), if_pos (by omega)]
                  have hj' : j < (xrow (i - (off + len))).length := by rw [hu] at hj; exact hj
                  obtain ⟨hlt, heq⟩ := (mid_at g3 x3.size g7 (by rw [← x3.len (i - (off + len)) (by omega)]; exact hj') hc).1 hin
                  simp only [hu, heq]
                  exact x3'.plain hp.2 _ (by omega) j hj' hlt
                · have hu : midRow (off + len) m row xrow i = row i := by simp only [midRow]; split; rfl; rw [if_neg (by omega)]
                  have hj' : j < (row i).length := by rw [hu] at hj; exact hj
                  obtain ⟨hlt, heq⟩ := (mid_at g3 x3.size g7 (by rw [← hrl i hi]; exact hj') hc).2 hin
                  simp only [hu, heq]
                  exact (hpl hp.1 i hi j hj' hlt).ext hE hR
            exact ⟨_, w', K, g1, this.1, this.2, .ms r esz' off (len + m) (some mcap) mcap a hal hroom (by omega) (fun c h => by obtain rfl := Option.some.inj h; exact ⟨rfl, by omega⟩) (fun h => by cases h) haddr⟩
          · intro hbr hchk hq hz hn K σ w ms mx ty ts ht ht' hR hlk hfree hs hx
            simp only [Bool.and_eq_true, decide_eq_true_eq] at hchk
            have hno : c0 < len + m := by
              rcases Nat.lt_or_ge c0 (len + m) with h | h
              · exact h
              · exact absurd (by rw [hbr]; simp; omega) hdf
            obtain ⟨a, mcap, rfl, hal, hle, hlen, hcap, hnone, haddr⟩ := hs.ms_inv
            obtain ⟨rfl, hoc⟩ := hcap _ rfl
            obtain ⟨cs, s1, s2⟩ := own hR hlk hle hlen haddr
            obtain ⟨mv, w', K', h1, h2, h3, h4⟩ := grow hn hz hq (ty := ty) ht ht' hR hlk hfree hx s1 s2 hno hchk.1 hchk.2
            exact ⟨mv, w', K', h1, h2, h3, h4⟩
        · refine Ok.pure ?_
          intro hchk hq hz hn K σ w ms mx ty ts ht ht' hR hlk hfree hs hx
          simp only [Bool.and_eq_true, decide_eq_true_eq] at hchk
          obtain ⟨a, mcap, rfl, hal, hle, hlen, hcap, hnone, haddr⟩ := hs.ms_inv
          have hσ := hlk r _ hr
          have hnr : nm ≠ r := by
            rintro rfl
            rw [hfree] at hσ; cases hσ
          by_cases hroom : len + m ≤ mcap
          · have hext := hnone rfl
            obtain ⟨_, hln, c1, e1, fz1, hb1, _, hxt1, _, hcl, hexa, _, hrl, hvr, hpl⟩ := hR.obj r _ hσ
            obtain ⟨w', c, c', cx, e, fz, g1, hb, g2, g3, g4, x3, g5, g6, g7⟩ := room hn hq (ty := ty) ht ht' hR hlk hx hle hroom (by omega) haddr
            rw [hb] at hb1
            simp only [Option.some.injEq, Obj.cells.injEq] at hb1
            obtain ⟨rfl, rfl, rfl⟩ := hb1
            have hbnd : (off + (len + m)) * esz' ≤ (off + mcap) * esz' := Nat.mul_le_mul_right _ (by omega)
            have hat : ∀ i, K.off r + off * esz' + i * esz' = K.off r + (off + i) * esz' := by intro i; rw [Nat.add_mul]; omega
            have := hR.inherit hfree hσ rfl g2 (obj := .arr false (pf && xpf) esz' false (len + m) (catRow len (fun i => row (off + i)) xrow)) rfl (off := K.off r + off * esz') (e := c.size) (l := len + m) fun σ' hE => by
              have x3' := x3.ext hE hR
              refine ⟨.inl rfl, by simp [KM.new], c', e, fz, by simp only [KM.new, if_pos]; exact g2.here, fun j hj => g6 j (by omega), by simp only [KM.new, if_pos]; omega, g5, by simp only [KM.new, if_pos]; rw [hat]; omega, (fun h => by cases h), (fun h => by cases h), fun i hi => ?_, fun i hi j hj hc => ?_, fun hp i hi j hj hc => ?_⟩
              · unfold catRow
                split
                · exact hrl _ (by omega)
                · exact x3.len _ (by omega)
              · simp only [KM.new, if_pos, hat] at hc ⊢
                by_cases hin : i < len
                · have hu : catRow len (fun i => row (off + i)) xrow i = row (off + i) := by simp [catRow, hin]
                  have hj' : j < (row (off + i)).length := by rw [hu] at hj; exact hj
                  obtain ⟨hlt, heq⟩ := (mid_at g3 x3.size g7 (by rw [← hrl (off + i) (by omega)]; exact hj') hc).2 (by omega)
                  simp only [hu, heq]
                  exact (hvr (off + i) (by omega) j hj' hlt).ext hE hR
                · have hu : catRow len (fun i => row (off + i)) xrow i = xrow (i - len) := by simp [catRow, hin]
                  have hj' : j < (xrow (i - len)).length := by rw [hu] at hj; exact hj
                  obtain ⟨hlt, heq⟩ := (mid_at g3 x3.size g7 (by rw [← x3.len (i - len) (by omega)]; exact hj') hc).1 (by omega)
                  have hil : off + i - (off + len) = i - len := by omega
                  simp only [hu, heq]
                  simp only [hil] at hlt ⊢
                  exact x3'.val _ (by omega) j hj' hlt
              · simp only [KM.new, if_pos, hat] at hc ⊢
                simp only [Bool.and_eq_true] at hp
                by_cases hin : i < len
                · have hu : catRow len (fun i => row (off + i)) xrow i = row (off + i) := by simp [catRow, hin]
                  have hj' : j < (row (off + i)).length := by rw [hu] at hj; exact hj
                  obtain ⟨hlt, heq⟩ := (mid_at g3 x3.size g7 (by rw [← hrl (off + i) (by omega)]; exact hj') hc).2 (by omega)
                  simp only [hu, heq]
                  exact (hpl hp.1 (off + i) (by omega) j hj' hlt).ext hE hR
                · have hu : catRow len (fun i => row (off + i)) xrow i = xrow (i - len) := by simp [catRow, hin]
                  have hj' : j < (xrow (i - len)).length := by rw [hu] at hj; exact hj
                  obtain ⟨hlt, heq⟩ := (mid_at g3 x3.size g7 (by rw [← x3.len (i - len) (by omega)]; exact hj') hc).1 (by omega)
                  have hil : off + i - (off + len) = i - len := by omega
                  simp only [hu, heq]
                  simp only [hil] at hlt ⊢
                  exact x3'.plain hp.2 _ (by omega) j hj' hlt
            refine ⟨_, w', _, g1, this.1, this.2, ?_⟩
            exact .ms nm esz' 0 (len + m) none mcap a (.inl rfl) hroom (by simp [KM.new]) (fun c h => by cases h) (fun _ => by simp only [KM.new, if_pos, Nat.zero_add]; rw [hat]; omega)
              fun h => by simp only [KM.new, if_pos, Nat.zero_mul, Nat.add_zero]; exact haddr h
          · obtain ⟨cs, s1, s2⟩ := own hR hlk hle hlen haddr
            obtain ⟨mv, w', K', h1, h2, h3, h4⟩ := grow hn hz hq (ty := ty) ht ht' hR hlk hfree hx s1 s2 (by omega) hchk.1 hchk.2
            have hk := h3.kill (r := r) (o := .arr false pf esz' ex olen row) (by rw [set_get hfree, if_neg (Ne.symm hnr)]; exact hσ)
            exact ⟨mv, w', K', h1, h2.trans hk.1, hk.2, h4⟩
      · exact Ok.fail
    · exact Ok.fail
  · exact Ok.fail
end
end Go.Ev
namespace Go.Ev
section
variable {P : Program} {S : Type} {V : S → Prop} {G : Nat → Option (List EV)} {D : Drv S}
theorem sameE_go_bits : ∀ (as bs : List EV) (ma mb : List Value) {F : Nat → Prop} {w : World}, sameE.go as bs = true → as.length = ma.length → bs.length = mb.length →
    (∀ i (h : i < as.length) (h' : i < ma.length), PR F w as[i] ma[i]) → (∀ i (h : i < bs.length) (h' : i < mb.length), PR F w bs[i] mb[i]) → (ma.length == mb.length && (ma.zip mb).all fun (x, y) => Instr.sameBits 9999 x y) = true := by
  intro as
  induction as with
  | nil =>
    intro bs ma mb F w h hl hl' _ _
    cases bs with
    | nil => cases ma <;> cases mb <;> simp_all
    | cons => simp [sameE.go] at h
  | cons a as ih =>
    intro bs ma mb F w h hl hl' hv hv'
    cases bs with
    | nil => cases a <;> simp [sameE.go] at h
    | cons b bs =>
      cases ma with
      | nil => simp at hl
      | cons x ma =>
        cases mb with
        | nil => simp at hl'
        | cons y mb =>
          have hx := hv 0 (by simp) (by simp)
          have hy := hv' 0 (by simp) (by simp)
          simp only [List.getElem_cons_zero] at hx hy
          have hxy : Instr.sameBits 9999 x y = true ∧ sameE.go as bs = true := by
            cases a <;> cases b <;> first | (simp [sameE.go] at h; done) | skip
            · simp only [sameE.go, Bool.and_eq_true] at h
              cases hx; cases hy
              exact ⟨by simpa [Instr.sameBits] using h.1, h.2⟩
            · simp only [sameE.go, Bool.and_eq_true] at h
              cases hx; cases hy
              exact ⟨by simpa [Instr.sameBits] using h.1, h.2⟩
            · simp only [sameE.go, Bool.and_eq_true] at h
              cases hx; cases hy
              exact ⟨by simpa [Instr.sameBits] using h.1, h.2⟩
          have := ih bs ma mb hxy.2 (by simpa using hl) (by simpa using hl') (fun i h1 h2 => hv (i + 1) (by simpa using h1) (by simpa using h2)) (fun i h1 h2 => hv' (i + 1) (by simpa using h1) (by simpa using h2))
          simp only [Bool.and_eq_true, beq_iff_eq] at this
          simp only [List.zip_cons_cons, List.all_cons, List.length_cons, hxy.1, this.2, this.1, Bool.and_self, beq_self_eq_true]
theorem sameE_bits {a b : EV} {ma mb : Value} {F : Nat → Prop} {w : World} (h : sameE a b = true) (ha : PR F w a ma) (hb : PR F w b mb) : Instr.sameBits 10000 ma mb = true := by
  cases a <;> cases b <;> first | (simp [sameE] at h; done) | skip
  · cases ha; cases hb; simpa [sameE, Instr.sameBits] using h
  · cases ha; cases hb; simpa [sameE, Instr.sameBits] using h
  · cases ha; cases hb; simpa [sameE, Instr.sameBits] using h
  · cases ha with
    | agg _ ma hl h1 hv => cases hb with
      | agg _ mb hl' h1' hv' =>
        have := sameE_go_bits _ _ ma.toList mb.toList (F := F) (w := w) (by simpa [sameE] using h) (by simpa using hl) (by simpa using hl') (fun i h1 h2 => by simpa using hv i h1 (by simpa using h2)) (fun i h1 h2 => by simpa using hv' i h1 (by simpa using h2))
        simpa [Instr.sameBits] using this
theorem keyOk_plain {d : Nat} {t : TypeId} {k : EV} {K : KM} {w : World} {mk : Value} (h : keyOk P d t k = true) (hp : k.plain = true) (hk : VR K w k mk) : PR K.F w k mk := hk.toPR hp
theorem setObj_map {w : World} {b : Nat} {es es' : Array MapEntry} {cl cl' : Nat} (h : w.heap[b]? = some (.map es cl)) :
    ∃ w', (setObj b (.map es' cl')).run P w = .ok () w' ∧ Wr w w' b (.map es' cl') := by
  refine ⟨{ w with heap := w.heap.setIfInBounds b (.map es' cl') }, by simp [setObj, Sem.run, h], ⟨by simp, fun b' hb => ?_, ?_, rfl, rfl, rfl⟩⟩
  · simp only [Array.getElem?_setIfInBounds]; rw [if_neg (Ne.symm hb)]
  · have : b < w.heap.size := by
      rcases Nat.lt_or_ge b w.heap.size with h' | h'
      · exact h'
      · rw [Array.getElem?_eq_none h'] at h; cases h
    simp [this]
set_option maxHeartbeats 1000000 in
theorem eMapUpdate_ok (hD : DOk V P G D) (look : Look) (t : TypeId) (m k v : EV) :
    Ok V (eMapUpdate D P look t m k v) fun u => ∀ K σ w mm mk mv, Rel K σ w → (∀ r o, look r = some o → σ[r]? = some o) → VR K w m mm → VR K w k mk → VR K w v mv →
      ∃ w' K', (Instr.mapUpdate t mm mk mv).run P w = .ok () w' ∧ Ext K σ w K' (applyU σ u) w' ∧ Rel K' (applyU σ u) w' := by
  unfold eMapUpdate
  split
  · rename_i kt et r hu
    split
    · rename_i pf es hr
      refine Ok.ite (fun hkey => ?_) fun _ => Ok.fail
      obtain ⟨hkey, hkp⟩ := Bool.and_eq_true _ _ ▸ hkey
      -- what both ways have in common
      have common : ∀ {q : Option (Nat × EV)}, findB P kt k es 0 q → ∀ {K : KM} {σ : Heap} {w : World} {mm mk : Value}, Rel K σ w → (∀ r o, look r = some o → σ[r]? = some o) → VR K w (.mm r) mm → VR K w k mk →
          ∃ (mes : Array MapEntry) (clock : Nat) (mr : Option (Nat × Value)), mm = .map (some (K.blk r)) ∧ K.al r ∧ σ[r]? = some (.map false pf es) ∧ w.heap[K.blk r]? = some (.map mes clock) ∧
            (Instr.findKey kt mk mes.toList).run P w = .ok mr w ∧ Found K w mes.toList 0 q mr ∧ es.length = mes.size ∧
            (∀ i (h : i < es.length) (h' : i < mes.size), VR K w es[i].1 mes[i].key ∧ VR K w es[i].2 mes[i].val) ∧
            (∀ i (h : i < es.length) (h' : i < mes.size), PR K.F w es[i].1 mes[i].key) ∧
            (pf = true → ∀ i (h : i < es.length) (h' : i < mes.size), PR K.F w es[i].2 mes[i].val) ∧
            (∀ i (h : i < mes.size), (mes[i]).born < clock) ∧ (∀ i j (h : i < mes.size) (h' : j < mes.size), (mes[i]).born = (mes[j]).born → i = j) := by
        intro q hq K σ w mm mk hR hlk hm hk
        obtain ⟨rfl, hal⟩ := hm.mm_inv
        have hσ := hlk r _ hr
        obtain ⟨_, mes, clock, hb, hl, _, hv, hkk, hp, hb1, hb2⟩ := hR.obj r _ hσ
        obtain ⟨mr, f1, f2⟩ := find_run (P := P) hkey hk hq (mes := mes.toList) (K := K) (w := w) ⟨by simpa using hl, fun i h1 h2 => by simpa using hv i h1 (by simpa using h2)⟩
        exact ⟨mes, clock, mr, rfl, hal, hσ, hb, f1, f2, hl, hv, hkk, hp, hb1, hb2⟩
      refine Ok.bind (eFind_ok hD kt k es) fun q => ?_
      split
      · rename_i i v0
        split
        · rename_i e0 he0
          refine Ok.bind (hD.chk _) fun _ => Ok.pure ?_
          intro hsame hq K σ w mm mk mv hR hlk hm hk hv0
          obtain ⟨mes, clock, mr, rfl, hal, hσ, hb, f1, f2, hl, hv, hkk, hp, hb1, hb2⟩ := common hq hR hlk hm hk
          match mr, f2 with
          | some (i', mv'), hfd =>
            obtain ⟨rfl, _, hval, _⟩ := hfd
            obtain ⟨hie, rfl⟩ := List.getElem?_eq_some_iff.1 he0
            have him : i < mes.size := by omega
            have hbits := sameE_bits hsame (hkk i hie him) (hk.toPR hkp)
            have hold : ((mes[i]?).map (·.key)).getD mk = (mes[i]).key := by simp [him]
            obtain ⟨w', s1, s2⟩ := setObj_map (P := P) (es' := mes.modify i fun e => { e with key := mk, val := mv }) (cl' := clock) hb
            have hmod : ∀ j (h : j < (mes.modify i fun e => { e with key := mk, val := mv }).size), (mes.modify i fun e => { e with key := mk, val := mv })[j] =
                if i = j then { (mes[j]'(by simpa using h)) with key := mk, val := mv } else mes[j]'(by simpa using h) := by
              intro j h
              rw [Array.getElem_modify]
            have := hR.write hσ rfl s2 (obj' := .map false (pf && v.plain) (es.set i (k, v))) rfl fun σ' hE => by
              refine ⟨hal, _, clock, s2.here, by simpa using hl, (fun h => by cases h), fun j h1 h2 => ?_, fun j h1 h2 => ?_, fun hpp j h1 h2 => ?_, fun j h => ?_, fun a b ha hb' => ?_⟩
              · have h1' : j < es.length := by simpa using h1
                have h2' : j < mes.size := by simpa using h2
                rw [hmod j h2]
                by_cases hij : i = j
                · subst hij
                  simp only [List.getElem_set_self, if_pos]
                  exact ⟨hk.ext hE hR, hv0.ext hE hR⟩
                · rw [List.getElem_set_ne hij, if_neg hij]
                  exact ⟨(hv j h1' h2').1.ext hE hR, (hv j h1' h2').2.ext hE hR⟩
              · have h1' : j < es.length := by simpa using h1
                have h2' : j < mes.size := by simpa using h2
                rw [hmod j h2]
                by_cases hij : i = j
                · subst hij
                  simp only [List.getElem_set_self, if_pos]
                  exact (hk.toPR hkp).ext hE hR
                · rw [List.getElem_set_ne hij, if_neg hij]
                  exact (hkk j h1' h2').ext hE hR
              · have h1' : j < es.length := by simpa using h1
                have h2' : j < mes.size := by simpa using h2
                simp only [Bool.and_eq_true] at hpp
                rw [hmod j h2]
                by_cases hij : i = j
                · subst hij
                  simp only [List.getElem_set_self, if_pos]
                  exact (hv0.toPR hpp.2).ext hE hR
                · rw [List.getElem_set_ne hij, if_neg hij]
                  exact (hp hpp.1 j h1' h2').ext hE hR
              · have h' : j < mes.size := by simpa using h
                rw [hmod j h]; split <;> exact hb1 j h'
              · have ha' : a < mes.size := by simpa using ha
                have hb'' : b < mes.size := by simpa using hb'
                rw [hmod a ha, hmod b hb']
                intro he
                refine hb2 a b ha' hb'' ?_
                split at he <;> split at he <;> exact he
            refine ⟨w', K, ?_, this.1, this.2⟩
            simp only [Instr.mapUpdate, Sem.run_bind, run_under hu, Result.andThen_ok, run_getMap hb, run_checkKey (P := P) (w := w) _ 3 kt k mk hkey hk 10000 (by decide), f1, hold, Instr.keyThatStays, hbits, if_true, Sem.run_pure]
            exact s1
        · exact Ok.fail
      · refine Ok.pure ?_
        intro hq K σ w mm mk mv hR hlk hm hk hv0
        obtain ⟨mes, clock, mr, rfl, hal, hσ, hb, f1, f2, hl, hv, hkk, hp, hb1, hb2⟩ := common hq hR hlk hm hk
        match mr, f2 with
        | none, _ =>
          obtain ⟨w', s1, s2⟩ := setObj_map (P := P) (es' := mes.push { key := mk, val := mv, born := clock }) (cl' := clock + 1) hb
          have := hR.write hσ rfl s2 (obj' := .map false (pf && v.plain) (es ++ [(k, v)])) rfl fun σ' hE => by
            refine ⟨hal, _, clock + 1, s2.here, by simp [hl], (fun h => by cases h), fun j h1 h2 => ?_, fun j h1 h2 => ?_, fun hpp j h1 h2 => ?_, fun j h => ?_, fun a b ha hb' => ?_⟩
            · simp only [List.getElem_append, Array.getElem_push]
              by_cases hj : j < es.length
              · have hj' : j < mes.size := by omega
                simp only [hj, hj', dif_pos]
                exact ⟨(hv j hj hj').1.ext hE hR, (hv j hj hj').2.ext hE hR⟩
              · have hj' : ¬ j < mes.size := by omega
                simp only [hj, hj', dif_neg, not_false_eq_true, List.getElem_singleton]
                exact ⟨hk.ext hE hR, hv0.ext hE hR⟩
            · simp only [List.getElem_append, Array.getElem_push]
              by_cases hj : j < es.length
              · have hj' : j < mes.size := by omega
                simp only [hj, hj', dif_pos]
                exact (hkk j hj hj').ext hE hR
              · have hj' : ¬ j < mes.size := by omega
                simp only [hj, hj', dif_neg, not_false_eq_true, List.getElem_singleton]
                exact (hk.toPR hkp).ext hE hR
            · simp only [Bool.and_eq_true] at hpp
              simp only [List.getElem_append, Array.getElem_push]
              by_cases hj : j < es.length
              · have hj' : j < mes.size := by omega
                simp only [hj, hj', dif_pos]
                exact (hp hpp.1 j hj hj').ext hE hR
              · have hj' : ¬ j < mes.size := by omega
                simp only [hj, hj', dif_neg, not_false_eq_true, List.getElem_singleton]
                exact (hv0.toPR hpp.2).ext hE hR
            · simp only [Array.getElem_push]
              split
              · have := hb1 j ‹_›; omega
              · simp
            · simp only [Array.getElem_push]
              simp only [Array.size_push] at ha hb'
              split
              · split
                · exact hb2 a b _ _
                · intro he
                  have := hb1 a ‹_›
                  simp at he; omega
              · split
                · intro he
                  have := hb1 b ‹_›
                  simp at he; omega
                · intro _; omega
          refine ⟨w', K, ?_, this.1, this.2⟩
          simp only [Instr.mapUpdate, Sem.run_bind, run_under hu, Result.andThen_ok, run_getMap hb, run_checkKey (P := P) (w := w) _ 3 kt k mk hkey hk 10000 (by decide), f1]
          exact s1
    · exact Ok.fail
  · exact Ok.fail
theorem makeMap_ok (nm : Nat) (t : TypeId) {K : KM} {σ : Heap} {w : World} (hR : Rel K σ w) (hfree : σ[nm]? = some .free) :
    ∃ mv w' K', (Instr.makeMap t none).run P w = .ok mv w' ∧ Ext K σ w K' (applyU σ [(nm, .map false true [])]) w' ∧ Rel K' (applyU σ [(nm, .map false true [])]) w' ∧ VR K' w' (.mm nm) mv := by
  have hN := New.push w (.map #[] 0)
  have := hR.new hfree hN (obj := .map false true []) rfl (off := 0) (e := 0) (l := 0) fun σ' hE => by
    refine ⟨.inl rfl, #[], 0, by simp only [KM.new, if_pos]; exact hN.here, rfl, (fun h => by cases h), fun i h => by simp at h, fun i h => by simp at h, fun _ i h => by simp at h, fun i h => by simp at h, fun i j h => by simp at h⟩
  refine ⟨.map (some w.heap.size), _, _, by simp [Instr.makeMap], this.1, this.2, ?_⟩
  have := VR.mm (K := K.new nm w.heap.size 0 0 0) (w := { w with heap := w.heap.push (.map #[] 0) }) nm (.inl rfl)
  simpa [KM.new] using this
theorem bytes_of_cells (f : Value → ByteArray → Sem (ForInStep ByteArray)) (hf : ∀ n s, f (.int .u8 n) s = pure (ForInStep.yield (s.push (UInt8.ofNat n.toNat)))) :
    ∀ (cs : List Value) (bs : List UInt8) (s0 : ByteArray) (w : World), cs.length = bs.length → (∀ i (h : i < cs.length) (h' : i < bs.length), ∃ n : Int, cs[i] = .int .u8 n ∧ bs[i] = UInt8.ofNat n.toNat) →
    (forIn (m := Sem) cs s0 f).run P w = .ok ⟨⟨s0.data.toList ++ bs⟩⟩ w := by
  intro cs
  induction cs with
  | nil => intro bs s0 w hl _; cases bs <;> simp at hl; simp
  | cons c cs ih =>
    intro bs s0 w hl h
    cases bs with
    | nil => simp at hl
    | cons b bs =>
      obtain ⟨n, h1, h2⟩ := h 0 (by simp) (by simp)
      simp only [List.getElem_cons_zero] at h1 h2
      subst h1; subst h2
      rw [List.forIn_cons, hf]
      simp only [Sem.run_bind, Sem.run_pure, Result.andThen_ok]
      rw [ih bs _ w (by simpa using hl) fun i a b => h (i + 1) (by simpa using a) (by simpa using b)]
      simp
theorem run_bytesToString {K : KM} {w : World} {x : EV} {mx : Value} {look : Look} {esz m : Nat} {row : Nat → List EV} {pf : Bool} (hL : LookOk look K w) (h : rowsOf look x = some (esz, m, row, pf)) (hns : ∀ s, x ≠ .str s)
    (hx : VR K w x mx) (he : m ≠ 0 → esz = 1) (hb : ((List.range m).all fun i => match row i with | [.int .u8 _] => true | _ => false) = true) :
    (Conv.bytesToString mx).run P w = .ok (.string ⟨((List.range m).map fun i => match row i with | [.int .u8 n] => UInt8.ofNat n.toNat | _ => 0).toArray⟩) w := by
  obtain ⟨l1, cs, l2, l3⟩ := rows_run (P := P) hL h hx (by decide : 0 < 1) he
  have main : ∀ (f : Value → ByteArray → Sem (ForInStep ByteArray)), (∀ n s, f (.int .u8 n) s = pure (ForInStep.yield (s.push (UInt8.ofNat n.toNat)))) →
      (forIn (m := Sem) cs.toList ByteArray.empty f).run P w = .ok ⟨⟨((List.range m).map fun i => match row i with | [.int .u8 n] => UInt8.ofNat n.toNat | _ => 0)⟩⟩ w := by
    intro f hf
    rw [bytes_of_cells f hf cs.toList ((List.range m).map fun i => match row i with | [.int .u8 n] => UInt8.ofNat n.toNat | _ => 0) ByteArray.empty w]
    · simp
    · simp [l3.size]
    · intro i h1 h2
      have him : i < m := by simpa using h2
      have hbi := List.all_eq_true.1 hb i (by simpa using him)
      simp only [List.getElem_map, List.getElem_range, Array.getElem_toList]
      split at hbi
      · rename_i n hrow
        have hv := l3.val i him 0 (by rw [hrow]; simp) (by rw [l3.size]; omega)
        simp only [hrow, List.getElem_cons_zero] at hv
        have := hv.int_inv
        simp only [Nat.mul_one, Nat.add_zero] at this
        exact ⟨n, this, rfl⟩
      · cases hbi
  unfold rowsOf at h
  split at h
  · simp only [Option.some.injEq, Prod.mk.injEq] at h
    obtain ⟨rfl, rfl, rfl, rfl⟩ := h
    rcases hx.isl_inv with ⟨rfl, rfl, rfl⟩ | ⟨rfl, b, o, cap, sp, mv, rfl, _⟩
    · simp [Conv.bytesToString]; rfl
    · simp only [Builtin.firstCells, Nat.mul_one] at l2
      simp only [Conv.bytesToString, Sem.run_bind, l2, Result.andThen_ok]
      rw [← Array.forIn_toList, main _ (fun n s => rfl)]
      rfl
  · split at h
    · split at h
      · simp only [Option.some.injEq, Prod.mk.injEq] at h
        obtain ⟨rfl, rfl, rfl, rfl⟩ := h
        obtain ⟨a, mcap, rfl, _⟩ := hx.ms_inv
        simp only [Builtin.firstCells, Nat.mul_one] at l2
        simp only [Conv.bytesToString, Sem.run_bind, l2, Result.andThen_ok]
        rw [← Array.forIn_toList, main _ (fun n s => rfl)]
        rfl
      · simp at h
    · simp at h
  · exact absurd rfl (hns _)
  · simp at h
theorem freeze_new (w : World) (c : Array Value) (e : TypeId) :
    New w ((({ w with heap := w.heap.push (.cells c e) } : World)).freeze ⟨w.heap.size, c.size, none⟩ 1) (.cells c e (c.size, c.size + 1)) := by
  refine ⟨by simp [World.freeze], fun b' h => ?_, ?_, rfl, rfl, rfl⟩
  · simp only [World.freeze, Nat.one_ne_zero, if_false, Array.getElem?_modify, Array.getElem?_push]
    rw [if_neg (by omega), if_neg (by omega)]
  · simp only [World.freeze, Nat.one_ne_zero, if_false]
    rw [Array.getElem?_modify, if_pos rfl, Array.getElem?_push, if_pos rfl]
    simp
theorem eConvert_ok (hD : DOk V P G D) (look : Look) (nm : Nat) (src dst : TypeId) (x : EV) :
    Ok V (eConvert D P look nm src dst x) fun r => ∀ K σ w mx, Rel K σ w → (∀ r o, look r = some o → σ[r]? = some o) → (σ[nm]? = some .free) → VR K w x mx →
      ∃ mv w' K', (convert src dst mx).run P w = .ok mv w' ∧ Ext K σ w K' (applyU σ r.2) w' ∧ Rel K' (applyU σ r.2) w' ∧ VR K' w' r.1 mv := by
  obtain ⟨x1, hx1⟩ : ∃ x1, x1 = x := ⟨x, rfl⟩
  unfold eConvert
  split
  · rename_i k ds n hs hd
    refine Ok.bind (eWrap_ok hD k n) fun v => Ok.pure ?_
    intro hv K σ w mx hR hlk hfree hx
    obtain rfl := hx.int_inv
    subst hv
    refine ⟨.int k (k.wrap n), w, K, ?_, Ext.refl _ _ _, hR, .pure _ _ (.int _ _)⟩
    simp only [convert, Sem.run_bind, run_under hs, run_under hd, Result.andThen_ok]
    cases ds <;> simp [Conv.intToInt]
  · rename_i ds s hs hd
    refine Ok.pure ?_
    intro K σ w mx hR hlk hfree hx
    obtain rfl := hx.str_inv
    refine ⟨.string s, w, K, ?_, Ext.refl _ _ _, hR, .pure _ _ (.str _)⟩
    simp only [convert, Sem.run_bind, run_under hs, run_under hd, Result.andThen_ok]
    cases ds <;> simp
  · rename_i e s hs hd
    split
    · rename_i he
      refine Ok.bind (Ok.lift (Φ := fun n => sizeE P e = some n) fun n h => h) fun n => ?_
      refine Ok.ite (fun hn1 => Ok.pure ?_) fun _ => Ok.fail
      subst hn1
      intro hn K σ w mx hR hlk hfree hx
      obtain rfl := hx.str_inv
      obtain ⟨eD, rD⟩ := hR.drawn (w.drawn + 1)
      let cap := s.size + w.tape w.drawn (.appendCap s.size 0 e) % (2 ^ 63 - s.size)
      have hcap : s.size ≤ cap := by simp only [cap]; omega
      let c : Array Value := (s.data.map fun b => Value.int .u8 b.toNat) ++ Array.replicate (cap - s.size) (.int .u8 0)
      have hsd : s.data.size = s.size := rfl
      have hcs : c.size = cap := by simp only [c, Array.size_append, Array.size_map, Array.size_replicate, hsd]; omega
      have hN := freeze_new ({ w with drawn := w.drawn + 1 } : World) c e
      have hci : ∀ i (h : i < s.size) (h' : i < c.size), c[i] = .int .u8 (s.data.getD i 0).toNat := by
        intro i h h'
        simp only [c, Array.getElem_append]
        rw [dif_pos (by simpa [hsd] using h)]
        simp [Array.getD, hsd, h]
      obtain ⟨e1, r1⟩ := new_arr rD hfree hN (by intro j hj; simp; omega) (esz := 1) (len := s.size) (row := fun i => [.int .u8 (s.data.getD i 0).toNat]) (exact := false) (pf := true)
        (fun j h => by
          simp only [c, Array.getElem_append]
          split <;> simp [Value.oneCell'])
        (by omega) (fun h => by cases h)
        (fun i hi => ⟨rfl, fun j hj hc => by
          have hj0 : j = 0 := by simp at hj; exact hj
          subst hj0
          simp only [List.getElem_cons_zero, Nat.zero_add, Nat.mul_one, Nat.add_zero] at hc ⊢
          rw [hci i hi hc]; exact .pure _ _ (.int _ _)⟩)
        (fun _ i hi j hj hc => by
          have hj0 : j = 0 := by simp at hj; exact hj
          subst hj0
          simp only [List.getElem_cons_zero, Nat.zero_add, Nat.mul_one, Nat.add_zero] at hc ⊢
          rw [hci i hi hc]; exact .int _ _)
      refine ⟨.slice (some ⟨w.heap.size, 0, none⟩) s.size cap, _, _, ?_, eD.trans e1, r1, ?_⟩
      · simp only [convert, Sem.run_bind, run_under hs, run_under hd, Result.andThen_ok, run_under he, Conv.stringToBytes, run_choose, Question.forced, Bool.false_eq_true, if_false, Question.cut]
        simp only [newRow, Sem.run_bind, run_newObj, Result.andThen_ok, Sem.run_pure, markStringish, run_shape]
        have hsh : (({ heap := w.heap.push (Obj.cells c e), tape := w.tape, drawn := w.drawn + 1, os := w.os, output := w.output } : World)).shape? w.heap.size = some (e, c.size) := by simp [World.shape?]
        have hc0 : (s.data.map fun b => Value.int .u8 b.toNat) ++ Array.replicate (s.size + w.tape w.drawn (Question.appendCap s.size 0 e) % (2 ^ 63 - s.size) - s.size) (.int .u8 0) = c := rfl
        rw [hc0, hsh]
        simp only [run_freeze, Result.andThen_ok]
        rfl
      · exact .ms nm 1 0 s.size none cap _ (.inl rfl) hcap (by simp [KM.new]) (fun c h => by cases h) (fun _ => by simp only [KM.new, if_pos, hcs]; omega) fun _ => by simp [KM.new]
    · exact Ok.fail
  · rename_i e hs hd hno'
    split
    · rename_i he
      subst hx1
      refine Ok.bind (Ok.lift (Φ := fun q => rowsOf look x1 = some q) fun n h => h) fun q => ?_
      obtain ⟨esz, m, row, pf⟩ := q
      dsimp only
      refine Ok.ite (fun _ => Ok.fail) fun hes => ?_
      refine Ok.bind (hD.chk _) fun _ => Ok.pure ?_
      intro hb hq K σ w mx hR hlk hfree hx
      have hno : ∀ s, x1 ≠ .str s := fun s h => hno' s h
      have he1 : m ≠ 0 → esz = 1 := by
        intro h
        by_cases h' : esz = 1
        · exact h'
        · exact absurd ⟨h', h⟩ hes
      have := run_bytesToString (P := P) (look_ok hR hlk) hq hno hx he1 hb
      refine ⟨_, w, K, ?_, Ext.refl _ _ _, hR, .pure _ _ (.str _)⟩
      simp only [convert, Sem.run_bind, run_under hs, run_under hd, Result.andThen_ok]
      cases mx <;> first
        | (simp only [Conv.bytesToString, run_stuck] at this; cases this; done)
        | (simp only [Sem.run_bind, run_under he, Result.andThen_ok]; exact this)
    · exact Ok.fail
  · rename_i e0 e r esz off len cap hs hd
    split
    · rename_i he
      refine Ok.ite (fun hsd => ?_) fun _ => Ok.fail
      split
      · rename_i pf esz' olen row hlook
        refine Ok.pure ?_
        intro K σ w mx hR hlk hfree hx
        simp only [Bool.and_eq_true, beq_iff_eq] at hsd
        obtain ⟨hsd1, hlen1⟩ := hsd
        have hpos : 1 ≤ len := Nat.le_of_ble_eq_true hlen1
        have hx0 := hx
        obtain ⟨a, mcap, rfl, hal, hle, hlen, hcap, hnone, haddr⟩ := hx.ms_inv
        obtain rfl := haddr (by omega)
        have hσ := hlk r _ hlook
        obtain ⟨_, hln, c, ec, fz, hb, hfz, hext, hone, hle', hexa, _, hrl, hvr, hpl⟩ := hR.obj r _ hσ
        have hfe := (hexa rfl).2
        have hW : Wr w (w.freeze ⟨K.blk r, c.size, none⟩ 1) (K.blk r) (.cells c ec (c.size, c.size + 1)) := by
          refine ⟨by simp [World.freeze], fun b' h => ?_, ?_, rfl, rfl, rfl⟩
          · simp only [World.freeze, Nat.one_ne_zero, if_false, Array.getElem?_modify]
            rw [if_neg (by omega)]
          · simp only [World.freeze, Nat.one_ne_zero, if_false]
            rw [Array.getElem?_modify, if_pos rfl, hb]
            obtain ⟨f1, f2⟩ := fz
            simp only at hfe
            subst hfe
            simp
        have := hR.write hσ rfl hW (obj' := .arr false pf esz' false olen row) rfl fun σ' hE => by
          refine ⟨hal, hln, c, ec, (c.size, c.size + 1), hW.here, fun j hj => by simp; omega, hext, hone, hle', (fun h => by cases h), (fun h => by cases h), hrl, fun i hi j hj hc => (hvr i hi j hj hc).ext hE hR, fun hp i hi j hj hc => (hpl hp i hi j hj hc).ext hE hR⟩
        refine ⟨_, _, K, ?_, this.1, this.2, hx0.ext this.1 hR⟩
        have hsh : w.shape? (K.blk r) = some (ec, c.size) := by simp [World.shape?, hb]
        subst hsd1
        obtain rfl : e0 = e := by have := under_of hs hd; injection this
        simp only [convert, Sem.run_bind, run_under hs, run_under hd, Result.andThen_ok, run_under he, beq_self_eq_true, markStringish, run_shape, hsh, run_freeze, Sem.run_pure]
      · exact Ok.fail
    · exact Ok.fail
  · exact Ok.fail
end
end Go.Ev
namespace Go.Ev
section
variable {P : Program} {S : Type} {V : S → Prop} {G : Nat → Option (List EV)} {D : Drv S}
theorem eval_ok {K : KM} {w : World} {tmps : List EV} {a : Act} (hG : GOk G K.F w) (ht : VRs K w tmps a.tmps) (x : Operand) : VR K w (evalE G tmps x) (a.eval x) := by
  cases x with
  | tmp t =>
    simp only [evalE, getT_eq, Act.eval]
    by_cases h : t < tmps.length
    · have h' : t < a.tmps.size := by rw [← ht.1]; exact h
      have := ht.2 t h h'
      simpa [List.getD_eq_getElem?_getD, h, h'] using this
    · have : tmps.getD t .undef = .undef := by simp [List.getD_eq_getElem?_getD, h]
      rw [this]
      exact .pure _ _ (.undef _)
  | const v =>
    simp only [evalE, getT_eq, Act.eval]
    split
    · exact VR_ofValue K w v ‹_›
    · exact .pure _ _ (.undef _)
  | global g =>
    simp only [evalE, getT_eq, Act.eval]
    split
    · rename_i c hc
      obtain ⟨hF, hne, mv, hm⟩ := hG g c hc
      have hl : 0 < c.length := by cases c <;> simp at hne ⊢
      have := PR.ip (F := K.F) (w := w) c 0 g 0 mv hF hl (fun j hj => by rw [Nat.zero_add]; exact ⟨(hm j hj).1, (hm j hj).2.1⟩) fun j hj => (hm j hj).2.2
      exact .pure _ _ this
    · exact .pure _ _ (.undef _)
  | func f => exact .func (.func f) [] [] #[] #[] rfl rfl (fun i h => by simp at h) fun i h => by simp at h
def EvOk (K : KM) (w : World) (ev : Operand → EV) (a : Act) : Prop := ∀ x, VR K w (ev x) (a.eval x)
theorem VRs.map_eval {K : KM} {w : World} {ev : Operand → EV} {a : Act} (ht : EvOk K w ev a) (xs : Array Operand) : VRs K w (xs.toList.map ev) (xs.map a.eval) :=
  ⟨by simp, fun i h1 h2 => by simpa using ht _⟩
theorem parts_eval {K : KM} {w : World} {ev : Operand → EV} {a : Act} (ht : EvOk K w ev a) (parts : Array (Nat × Operand)) :
    (parts.toList.map fun (x : Nat × Operand) => (x.1, ev x.2)).length = (parts.map fun (x : Nat × Operand) => (x.1, a.eval x.2)).size ∧
    ∀ i (h : i < (parts.toList.map fun (x : Nat × Operand) => (x.1, ev x.2)).length) (h' : i < (parts.map fun (x : Nat × Operand) => (x.1, a.eval x.2)).size),
      ((parts.toList.map fun (x : Nat × Operand) => (x.1, ev x.2))[i]).1 = ((parts.map fun (x : Nat × Operand) => (x.1, a.eval x.2))[i]).1 ∧
      VR K w ((parts.toList.map fun (x : Nat × Operand) => (x.1, ev x.2))[i]).2 ((parts.map fun (x : Nat × Operand) => (x.1, a.eval x.2))[i]).2 :=
  ⟨by simp, fun i h1 h2 => by simpa using ht _⟩
theorem VRo_eval {K : KM} {w : World} {ev : Operand → EV} {a : Act} (ht : EvOk K w ev a) (x : Option Operand) : VRo K w (x.map ev) (x.map a.eval) := by
  cases x with
  | none => trivial
  | some x => exact ht x
inductive RunGives (P : Program) (a : Act) (o : Oper) (w : World) (v : Value → World → Prop) : Prop where
  | value (mv : Value) (w' : World) (h : (execOp a.eval o).run P w = .ok (.value mv) w') (hv : v mv w')
  | skip (w' : World) (h : (execOp a.eval o).run P w = .ok .skip w') (hv : v undef w')
  | enter (f : FuncId) (args : Array Value) (h : (execOp a.eval o).run P w = .ok (.enter f args) w)
      (hc : Calls P f args w fun e w' => match e with | .returned mv => v mv w' | .outgrown => False | .panicked _ => False)
  | round (l : Nat) (f : FuncId) (tmps : Array Value) (assign body : Code) (h : (execOp a.eval o).run P w = .ok (.round l f tmps assign body) w)
      (hc : ∀ ro, RoundIn (fen ro) 0 P l f tmps assign body w fun e w' => match e with | .returned mv => v mv w' | .outgrown => False | .panicked _ => False)
theorem calls_fen {ro : Option Nat} {n : Nat} {f : FuncId} {args : Array Value} {w : World} {R : Ending → World → Prop} (h : Calls P f args w R) : CallsIn (fen ro) n P f args w R :=
  ⟨trivial, fun cs _ => let ⟨e, w', fr, r, s, x⟩ := h cs; ⟨e, w', fr, r, by rw [fen_fenced]; exact comesIn_wide.2 s, x⟩⟩
theorem RunGives.wp {a : Act} {o : Oper} {w : World} {v : Value → World → Prop} (h : RunGives P a o w v) (hnd : isDefer o.op = false) {ro : Option Nat} {next : Act → World → Prop} {Q : Exit → Act → World → Prop}
    (hn : ∀ mv w', v mv w' → next (a.put o.dst mv) w') : o.wpIn (fen ro) 0 P a w next Q := by
  unfold Oper.wpIn
  refine ⟨fun _ _ => trivial, ?_⟩
  rw [Oper.semAt_eq _ _ _ (fun c hc => by rw [hc] at hnd; simp [isDefer] at hnd)]
  cases h with
  | value mv w' h hv => rw [h]; exact hn _ _ hv
  | skip w' h hv => rw [h]; exact hn _ _ hv
  | enter f args h hc =>
    rw [h]
    refine ⟨fun h => by simp [fen] at h, calls_fen (hc.mono fun e w' he => ?_)⟩
    cases e with
    | returned mv => exact hn _ _ he
    | panicked _ => exact he.elim
    | outgrown => exact he.elim
  | round l f tmps assign body h hc =>
    rw [h]
    refine ⟨fun h => by simp [fen] at h, (hc ro).mono fun e w' he => ?_⟩
    cases e with
    | returned mv => exact hn _ _ he
    | panicked _ => exact he.elim
    | outgrown => exact he.elim
def OpSem (P : Program) (G : Nat → Option (List EV)) (ev : Operand → EV) (look : Look) (nm k : Nat) (σ0 : Option Heap) (o : Oper) (r : EV × Eff) : Prop :=
  ∀ (K : KM) (σ : Heap) (w : World) (a : Act), Rel K σ w → GOk G K.F w → (∀ r o, look r = some o → σ[r]? = some o) → (∀ i, i < slots k o.op → σ[nm + i]? = some .free) → (∀ s, σ0 = some s → σ = s) →
    (∀ σ', r.2 = .heap σ' → σ0 ≠ none) → EvOk K w ev a →
    RunGives P a o w fun mv w' => ∃ K', Ext K σ w K' (r.2.on σ) w' ∧ Rel K' (r.2.on σ) w' ∧ VR K' w' r.1 mv
theorem quiet_ok {m : M S EV} {ev : Operand → EV} {look : Look} {nm k : Nat} {σ0 : Option Heap} {o : Oper} {run : Act → Sem Value}
    (he : ∀ a, execOp a.eval o = (do pure (.value (← run a)))) 
    (h : Ok V m fun v => ∀ K w a, LookOk look K w → GOk G K.F w → EvOk K w ev a → ∃ mv, (run a).run P w = .ok mv w ∧ VR K w v mv) :
    Ok V (quiet m) fun r => OpSem P G ev look nm k σ0 o r := by
  unfold quiet
  refine Ok.bind h fun v => Ok.pure ?_
  intro hv K σ w a hR hG hl _ _ _ ht
  obtain ⟨mv, h1, h2⟩ := hv K w a (look_ok hR hl) hG ht
  exact .value mv w (by rw [he]; simp [h1]) ⟨K, Ext.refl _ _ _, hR, h2⟩
theorem both_ok {m : M S (EV × Upd)} {ev : Operand → EV} {look : Look} {nm k : Nat} {σ0 : Option Heap} {o : Oper} {run : Act → Sem Value}
    (he : ∀ a, execOp a.eval o = (do pure (.value (← run a))))
    (h : Ok V m fun r => ∀ K σ w a, Rel K σ w → GOk G K.F w → (∀ r o, look r = some o → σ[r]? = some o) → (makes o.op = true → σ[nm]? = some .free) → EvOk K w ev a →
      ∃ mv w' K', (run a).run P w = .ok mv w' ∧ Ext K σ w K' (applyU σ r.2) w' ∧ Rel K' (applyU σ r.2) w' ∧ VR K' w' r.1 mv) :
    Ok V (both m) fun r => OpSem P G ev look nm k σ0 o r := by
  unfold both
  refine Ok.bind h fun r => Ok.pure ?_
  intro hv K σ w a hR hG hl hf _ _ ht
  obtain ⟨mv, w', K', h1, h2, h3, h4⟩ := hv K σ w a hR hG hl (fun hm => by simpa using hf 0 (by simp [slots, hm])) ht
  exact .value mv w' (by rw [he]; simp [h1]) ⟨K', h2, h3, h4⟩
theorem loud_ok {m : M S Upd} {ev : Operand → EV} {look : Look} {nm k : Nat} {σ0 : Option Heap} {o : Oper} {run : Act → Sem Unit}
    (he : ∀ a, execOp a.eval o = (do run a; pure .skip))
    (h : Ok V m fun u => ∀ K σ w a, Rel K σ w → GOk G K.F w → (∀ r o, look r = some o → σ[r]? = some o) → EvOk K w ev a →
      ∃ w' K', (run a).run P w = .ok () w' ∧ Ext K σ w K' (applyU σ u) w' ∧ Rel K' (applyU σ u) w') :
    Ok V (loud m) fun r => OpSem P G ev look nm k σ0 o r := by
  unfold loud
  refine Ok.bind h fun r => Ok.pure ?_
  intro hv K σ w a hR hG hl hf _ _ ht
  obtain ⟨w', K', h1, h2, h3⟩ := hv K σ w a hR hG hl ht
  exact .skip w' (by rw [he]; simp [h1]) ⟨K', h2, h3, .pure _ _ (.undef _)⟩
theorem foldE_min {K : KM} {w : World} : ∀ (xs : List EV) (x v : EV) (mx : Value) (mxs : List Value), foldE minE x xs = some v → VR K w x mx → xs.length = mxs.length →
    (∀ i (h : i < xs.length) (h' : i < mxs.length), VR K w xs[i] mxs[i]) → ∃ mv, (mxs.foldlM Builtin.min2 mx).run P w = .ok mv w ∧ VR K w v mv := by
  intro xs
  induction xs with
  | nil => intro x v mx mxs h hx hl _; cases mxs <;> simp at hl; simp only [foldE, Option.some.injEq] at h; subst h; exact ⟨mx, by simp, hx⟩
  | cons y ys ih =>
    intro x v mx mxs h hx hl hv
    cases mxs with
    | nil => simp at hl
    | cons my mys =>
      unfold foldE at h
      split at h
      · rename_i z hz
        have hy := hv 0 (by simp) (by simp)
        simp only [List.getElem_cons_zero] at hy
        unfold minE at hz
        split at hz
        · rename_i k a k' b
          obtain rfl := Option.some.inj hz
          obtain rfl := hx.int_inv
          obtain rfl := hy.int_inv
          obtain ⟨mv, h1, h2⟩ := ih _ v (.int k (if b < a then b else a)) mys h (.pure _ _ (.int _ _)) (by simpa using hl) fun i p q => hv (i + 1) (by simpa using p) (by simpa using q)
          exact ⟨mv, by simp [List.foldlM_cons, Builtin.min2, h1], h2⟩
        · cases hz
      · cases h
theorem foldE_max {K : KM} {w : World} : ∀ (xs : List EV) (x v : EV) (mx : Value) (mxs : List Value), foldE maxE x xs = some v → VR K w x mx → xs.length = mxs.length →
    (∀ i (h : i < xs.length) (h' : i < mxs.length), VR K w xs[i] mxs[i]) → ∃ mv, (mxs.foldlM Builtin.max2 mx).run P w = .ok mv w ∧ VR K w v mv := by
  intro xs
  induction xs with
  | nil => intro x v mx mxs h hx hl _; cases mxs <;> simp at hl; simp only [foldE, Option.some.injEq] at h; subst h; exact ⟨mx, by simp, hx⟩
  | cons y ys ih =>
    intro x v mx mxs h hx hl hv
    cases mxs with
    | nil => simp at hl
    | cons my mys =>
      unfold foldE at h
      split at h
      · rename_i z hz
        have hy := hv 0 (by simp) (by simp)
        simp only [List.getElem_cons_zero] at hy
        unfold maxE at hz
        split at hz
        · rename_i k a k' b
          obtain rfl := Option.some.inj hz
          obtain rfl := hx.int_inv
          obtain rfl := hy.int_inv
          obtain ⟨mv, h1, h2⟩ := ih _ v (.int k (if b > a then b else a)) mys h (.pure _ _ (.int _ _)) (by simpa using hl) fun i p q => hv (i + 1) (by simpa using p) (by simpa using q)
          exact ⟨mv, by simp [List.foldlM_cons, Builtin.max2, h1], h2⟩
        · cases hz
      · cases h
theorem VRs.append {K : KM} {w : World} {a b : List EV} {ma mb : Array Value} (ha : VRs K w a ma) (hb : VRs K w b mb) : VRs K w (a ++ b) (ma ++ mb) := by
  refine ⟨by simp [ha.1, hb.1], fun i h1 h2 => ?_⟩
  simp only [List.getElem_append, Array.getElem_append]
  by_cases h : i < a.length
  · have h' : i < ma.size := by rw [← ha.1]; exact h
    simp only [h, h', dif_pos]
    exact ha.2 i h h'
  · have h' : ¬ i < ma.size := by rw [← ha.1]; exact h
    simp only [h, h', dif_neg, not_false_eq_true]
    have := hb.2 (i - a.length) (by simp at h1; omega) (by simp at h2; have := ha.1; omega)
    simpa only [ha.1] using this
theorem pcall_rel {K : KM} {σ : Heap} {w : World} (hR : Rel K σ w) {v : EV} {mv : Value} {w' : World} (h : PostP K.F w v (.returned mv) w') :
    ∃ K', Ext K σ w K' σ w' ∧ Rel K' σ w' ∧ VR K' w' v mv := by
  obtain ⟨F', h1, h2, h3, h4, h5, h6, h7, h8, h9⟩ := h
  have hE : Ext K σ w { K with F := F' } σ w' := by
    refine ⟨Nat.le_refl _, fun r h => h, fun r h => ⟨rfl, rfl, rfl, rfl⟩, h1, fun b hb => (h2 b hb).imp id .inl, fun b hb => .inr hb, fun b hb _ => h4 b hb, h5, h6, h7, h8⟩
  refine ⟨_, hE, ⟨fun r o ho => ?_, hR.inj, fun b hb hF => ?_, fun r o ho ht => Nat.lt_of_lt_of_le (hR.lt r o ho ht) h5, h3, hR.alt⟩, .pure _ _ h9⟩
  · by_cases hf : o = .free
    · subst hf; exact hR.obj r _ ho
    · exact (hR.obj r o ho).ext hE hR hf fun ht => h4 _ (hR.lt r o ho ht)
  · rcases h2 b hF with h | h
    · exact hR.notF b hb h
    · obtain ⟨r, o, ho, hl, hbk⟩ := hb
      have := hR.lt r o ho (there_of_live hl)
      rw [hbk] at this; omega
theorem frzs_GOk {K : KM} {rs : List Nat} {w : World} (hG : GOk G K.F w) : GOk G (K.frzs rs).F w := by
  intro g c hg
  obtain ⟨hF, hne, mv, hm⟩ := hG g c hg
  exact ⟨(frzs_F K rs g).2 (.inl hF), hne, mv, fun j hj => ⟨(hm j hj).1, (hm j hj).2.1, (hm j hj).2.2.mono (fun b hb => (frzs_F K rs b).2 (.inl hb)) fun _ _ => rfl⟩⟩
theorem applyU_not {u : Upd} : ∀ {s : Heap} {r : Nat}, (∀ p ∈ u, p.1 ≠ r) → (applyU s u)[r]? = s[r]? := by
  induction u with
  | nil => intro s r _; rfl
  | cons p u ih =>
    obtain ⟨k, o⟩ := p
    intro s r h
    unfold applyU
    rw [ih fun p hp => h p (List.mem_cons_of_mem _ hp), List.getElem?_set, if_neg (h (k, o) (List.mem_cons_self ..))]
theorem applyU_append (s : Heap) (u v : Upd) : applyU s (u ++ v) = applyU (applyU s u) v := by
  induction u generalizing s with
  | nil => rfl
  | cons p u ih => obtain ⟨k, o⟩ := p; simp only [List.cons_append, applyU]; exact ih _
theorem ren_go (ρ : Nat → Nat) : ∀ cs, EV.ren.go ρ cs = cs.map (EV.ren ρ)
  | [] => rfl
  | x :: xs => by simp only [EV.ren.go, List.map_cons, ren_go ρ xs]
theorem PR.ren {F : Nat → Prop} {w : World} {v : EV} {mv : Value} (ρ : Nat → Nat) (h : PR F w v mv) : v.ren ρ = v := by
  have lst : ∀ (cs : List EV) (n : Nat), cs.length = n → (∀ i (h : i < cs.length), i < n → (cs[i]).ren ρ = cs[i]) → EV.ren.go ρ cs = cs := by
    intro cs n hn h
    rw [ren_go]
    apply List.ext_getElem (by simp)
    intro i h1 h2
    rw [List.getElem_map]
    exact h i h2 (hn ▸ h2)
  induction h with
  | undef v => rfl
  | bool b => rfl
  | int k n => rfl
  | str s => rfl
  | nilp => rfl
  | nilm => rfl
  | nilf => rfl
  | nili => rfl
  | ip => rfl
  | isln => rfl
  | isl => rfl
  | im => rfl
  | agg cs mcs hl h1 _ ih => simp only [EV.ren, lst cs _ hl fun i a b => ih i a b]
  | tuple cs mcs hl _ ih => simp only [EV.ren, lst cs _ hl fun i a b => ih i a b]
  | func fn a c mf mc hl hl' _ _ ih ih' => simp only [EV.ren, lst a _ hl fun i x y => ih i x y, lst c _ hl' fun i x y => ih' i x y]
  | iface t v mv _ ih => simp only [EV.ren, ih]
def Moves (K K' : KM) (ρ : Nat → Nat) (r : Nat) : Prop := (K.al r → K'.al (ρ r)) ∧ K'.blk (ρ r) = K.blk r ∧ K'.off (ρ r) = K.off r ∧ K'.ext (ρ r) = K.ext r ∧ K'.len (ρ r) = K.len r
theorem refs_go_mem {cs : List EV} {i : Nat} (h : i < cs.length) {r : Nat} (hr : r ∈ (cs[i]).refs) : r ∈ EV.refs.go cs := by
  induction cs generalizing i with
  | nil => simp at h
  | cons x xs ih =>
    simp only [EV.refs.go, List.mem_append]
    cases i with
    | zero => exact .inl hr
    | succ i => exact .inr (ih (by simpa using h) (by simpa using hr))
theorem VR.ren {K K' : KM} {w : World} {v : EV} {mv : Value} {ρ : Nat → Nat} (hF : K'.F = K.F) (h : VR K w v mv) : (∀ r ∈ v.refs, Moves K K' ρ r) → VR K' w (v.ren ρ) mv := by
  induction h with
  | pure v mv h => intro _; rw [h.ren ρ]; exact .pure _ _ (hF ▸ h)
  | ptr r k ha =>
    intro hm
    obtain ⟨m1, m2, m3, m4, m5⟩ := hm r (by simp [EV.refs])
    rw [← m2, ← m3]; exact .ptr _ k (m1 ha)
  | pe r esz i k ha hi =>
    intro hm
    obtain ⟨m1, m2, m3, m4, m5⟩ := hm r (by simp [EV.refs])
    rw [← m2, ← m3]; exact .pe _ esz i k (m1 ha) (m5 ▸ hi)
  | ms r esz off len cap mcap a ha hle hlen hcap hnone haddr =>
    intro hm
    obtain ⟨m1, m2, m3, m4, m5⟩ := hm r (by simp [EV.refs])
    exact .ms _ esz off len cap mcap a (m1 ha) hle (m5 ▸ hlen) (fun c hc => by rw [m5]; exact hcap c hc) (fun hn => by rw [m3, m4]; exact hnone hn) (fun hm => by rw [m2, m3]; exact haddr hm)
  | mm r ha =>
    intro hm
    obtain ⟨m1, m2, m3, m4, m5⟩ := hm r (by simp [EV.refs])
    rw [← m2]; exact .mm _ (m1 ha)
  | it r ha =>
    intro hm
    obtain ⟨m1, m2, m3, m4, m5⟩ := hm r (by simp [EV.refs])
    rw [← m2]; exact .it _ (m1 ha)
  | agg cs mcs hl h1 _ ih =>
    intro hm
    simp only [EV.ren, ren_go]
    refine .agg _ mcs (by simp [hl]) h1 fun i a b => ?_
    rw [List.getElem_map]
    exact ih i (by simpa using a) b fun r hr => hm r (by simp only [EV.refs]; exact refs_go_mem (by simpa using a) hr)
  | tuple cs mcs hl _ ih =>
    intro hm
    simp only [EV.ren, ren_go]
    refine .tuple _ mcs (by simp [hl]) fun i a b => ?_
    rw [List.getElem_map]
    exact ih i (by simpa using a) b fun r hr => hm r (by simp only [EV.refs]; exact refs_go_mem (by simpa using a) hr)
  | func fn a c mf mc hl hl' _ _ ih ih' =>
    intro hm
    simp only [EV.ren, ren_go]
    refine .func fn _ _ mf mc (by simp [hl]) (by simp [hl']) (fun i x y => ?_) fun i x y => ?_
    · rw [List.getElem_map]
      exact ih i (by simpa using x) y fun r hr => hm r (by simp only [EV.refs, List.mem_append]; exact .inl (refs_go_mem (by simpa using x) hr))
    · rw [List.getElem_map]
      exact ih' i (by simpa using x) y fun r hr => hm r (by simp only [EV.refs, List.mem_append]; exact .inr (refs_go_mem (by simpa using x) hr))
  | iface t v mv _ ih =>
    intro hm
    simp only [EV.ren]
    exact .iface t _ mv (ih fun r hr => hm r (by simpa only [EV.refs] using hr))
theorem OR.ren {K K' : KM} {w : World} {r : Nat} {o : EObj} {ρ : Nat → Nat} (hF : K'.F = K.F) (hfz : o.frz = true) (h : OR K w r o) (hr : Moves K K' ρ r) (hm : ∀ r' ∈ o.refs, Moves K K' ρ r') : OR K' w (ρ r) (o.ren ρ) := by
  obtain ⟨m1, m2, m3, m4, m5⟩ := hr
  cases o with
  | free => cases hfz
  | dead => cases hfz
  | loop => cases hfz
  | dfr => cases hfz
  | var fr pf cells =>
    obtain ⟨ha, h0, c, e, q1, q2, q3, q4, q5, q6, q7⟩ := h
    refine ⟨m1 ha, by rw [m3]; exact h0, c, e, by rw [m2]; exact q1, by simp [q2], by rw [m4]; exact q3, q4, fun hf => by rw [m2, hF]; exact q5 hf, fun i a b => ?_, fun hp i a b => ?_⟩
    · rw [List.getElem_map]
      have a' : i < cells.length := by simpa using a
      cases pf with
      | true => have := q7 rfl i a' b; rw [this.ren ρ]; exact .pure _ _ (hF ▸ this)
      | false => exact (q6 i a' b).ren hF fun r' hr' => hm r' (by simp only [EObj.refs, List.mem_flatMap]; exact ⟨_, List.getElem_mem a', hr'⟩)
    · rw [List.getElem_map]
      have := q7 hp i (by simpa using a) b
      rw [this.ren ρ]; exact hF ▸ this
  | arr fr pf esz ex len row =>
    obtain ⟨ha, h0, c, e, fz, q1, q2, q3, q4, q5, q6, q7, q8, q9, q10⟩ := h
    cases pf with
    | true =>
      have hp : ∀ i, i < len → ∀ j (h : j < (row i).length) (h' : K'.off (ρ r) + i * esz + j < c.size), PR K'.F w (row i)[j] c[K'.off (ρ r) + i * esz + j] := by
        intro i hi j hj hc
        have hc' : K.off r + i * esz + j < c.size := by rw [← m3]; exact hc
        simp only [m3]
        exact hF ▸ q10 rfl i hi j hj hc'
      exact ⟨m1 ha, by rw [m5]; exact h0, c, e, fz, by rw [m2]; exact q1, q2, by rw [m4]; exact q3, q4, by rw [m3]; exact q5, fun hx => by rw [m3]; exact q6 hx, fun hf => by rw [m2, hF]; exact q7 hf, q8, fun i hi j hj hc => .pure _ _ (hp i hi j hj hc), fun _ => hp⟩
    | false =>
      refine ⟨m1 ha, by rw [m5]; exact h0, c, e, fz, by rw [m2]; exact q1, q2, by rw [m4]; exact q3, q4, by rw [m3]; exact q5, fun hx => by rw [m3]; exact q6 hx, fun hf => by rw [m2, hF]; exact q7 hf, fun i hi => by simp only [cond_false, List.length_map]; exact q8 i hi, fun i hi j hj hc => ?_, fun hp => by cases hp⟩
      have hj' : j < (row i).length := by simpa using hj
      have hc' : K.off r + i * esz + j < c.size := by rw [← m3]; exact hc
      simp only [cond_false, List.getElem_map, m3]
      exact (q9 i hi j hj' hc').ren hF fun r' hr' => hm r' (by simp only [EObj.refs, List.mem_flatMap]; exact ⟨i, by simpa using hi, _, List.getElem_mem hj', hr'⟩)
  | map fr pf es =>
    obtain ⟨ha, mes, clock, q1, q2, q3, q4, q5, q6, q7⟩ := h
    refine ⟨m1 ha, mes, clock, by rw [m2]; exact q1, by simp [q2], fun hf => by rw [m2, hF]; exact q3 hf, fun i a b => ?_, fun i a b => ?_, fun hp i a b => ?_, q7⟩
    · have a' : i < es.length := by simpa using a
      have k1 : VR K' w es[i].1 mes[i].key := .pure _ _ (hF ▸ q5 i a' b)
      refine ⟨by simpa using k1, ?_⟩
      simp only [List.getElem_map]
      cases pf with
      | true => have := q6 rfl i a' b; rw [this.ren ρ]; exact .pure _ _ (hF ▸ this)
      | false => exact (q4 i a' b).2.ren hF fun r' hr' => hm r' (by simp only [EObj.refs, List.mem_flatMap]; exact ⟨_, List.getElem_mem a', hr'⟩)
    · have := q5 i (by simpa using a) b
      simpa [hF] using this
    · have := q6 hp i (by simpa using a) b
      simp only [List.getElem_map]
      rw [this.ren ρ]; exact hF ▸ this
theorem ren_live (ρ : Nat → Nat) (o : EObj) : (o.ren ρ).live = o.live := by cases o <;> rfl
theorem ren_there (ρ : Nat → Nat) (o : EObj) : (o.ren ρ).there = o.there := by cases o <;> rfl
theorem fragOf_spec {σ : Heap} {ok : Nat → Bool} {ρ : Nat → Nat} : ∀ (rs : List Nat) (nm : Nat) (u : Upd), fragOf σ ok ρ nm rs = some u →
    (∀ r ∈ rs, ∃ o, σ[r]? = some o ∧ o.frz = true ∧ ∀ r' ∈ o.refs, ok r' = true) ∧
    ∀ (s : Heap) (i : Nat), i < s.length → (applyU s u)[i]? = if nm ≤ i ∧ i < nm + rs.length then (rs[i - nm]?).bind fun r => (σ[r]?).map (EObj.ren ρ) else s[i]? := by
  intro rs
  induction rs with
  | nil =>
    intro nm u h
    simp only [fragOf, Option.some.injEq] at h
    subst h
    exact ⟨fun r hr => by simp at hr, fun s i hi => by simp [applyU]; omega⟩
  | cons r rs ih =>
    intro nm u h
    unfold fragOf at h
    split at h
    · rename_i o ho
      split at h
      · rename_i hc
        simp only [Bool.and_eq_true, List.all_eq_true] at hc
        cases hf : fragOf σ ok ρ (nm + 1) rs with
        | none => rw [hf] at h; simp at h
        | some u' =>
          rw [hf] at h
          simp only [Option.map_some, Option.some.injEq] at h
          subst h
          obtain ⟨g1, g2⟩ := ih _ _ hf
          refine ⟨fun r' hr' => ?_, fun s i hi => ?_⟩
          · rcases List.mem_cons.1 hr' with rfl | hr'
            · exact ⟨o, ho, hc.1, hc.2⟩
            · exact g1 r' hr'
          · unfold applyU
            rw [g2 _ i (by simpa using hi)]
            by_cases h1 : nm + 1 ≤ i ∧ i < nm + 1 + rs.length
            · rw [if_pos h1, if_pos (by simp; omega), show i - nm = i - (nm + 1) + 1 from by omega]
              simp
            · rw [if_neg h1, List.getElem?_set]
              by_cases h2 : nm = i
              · subst h2
                rw [if_pos rfl, if_pos hi, if_pos (by simp)]
                simp [ho]
              · rw [if_neg h2, if_neg (by simp; omega)]
      · cases h
    · cases h
theorem applyU_length (u : Upd) : ∀ (s : Heap), (applyU s u).length = s.length := by
  induction u with
  | nil => intro s; rfl
  | cons p u ih => intro s; obtain ⟨a, b⟩ := p; unfold applyU; rw [ih]; simp
def Became (σ' : Heap) (ok : Nat → Bool) (ρ : Nat → Nat) (i : Nat) (o2 : EObj) : Prop :=
  (o2 = .dead ∧ σ'[i]? = some .dead) ∨ ∃ o', σ'[i]? = some o' ∧ o'.frz = true ∧ (∀ r' ∈ o'.refs, ok r' = true) ∧ o2 = o'.ren ρ
theorem frameOut_spec {look : Look} {σ' : Heap} {ok : Nat → Bool} {ρ : Nat → Nat} : ∀ (rs : List Nat) (i0 : Nat) (u : Upd), frameOut look σ' ok ρ i0 rs = some u → rs.Nodup →
    ∀ (s : Heap) (r : Nat), r < s.length → (∃ (j : Nat) (o o2 : EObj), rs[j]? = some r ∧ look r = some o ∧ o.live = true ∧ (applyU s u)[r]? = some o2 ∧ Became σ' ok ρ (i0 + j) o2) ∨
      ((∀ o, r ∈ rs → look r = some o → o.live = false) ∧ (applyU s u)[r]? = s[r]?) := by
  intro rs
  induction rs with
  | nil =>
    intro i0 u h _ s r hr
    simp only [frameOut, Option.some.injEq] at h
    subst h
    exact .inr ⟨fun o h => by simp at h, rfl⟩
  | cons x rs ih =>
    intro i0 u h hnd s r hr
    have hnd' := List.nodup_cons.1 hnd
    unfold frameOut at h
    split at h
    · rename_i o o' ho ho'
      have step : ∀ (o2 : EObj) (u' : Upd), frameOut look σ' ok ρ (i0 + 1) rs = some u' → u = (x, o2) :: u' → o.live = true → Became σ' ok ρ i0 o2 → (∃ (j : Nat) (o o2 : EObj), (x :: rs)[j]? = some r ∧ look r = some o ∧ o.live = true ∧ (applyU s u)[r]? = some o2 ∧ Became σ' ok ρ (i0 + j) o2) ∨
          ((∀ o, r ∈ x :: rs → look r = some o → o.live = false) ∧ (applyU s u)[r]? = s[r]?) := by
        intro o2 u' hu' hu hl hB
        subst hu
        have hset : (s.set x o2).length = s.length := by simp
        rcases ih _ _ hu' hnd'.2 (s.set x o2) r (by rw [hset]; exact hr) with ⟨j, p, p2, q1, q2, q3, q4, q5⟩ | ⟨q1, q2⟩
        · refine .inl ⟨j + 1, p, p2, by simpa using q1, q2, q3, by simpa [applyU] using q4, ?_⟩
          rw [show i0 + (j + 1) = i0 + 1 + j from by omega]; exact q5
        · by_cases hx : x = r
          · subst hx
            refine .inl ⟨0, o, o2, rfl, ho, hl, ?_, hB⟩
            simp only [applyU]
            rw [q2, List.getElem?_set]
            simp [hr]
          · refine .inr ⟨fun o h hlo => ?_, ?_⟩
            · rcases List.mem_cons.1 h with h | h
              · exact absurd h.symm hx
              · exact q1 o h hlo
            · simp only [applyU]
              rw [q2, List.getElem?_set, if_neg hx]
      split at h
      · rename_i hl
        split at h
        · cases hf : frameOut look σ' ok ρ (i0 + 1) rs with
          | none => rw [hf] at h; simp at h
          | some u' =>
            rw [hf] at h
            simp only [Option.map_some, Option.some.injEq] at h
            exact step .dead u' hf h.symm hl (.inl ⟨rfl, ho'⟩)
        · split at h
          · rename_i hc
            simp only [Bool.and_eq_true, List.all_eq_true] at hc
            cases hf : frameOut look σ' ok ρ (i0 + 1) rs with
            | none => rw [hf] at h; simp at h
            | some u' =>
              rw [hf] at h
              simp only [Option.map_some, Option.some.injEq] at h
              exact step _ u' hf h.symm hl (.inr ⟨o', ho', hc.1, hc.2, rfl⟩)
          · cases h
      · rename_i hl
        rcases ih _ _ h hnd'.2 s r hr with ⟨j, p, p2, q1, q2, q3, q4, q5⟩ | ⟨q1, q2⟩
        · refine .inl ⟨j + 1, p, p2, by simpa using q1, q2, q3, q4, ?_⟩
          rw [show i0 + (j + 1) = i0 + 1 + j from by omega]; exact q5
        · refine .inr ⟨fun o1 h1 h2 => ?_, q2⟩
          rcases List.mem_cons.1 h1 with h1 | h1
          · subst h1
            rw [ho] at h2
            obtain rfl := Option.some.inj h2
            simpa using hl
          · exact q1 o1 h1 h2
    · cases h
theorem frameIn_spec {look : Look} {L : List Nat} : ∀ (rs : List Nat) (σl : Heap), frameIn look L rs = some σl →
    σl.length = rs.length ∧ ∀ (i : Nat) (r : Nat), rs[i]? = some r → ∃ o, look r = some o ∧ o.frz = true ∧ (∀ r' ∈ o.refs, r' ∈ L) ∧ σl[i]? = some (o.ren (L.idxOf ·)) := by
  intro rs
  induction rs with
  | nil =>
    intro σl h
    simp only [frameIn, Option.some.injEq] at h
    subst h
    exact ⟨rfl, fun i r h => by simp at h⟩
  | cons x rs ih =>
    intro σl h
    unfold frameIn at h
    split at h
    · rename_i o ho
      split at h
      · rename_i hc
        simp only [Bool.and_eq_true, List.all_eq_true, List.contains_iff_mem] at hc
        cases hf : frameIn look L rs with
        | none => rw [hf] at h; simp at h
        | some s' =>
          rw [hf] at h
          simp only [Option.map_some, Option.some.injEq] at h
          subst h
          obtain ⟨h1, h2⟩ := ih _ hf
          refine ⟨by simp [h1], fun i r hr => ?_⟩
          cases i with
          | zero =>
            simp only [List.getElem?_cons_zero, Option.some.injEq] at hr
            subst hr
            exact ⟨o, ho, hc.1, hc.2, by simp⟩
          | succ i =>
            obtain ⟨p, q1, q2, q3, q4⟩ := h2 i r (by simpa using hr)
            exact ⟨p, q1, q2, q3, by simpa using q4⟩
      · cases h
    · cases h
theorem uniq_nodup : ∀ l, (uniq l).Nodup
  | [] => List.nodup_nil
  | x :: xs => by
    unfold uniq
    split
    · exact uniq_nodup xs
    · rename_i h
      exact List.nodup_cons.2 ⟨by simpa using h, uniq_nodup xs⟩
def KM.loc (K : KM) (L : List Nat) : KM :=
  ⟨fun i => K.blk (L.getD i 0), fun i => K.off (L.getD i 0), fun i => K.ext (L.getD i 0), fun i => K.len (L.getD i 0), fun i => i < L.length ∧ K.al (L.getD i 0), K.F⟩
theorem loc_moves {K : KM} {L : List Nat} {r : Nat} (h : r ∈ L) : Moves K (K.loc L) (L.idxOf ·) r := by
  have hi := List.idxOf_lt_length_of_mem h
  have hg : L.getD (L.idxOf r) 0 = r := by
    rw [List.getD_eq_getElem?_getD, List.getElem?_eq_getElem hi]
    simp
  exact ⟨fun ha => ⟨hi, by rw [hg]; exact ha⟩, by simp only [KM.loc, hg], by simp only [KM.loc, hg], by simp only [KM.loc, hg], by simp only [KM.loc, hg]⟩
theorem there_of_frz {o : EObj} (h : o.frz = true) : o.there = true := by cases o <;> simp [EObj.frz, EObj.there] at *
theorem loc_rel {K : KM} {σ : Heap} {w : World} (hR : Rel K σ w) {look : Look} (hl : ∀ r o, look r = some o → σ[r]? = some o) {L : List Nat} (hnd : L.Nodup) {σl : Heap} (h : frameIn look L L = some σl) : Rel (K.loc L) σl w := by
  obtain ⟨h1, h2⟩ := frameIn_spec L σl h
  have hget : ∀ i o, σl[i]? = some o → ∃ r o0, L[i]? = some r ∧ L.getD i 0 = r ∧ L.idxOf r = i ∧ r ∈ L ∧ σ[r]? = some o0 ∧ o0.frz = true ∧ (∀ r' ∈ o0.refs, r' ∈ L) ∧ o = o0.ren (L.idxOf ·) := by
    intro i o hi
    have hlt : i < L.length := by rw [← h1]; exact (List.getElem?_eq_some_iff.1 hi).1
    have hLi : L[i]? = some L[i] := List.getElem?_eq_getElem hlt
    obtain ⟨o0, q1, q2, q3, q4⟩ := h2 i L[i] hLi
    rw [q4] at hi
    obtain rfl := Option.some.inj hi
    exact ⟨L[i], o0, hLi, by rw [List.getD_eq_getElem?_getD, hLi]; rfl, hnd.idxOf_getElem i hlt, List.getElem_mem hlt, hl _ _ q1, q2, q3, rfl⟩
  refine ⟨fun i o hi => ?_, fun i i' o1 o2 hi hi' l1 l2 hb => ?_, ?_, fun i o hi ht => ?_, hR.Flt, fun i ha => ?_⟩
  · obtain ⟨r, o0, a1, a2, a3, a4, a5, a6, a7, rfl⟩ := hget i o hi
    have := OR.ren (K := K) (K' := K.loc L) (ρ := (L.idxOf ·)) rfl a6 (hR.obj r o0 a5) (loc_moves a4) fun r' hr' => loc_moves (a7 r' hr')
    simpa only [a3] using this
  · obtain ⟨r, o0, a1, a2, a3, a4, a5, a6, a7, rfl⟩ := hget i o1 hi
    obtain ⟨r', p0, b1, b2, b3, b4, b5, b6, b7, rfl⟩ := hget i' o2 hi'
    rw [ren_live] at l1 l2
    have := hR.inj r r' o0 p0 a5 b5 l1 l2 (by simpa only [KM.loc, a2, b2] using hb)
    rw [← a3, ← b3, this]
  · rintro b ⟨i, o, hi, hlv, hb⟩
    obtain ⟨r, o0, a1, a2, a3, a4, a5, a6, a7, rfl⟩ := hget i o hi
    rw [ren_live] at hlv
    exact hR.notF b ⟨r, o0, a5, hlv, by simpa only [KM.loc, a2] using hb⟩
  · obtain ⟨r, o0, a1, a2, a3, a4, a5, a6, a7, rfl⟩ := hget i o hi
    have := hR.lt r o0 a5 (there_of_frz a6)
    simpa only [KM.loc, a2] using this
  · rw [h1]; exact ha.1
theorem frame_rel {K : KM} {σ : Heap} {w : World} (hR : Rel K σ w) {look : Look} (hlk : ∀ r o, look r = some o → σ[r]? = some o) {nm : Nat} {L keep : List Nat} {v : EV} {σl σ' : Heap} {u1 u2 : Upd} {mv : Value} {w' : World} (hnd : L.Nodup) (hkn : keep.Nodup)
    (hin : frameIn look L L = some σl) (hfree : ∀ i, i < keep.length → σ[nm + i]? = some .free) (hkge : ∀ r ∈ keep, L.length ≤ r)
    {ok : Nat → Bool} (hok : ∀ r, ok r = true → r < L.length ∨ r ∈ keep) (hv : ∀ r ∈ v.refs, ok r = true)
    (hu1 : frameOut look σ' ok (backName L keep nm) 0 L = some u1) (hu2 : fragOf σ' ok (backName L keep nm) nm keep = some u2)
    (h : PostF (K.loc L) σl w v σ' (.returned mv) w') :
    ∃ K', Ext K σ w K' (applyU σ (u1 ++ u2)) w' ∧ Rel K' (applyU σ (u1 ++ u2)) w' ∧ VR K' w' (v.ren (backName L keep nm)) mv := by
  obtain ⟨K1, e1, r1, v1⟩ := h
  have hRl := loc_rel hR hlk hnd hin
  obtain ⟨hsl, hsl2⟩ := frameIn_spec L σl hin
  obtain ⟨g1, g2⟩ := fragOf_spec keep nm u2 hu2
  have hLo : ∀ r ∈ L, ∃ o, look r = some o ∧ σ[r]? = some o ∧ o.frz = true ∧ K.al r := fun r hr => by
    obtain ⟨i, hi, rfl⟩ := List.mem_iff_getElem.1 hr
    obtain ⟨o, q1, q2, q3, q4⟩ := hsl2 i L[i] (List.getElem?_eq_getElem hi)
    exact ⟨o, q1, hlk _ _ q1, q2, (hR.obj _ o (hlk _ _ q1)).al (there_of_frz q2)⟩
  have hgetD : ∀ i (h : i < L.length), L.getD i 0 = L[i] := fun i h => by rw [List.getD_eq_getElem?_getD, List.getElem?_eq_getElem h]; rfl
  have hown0 : ∀ b, Owned (K.loc L) σl b → ∃ r o, r ∈ L ∧ σ[r]? = some o ∧ o.live = true ∧ K.blk r = b := by
    rintro b ⟨i, o, h1, h2, h3⟩
    have hlt : i < L.length := by rw [← hsl]; exact (List.getElem?_eq_some_iff.1 h1).1
    obtain ⟨o0, q1, q2, q3, q4⟩ := hsl2 i L[i] (List.getElem?_eq_getElem hlt)
    rw [q4] at h1
    obtain rfl := Option.some.inj h1
    rw [ren_live] at h2
    exact ⟨L[i], o0, List.getElem_mem hlt, hlk _ _ q1, h2, by simpa only [KM.loc, hgetD i hlt] using h3⟩
  have hown0' : ∀ b, Owned (K.loc L) σl b → Owned K σ b := fun b hb => let ⟨r, o, _, h2, h3, h4⟩ := hown0 b hb; ⟨r, o, h2, h3, h4⟩
  let old (r : Nat) : Nat := keep.getD (r - nm) 0
  let K' : KM := { blk := fun r => if nm ≤ r ∧ r < nm + keep.length then K1.blk (old r) else K.blk r
                   off := fun r => if nm ≤ r ∧ r < nm + keep.length then K1.off (old r) else K.off r
                   ext := fun r => if nm ≤ r ∧ r < nm + keep.length then K1.ext (old r) else K.ext r
                   len := fun r => if nm ≤ r ∧ r < nm + keep.length then K1.len (old r) else K.len r
                   al := fun r => (nm ≤ r ∧ r < nm + keep.length) ∨ K.al r
                   F := K1.F }
  have hlen : ∀ i, i < keep.length → nm + i < σ.length := fun i hi => (List.getElem?_eq_some_iff.1 (hfree i hi)).1
  have hnal : ∀ r, nm ≤ r → r < nm + keep.length → ¬ K.al r := fun r h1 h2 => by
    have := hR.obj r .free (by have := hfree (r - nm) (by omega); rwa [show nm + (r - nm) = r from by omega] at this)
    exact this
  have hout : ∀ r, K.al r → ¬ (nm ≤ r ∧ r < nm + keep.length) := fun r ha h => hnal r h.1 h.2 ha
  have hKout : ∀ r, ¬ (nm ≤ r ∧ r < nm + keep.length) → K'.blk r = K.blk r ∧ K'.off r = K.off r ∧ K'.ext r = K.ext r ∧ K'.len r = K.len r := fun r h => by simp only [K', if_neg h]; exact ⟨trivial, trivial, trivial, trivial⟩
  have hmvL : ∀ i, i < L.length → Moves K1 K' (backName L keep nm) i := by
    intro i hi
    obtain ⟨o, _, _, _, hal⟩ := hLo L[i] (List.getElem_mem hi)
    have hb : backName L keep nm i = L[i] := by simp only [backName, if_pos hi, hgetD i hi]
    have hal' : (K.loc L).al i := ⟨hi, by rw [hgetD i hi]; exact hal⟩
    obtain ⟨b1, b2, b3, b4⟩ := e1.blk i hal'
    obtain ⟨c1, c2, c3, c4⟩ := hKout L[i] (hout _ hal)
    refine ⟨fun _ => .inr (by rw [hb]; exact hal), ?_, ?_, ?_, ?_⟩
    · rw [hb, c1, b1]; simp only [KM.loc, hgetD i hi]
    · rw [hb, c2, b2]; simp only [KM.loc, hgetD i hi]
    · rw [hb, c3, b3]; simp only [KM.loc, hgetD i hi]
    · rw [hb, c4, b4]; simp only [KM.loc, hgetD i hi]
  have hmvk : ∀ r ∈ keep, Moves K1 K' (backName L keep nm) r ∧ (nm ≤ backName L keep nm r ∧ backName L keep nm r < nm + keep.length) ∧ backName L keep nm r = nm + keep.idxOf r := by
    intro r hr
    have hi := List.idxOf_lt_length_of_mem hr
    have hb : backName L keep nm r = nm + keep.idxOf r := by have := hkge r hr; simp only [backName, if_neg (show ¬ r < L.length from by omega)]
    have hc : nm ≤ backName L keep nm r ∧ backName L keep nm r < nm + keep.length := by rw [hb]; exact ⟨by omega, by omega⟩
    have ho : old (backName L keep nm r) = r := by
      simp only [old, hb, Nat.add_sub_cancel_left]
      rw [List.getD_eq_getElem?_getD, List.getElem?_eq_getElem hi]
      simp
    exact ⟨⟨fun _ => .inl hc, by simp only [K', if_pos hc, ho], by simp only [K', if_pos hc, ho], by simp only [K', if_pos hc, ho], by simp only [K', if_pos hc, ho]⟩, hc, hb⟩
  have hmv : ∀ r, ok r = true → Moves K1 K' (backName L keep nm) r := fun r hr => (hok r hr).elim (hmvL r) fun h => (hmvk r h).1
  -- what stands where
  have hget : ∀ r o, (applyU σ (u1 ++ u2))[r]? = some o →
      (∃ i0 o0, σ'[i0]? = some o0 ∧ r = backName L keep nm i0 ∧ K'.blk r = K1.blk i0 ∧ ((o = .dead ∧ o0 = .dead) ∨ (o0.frz = true ∧ o = o0.ren (backName L keep nm) ∧ (∀ r' ∈ o0.refs, ok r' = true) ∧ Moves K1 K' (backName L keep nm) i0))) ∨
      (σ[r]? = some o ∧ ¬ (nm ≤ r ∧ r < nm + keep.length) ∧ (r ∈ L → o.live = false)) := by
    intro r o h1
    have hlt : r < σ.length := by
      have := (List.getElem?_eq_some_iff.1 h1).1
      rwa [applyU_length] at this
    rw [applyU_append, g2 _ r (by rw [applyU_length]; exact hlt)] at h1
    by_cases hc : nm ≤ r ∧ r < nm + keep.length
    · rw [if_pos hc] at h1
      have hi : r - nm < keep.length := by omega
      rw [List.getElem?_eq_getElem hi] at h1
      simp only [Option.bind_some] at h1
      obtain ⟨o0, a1, a2, a3⟩ := g1 keep[r - nm] (List.getElem_mem hi)
      rw [a1] at h1
      simp only [Option.map_some, Option.some.injEq] at h1
      obtain ⟨m1, m2, m3⟩ := hmvk _ (List.getElem_mem hi)
      have hrn : r = backName L keep nm keep[r - nm] := by rw [m3, hkn.idxOf_getElem]; omega
      refine .inl ⟨keep[r - nm], o0, a1, hrn, ?_, .inr ⟨a2, h1.symm, a3, m1⟩⟩
      have := m1.2.1
      rw [← hrn] at this; exact this
    · rw [if_neg hc] at h1
      rcases frameOut_spec L 0 u1 hu1 hnd σ r hlt with ⟨j, p, p2, q1, q2, q3, q4, q5⟩ | ⟨q1, q2⟩
      · rw [q4] at h1
        obtain rfl := Option.some.inj h1
        have hjl : j < L.length := (List.getElem?_eq_some_iff.1 q1).1
        have hLj : L[j] = r := (List.getElem?_eq_some_iff.1 q1).2
        have hb : backName L keep nm j = r := by simp only [backName, if_pos hjl, hgetD j hjl]; exact hLj
        have hm := hmvL j hjl
        have hbk : K'.blk r = K1.blk j := by have := hm.2.1; rwa [hb] at this
        rw [Nat.zero_add] at q5
        rcases q5 with ⟨rfl, q5⟩ | ⟨o', a1, a2, a3, rfl⟩
        · exact .inl ⟨j, .dead, q5, hb.symm, hbk, .inl ⟨rfl, rfl⟩⟩
        · exact .inl ⟨j, o', a1, hb.symm, hbk, .inr ⟨a2, rfl, a3, hm⟩⟩
      · rw [q2] at h1
        refine .inr ⟨h1, hc, fun hrL => ?_⟩
        obtain ⟨o1, x1, x2, _, _⟩ := hLo r hrL
        rw [h1] at x2
        obtain rfl := Option.some.inj x2
        exact q1 _ hrL x1
  have hF2 : ∀ b, K1.F b → K.F b ∨ w.heap.size ≤ b ∨ Owned (K.loc L) σl b := fun b hb => e1.F' b hb
  -- a live object of which the call knows nothing
  have hother : ∀ r o, σ[r]? = some o → o.live = true → (r ∈ L → o.live = false) → ¬ Owned (K.loc L) σl (K.blk r) := by
    intro r o h1 h2 h3 hO
    obtain ⟨r0, o0, a1, a2, a3, a4⟩ := hown0 _ hO
    have := hR.inj r r0 o o0 h1 a2 h2 a3 a4.symm
    subst this
    rw [h3 a1] at h2; cases h2
  have hE : Ext K σ w K' (applyU σ (u1 ++ u2)) w' := by
    refine ⟨by rw [applyU_length]; exact Nat.le_refl _, fun r h => .inr h, fun r h => hKout r (hout r h), e1.F, fun b hb => (hF2 b hb).imp id (Or.imp id (hown0' b)), ?_, fun b hb hn => e1.stay b hb fun ho => hn (hown0' b ho), e1.size, e1.os, e1.tape, e1.output⟩
    rintro b ⟨r, o, h1, h2, h3⟩
    rcases hget r o h1 with ⟨i0, o0, k1, k2, k3, k4⟩ | ⟨k1, k2, k3⟩
    · rcases k4 with ⟨rfl, _⟩ | ⟨k5, rfl, k6, k7⟩
      · cases h2
      · rw [ren_live] at h2
        rw [k3] at h3
        exact (e1.own b ⟨i0, o0, k1, h2, h3⟩).imp id (hown0' b)
    · rw [(hKout r k2).1] at h3
      exact .inr ⟨r, o, k1, h2, h3⟩
  refine ⟨K', hE, ⟨?_, ?_, ?_, ?_, r1.Flt, ?_⟩, VR.ren (K := K1) (K' := K') rfl v1 fun r hr => hmv r (hv r hr)⟩
  · intro r o h1
    rcases hget r o h1 with ⟨i0, o0, k1, k2, k3, k4⟩ | ⟨k1, k2, k3⟩
    · rcases k4 with ⟨rfl, _⟩ | ⟨k5, rfl, k6, k7⟩
      · trivial
      · rw [k2]
        exact OR.ren (K := K1) (K' := K') rfl k5 (r1.obj i0 o0 k1) k7 fun r' hr' => hmv r' (k6 r' hr')
    · by_cases hfr : o = .free
      · subst hfr
        have := hR.obj r _ k1
        rintro (h | h)
        · exact k2 h
        · exact this h
      · refine (hR.obj r o k1).ext hE hR hfr fun ht => ?_
        refine e1.stay _ (hR.lt r o k1 ht) fun hO => ?_
        cases hl : o.live with
        | true => exact hother r o k1 hl k3 hO
        | false =>
          have hFr : K.F (K.blk r) := by
            have h2 := hR.obj r o k1
            cases o with
            | free => exact absurd rfl hfr
            | dead => simp [EObj.there] at ht
            | var fr pf c => simp only [EObj.live, Bool.not_eq_false'] at hl; obtain ⟨_, _, _, _, _, _, _, _, h5, _⟩ := h2; exact h5 hl
            | arr fr pf esz ex len row => simp only [EObj.live, Bool.not_eq_false'] at hl; obtain ⟨_, _, _, _, _, _, _, _, _, _, _, h7, _⟩ := h2; exact h7 hl
            | map fr pf es => simp only [EObj.live, Bool.not_eq_false'] at hl; obtain ⟨_, _, _, _, _, h3, _⟩ := h2; exact h3 hl
            | loop st t ps x y p => simp [EObj.live] at hl
            | dfr => simp [EObj.live] at hl
          exact hR.notF _ (hown0' _ hO) hFr
  · intro r r' o1 o2 h1 h2 l1 l2 hb
    have case1 : ∀ (i0 : Nat) (o0 : EObj) (r' : Nat) (o2 : EObj), σ'[i0]? = some o0 → o0.live = true → σ[r']? = some o2 → o2.live = true → (r' ∈ L → o2.live = false) → K1.blk i0 = K.blk r' → False := by
      intro i0 o0 r' o2 a1 a2 a3 a4 a5 a6
      rcases e1.own _ ⟨i0, o0, a1, a2, rfl⟩ with h | h
      · have := hR.lt r' o2 a3 (there_of_live a4); omega
      · rw [a6] at h; exact hother r' o2 a3 a4 a5 h
    rcases hget r o1 h1 with ⟨i0, o0, k1, k2, k3, k4⟩ | ⟨k1, k2, k3⟩
    · rcases k4 with ⟨rfl, _⟩ | ⟨k5, rfl, k6, k7⟩
      · cases l1
      · rw [ren_live] at l1
        rcases hget r' o2 h2 with ⟨p0, q0, j1, j2, j3, j4⟩ | ⟨j1, j2, j3⟩
        · rcases j4 with ⟨rfl, _⟩ | ⟨j5, rfl, j6, j7⟩
          · cases l2
          · rw [ren_live] at l2
            rw [k3, j3] at hb
            rw [k2, j2, r1.inj i0 p0 o0 q0 k1 j1 l1 l2 hb]
        · rw [k3, (hKout r' j2).1] at hb
          exact (case1 i0 o0 r' o2 k1 l1 j1 l2 j3 hb).elim
    · rcases hget r' o2 h2 with ⟨p0, q0, j1, j2, j3, j4⟩ | ⟨j1, j2, j3⟩
      · rcases j4 with ⟨rfl, _⟩ | ⟨j5, rfl, j6, j7⟩
        · cases l2
        · rw [ren_live] at l2
          rw [j3, (hKout r k2).1] at hb
          exact (case1 p0 q0 r o1 j1 l2 k1 l1 k3 hb.symm).elim
      · rw [(hKout r k2).1, (hKout r' j2).1] at hb
        exact hR.inj r r' o1 o2 k1 j1 l1 l2 hb
  · rintro b ⟨r, o, h1, h2, h3⟩ hF
    rcases hget r o h1 with ⟨i0, o0, k1, k2, k3, k4⟩ | ⟨k1, k2, k3⟩
    · rcases k4 with ⟨rfl, _⟩ | ⟨k5, rfl, k6, k7⟩
      · cases h2
      · rw [ren_live] at h2
        rw [k3] at h3
        exact r1.notF b ⟨i0, o0, k1, h2, h3⟩ hF
    · rw [(hKout r k2).1] at h3
      rcases hF2 b hF with h | h | h
      · exact hR.notF b ⟨r, o, k1, h2, h3⟩ h
      · have := hR.lt r o k1 (there_of_live h2); omega
      · rw [← h3] at h; exact hother r o k1 h2 k3 h
  · intro r o h1 ht
    rcases hget r o h1 with ⟨i0, o0, k1, k2, k3, k4⟩ | ⟨k1, k2, k3⟩
    · rcases k4 with ⟨rfl, _⟩ | ⟨k5, rfl, k6, k7⟩
      · cases ht
      · rw [k3]
        exact r1.lt i0 o0 k1 (there_of_frz k5)
    · rw [(hKout r k2).1]
      exact Nat.lt_of_lt_of_le (hR.lt r o k1 ht) e1.size
  · rintro r (h | h)
    · exact Nat.lt_of_lt_of_le (by have := hlen (r - nm) (by omega); omega) hE.len
    · exact Nat.lt_of_lt_of_le (hR.alt r h) hE.len
theorem mem_go_refs {args : List EV} {r : Nat} (h : r ∈ EV.refs.go args) : ∃ i, ∃ (hi : i < args.length), r ∈ (args[i]).refs := by
  induction args with
  | nil => simp [EV.refs.go] at h
  | cons x xs ih =>
    simp only [EV.refs.go, List.mem_append] at h
    rcases h with h | h
    · exact ⟨0, by simp, h⟩
    · obtain ⟨i, hi, h⟩ := ih h
      exact ⟨i + 1, by simpa using hi, by simpa using h⟩
theorem eFrame_ok (hD : DOk V P G D) (ev : Operand → EV) (look : Look) (nm k : Nat) (σ0 : Option Heap) (o : Oper) (g : FuncId) (args : List EV) (hmk : slots k o.op = k)
    (main : ∀ {K : KM} {w : World} {a : Act}, EvOk K w ev a → Enters P g → ∃ margs, (execOp a.eval o).run P w = .ok (.enter g margs) w ∧ VRs K w args margs) :
    Ok V (eFrame D look nm k g args) fun r => OpSem P G ev look nm k σ0 o (r.1, .upd r.2) := by
  unfold eFrame
  dsimp only
  have hnd := uniq_nodup (closeL look 1000 (EV.refs.go args) [])
  generalize uniq (closeL look 1000 (EV.refs.go args) []) = L at hnd ⊢
  refine Ok.ite (fun hargs => ?_) fun _ => Ok.fail
  refine Ok.bind_lift fun σl hσl => ?_
  refine Ok.bind (hD.gcall g _ σl) fun q => ?_
  obtain ⟨v, σ'⟩ := q
  dsimp only
  have hkn := (uniq_nodup (closeL (fun r => σ'[r]?) 1000 (v.refs ++ oldRefs σ' 0 L.length) [])).filter (p := fun r => Decidable.decide (L.length ≤ r))
  have hkge : ∀ r ∈ (uniq (closeL (fun r => σ'[r]?) 1000 (v.refs ++ oldRefs σ' 0 L.length) [])).filter (fun r => Decidable.decide (L.length ≤ r)), L.length ≤ r := fun r hr => by simpa using (List.mem_filter.1 hr).2
  generalize (uniq (closeL (fun r => σ'[r]?) 1000 (v.refs ++ oldRefs σ' 0 L.length) [])).filter (fun r => Decidable.decide (L.length ≤ r)) = keep at hkn hkge ⊢
  refine Ok.ite (fun hc => ?_) fun _ => Ok.fail
  refine Ok.bind_lift fun u1 hu1 => ?_
  refine Ok.bind_lift fun u2 hu2 => ?_
  refine Ok.pure ?_
  intro hsem K σ w a hR hG hl hf _ _ ht
  obtain ⟨hen, hcall⟩ := hsem
  obtain ⟨margs, m1, m2⟩ := main ht hen
  have hargs' : ∀ r ∈ EV.refs.go args, r ∈ L := fun r hr => by simpa using List.all_eq_true.1 hargs r hr
  have hva : VRs (K.loc L) w (EV.ren.go (L.idxOf ·) args) margs := by
    rw [ren_go]
    refine ⟨by simp [m2.1], fun i h1 h2 => ?_⟩
    rw [List.getElem_map]
    have h1' : i < args.length := by simpa using h1
    exact VR.ren (K := K) (K' := K.loc L) rfl (m2.2 i h1' h2) fun r hr => loc_moves (hargs' r (refs_go_mem h1' hr))
  refine .enter g margs m1 ((hcall (K.loc L) w margs (loc_rel hR hl hnd hσl) hG hva).mono fun e w' he => ?_)
  cases e with
  | returned mv =>
    exact frame_rel hR hl hnd hkn hσl (fun i hi => hf i (by rw [hmk]; omega)) hkge (ok := fun r => Decidable.decide (r < L.length) || keep.contains r) (fun r hr => by simpa using hr) (fun r hr => List.all_eq_true.1 hc.2 r hr) hu1 hu2 he
  | panicked _ => exact he
  | outgrown => exact he
theorem eEnter_ok (hD : DOk V P G D) (ev : Operand → EV) (look : Look) (nm k : Nat) (σ0 : Option Heap) (o : Oper) (g : FuncId) (args : List EV) (hmk : slots k o.op = k)
    (main : ∀ {K : KM} {w : World} {a : Act}, EvOk K w ev a → Enters P g → ∃ margs, (execOp a.eval o).run P w = .ok (.enter g margs) w ∧ VRs K w args margs) :
    Ok V (eEnter D look nm k σ0 g args) fun r => OpSem P G ev look nm k σ0 o r := by
  unfold eEnter
  refine Ok.bind (hD.mode g) fun d => ?_
  refine Ok.ite (fun _ => ?_) fun _ => ?_
  · refine Ok.bind (hD.fresh g) fun b => ?_
    refine Ok.ite (fun _ => ?_) fun _ => ?_
    · refine Ok.bind (eFrame_ok hD ev look nm k σ0 o g args hmk main) fun q => ?_
      obtain ⟨v, u⟩ := q
      exact Ok.pure fun h _ _ => h
    refine Ok.bind (Ok.lift (Φ := fun q => purifyArgs look args = some q) fun n h => h) fun q => ?_
    obtain ⟨pargs, rs⟩ := q
    refine Ok.bind (Ok.lift (Φ := fun u => freezeAll look rs = some u) fun n h => h) fun u => ?_
    refine Ok.bind (hD.pcall g pargs) fun v => Ok.pure ?_
    intro hsem hu hq _ _ K σ w a hR hG hl _ _ _ ht
    obtain ⟨hen, hcall⟩ := hsem
    obtain ⟨margs, m1, m2⟩ := main ht hen
    obtain ⟨e1, r1⟩ := Rel.freezeAll rs K σ u hR (fun r o h => .inl (hl r o h)) hu
    have hpr := purify_all (F' := (K.frzs rs).F) (look_ok hR hl) (fun b hb => (frzs_F K rs b).2 (.inl hb)) hq m2 fun r hr => (frzs_F K rs _).2 (.inr ⟨r, hr, rfl⟩)
    refine .enter g margs m1 ((hcall (K.frzs rs).F w margs r1.Flt (frzs_GOk hG) hpr).mono fun e w' he => ?_)
    cases e with
    | returned mv =>
      obtain ⟨K', e2, r2, v2⟩ := pcall_rel r1 he
      exact ⟨K', e1.trans e2, r2, v2⟩
    | panicked _ => exact he
    | outgrown => exact he
  · split
    · rename_i σ1 _
      refine Ok.bind (hD.gcall g _ σ1) fun q => ?_
      obtain ⟨v, σ'⟩ := q
      refine Ok.pure ?_
      intro hsem _ K σ w a hR hG hl _ hσ _ ht
      obtain ⟨hen, hcall⟩ := hsem
      obtain ⟨margs, m1, m2⟩ := main ht hen
      obtain rfl := hσ σ1 rfl
      refine .enter g margs m1 ((hcall K w margs hR hG m2).mono fun e w' he => ?_)
      cases e with
      | returned mv => exact he
      | panicked _ => exact he
      | outgrown => exact he
    · exact Ok.fail
theorem roundTmps_list {K : KM} {w : World} : ∀ (ps : List Tmp) (vs : List EV) (mvs : List Value) (tmps : List EV) (mt : Array Value), VRs K w tmps mt → vs.length = mvs.length →
    (∀ i (h : i < vs.length) (h' : i < mvs.length), VR K w vs[i] mvs[i]) → VRs K w (roundTmps tmps ps vs) ((ps.zip mvs).foldl (fun (t : Array Value) (x : Tmp × Value) => t.setIfInBounds x.1 x.2) mt) := by
  intro ps
  induction ps with
  | nil => intro vs mvs tmps mt ht _ _; simpa [roundTmps] using ht
  | cons p ps ih =>
    intro vs mvs tmps mt ht hl hv
    cases vs with
    | nil =>
      have : mvs = [] := List.length_eq_zero_iff.1 hl.symm
      subst this
      simpa [roundTmps] using ht
    | cons v vs =>
      cases mvs with
      | nil => simp at hl
      | cons mv mvs =>
        simp only [roundTmps, List.zip_cons_cons, List.foldl_cons]
        refine ih vs mvs _ _ ⟨by simp [ht.1], fun i h1 h2 => ?_⟩ (by simpa using hl) fun i h1 h2 => hv (i + 1) (by simpa using h1) (by simpa using h2)
        by_cases hd : p = i
        · subst hd
          rw [List.getElem_set_self, Array.getElem_setIfInBounds_self]
          exact hv 0 (by simp) (by simp)
        · rw [List.getElem_set_ne hd, Array.getElem_setIfInBounds_ne (by simpa using h2) hd]
          exact ht.2 i (by simpa using h1) (by simpa using h2)
theorem putObj_wr {w : World} {b : Nat} (o : Obj) (hb : b < w.heap.size) : Wr w (w.putObj b o) b o :=
  ⟨by simp, fun b' h => World.putObj_heap_other h, World.putObj_heap_same hb, rfl, rfl, rfl⟩
theorem turn_record {K : KM} {σ : Heap} {w : World} (hR : Rel K σ w) {r : Nat} {st : LoopState} {t : List EV} {ps : Array Tmp} {x y : Code} {pd : Option Code} (hr : σ[r]? = some (.loop st t ps x y pd)) :
    ∃ rec : Loop, w.heap[K.blk r]? = some (.loop rec) ∧ rec.state = st ∧ rec.pending = pd ∧ rec.params = ps ∧ rec.assign = x ∧ rec.body = y ∧ VRs K w t rec.tmps ∧ K.al r ∧
      ∀ st' pd', Ext K σ w K (σ.set r (.loop st' t ps x y pd')) (w.putObj (K.blk r) (.loop { rec with state := st', pending := pd' })) ∧ Rel K (σ.set r (.loop st' t ps x y pd')) (w.putObj (K.blk r) (.loop { rec with state := st', pending := pd' })) := by
  obtain ⟨ha, fn, mt, d, h1, h2, h3⟩ := hR.obj r _ hr
  have hlt := hR.lt r _ hr rfl
  refine ⟨_, h1, rfl, rfl, rfl, rfl, rfl, ⟨h2, h3⟩, ha, fun st' pd' => ?_⟩
  refine hR.write hr rfl (putObj_wr _ hlt) rfl fun σ' hE => ?_
  exact ⟨ha, fn, mt, d, World.putObj_heap_same hlt, h2, fun i a b => (h3 i a b).ext hE hR⟩
theorem PostC.normal {K : KM} {σ : Heap} {w : World} {ds : List Deferred} {t : List EV} {s : Heap} {next : Act → World → Prop} {r2 : EX × List EV × Heap}
    (hn : ∀ K' w' a' bs, Ext K σ w K' s w' → Rel K' s w' → VRs K' w' t a'.tmps → Marks K' s w w' ds a'.defers bs → next a' w') {e : Exit} {a : Act} {w' : World}
    (hp : PostC K σ w ds (.normal, t, s) e a w') : Exit.then next (PostC K σ w ds r2) e a w' := by
  cases e with
  | outgrown => exact hp.elim
  | normal => obtain ⟨_, K', bs, e1, h3, h4, h5⟩ := hp; exact hn K' w' a bs e1 h3 h4 h5
  | exit i => exact hp.1.elim
  | goto l => exact hp.1.elim
  | ret => exact hp.1.elim
  | panic c => exact hp.1.elim
theorem eRound_ok (hD : DOk V P G D) (ev : Operand → EV) (look : Look) (nm k : Nat) (σ1 : Heap) (o : Oper) (c : Call) (f : Operand) (r : Nat) (ho : o.op = .call c) (hcf : c.callee = .value f) (hev : ev f = .it r) :
    Ok V (eRound D r (c.args.toList.map ev) σ1) fun q => OpSem P G ev look nm k (some σ1) o (q.1, .heap q.2) := by
  unfold eRound
  split
  · rename_i tmps ps assign body pd hrec
    refine Ok.ite (fun hlen => ?_) fun _ => Ok.fail
    refine Ok.bind (hD.round assign _ σ1) fun r1 => ?_
    obtain ⟨e1, t1, s1⟩ := r1
    dsimp only
    split
    · rename_i tmps' ps' assign' body' pd' hrec1
      refine Ok.bind (hD.round body t1 _) fun r2 => ?_
      obtain ⟨e2, t2, s2⟩ := r2
      dsimp only
      split
      · rename_i st'' tmps'' ps'' assign'' body'' pd'' hrec2
        have main : ∀ (q : EV × Heap), q = (match e2 with | .normal => (.bool true, s2.set r (.loop .ready tmps'' ps'' assign'' body'' none)) | e => (.bool false, s2.set r (.loop .done tmps'' ps'' assign'' body'' e.jump))) →
            SemC P G true body t1 (s1.set r (.loop .busy tmps' ps' assign' body' pd')) (e2, t2, s2) → SemC P G true assign (roundTmps tmps ps.toList (c.args.toList.map ev)) σ1 (.normal, t1, s1) →
            OpSem P G ev look nm k (some σ1) o (q.1, .heap q.2) := by
          intro q hq h2 h1 K σ w a hR hG hl hf hσ _ ht
          obtain rfl := hσ σ1 rfl
          have hfv := ht f
          rw [hev] at hfv
          have hfe : a.eval f = .func (.yield (K.blk r)) #[] #[] := by
            generalize a.eval f = mv at hfv
            cases hfv with
            | pure _ _ hp => cases hp
            | it _ _ => rfl
          obtain ⟨rec, g1, g2, g3, g4, g5, g6, g7, hal, _⟩ := turn_record hR hrec
          have hargs := VRs.map_eval ht c.args
          have hsz : (c.args.map a.eval).size = rec.params.size := by rw [g4, ← hlen]; simp
          have hy := run_yield (P := P) g1 hsz
          refine .round (K.blk r) rec.fn ((rec.params.zip (c.args.map a.eval)).foldl (fun tmps (x : Tmp × Value) => tmps.setIfInBounds x.1 x.2) rec.tmps) rec.assign rec.body ?_ fun ro => ?_
          · simp only [execOp, ho, resolve, hcf, hfe, Deferred.ofValue, invoke, callFunc, Sem.run_bind, Sem.run_pure, Result.andThen_ok, run_program, Array.append_empty, Array.empty_append]
            exact hy
          · refine roundIn_of_wpIn (F := fen ro) trivial ?_
            rw [g5, g6]
            have hv0 : VRs K w (roundTmps tmps ps.toList (c.args.toList.map ev)) ((rec.params.zip (c.args.map a.eval)).foldl (fun tmps (x : Tmp × Value) => tmps.setIfInBounds x.1 x.2) rec.tmps) := by
              rw [g4, ← Array.foldl_toList, Array.toList_zip]
              refine roundTmps_list ps.toList _ (c.args.map a.eval).toList tmps rec.tmps g7 (by simp) fun i x y => ?_
              have := hargs.2 i x (by simpa using y)
              simpa using this
            refine wpIn_mono (h1 (some (K.blk r)) K w { tmps := (rec.params.zip (c.args.map a.eval)).foldl (fun tmps (x : Tmp × Value) => tmps.setIfInBounds x.1 x.2) rec.tmps, defers := [] } (fun _ => rfl) hR hG hv0) fun e a1 w1 hp => ?_
            cases e with
            | outgrown => exact hp.elim
            | exit i => exact hp.1.elim
            | goto l => exact hp.1.elim
            | ret => exact hp.1.elim
            | panic ch => exact hp.1.elim
            | normal =>
            obtain ⟨_, K1, bs1, x1, r1, v1, m1⟩ := hp
            obtain ⟨rec1, k1, k2, k3, k4, k5, k6, k7, k8, k9⟩ := turn_record r1 hrec1
            have hb1 : K1.blk r = K.blk r := (x1.blk r hal).1
            obtain ⟨y1, y2⟩ := k9 .busy pd'
            refine ⟨_, run_beginRound (hb1 ▸ k1) k2, ?_⟩
            have heq : ({ rec1 with state := .busy } : Loop) = { rec1 with state := .busy, pending := pd' } := by rw [← k3]
            rw [heq, ← hb1]
            refine wpIn_mono (h2 (some (K1.blk r)) K1 _ a1 (fun _ => rfl) y2 ((hG.ext x1 hR).ext y1 r1) (v1.ext y1 r1)) fun e a2 w2 hp2 => ?_
            have fin : ∀ (K2 : KM) (jump : Option Code) (σq : Heap), Ext K1 (s1.set r (.loop .busy tmps' ps' assign' body' pd')) (w1.putObj (K1.blk r) (.loop { rec1 with state := .busy, pending := pd' })) K2 s2 w2 → Rel K2 s2 w2 →
                q = (.bool jump.isNone, s2.set r (.loop (if jump.isNone then .ready else .done) tmps'' ps'' assign'' body'' jump)) →
                ∃ v w', (Instr.endRound (K1.blk r) jump).run P w2 = .ok v w' ∧ ∃ K', Ext K σ w K' q.2 w' ∧ Rel K' q.2 w' ∧ VR K' w' q.1 v := by
              intro K2 jump σq x2 r2 hq'
              obtain ⟨rec2, n1, n2, n3, n4, n5, n6, n7, n8, n9⟩ := turn_record r2 hrec2
              have hb2 : K2.blk r = K1.blk r := (x2.blk r k8).1
              obtain ⟨z1, z2⟩ := n9 (if jump.isNone then .ready else .done) jump
              refine ⟨_, _, run_endRound jump (hb2 ▸ n1), K2, ?_, ?_, ?_⟩
              · rw [hq', ← hb2]; exact ((x1.trans y1).trans x2).trans z1
              · rw [hq', ← hb2]; exact z2
              · rw [hq']; exact .pure _ _ (.bool _)
            cases e with
            | outgrown => exact hp2.elim
            | normal =>
              obtain ⟨q1, K2, bs, x2, r2, v2, m2⟩ := hp2
              cases e2 with
              | normal => exact fin K2 none σ x2 r2 hq
              | leave i => exact q1.elim
              | ret => exact q1.elim
            | exit j =>
              obtain ⟨q1, K2, bs, x2, r2, v2, m2⟩ := hp2
              cases e2 with
              | normal => exact q1.elim
              | leave i =>
                have q1 : i = j := q1
                subst q1
                exact fin K2 (some (.exit i)) σ x2 r2 hq
              | ret => exact q1.elim
            | ret =>
              obtain ⟨q1, K2, bs, x2, r2, v2, m2⟩ := hp2
              cases e2 with
              | normal => exact q1.elim
              | leave i => exact q1.elim
              | ret => exact fin K2 (some .ret) σ x2 r2 hq
            | goto l => obtain ⟨q1, _⟩ := hp2; cases e2 <;> exact q1.elim
            | panic ch => obtain ⟨q1, _⟩ := hp2; cases e2 <;> exact q1.elim
        split
        · exact Ok.pure fun h2 h1 => main _ rfl h2 h1
        · rename_i he
          exact Ok.pure fun h2 h1 => by
            refine main _ ?_ h2 h1
            cases e2 with
            | normal => exact absurd rfl he
            | leave i => rfl
            | ret => rfl
      · exact Ok.fail
    · exact Ok.fail
  · exact Ok.fail
theorem eInvoke_ok (hD : DOk V P G D) (ev : Operand → EV) (look : Look) (nm k : Nat) (σ0 : Option Heap) (o : Oper) (c : Call) (f : Operand) (ho : o.op = .call c) (hcf : c.callee = .value f) :
    Ok V (eInvoke D look nm k σ0 (ev f) (c.args.toList.map (ev))) fun r => OpSem P G ev look nm k σ0 o r := by
  unfold eInvoke
  split
  · rename_i g first captured hev
    refine eEnter_ok hD ev look nm k σ0 o g _ (by obtain ⟨cal, ca, ct⟩ := c; simp only at hcf; subst hcf; rw [ho]; rfl) fun {K w a} ht hen => ?_
    have hf := ht f
    rw [hev] at hf
    obtain ⟨mf, mc, hev, h1, h2⟩ := hf.func_inv
    obtain ⟨fn, hfn, hb, hne⟩ := hen
    refine ⟨mf ++ c.args.map a.eval ++ mc, ?_, (h1.append (VRs.map_eval ht c.args)).append h2⟩
    have hbn : fn.body.isNone = false := by cases h : fn.body <;> simp_all
    simp only [execOp, ho, resolve, hcf, hev, Deferred.ofValue, invoke, callFunc, Sem.run_bind, Sem.run_pure, Result.andThen_ok, run_program, hfn, hne, hbn, Bool.false_eq_true, if_false]
  · rename_i r hev
    split
    · rename_i σ1
      exact Ok.bind (eRound_ok hD ev look nm k σ1 o c f r ho hcf hev) fun q => Ok.pure fun h => h
    · exact Ok.fail
  · exact Ok.fail
theorem one_get {α : Type} (x : α) (xs : Array α) : (#[x] ++ xs)[0]? = some x := by
  rw [Array.getElem?_append_left (by simp)]
  rfl
theorem one_rest {α : Type} (x : α) (xs : Array α) : (#[x] ++ xs).extract 1 (#[x] ++ xs).size = xs := by
  apply Array.ext'
  simp
theorem methodE_ok {t : TypeId} {name : String} {g : FuncId} (h : methodE P t name = some g) (w : World) (v : Value) (n : Nat) : (method (n + 1) t v name).run P w = .ok (g, v) w := by
  unfold methodE at h
  split at h
  · cases h
  · rename_i i d hnp hi hd
    split at h
    · rename_i m hm
      split at h
      · rename_i hp
        split at h
        · rename_i f hf
          obtain rfl := Option.some.inj h
          have hpath : m.path.toList = [] := by simpa using hp
          unfold method
          simp only [Sem.run_bind, run_info hi, Result.andThen_ok, hm, hpath, follow, Sem.run_pure, hf, receiverAt, run_under hd]
          cases d <;> first | exact absurd rfl (hnp _) | simp [Place.get]
        · cases h
      · cases h
    · cases h
  · cases h
theorem eVirtual_ok (hD : DOk V P G D) (ev : Operand → EV) (look : Look) (nm k : Nat) (σ0 : Option Heap) (o : Oper) (c : Call) (r : Operand) (name : String) (ho : o.op = .call c) (hcf : c.callee = .invoke r name) :
    Ok V (eVirtual D P look nm k σ0 (ev r) name (c.args.toList.map (ev))) fun q => OpSem P G ev look nm k σ0 o q := by
  unfold eVirtual
  split
  · rename_i t v hev
    refine Ok.bind_lift fun g hg => ?_
    · refine eEnter_ok hD ev look nm k σ0 o g _ (by obtain ⟨cal, ca, ct⟩ := c; simp only at hcf; subst hcf; rw [ho]; rfl) fun {K w a} ht hen => ?_
      have hf := ht r
      rw [hev] at hf
      obtain ⟨mv, hmv, h1⟩ := hf.iface_inv
      obtain ⟨fn, hfn, hb, hne⟩ := hen
      refine ⟨#[mv] ++ c.args.map a.eval, ?_, VRs.append ⟨rfl, fun i g1 g2 => ?_⟩ (VRs.map_eval ht c.args)⟩
      · have hbn : fn.body.isNone = false := by cases h : fn.body <;> simp_all
        have hm := methodE_ok (P := P) hg w mv (P.types.size + 99)
        have h0 : (#[Value.iface t mv] ++ Array.map a.eval c.args)[0]? = some (Value.iface t mv) := one_get _ _
        have h1 : (#[Value.iface t mv] ++ Array.map a.eval c.args).extract 1 (#[Value.iface t mv] ++ Array.map a.eval c.args).size = c.args.map a.eval := one_rest _ _
        simp only [execOp, ho, resolve, hcf, invoke, Sem.run_bind, Sem.run_pure, Result.andThen_ok, Array.append_empty, hmv, h0, h1, callMethod, run_program]
        rw [show P.types.size + Made.depth = P.types.size + 99 + 1 from rfl]
        simp only [hm, Result.andThen_ok, callFunc, Sem.run_bind, run_program, hfn, hne, hbn, Bool.false_eq_true, if_false, Sem.run_pure]
      · have : i = 0 := by simp at g1; omega
        subst this
        exact h1
  · exact Ok.fail
end
end Go.Ev
namespace Go.Ev
section
variable {P : Program} {S : Type} {V : S → Prop} {G : Nat → Option (List EV)} {D : Drv S}
theorem VR.notPtrNil {K : KM} {w : World} {x : EV} {mx : Value} (h : VR K w x mx)
    (hx : (∃ r k, x = .ptr r k) ∨ (∃ r e i k, x = .pe r e i k) ∨ (∃ c k, x = .ip c k) ∨ (∃ f a b, x = .func (.func f) a b) ∨ ∃ t v, x = .iface t v) (o : Oper) (ρ : Operand → Value) (y : Operand)
    (ho : o.op = .nilCheck y) (hy : ρ y = mx) : execOp ρ o = (Pure.pure (Next.value mx) : Sem Next) := by
  rcases hx with ⟨r, k, rfl⟩ | ⟨r, e, i, k, rfl⟩ | ⟨c, k, rfl⟩ | ⟨f, a, b, rfl⟩ | ⟨t, v, rfl⟩
  · obtain ⟨rfl, _⟩ := h.ptr_inv; simp only [execOp, ho, hy]
  · obtain ⟨rfl, _⟩ := h.pe_inv; simp only [execOp, ho, hy]
  · obtain ⟨b, o', rfl, _⟩ := h.ip_inv; simp only [execOp, ho, hy]
  · obtain ⟨mf, mc, rfl, _⟩ := h.func_inv; simp only [execOp, ho, hy]
  · obtain ⟨mv, rfl, _⟩ := h.iface_inv; simp only [execOp, ho, hy]
theorem len_args (ts : Array TypeId) (t : TypeId) (h : ts[0]? = some t) (ty : TypeId) (args : Array Value) : Builtin.len_ ts ty args = Builtin.len_ #[t] ty args := by
  simp [Builtin.len_, h]
theorem array_one {α : Type} {a : Array α} {x : α} (h : a.toList = [x]) : a = #[x] := by
  apply Array.ext'; simpa using h
theorem array_two {α : Type} {a : Array α} {x y : α} (h : a.toList = [x, y]) : a = #[x, y] := by
  apply Array.ext'; simpa using h
theorem map_eq_one {α β : Type} {f : α → β} {l : List α} {y : β} (h : l.map f = [y]) : ∃ x, l = [x] ∧ f x = y := by
  cases l with
  | nil => simp at h
  | cons a l => cases l with
    | nil => exact ⟨a, rfl, by simpa using h⟩
    | cons => simp at h
theorem map_eq_two {α β : Type} {f : α → β} {l : List α} {y z : β} (h : l.map f = [y, z]) : ∃ x x', l = [x, x'] ∧ f x = y ∧ f x' = z := by
  cases l with
  | nil => simp at h
  | cons a l => cases l with
    | nil => simp at h
    | cons b l => cases l with
      | nil => exact ⟨a, b, rfl, by simpa using h⟩
      | cons => simp at h
theorem quiet_fail {Φ : EV × Eff → Prop} : Ok V (quiet (M.fail : M S EV)) Φ := by
  unfold quiet
  exact Ok.bind (Φ := fun _ => False) Ok.fail fun v => Ok.pure fun h => h.elim
theorem VRs.cons_inv {K : KM} {w : World} {x : EV} {xs : List EV} {arr : Array Value} (h : VRs K w (x :: xs) arr) :
    ∃ mx mxs, arr.toList = mx :: mxs ∧ VR K w x mx ∧ xs.length = mxs.length ∧ ∀ i (h : i < xs.length) (h' : i < mxs.length), VR K w xs[i] mxs[i] := by
  obtain ⟨l⟩ := arr
  obtain ⟨hl, hv⟩ := h
  cases l with
  | nil => simp at hl
  | cons mx mxs =>
    refine ⟨mx, mxs, rfl, hv 0 (by simp) (by simp), by simpa using hl, fun i h1 h2 => hv (i + 1) (by simpa using h1) (by simpa using h2)⟩
theorem eBuiltin_ok (hD : DOk V P G D) (ev : Operand → EV) (look : Look) (nm k : Nat) (σ0 : Option Heap) (o : Oper) (c : Call) (b : Builtin) (ho : o.op = .call c) (hcf : c.callee = .builtin b) :
    Ok V (eBuiltin D P look nm b c.argTypes (c.args.toList.map (ev))) fun r => OpSem P G ev look nm k σ0 o r := by
  have hexec : ∀ a : Act, execOp a.eval o = builtin b c.argTypes o.type (c.args.map fun | .const _ => true | _ => false) (c.args.map a.eval) := by
    intro a
    simp only [execOp, ho, resolve, hcf]
    rfl
  obtain ⟨l, hl⟩ : ∃ l, c.args.toList.map (ev) = l := ⟨_, rfl⟩
  rw [hl]
  unfold eBuiltin
  split
  · rename_i x
    obtain ⟨y, hy, hxy⟩ := map_eq_one hl
    have hca := array_one hy
    split
    · rename_i t ht
      refine quiet_ok (run := fun a => Builtin.len_ c.argTypes o.type (c.args.map a.eval)) (fun a => by rw [hexec]; rfl) ((eLen_ok look t x).mono fun v hv K w a hL hG ht' => ?_)
      have h1 := ht' y
      rw [hxy] at h1
      obtain ⟨mv, r1, r2⟩ := hv K w _ o.type hL h1
      exact ⟨mv, by rw [len_args _ t ht, hca]; simpa using r1, r2⟩
    · exact Ok.fail
  · rename_i s x
    obtain ⟨y, z, hy, hsy, hxz⟩ := map_eq_two hl
    have hca := array_two hy
    split
    · rename_i t t' ht ht'
      split
      · exact Ok.fail
      · rename_i d' hni hd'
        refine both_ok (run := fun a => Builtin.append_ c.argTypes o.type (c.args.map a.eval)) (fun a => by rw [hexec]; rfl) ((eAppend_ok hD look nm t t' d' hd' (fun k h => hni k h) s x).mono fun r hv K σ w a hR hG hlk hf htm => ?_)
        have h1 := htm y
        have h2 := htm z
        rw [hsy] at h1
        rw [hxz] at h2
        obtain ⟨mv, w', K', r1, r2, r3, r4⟩ := hv K σ w _ _ o.type c.argTypes ht ht' hR hlk (hf (by simp [makes, ho]; rw [show c = { callee := .builtin .append, args := c.args, argTypes := c.argTypes } from by rw [← hcf]])) h1 h2
        exact ⟨mv, w', K', by rw [hca]; simpa using r1, r2, r3, r4⟩
      · exact Ok.fail
    · exact Ok.fail
  · rename_i x xs
    refine quiet_ok (run := fun a => Builtin.min_ c.argTypes o.type (c.args.map a.eval)) (fun a => by rw [hexec]; rfl) (Ok.lift fun v hv K w a hL hG ht' => ?_)
    have hm := VRs.map_eval ht' c.args
    rw [hl] at hm
    obtain ⟨mx, mxs, hml, h0, hln, hvs⟩ := hm.cons_inv
    obtain ⟨mv, r1, r2⟩ := foldE_min (P := P) xs x v mx mxs hv h0 hln hvs
    exact ⟨mv, by simp only [Builtin.min_, hml]; exact r1, r2⟩
  · rename_i x xs
    refine quiet_ok (run := fun a => Builtin.max_ c.argTypes o.type (c.args.map a.eval)) (fun a => by rw [hexec]; rfl) (Ok.lift fun v hv K w a hL hG ht' => ?_)
    have hm := VRs.map_eval ht' c.args
    rw [hl] at hm
    obtain ⟨mx, mxs, hml, h0, hln, hvs⟩ := hm.cons_inv
    obtain ⟨mv, r1, r2⟩ := foldE_max (P := P) xs x v mx mxs hv h0 hln hvs
    exact ⟨mv, by simp only [Builtin.max_, hml]; exact r1, r2⟩
  · exact Ok.fail
set_option maxHeartbeats 2000000 in
theorem eOp_ok (hD : DOk V P G D) (ev : Operand → EV) (look : Look) (nm k : Nat) (σ0 : Option Heap) (o : Oper) :
    Ok V (eOp D P (ev) look nm k σ0 o) fun r => OpSem P G ev look nm k σ0 o r := by
  unfold eOp
  split
  · rename_i x ho
    exact quiet_ok (run := fun a => pure (a.eval x)) (fun a => by simp only [execOp, ho] <;> rfl) (Ok.pure fun K w a _ hG ht => ⟨a.eval x, by simp, ht x⟩)
  · rename_i x ho
    exact quiet_ok (run := fun a => pure (a.eval x)) (fun a => by simp only [execOp, ho] <;> rfl) (Ok.pure fun K w a _ hG ht => ⟨a.eval x, by simp, ht x⟩)
  · rename_i c x y ho
    refine quiet_ok (run := fun a => do pure (if ← asBool (a.eval c) then a.eval x else a.eval y)) (fun a => by simp [execOp, ho]) ?_
    split
    · rename_i t hc
      refine Ok.bind (hD.br t) fun d => Ok.ite (fun hd => Ok.pure ?_) fun hd => Ok.pure ?_
      · intro hb K w a _ hG ht
        have h1 := ht c
        rw [hc] at h1
        have hbt : t = true := by rw [← hb]; exact hd
        exact ⟨a.eval x, by simp [h1.bool_inv, asBool, hbt], ht x⟩
      · intro hb K w a _ hG ht
        have h1 := ht c
        rw [hc] at h1
        have hbt : t = false := by rw [← hb]; simpa using hd
        exact ⟨a.eval y, by simp [h1.bool_inv, asBool, hbt], ht y⟩
    · exact Ok.fail
  · rename_i t ho
    refine both_ok (run := fun a => Instr.alloc t true (.tuple #[])) (fun a => by simp only [execOp, ho]) ((eAlloc_ok nm t).mono fun r hv K σ w a hR hG hl hf ht => ?_)
    exact hv K σ w hR (hf (by simp [makes, ho]))
  · rename_i t x ho
    refine both_ok (run := fun a => Instr.box t (a.eval x)) (fun a => by simp only [execOp, ho]) ((eBox_ok (P := P) nm t _).mono fun r hv K σ w a hR hG hl hf ht => ?_)
    exact hv K σ w _ hR (hf (by simp [makes, ho])) (ht x)
  · rename_i t parts ho
    refine quiet_ok (run := fun a => Instr.build t (parts.map fun (x : Nat × Operand) => (x.1, a.eval x.2))) (fun a => by simp only [execOp, ho] <;> rfl) ((eBuild_ok t _).mono fun v hv K w a _ hG ht => ?_)
    obtain ⟨p1, p2⟩ := parts_eval ht parts
    exact hv K w _ p1 p2
  · rename_i t len parts ho
    refine both_ok (run := fun a => Instr.buildSlice t len (parts.map fun (x : Nat × Operand) => (x.1, a.eval x.2))) (fun a => by simp only [execOp, ho] <;> rfl) ((eBuildSlice_ok nm t len _).mono fun r hv K σ w a hR hG hl hf ht => ?_)
    obtain ⟨p1, p2⟩ := parts_eval ht parts
    exact hv K σ w _ hR (hf (by simp [makes, ho])) p1 p2
  · rename_i t x ho
    refine quiet_ok (run := fun a => Instr.loadAt t (a.eval x)) (fun a => by simp only [execOp, ho]) ((eLoad_ok look t _).mono fun v hv K w a hL hG ht => ?_)
    exact hv K w _ hL (ht x)
  · rename_i t x y ho
    refine loud_ok (run := fun a => Instr.storeAt t (a.eval x) (a.eval y)) (fun a => by simp only [execOp, ho]) ((eStore_ok look t _ _).mono fun u hv K σ w a hR hG hl ht => ?_)
    exact hv K σ w _ _ hR hl (ht x) (ht y)
  · rename_i x ho
    have nc : ∀ {v : EV}, ev x = v → ((∃ r k, v = .ptr r k) ∨ (∃ r e i k, v = .pe r e i k) ∨ (∃ c k, v = .ip c k) ∨ (∃ f a b, v = .func (.func f) a b) ∨ ∃ t u, v = .iface t u) →
        Ok V (quiet (Pure.pure v : M S EV)) fun r => OpSem P G ev look nm k σ0 o r := by
      intro v hv hs
      unfold quiet
      refine Ok.bind (Ok.pure (Φ := fun u => u = v) rfl) fun u => Ok.pure ?_
      intro hu K σ w a hR hG hl _ _ _ ht
      subst hu
      have h1 := ht x
      rw [hv] at h1
      exact .value (a.eval x) w (by rw [h1.notPtrNil hs o a.eval x ho rfl]; rfl) ⟨K, Ext.refl _ _ _, hR, h1⟩
    split
    · rename_i r k he; exact nc he (.inl ⟨_, _, rfl⟩)
    · rename_i r e i k he; exact nc he (.inr (.inl ⟨_, _, _, _, rfl⟩))
    · rename_i c k he; exact nc he (.inr (.inr (.inl ⟨_, _, rfl⟩)))
    · rename_i f a b he; exact nc he (.inr (.inr (.inr (.inl ⟨_, _, _, rfl⟩))))
    · rename_i t v he; exact nc he (.inr (.inr (.inr (.inr ⟨_, _, rfl⟩))))
    · exact quiet_fail
  · rename_i op t x y yt ho
    refine quiet_ok (run := fun a => do eqGuard op t x y (a.eval x) (a.eval y); binOp op t (a.eval x) (a.eval y)) (fun a => by simp only [execOp, ho]) ?_
    split
    · rename_i k a k' b hx hy
      refine (eBin_ok hD op t _ _).mono fun v hv K w ac _ hG ht => ?_
      have h1 := ht x
      have h2 := ht y
      rw [hx] at h1; rw [hy] at h2
      obtain ⟨mv, r1, r2⟩ := hv K w _ _ h1 h2
      refine ⟨mv, ?_, r2⟩
      rw [Sem.run_bind, eqGuard_none (by rw [h1.int_inv]; simp) (by rw [h1.int_inv]; simp), Result.andThen_ok]
      exact r1
    · rename_i a b hx hy
      refine (eBin_ok hD op t _ _).mono fun v hv K w ac _ hG ht => ?_
      have h1 := ht x
      have h2 := ht y
      rw [hx] at h1; rw [hy] at h2
      obtain ⟨mv, r1, r2⟩ := hv K w _ _ h1 h2
      refine ⟨mv, ?_, r2⟩
      rw [Sem.run_bind, eqGuard_none (by rw [h1.str_inv]; simp) (by rw [h1.str_inv]; simp), Result.andThen_ok]
      exact r1
    · rename_i vx vy hni hns
      refine (eEq_ok op t _ _ x y ?_ ?_).mono fun v hv K w ac _ hG ht => hv K w _ _ (ht x) (ht y)
      · exact fun k n k' n' h1 h2 => hni k n k' n' h1 h2
      · exact fun a b h1 h2 => hns a b h1 h2
  · rename_i op t x ho
    exact quiet_ok (run := fun a => Op.unary op (a.eval x)) (fun a => by simp only [execOp, ho] <;> rfl) ((eUn_ok hD op _).mono fun v hv K w a _ hG ht => hv K w _ (ht x))
  · rename_i src dst x ho
    refine both_ok (run := fun a => convert src dst (a.eval x)) (fun a => by simp only [execOp, ho] <;> rfl) ((eConvert_ok hD look nm src dst _).mono fun r hv K σ w a hR hG hl hf ht => ?_)
    exact hv K σ w _ hR hl (hf (by simp [makes, ho])) (ht x)
  · rename_i t x ho
    refine quiet_ok (run := fun a => Instr.makeInterface t (a.eval x)) (fun a => by simp only [execOp, ho] <;> rfl) ?_
    split
    · exact Ok.fail
    · rename_i d hni hu
      refine Ok.pure fun K w a _ hG ht => ⟨.iface t (a.eval x), ?_, .iface t _ _ (ht x)⟩
      simp only [Instr.makeInterface, Sem.run_bind, run_under hu, Result.andThen_ok]
      cases d <;> first | exact absurd rfl (hni _) | rfl
    · exact Ok.fail
  · rename_i fn first captured ho
    refine quiet_ok (run := fun a => Instr.makeFunc fn (first.map a.eval) (captured.map a.eval)) (fun a => by simp only [execOp, ho] <;> rfl) (Ok.pure fun K w a _ hG ht => ?_)
    have h1 := VRs.map_eval ht first
    have h2 := VRs.map_eval ht captured
    exact ⟨_, rfl, .func fn _ _ _ _ h1.1 h2.1 h1.2 h2.2⟩
  · rename_i t ho
    refine both_ok (run := fun a => Instr.makeMap t none) (fun a => by simp only [execOp, ho] <;> rfl) (Ok.pure fun K σ w a hR hG hl hf ht => ?_)
    exact makeMap_ok nm t hR (hf (by simp [makes, ho]))
  · rename_i t l c ho
    refine both_ok (run := fun a => Instr.makeSlice t (a.eval l) (a.eval c)) (fun a => by simp only [execOp, ho] <;> rfl) ((eMakeSlice_ok hD nm t _ _).mono fun r hv K σ w a hR hG hl hf ht => ?_)
    exact hv K σ w _ _ hR (hf (by simp [makes, ho])) (ht l) (ht c)
  · rename_i t x lo hi mx ho
    refine quiet_ok (run := fun a => Instr.sliceAt t (a.eval x) (lo.map a.eval) (hi.map a.eval) (mx.map a.eval)) (fun a => by simp only [execOp, ho] <;> rfl) ((eSlice_ok hD look t _ _ _ _).mono fun v hv K w a hL hG ht => ?_)
    exact hv K w _ _ _ _ hL (ht x) (VRo_eval ht lo) (VRo_eval ht hi) (VRo_eval ht mx)
  · rename_i t x f ho
    exact quiet_ok (run := fun a => Instr.fieldAt t (a.eval x) f) (fun a => by simp only [execOp, ho] <;> rfl) ((eField_ok t _ f).mono fun v hv K w a _ hG ht => hv K w _ (ht x))
  · rename_i t x f ho
    refine quiet_ok (run := fun a => Instr.field t (a.eval x) f) (fun a => by simp only [execOp, ho] <;> rfl) ?_
    split
    · rename_i fields cs hu hx
      split
      · rename_i fd hfd
        refine Ok.bind (Ok.lift (Φ := fun n => sizeE P fd.type = some n) fun n h => h) fun n => ?_
        refine Ok.bind (Ok.lift (Φ := fun n => aggE P fd.type = some n) fun n h => h) fun g => ?_
        refine Ok.lift fun v hv hg hn K w a _ hG ht => ?_
        have h1 := ht x
        rw [hx] at h1
        obtain ⟨mcs, he, hl, hc⟩ := h1.agg_inv
        obtain ⟨mv, p1, p2⟩ := run_part (P := P) hn hg hl hc hv
        exact ⟨mv, by simp only [Instr.field, Sem.run_bind, run_under hu, Result.andThen_ok, hfd, he, asAgg, Sem.run_pure, p1], p2⟩
      · exact Ok.fail
    · exact Ok.fail
  · rename_i t x ix ho
    exact quiet_ok (run := fun a => Instr.indexAt t (a.eval x) (a.eval ix)) (fun a => by simp only [execOp, ho] <;> rfl) ((eIndexAddr_ok hD t _ _).mono fun v hv K w a _ hG ht => hv K w _ _ (ht x) (ht ix))
  · rename_i t x ix ho
    exact quiet_ok (run := fun a => Instr.index t (a.eval x) (a.eval ix)) (fun a => by simp only [execOp, ho] <;> rfl) ((eIndex_ok hD t _ _).mono fun v hv K w a _ hG ht => hv K w _ _ (ht x) (ht ix))
  · rename_i t x ix ok ho
    exact quiet_ok (run := fun a => Instr.lookup t (a.eval x) (a.eval ix) ok) (fun a => by simp only [execOp, ho] <;> rfl) ((eLookup_ok hD look t _ _ ok).mono fun v hv K w a hL hG ht => hv K w _ _ hL (ht x) (ht ix))
  · rename_i t m k x ho
    exact loud_ok (run := fun a => Instr.mapUpdate t (a.eval m) (a.eval k) (a.eval x)) (fun a => by simp only [execOp, ho] <;> rfl) ((eMapUpdate_ok hD look t _ _ _).mono fun u hv K σ w a hR hG hl ht => hv K σ w _ _ _ hR hl (ht m) (ht k) (ht x))
  · rename_i t m k x ho
    exact loud_ok (run := fun a => Instr.mapUpdate t (a.eval m) (a.eval k) (a.eval x)) (fun a => by simp only [execOp, ho] <;> rfl) ((eMapUpdate_ok hD look t _ _ _).mono fun u hv K σ w a hR hG hl ht => hv K σ w _ _ _ hR hl (ht m) (ht k) (ht x))
  · rename_i x xt asserted ok ho
    exact quiet_ok (run := fun a => Instr.typeAssert (a.eval x) xt asserted ok) (fun a => by simp only [execOp, ho] <;> rfl) ((eAssert_ok _ xt asserted ok).mono fun v hv K w a _ hG ht => hv K w _ (ht x))
  · rename_i t ix ho
    refine quiet_ok (run := fun a => Instr.extract (a.eval t) ix) (fun a => by simp only [execOp, ho] <;> rfl) ?_
    split
    · rename_i vs hx
      refine Ok.lift fun v hv K w a _ hG ht => ?_
      have h1 := ht t
      rw [hx] at h1
      obtain ⟨mcs, he, hl, hc⟩ := h1.tuple_inv
      obtain ⟨hi, rfl⟩ := List.getElem?_eq_some_iff.1 hv
      have hi' : ix < mcs.size := by omega
      exact ⟨mcs[ix], by simp [Instr.extract, he, hi'], hc ix hi hi'⟩
    · exact Ok.fail
  · rename_i c ho
    split
    · rename_i b hc
      exact eBuiltin_ok hD ev look nm k σ0 o c b ho hc
    · rename_i f hc
      exact eInvoke_ok hD ev look nm k σ0 o c f ho hc
    · rename_i r name hc
      exact eVirtual_ok hD ev look nm k σ0 o c r name ho hc
  · exact Ok.fail
theorem eOpK_ok (hD : DOk V P G D) (ev : Operand → EV) (look : Look) (nm k : Nat) (σ0 : Option Heap) (o : Oper) :
    Ok V (eOpK D P ev look nm k σ0 o) fun r => OpSem P G ev look nm k σ0 o r :=
  Ok.bind (eOp_ok hD ev look nm k σ0 o) fun q => (hD.keep q).mono fun y hy h => by subst hy; exact h
end
end Go.Ev
