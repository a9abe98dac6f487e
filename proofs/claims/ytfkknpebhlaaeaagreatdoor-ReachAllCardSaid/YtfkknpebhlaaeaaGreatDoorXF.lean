/- A part of the proof. -/
import Derived.Test.YtfkknpebhlaaeaaGreatDoorXE
import Derived.Test.YtfkknpebhlaaeaaGreatDoorXD
set_option linter.unusedSimpArgs false
set_option linter.unusedVariables false
set_option linter.unusedSectionVars false
namespace Go.Ev
open Go.Proofs.Tryz (prog)
set_option maxRecDepth 100000
set_option maxHeartbeats 0
theorem U6 {α:Type}{l:List α}(h:l.Nodup){i j:Nat}(hi:i<l.length)(hj:j<l.length)(e:l[i]=l[j]):i=j:=by
 rcases Nat.lt_trichotomy i j with hlt | rfl | hlt
 ·exact absurd e (List.pairwise_iff_getElem.1 h i j hi hj hlt)
 ·rfl
 ·exact absurd e.symm (List.pairwise_iff_getElem.1 h j i hj hi hlt)
def Da (hs:Nat->Option Addr×Nat)(ln:Nat->Nat):Nat->EV:=fun j=>.raw (hs j).1 (ln j) (hs j).2
theorem uU.mapRaw {ps:List (Nat×Nat)}{hs:Nat->Option Addr×Nat}{ln:Nat->Nat}:uU (.map false false (bP ps (Da hs ln) 0)) (.map false true (bP ps (Da hs ln) 0)):=by
 refine ⟨fun K w r h=>?_,id,id⟩;obtain ⟨ha,mes,clock,h1,h2,h3,h4,h5,h6,h7⟩:=h;refine ⟨ha,mes,clock,h1,h2,h3,h4,h5,fun _ i a b=>?_,h7⟩;have h:=(h4 i a b).2;have hi:i<ps.length:=by rwa [DJ] at a
 have e:=NL (f:=Da hs ln) ps 0 i hi;rw [uD a] at e;rw [uC e] at h ⊢;exact h.cN rfl
theorem uU.mapf {es:List (EV×EV)}:uU (.map false true es) (.map false false es):=
 ⟨fun K w r h=>let ⟨ha,mes,clock,h1,h2,h3,h4,h5,_,h7⟩:=h; ⟨ha,mes,clock,h1,h2,h3,h4,h5,(fun h=>by cases h),h7⟩,id,id⟩
section
variable (q:fG)
abbrev cA (k:Nat):Nat->Nat:=fun j=>(eL q k j).length
abbrev lN (k:Nat):Nat->Nat->Int:=fun j p=>(((eL q k j).getD p 0:Nat):Int)
end
section
variable {q:fG}(hq:q.Ok){R:Nat}{rv:Nat->Int}(hR:R<=1000)
 {K0:KM} {w0:World} {ds0:List Deferred} {σ0:AL} (hσ0:∃ a b c d,σ0=[a,b,c,d]) (hR0:Rel K0 σ0 w0) (hG:dY fF K0.F w0) {ro:Option Nat} (hro:ro.isSome=true->false=true)
abbrev U7 (q:fG)(R:Nat)(rv:Nat->Int)(K0:KM)(w0:World)(ds0:List Deferred)(σ0:AL)(k:Nat)(hs:Nat->Option Addr×Nat)(a:Act)(w:World):Prop:=
 cK K0 σ0 w0 ds0 (·<(AG q k).length) hs (cA q k) (lN q k) (ncT q k) [fE.var false true q.cells,.map false true (bP (AG q k) (Da hs (cA q k)) 0),CW q (.ms 3 1 0 R none) (.ms 4 2 0 (AG q k).length none) (Bf q k),EA R rv,cO (AG q k)] a w
include hσ0 in
theorem Wn {nm:Nat}(hnm:4<=nm){s:AL}(hs:∀ i,i<4->∃ ob',s[i]? =some ob'/\ob'.live=true):∀ i ob,σ0[i]? =some ob->ob.live=true->i≠nm/\∃ ob',s[i]? =some ob'/\ob'.live=true:=by
 obtain ⟨a,b,c,d,rfl⟩:=hσ0;intro i ob hi _;have:i<4:=by
  rcases Nat.lt_or_ge i 4 with h | h
  ·exact h
  ·rw [List.getElem?_eq_none (by simpa using h)] at hi; cases hi
 exact ⟨by omega,hs i this⟩
theorem Wo {k:Nat}(h:q.gp k ∉ AG q k):(∀ j,j<(AG q k).length->eL q (k+1) j=eL q k j)/\eL q (k+1) (AG q k).length=[k]/\AG q (k+1)=AG q k++[q.gp k]:=by
 have e:AG q (k+1)=AG q k++[q.gp k]:=by rw [AG,if_neg h]
 refine ⟨fun j hj=>?_,?_,e⟩
 ·unfold eL;rw [e,IU,if_neg,List.append_nil]
  ·rw [uA,uA,List.getElem?_append_left hj]
  ·rw [uA,List.getElem?_append_left hj,uD hj,Option.getD_some];exact fun x=>h (by rw [x]; exact List.getElem_mem _)
 ·unfold eL;rw [e,uA,List.getElem?_concat_length,Option.getD_some,IU,if_pos rfl,Sh h];rfl
theorem zQ {k j:Nat}(hj:j<(AG q k).length)(h:(AG q k)[j]=q.gp k):AG q (k+1)=AG q k/\eL q (k+1) j=eL q k j++[k]/\∀ i,i<(AG q k).length->i≠j->eL q (k+1) i=eL q k i:=by
 have hm:q.gp k∈AG q k:=by rw [<-h]; exact List.getElem_mem _
 have e:AG q (k+1)=AG q k:=by rw [AG,if_pos hm]
 refine ⟨e,?_,fun i hi hne=>?_⟩
 ·unfold eL;rw [e,IU,uA,uD hj,Option.getD_some,if_pos h.symm]
 ·unfold eL;rw [e,IU,uA,uD hi,Option.getD_some,if_neg,List.append_nil];intro x;exact hne (U6 (Bo k) hi hj (x.symm.trans h.symm))
include hq hR hσ0 hR0 hG hro
theorem Wp (hm:0<q.m){hs:Nat->Option Addr×Nat}{ln:Nat->Nat}{l:Nat->Nat->Int}{act:Act}{w:World}
  (h:cK K0 σ0 w0 ds0 (fun _=>False) hs ln l (ncT q 0) [fE.var false true q.cells,.map false true [],CW q (.ms 3 1 0 R none) Ca (Bf q 0),EA R rv] act w)
  {Q:Exit->Act->World->Prop} (hQ:∀ a' w' hs',U7 q R rv K0 w0 ds0 σ0 1 hs' a' w'->Q .normal a' w'):cZ.wpIn (eE ro) 0 prog Q act w:=by
 have hk:=OJ hq hm;have hhi:=NM hq hm 0 (by omega);have hno:q.gp 0 ∉ AG q 0:=by simp [AG]
 obtain ⟨g1,g2,g3⟩:=Wo hno;have s1:=h.le (uI _) (.cons (uH _) (.cons uU.mapf (.cons (uH _) (.cons (uH _) .nil))));have hc:=X7 hq hm (R:=R) (rv:=rv) hR [] (by rfl) (Bf q 0) (by omega);refine cK.roundC hro hR0 hG s1 hc fun e a' w' he hst=>?_;cases e<;>first | exact he.elim | skip
 obtain ⟨x,s2⟩:=hst.put hR0 (u:=0) (r:=1) (nm:=9) (L:=1) (l':=fun _=>(0:Nat)) (put:=fun v=>.map false false (A7 ([]++[(Di q (0:Nat),Ca)]) 0 v)) (Slot.map _ _ (by simp)) (fun h=>h) (by omega) (by omega) rfl rfl (fun p _=>rfl)
  (Wn hσ0 (by omega) fun i hi=>by rcases (by omega:i=0∨i=1∨i=2∨i=3) with rfl | rfl | rfl | rfl<;>exact ⟨_,rfl,rfl⟩)
 have es:A7 ([]++[(Di q ((0:Nat):Int),Ca)]) 0 (.raw x.1 1 x.2)=bP (AG q 1) (Da (BK hs 0 x) (cA q 1)) 0:=by
  rw [g3,hk];simp only [AG,List.nil_append,bP,A7,Da,Ao,cA];rw [show eL q 1 0=[0] from g2];rfl
 have s3:=s2.le (uI _) (s:=[fE.var false true q.cells,.map false true (bP (AG q 1) (Da (BK hs 0 x) (cA q 1)) 0),CW q (.ms 3 1 0 R none) (.ms 7 2 0 1 none) (Bf q 1),EA R rv,.dead,.dead,.dead,cO [q.gp 0],.dead,.dead])
  (.cons (uH _) (.cons (uU.trans (uU.eq (congrArg (fE.map false false) es)) uU.mapRaw) (.cons (uH _) (.cons (uH _) (.cons (uH _) (.cons (uH _) (.cons (uH _) (.cons (uH _) (.cons (uH _) (.cons (uH _) .nil))))))))))
 have hm4:σ0.length<=4:=by obtain ⟨a,b,c,d,rfl⟩:=hσ0; simp
 have s4:=s3.aX hR0 hm4 (L:=[0,1,2,3,7]) (by decide) rfl;refine hQ a' w' (BK hs 0 x) ((s4.le (uI _) (.cons (uH _) (.cons (uH _) (.cons (uH _) (.cons (uH _) (.cons (uU.eq ?_) .nil)))))).dom fun v hv=>?_)
 ·rw [g3]; rfl
 ·have hv0:v=0:=by rw [g3] at hv; simp [AG] at hv; exact hv
  subst hv0;refine ⟨.inr rfl,rfl,?_,fun p=>?_⟩
  ·rw [Ao]; show (eL q 1 0).length=1; rw [show eL q 1 0=[0] from g2]; rfl
  ·rw [Ao];show (((eL q 1 0).getD p 0:Nat):Int)=0;rw [show eL q 1 0=[0] from g2];cases p<;>simp
theorem zR {k:Nat}(hm:k<q.m)(hno:q.gp k ∉ AG q k){hs:Nat->Option Addr×Nat}{act:Act}{w:World}(h:U7 q R rv K0 w0 ds0 σ0 k hs act w)
  {Q:Exit->Act->World->Prop} (hQ:∀ a' w' hs',U7 q R rv K0 w0 ds0 σ0 (k+1) hs' a' w'->Q .normal a' w'):cZ.wpIn (eE ro) 0 prog Q act w:=by
 have hk:=OJ hq hm;have hhi:=NM hq hm k (by omega);have hqm:=hq.m;have hnp:=Df (q:=q) k;obtain ⟨g1,g2,g3⟩:=Wo hno;have s1:=h.le (uI _) (.cons (uH _) (.cons uU.mapf (.cons (uH _) (.cons (uH _) (.cons (uH _) .nil)))));have hc:=X8 hq hm (R:=R) (rv:=rv) hR (AG q k) (by omega) (bP (AG q k) (Da hs (cA q k)) 0) (by rw [hk]; exact I4 _ _ _ hno) (Bf q k) (by omega);refine cK.roundC hro hR0 hG s1 hc fun e a' w' he hst=>?_;cases e<;>first | exact he.elim | skip
 obtain ⟨x,s2⟩:=hst.put hR0 (u:=(AG q k).length) (r:=1) (nm:=10) (L:=1) (l':=lN q (k+1) (AG q k).length) (put:=fun v=>.map false false (A7 (bP (AG q k) (Da hs (cA q k)) 0++[(Di q k,Ca)]) (bP (AG q k) (Da hs (cA q k)) 0).length v)) (Slot.map _ _ (by simp)) (fun h=>Nat.lt_irrefl _ h) (by omega) (by omega) rfl rfl (fun p hp=>by
   obtain rfl:p=0:=by omega
   simp only [BS,lN];rw [g2]; rfl)
  (Wn hσ0 (by omega) fun i hi=>by rcases (by omega:i=0∨i=1∨i=2∨i=3) with rfl | rfl | rfl | rfl<;>exact ⟨_,rfl,rfl⟩)
 have ln1:cA q (k+1) (AG q k).length=1:=by show (eL q (k+1) (AG q k).length).length=1; rw [g2]; rfl
 have es:A7 (bP (AG q k) (Da hs (cA q k)) 0++[(Di q k,Ca)]) (bP (AG q k) (Da hs (cA q k)) 0).length (.raw x.1 1 x.2)=bP (AG q (k+1)) (Da (BK hs (AG q k).length x) (cA q (k+1))) 0:=by
  have e1:bP (AG q k) (Da hs (cA q k)) 0=bP (AG q k) (BK (Da hs (cA q k)) (AG q k).length Ca) 0:=Fc _ _ fun i _ hi=>(Ap (by omega)).symm;have e2:bP (AG q k) (Da hs (cA q k)) 0++[(Di q k,Ca)]=bP (AG q k++[q.gp k]) (BK (Da hs (cA q k)) (AG q k).length Ca) 0:=by
   rw [OI,uJ,Ao,hk,<-e1]
  rw [e2,DJ,LS _ _ _ (by simp),g3];refine Fc _ _ fun i _ hi=>?_;rw [uJ];by_cases hi':i=(AG q k).length
  ·subst hi'; rw [Ao,Da,Ao,ln1]
  ·have hlt:i<(AG q k).length:=by simp at hi; omega
   rw [Ap hi',Ap hi',Da,Da,Ap hi'];simp only [cA];rw [g1 i hlt]
 have s3:=s2.le (uI _) (s:=[fE.var false true q.cells,.map false true (bP (AG q (k+1)) (Da (BK hs (AG q k).length x) (cA q (k+1))) 0),CW q (.ms 3 1 0 R none) (.ms 8 2 0 ((AG q k).length+1) none) (Bf q (k+1)),EA R rv,.dead,.dead,.dead,.dead,.arr false true 2 false ((AG q k).length+1) fun p=>(aK (AG q k++[q.gp k]) p).cells,.dead,.dead])
  (.cons (uH _) (.cons (uU.trans (uU.eq (congrArg (fE.map false false) es)) uU.mapRaw) (.cons (uH _) (.cons (uH _) (.cons (uH _) (.cons (uH _) (.cons (uH _) (.cons (uH _) (.cons (uH _) (.cons (uH _) (.cons (uH _) .nil)))))))))))
 have hm4:σ0.length<=4:=by obtain ⟨a,b,c,d,rfl⟩:=hσ0; simp
 have s4:=s3.aX hR0 hm4 (L:=[0,1,2,3,8]) (by decide) rfl;have el:(AG q (k+1)).length=(AG q k).length+1:=by rw [g3]; simp
 refine hQ a' w' (BK hs (AG q k).length x) ((s4.le (uI _) (.cons (uH _) (.cons (uH _) (.cons (uU.eq ?_) (.cons (uH _) (.cons (uU.eq ?_) .nil)))))).dom fun v hv=>?_)
 ·rw [el]; rfl
 ·rw [cO,el,g3]; rfl
 ·rw [el] at hv;by_cases hv':v=(AG q k).length
  ·subst hv';exact ⟨.inr rfl,rfl,by rw [Ao,ln1],fun p=>by rw [Ao]⟩
  ·have hlt:v<(AG q k).length:=by omega
   refine ⟨.inl hlt,rfl,?_,fun p=>?_⟩
   ·rw [Ap hv']; simp only [cA]; rw [g1 v hlt]
   ·rw [Ap hv']; simp only [lN]; rw [g1 v hlt]
theorem YA {k j:Nat}(hm:k<q.m)(hj:j<(AG q k).length)(hjp:(AG q k)[j]=q.gp k){hs:Nat->Option Addr×Nat}{act:Act}{w:World}(h:U7 q R rv K0 w0 ds0 σ0 k hs act w)
  {Q:Exit->Act->World->Prop} (hQ:∀ a' w' hs',U7 q R rv K0 w0 ds0 σ0 (k+1) hs' a' w'->Q .normal a' w'):cZ.wpIn (eE ro) 0 prog Q act w:=by
 have hk:=OJ hq hm;have hhi:=NM hq hm k (by omega);have hqm:=hq.m;have hnp:=Df (q:=q) k;obtain ⟨g3,g1,g2⟩:=zQ hj hjp;have hmem:q.gp k∈AG q k:=by rw [<-hjp]; exact List.getElem_mem _
 have hgd:(AG q k).getD j (0,0)=q.gp k:=by rw [uA,uD hj,Option.getD_some,hjp]
 have hL0:0<cA q k j:=by
  show 0<(AO q.gp k ((AG q k).getD j (0,0))).length;rw [hgd]; exact U4 hmem
 have hL1:cA q k j<=1000:=by
  have:=U5 (q:=q) ((AG q k).getD j (0,0)) k;show (AO q.gp k ((AG q k).getD j (0,0))).length<=1000;omega
 have ln1:cA q (k+1) j=cA q k j+1:=by show (eL q (k+1) j).length=(eL q k j).length+1; rw [g1]; simp
 have same:A7 (bP (AG q k) (Da hs (cA q k)) 0) j (.raw (hs j).1 (cA q k j) (hs j).2)=bP (AG q k) (Da hs (cA q k)) 0:=by
  rw [LS _ _ _ hj,uJ];exact Fc _ _ fun i _ hi=>by
   by_cases h:i=j
   ·subst h; rw [Ao]; rfl
   ·rw [Ap h]
 have s1:=(h.le (uI _) (.cons (uH _) (.cons (uU.trans uU.mapf (uU.eq (congrArg (fE.map false false) same.symm))) (.cons (uH _) (.cons (uH _) (.cons (uH _) .nil)))))).pad 1;have s2:=s1.view (u:=j) (r:=1) (nm:=5) (put:=fun v=>.map false false (A7 (bP (AG q k) (Da hs (cA q k)) 0) j v)) (Slot.map _ _ (by rw [DJ]; exact hj)) hj hL0 rfl rfl rfl;have e2:A7 (bP (AG q k) (Da hs (cA q k)) 0) j (.ms 5 1 0 (cA q k j) none)=bP (AG q k) (BK (Da hs (cA q k)) j (.ms 5 1 0 (cA q k j) none)) 0:=by rw [LS _ _ _ hj,uJ]
 have hc:=X9 hq hm (R:=R) (rv:=rv) hR (AG q k) (by omega) (A7 (bP (AG q k) (Da hs (cA q k)) 0) j (.ms 5 1 0 (cA q k j) none)) j (cA q k j) (lN q k j) (by rw [CZ,DJ]; exact hj) hL1 hL0
  (by rw [e2,sameAt,NL _ _ _ hj,hk,hjp]; exact Wl _)
  (by
   rw [e2,hk];have:=Gc (p:=q.gp k) (f:=BK (Da hs (cA q k)) j (.ms 5 1 0 (cA q k j) none)) (AG q k) 0 0 j hj (Bo k) hjp
   rwa [uJ,Ao] at this) (Bf q k) (by omega)
 refine cK.roundC hro hR0 hG s2 hc fun e a' w' he hst=>?_;cases e<;>first | exact he.elim | skip
 obtain ⟨x,s3⟩:=hst.put hR0 (u:=j) (r:=1) (nm:=9) (L:=cA q k j+1) (l':=lN q (k+1) j) (put:=fun v=>.map false false (A7 ((A7 (bP (AG q k) (Da hs (cA q k)) 0) j (.ms 5 1 0 (cA q k j) none)).set j (Di q k,.ms 5 1 0 (cA q k j) none)) j v)) (Slot.map _ _ (by rw [List.length_set,CZ,DJ]; exact hj)) (fun h=>h.2 rfl) (by omega) (by omega) rfl rfl (fun p hp=>by
   simp only [BS,lN];have hap:(eL q k j++[k]).getD p 0=if p<(eL q k j).length then (eL q k j).getD p 0 else k:=by
    by_cases hlt:p<(eL q k j).length
    ·rw [if_pos hlt,uA,uA,List.getElem?_append_left hlt]
    ·have hpe:p=(eL q k j).length:=by have hp':p<(eL q k j).length+1:=hp; omega
     rw [if_neg hlt,hpe,uA,List.getElem?_concat_length,Option.getD_some]
   rw [g1,hap];by_cases hlt:p<(eL q k j).length
   ·rw [if_pos hlt,if_pos hlt]
   ·rw [if_neg hlt,if_neg hlt])
  (Wn hσ0 (by omega) fun i hi=>by rcases (by omega:i=0∨i=1∨i=2∨i=3) with rfl | rfl | rfl | rfl<;>exact ⟨_,rfl,rfl⟩)
 have es:A7 ((A7 (bP (AG q k) (Da hs (cA q k)) 0) j (.ms 5 1 0 (cA q k j) none)).set j (Di q k,.ms 5 1 0 (cA q k j) none)) j (.raw x.1 (cA q k j+1) x.2)=bP (AG q (k+1)) (Da (BK hs j x) (cA q (k+1))) 0:=by
  rw [e2,hk,<-hjp,TU _ _ _ hj,LS _ _ _ hj,g3,uJ];refine Fc _ _ fun i _ hi=>?_;by_cases hi':i=j
  ·subst hi'; rw [Ao,Da,Ao,ln1]
  ·rw [Ap hi',Ap hi',Ap hi',Da,Da,Ap hi'];simp only [cA];rw [g2 i (by omega) hi']
 have s4:=s3.le (uI _) (s:=[fE.var false true q.cells,.map false true (bP (AG q (k+1)) (Da (BK hs j x) (cA q (k+1))) 0),CW q (.ms 3 1 0 R none) (.ms 4 2 0 (AG q k).length none) (Bf q (k+1)),EA R rv,cO (AG q k),.dead,.dead,.dead,.dead,.dead])
  (.cons (uH _) (.cons (uU.trans (uU.eq (congrArg (fE.map false false) es)) uU.mapRaw) (.cons (uH _) (.cons (uH _) (.cons (uH _) (.cons (uH _) (.cons (uH _) (.cons (uH _) (.cons (uH _) (.cons (uH _) .nil))))))))))
 have hm4:σ0.length<=4:=by obtain ⟨a,b,c,d,rfl⟩:=hσ0; simp
 have s5:=s4.aX hR0 hm4 (L:=[0,1,2,3,4]) (by decide) rfl;refine hQ a' w' (BK hs j x) ((s5.le (uI _) (.cons (uH _) (.cons (uH _) (.cons (uU.eq ?_) (.cons (uH _) (.cons (uU.eq ?_) .nil)))))).dom fun v hv=>?_)
 ·rw [g3]; rfl
 ·rw [g3]; rfl
 ·rw [g3] at hv;by_cases hv':v=j
  ·subst hv';exact ⟨.inr rfl,rfl,by rw [Ao,ln1],fun p=>by rw [Ao]⟩
  ·refine ⟨.inl ⟨hv,hv'⟩,rfl,?_,fun p=>?_⟩
   ·rw [Ap hv']; simp only [cA]; rw [g2 v hv hv']
   ·rw [Ap hv']; simp only [lN]; rw [g2 v hv hv']
end
section
variable (q:fG)
def Co (p:Nat):Int:=(((AH q.n q.own).getD p 0:Nat):Int)
def gmE (j:Nat):EV:=.uS (decide (0<cA q q.m j)) 1 (cA q q.m j) (BS (lN q q.m j))
abbrev D0:List (EV×EV):=bP (AG q q.m) (gmE q) 0
abbrev YB (ps:List (Nat×Nat)):EV:=.uS (!ps.isEmpty) 2 ps.length fun p=>(aK ps p).cells
def AD:List EV:=[.int .i64 q.aI,.int .i64 q.draw,AW q.nc q.n q.uZ,AW q.np q.m' q.uV,EV.uS q.no 2 q.m fun i=>(q.op i).cells,.int .i64 q.uO,.int .i64 q.place,AW true (AH q.n q.own).length (Co q),YB (AG q q.m),.im (D0 q),.int .i64 (Bf q q.m)]
end
section
variable {q:fG}(hq:q.Ok)
include hq
theorem OK:∀ (j i R:Nat) (rv:Nat->Int),i+j=q.n->R=(AH i q.own).length->0<R->(∀ p,p<R->rv p=(((AH i q.own).getD p 0:Nat):Int))->
  uM prog fF false 3 Wm (frame 110 [(1,EV.ptr 0 0),(2,EV.aH),(3,EV.ptr 2 0),(20,.int .i64 q.n),(21,.int .i64 i)]) [fE.var false true q.cells,.map false true [],CW q (.ms 3 1 0 R none) Ca (q.uV q.uO.toNat),EA R rv]
   (EX.leave 0,frame 110 [(1,EV.ptr 0 0),(2,EV.aH),(3,EV.ptr 2 0)],[fE.var false true q.cells,.map false true [],CW q (.ms 3 1 0 (AH q.n q.own).length none) Ca (q.uV q.uO.toNat),EA (AH q.n q.own).length (Co q)])
 | 0,i,R,rv,hi,hR,h0,hv=>by
  obtain rfl:i=q.n:=by omega
  subst hR;exact uM.aC (uR.weaken (ABG q _ rv 0 (fun _=>default) [] _ q.n (by omega)) (uI _) (.cons (uH _) (.cons (uH _) (.cons (uH _) (.cons (uU.arr fun p hp=>congrArg (fun x=>[EV.int .i64 x]) (hv p hp)) .nil))))) (by simp)
 | j+1,i,R,rv,hi,hR,h0,hv=>by
  have n2:=hq.n2;have hc:=hq.uO;have hlen:(AH i q.own).length<=i:=by
   have:=List.length_filter_le (fun x=>decide (x≠q.own)) (List.range i)
   rwa [List.length_range] at this
  have q0:(Decidable.decide ((i:Int)<(q.n:Int)))=true:=uK (by omega);by_cases h:i=q.own
  ·have e:AH (i+1) q.own=AH i q.own:=by rw [Es,if_neg (by simp [h]),List.append_nil]
   refine uM.uQ (Zn q R rv _ i (by omega) (by omega) (by omega) q0 ?_) (OK j (i+1) R rv (by omega) (by rw [e]; exact hR) h0 (by rw [e]; exact hv));rw [bne_eq_false_iff_eq,h];show ((q.uO.toNat:Nat):Int)=q.uO;omega
  ·have e:AH (i+1) q.own=AH i q.own++[i]:=by rw [Es,if_pos h]
   refine uM.uQ (uR.weaken (Zm q R rv _ i (by omega) (by omega) (by omega) q0 ?_) (uI _) (.cons (uH _) (.cons (uH _) (.cons (uH _) (.cons (uU.arr (row':=fun p=>[.int .i64 (if p<R then rv p else (i:Int))]) fun p hp=>?_) .nil))))) (OK j (i+1) (R+1) (fun p=>if p<R then rv p else (i:Int)) (by omega) (by rw [e,hR]; simp) (by omega) fun p hp=>?_)
   ·rw [bne_iff_ne];intro x;apply h;show i=q.uO.toNat;omega
   ·simp only [Ar,uJ];split
    ·rfl
    ·obtain rfl:p=R:=by omega
     simp
   ·rw [e];by_cases hpR:p<R
    ·rw [if_pos hpR,hv p hpR,uA,uA,List.getElem?_append_left (by omega)]
    ·obtain rfl:p=R:=by omega
     rw [if_neg hpR,hR,uA,List.getElem?_concat_length,Option.getD_some]
theorem YC:uT prog fF false ABF (frame 110 [(1,EV.ptr 0 0),(2,EV.aH),(3,EV.ptr 2 0),(20,.int .i64 q.n),(21,.int .i64 0)]) [fE.var false true q.cells,.map false true [],CW q Ca Ca (q.uV q.uO.toNat)]
   (EX.leave 0,frame 110 [(1,EV.ptr 0 0),(2,EV.aH),(3,EV.ptr 2 0)],[fE.var false true q.cells,.map false true [],CW q (.ms 3 1 0 (AH q.n q.own).length none) Ca (q.uV q.uO.toNat),EA (AH q.n q.own).length (Co q)]):=by
 have n2:=hq.n2;have hc:=hq.uO;have first:∀ i:Nat,i<q.n->i≠q.own->AH i q.own=[]->uM prog fF false 3 Wm (frame 110 [(1,EV.ptr 0 0),(2,EV.aH),(3,EV.ptr 2 0),(20,.int .i64 q.n),(21,.int .i64 i)]) [fE.var false true q.cells,.map false true [],CW q Ca Ca (q.uV q.uO.toNat)]
   (EX.leave 0,frame 110 [(1,EV.ptr 0 0),(2,EV.aH),(3,EV.ptr 2 0)],[fE.var false true q.cells,.map false true [],CW q (.ms 3 1 0 (AH q.n q.own).length none) Ca (q.uV q.uO.toNat),EA (AH q.n q.own).length (Co q)]):=fun i hi hne he=>by
  have e:AH (i+1) q.own=[i]:=by rw [Es,if_pos hne,he]; rfl
  refine uM.uQ (uR.weaken (Zk q 0 (fun _=>0) _ i (by omega) (by omega) (by omega) (uK (by omega)) ?_) (uI _) (.cons (uH _) (.cons (uH _) (.cons (uH _) (.cons (uU.arr (row':=fun p=>[.int .i64 (i:Int)]) fun p hp=>?_) .nil))))) (OK hq (q.n - (i+1)) (i+1) 1 (fun _=>i) (by omega) (by rw [e]; rfl) (by omega) fun p hp=>?_)
  ·rw [bne_iff_ne];intro x;apply hne;show i=q.uO.toNat;omega
  ·obtain rfl:p=0:=by omega
   rfl
  ·obtain rfl:p=0:=by omega
   rw [e]; rfl
 refine uM.cl (c:=Wm) (m:=3) ?_ rfl (by kernel_rfl);by_cases h0:(0:Nat)=q.own
 ·refine uM.uQ (Zl q 0 (fun _=>0) _ 0 (by omega) (by omega) (by omega) (uK (by omega)) ?_) (first 1 (by omega) (by omega) ?_)
  ·rw [bne_eq_false_iff_eq];have h0':0=q.uO.toNat:=h0;omega
  ·rw [Es,if_neg (by simp [h0])]; rfl
 ·exact first 0 (by omega) h0 rfl
theorem Re {ps:List (Nat×Nat)}{K:KM}{w:World}{hs:Nat->Option Addr×Nat}{ln:Nat->Nat}{l:Nat->Nat->Int}(hp:∀ v,v<ps.length->PR K.F w (.uS (decide (0<ln v)) 1 (ln v) (BS (l v))) (.slice (hs v).1 (ln v) (hs v).2)):
  OR K w 1 (.map false true (bP ps (Da hs ln) 0))->OR K w 1 (.map false true (bP ps (fun j=>.uS (decide (0<ln j)) 1 (ln j) (BS (l j))) 0)):=by
 rintro ⟨ha,mes,clock,h1,h2,h3,h4,h5,h6,h7⟩
 rw [DJ] at h2;have get:∀ (f:Nat->EV) (i:Nat) (a:i<(bP ps f 0).length),(bP ps f 0)[i]=(FM (ps[i]'(by rwa [DJ] at a)),f i):=fun f i a=>by
  have hi:i<ps.length:=by rwa [DJ] at a
  have e:=NL (f:=f) ps 0 i hi;rw [uD a,uJ] at e;exact uC e
 have val:∀ i (a:i<ps.length) (b:i<mes.size),PR K.F w (.uS (decide (0<ln i)) 1 (ln i) (BS (l i))) mes[i].val:=fun i a b=>by
  have h:=h6 rfl i (by rw [DJ]; exact a) b;rw [get] at h;have hp':=hp i a;simp only [Da] at h;generalize mes[i].val=mv at h ⊢;cases h;exact hp'
 refine ⟨ha,mes,clock,h1,by rw [DJ]; exact h2,h3,fun i a b=>?_,fun i a b=>?_,fun _ i a b=>?_,h7⟩
 ·rw [get];have a':i<ps.length:=by rwa [DJ] at a
  refine ⟨?_,.pure _ _ (val i a' b)⟩;have:=(h4 i (by rw [DJ]; exact a') b).1
  rwa [get] at this
 ·rw [get];have a':i<ps.length:=by rwa [DJ] at a
  have:=h5 i (by rw [DJ]; exact a') b
  rwa [get] at this
 ·rw [get];exact val i (by rwa [DJ] at a) b
theorem YD (hm:0<q.m){R:Nat}{rv:Nat->Int}(hR:R<=1000):uT prog fF false zM (ncT q 0) [fE.var false true q.cells,.map false true [],CW q (.ms 3 1 0 R none) Ca (q.uV q.uO.toNat),EA R rv]
  (EX.leave 2,frame 110 [(1,EV.ptr 0 0),(3,EV.ptr 2 0)],[fE.var false true q.cells,.map false true (D0 q),CW q (.ms 3 1 0 R none) (.ms 4 2 0 (AG q q.m).length none) (Bf q q.m),EA R rv,cO (AG q q.m)]):=by
 have key:∀ (K0:KM) (w0:World) (ds0:List Deferred) (σ0:AL),(∃ a b c d,σ0=[a,b,c,d])->Rel K0 σ0 w0->dY fF K0.F w0->∀ (ro:Option Nat),(ro.isSome=true->false=true)->∀ (j k:Nat),k+j=q.m->∀ (hs:Nat->Option Addr×Nat) (act:Act) (w:World),
   U7 q R rv K0 w0 ds0 σ0 k hs act w->wpL ro prog cZ (aJ K0 σ0 w0 ds0 (EX.leave 2,frame 110 [(1,EV.ptr 0 0),(3,EV.ptr 2 0)],[fE.var false true q.cells,.map false true (D0 q),CW q (.ms 3 1 0 R none) (.ms 4 2 0 (AG q q.m).length none) (Bf q q.m),EA R rv,cO (AG q q.m)])) act w:=by
  intro K0 w0 ds0 σ0 hσ0 hR0 hG ro hro j;induction j with
  | zero=>
   intro k hk hs act w h;obtain rfl:k=q.m:=by omega
   have hm4:σ0.length<=5:=by obtain ⟨_,_,_,_,rfl⟩:=hσ0; simp
   refine HX (cK.round hro hm4 hR0 hG h (zN q R rv (AG q q.m).length (aK (AG q q.m)) (bP (AG q q.m) (Da hs (cA q q.m)) 0) (Bf q q.m) q.m (by omega)) fun e a' w' he hst=>?_);have hat:At K0 σ0 w0 ds0 (frame 110 [(1,EV.ptr 0 0),(3,EV.ptr 2 0)]) [fE.var false true q.cells,.map false true (D0 q),CW q (.ms 3 1 0 R none) (.ms 4 2 0 (AG q q.m).length none) (Bf q q.m),EA R rv,cO (AG q q.m)] a' w':=by
    have hst':=hst.le (uI _) (s:=[fE.var false true q.cells,.map false true (bP (AG q q.m) (Da hs (cA q q.m)) 0),CW q (.ms 3 1 0 R none) (.ms 4 2 0 (AG q q.m).length none) (Bf q q.m),EA R rv,cO (AG q q.m)]) (.cons (uH _) (.cons (uH _) (.cons (uH _) (.cons (uH _) (.cons (uH _) .nil)))));refine hst'.toAt (fun K hp hR hT=>?_) (by simp);obtain ⟨e2,r2⟩:=hR.swap (q:=1) (o':=.map false true (D0 q)) rfl (Re hq hp) (fun h=>h) (fun h=>h);refine ⟨r2,hT,fun b hb=>?_⟩;obtain ⟨r,o,h1,h2,h3⟩:=hb;have:∃ o',([fE.var false true q.cells,.map false true (bP (AG q q.m) (Da hs (cA q q.m)) 0),CW q (.ms 3 1 0 R none) (.ms 4 2 0 (AG q q.m).length none) (Bf q q.m),EA R rv,cO (AG q q.m)]:AL)[r]? =some o'/\o'.live=true:=by
     match r,h1 with
     | 0,_=>exact ⟨_,rfl,rfl⟩
     | 1,_=>exact ⟨_,rfl,rfl⟩
     | 2,_=>exact ⟨_,rfl,rfl⟩
     | 3,_=>exact ⟨_,rfl,rfl⟩
     | 4,_=>exact ⟨_,rfl,rfl⟩
    obtain ⟨o',g1,g2⟩:=this;exact ⟨r,o',g1,g2,h3⟩
   cases e<;>first | exact he.elim | skip
   exact (At.post (e:=.exit _) he hat)
  | succ j ih=>
   intro k hk hs act w h;by_cases hmem:q.gp k∈AG q k
   ·obtain ⟨i,hi,e⟩:=List.getElem_of_mem hmem;exact HX (YA hq hR hσ0 hR0 hG hro (by omega) hi e h fun a' w' hs' hst=>ih (k+1) (by omega) hs' a' w' hst)
   ·exact HX (zR hq hR hσ0 hR0 hG hro (by omega) hmem h fun a' w' hs' hst=>ih (k+1) (by omega) hs' a' w' hst)
 refine aB.eO (c:=cZ) (fun ro K w a hro hR' hG hv=>?_) (by kernel_rfl);have h0:At K [fE.var false true q.cells,.map false true [],CW q (.ms 3 1 0 R none) Ca (q.uV q.uO.toNat),EA R rv] w a.defers (ncT q 0) [fE.var false true q.cells,.map false true [],CW q (.ms 3 1 0 R none) Ca (q.uV q.uO.toNat),EA R rv] a w:=
  ⟨K,[],Ext.refl _ _ _,hR',hv,Marks.none⟩
 exact HX (Wp hq hR ⟨_,_,_,_,rfl⟩ hR' hG hro hm (cK.ofAt (D:=fun _=>False) h0) fun a' w' hs' hst=>key K w a.defers _ ⟨_,_,_,_,rfl⟩ hR' hG ro hro (q.m - 1) 1 (by omega) hs' a' w' hst)
theorem OL:uY prog fF 18 [.agg q.cells] (.ip (AD q) 0):=by
 have n2:=hq.n2;have hc:=hq.uO;have hR:(AH q.n q.own).length<=1000:=by
  have:=List.length_filter_le (fun x=>decide (x≠q.own)) (List.range q.n);rw [List.length_range] at this;exact Nat.le_trans this (by omega)
 have h3:=YC hq;rcases Nat.eq_zero_or_pos q.m with hz | hz
 ·have h9:=aB.eO (path:=zK) (aB.last (zL q (AH q.n q.own).length (Co q) 0 (fun _=>default) [] (q.uV q.uO.toNat) 0 (by omega)) (by simp)) (by kernel_rfl);have h:=zO q (AH q.n q.own).length (Co q) 0 (fun _=>default) [] (q.uV q.uO.toNat) hc.1 (by rw [hq.np.2]; omega) h3 h9;simp only [uJ] at h;have e:AD q=[.int .i64 q.aI,.int .i64 q.draw,AW q.nc q.n q.uZ,AW q.np q.m' q.uV,EV.uS q.no 2 q.m fun i=>(q.op i).cells,.int .i64 q.uO,.int .i64 q.place,AW true (AH q.n q.own).length (Co q),.uS false 2 0 fun p=>(aK [] p).cells,.im [],.int .i64 (q.uV q.uO.toNat)]:=by
   simp only [AD,YB,D0,hz,AG,Bf,bP];rfl
  rw [e];refine h.res fun F w mv hv=>?_;cases hv with
  | ip _ _ b o mv hF hk hcell hpr=>
   refine .ip _ 0 b o mv hF (by simp) (fun j hj=>hcell j (by simpa using hj)) fun j hj=>?_;have hj':j<11:=by simpa using hj
   have hh:=hpr j (by simpa using hj');rcases (by omega:j=0∨j=1∨j=2∨j=3∨j=4∨j=5∨j=6∨j=7∨j=8∨j=9∨j=10) with rfl | rfl | rfl | rfl | rfl | rfl | rfl | rfl | rfl | rfl | rfl<;>first | exact hh | skip
   have hh':PR F w Ca (mv 8):=hh;show PR F w (.uS false 2 0 fun p=>(aK [] p).cells) (mv 8);generalize mv 8=x at hh' ⊢;cases hh';exact .bB _ _
 ·have h9:=YD hq hz (R:=(AH q.n q.own).length) (rv:=Co q) hR;have h:=zP q (AH q.n q.own).length (Co q) (AG q q.m).length (aK (AG q q.m)) (D0 q) (Bf q q.m) hc.1 (by rw [hq.np.2]; omega) h3 h9;simp only [uJ] at h;have hne:(AG q q.m).isEmpty=false:=by
   have:=Fe (q:=q) (g:=0) hz;cases hp:AG q q.m
   ·rw [hp] at this; cases this
   ·rfl
  have e:YB (AG q q.m)=.uS true 2 (AG q q.m).length fun p=>(aK (AG q q.m) p).cells:=by simp only [YB,hne]; rfl
  rw [AD,e];exact h
end
abbrev U8 (a0:fG):=pv (AD a0) 0
abbrev U9 (a0:fG):=U8 a0
abbrev Ak (a0:fG):=U9 a0
section
variable (q:fG)(i:Int)(h0:0<=i)(hi:i<q.m')(hc:0<=q.uO)(hc2:q.uO<q.m')(hd:1<=q.draw)(hd2:q.draw<=999)(p1: -100000<=q.uV i.toNat)(p2:q.uV i.toNat<=100000)(p3: -100000<=q.uV q.uO.toNat)(p4:q.uV q.uO.toNat<=100000)(g1: -10000000000<=Bf q q.m)(g2:Bf q q.m<=10000000000)
include q i h0 hi hc hc2 hd hd2 p1 p2 p3 p4 g1 g2
theorem ABH:sP 61 [Ak q,iv i] (iv (if IntKind.i64.wrap ((q.uV q.uO.toNat - q.uV i.toNat+q.draw - 1).tdiv q.draw)>0 then IntKind.i64.wrap ((q.uV q.uO.toNat - q.uV i.toNat+q.draw - 1).tdiv q.draw) else 0)):=
 kP [[]] (.mk (dS 447392428) [] [] [] []) (kO AN) (oJ (q.draw != 0) (rI (q.uV q.uO.toNat - q.uV i.toNat+q.draw - 1) (rI (q.uV q.uO.toNat - q.uV i.toNat+q.draw) (rI (q.uV q.uO.toNat - q.uV i.toNat) (rB i q.m' (rB q.uO q.m' .nil))))))
theorem ABI (q0:(decide (Bf q q.m - q.uV i.toNat<0))=true):sP 66 [Ak q,iv i] (iv (IntKind.i64.wrap (0 - IntKind.i64.wrap ((q.draw - 1 - (Bf q q.m - q.uV i.toNat)).tdiv q.draw)))):=
 kP _ (.mk (dS 7147793100) [] [] [] []) (kO (kz q0 AN)) (oJ (q.draw != 0) (rI (q.draw - 1 - (Bf q q.m - q.uV i.toNat)) (rI (q.draw - 1) (rI (Bf q q.m - q.uV i.toNat) (rB i q.m' .nil)))))
theorem ABJ (q0:(decide (Bf q q.m - q.uV i.toNat<0))=false):sP 66 [Ak q,iv i] (iv (IntKind.i64.wrap ((Bf q q.m - q.uV i.toNat).tdiv q.draw))):=
 kP _ (.mk (dS 1745068) [] [] [] []) (kO (kz q0 AN)) (oJ (q.draw != 0) (rI (Bf q q.m - q.uV i.toNat) (rB i q.m' .nil)))
end
noncomputable abbrev Y5:Code:=(cB (cB (cR (cL (cR (AY prog 67))))))
noncomputable abbrev AIh:=cB (cR (cL (cR (AY prog 67))))
noncomputable abbrev MI (a0:Bool)(a1:Nat)(a2:Nat->Int)(a3:Int)(a4:Int):=frame 19 [(0,AW a0 a1 a2),(1,iv a3),(4,iv 0),(6,AW a0 a1 a2),(7,iv a1),(8,iv a4)]
section
variable (nn:Bool)(n:Nat)(w:Nat->Int)(c:Int)(i:Int)(h0:0<=i)(hn:n<=1000)
include nn n w c i h0 hn
theorem ABK (q0:BF i n)(q1:(c==w i.toNat)=true):sC (cB (AIh)) (MI nn n w c i) ([]) (EX.ret,(frame 19 [(4,iv i)]),[]):=
 kC _ (.mk (dS 4257) [] [] [] []) (kO (kz q0 (kz q1 AN))) (rB i n .nil) 16 0 0
theorem ABL (q0:BF i n)(q1:(c==w i.toNat)=false):sC (cB (AIh)) (MI nn n w c i) ([]) (xN,(frame 19 [(0,sl nn 1 n fun i=>[iv (w i)]),(1,iv c),(4,iv 0),(6,sl nn 1 n fun i=>[iv (w i)]),(7,iv ↑n),(8,iv (i+1))]),[]):=
 kC _ (.mk (dS 68122) [] [] [] []) (kO (kz q0 (kz q1 AN))) (rI (i+1) (rB i n .nil)) 467 0 0
theorem ABM (q0:DM i n):sC (cB (AIh)) (MI nn n w c i) ([]) (xL 0,(frame 19 []),[]):=
 kC _ (.mk (dS 16) [] [] [] []) (kO (kz q0 AN)) .nil 0 0 0
end
section
variable (nn:Bool)(n:Nat)(w:Nat->Int)(c:Int)(x:Int)(hn:n<=1000)
include nn n w c x hn
theorem ixY (ih:sL (AIh) (frame 19 [(0,AW nn n w),(1,iv c),(4,iv 0),(6,AW nn n w),(7,iv n),(8,iv 0)]) [] ((EX.ret,frame 19 [(4,iv x)],[]):RC)):sP 67 [AK nn n w,iv c] (iv x):=
 kP [] (.mk [] [(6,.is 467 0 (EX.ret,(frame 19 [(4,iv x)]),[]))] [] [] []) bY.nil (.cons ih .nil)
theorem ixN (ih:sL (AIh) (frame 19 [(0,AW nn n w),(1,iv c),(4,iv 0),(6,AW nn n w),(7,iv n),(8,iv 0)]) [] ((xL 0,frame 19 [],[]):RC)):sP 67 [AK nn n w,iv c] (iv (-1)):=
 kP [] (.mk [] [(6,.is 467 0 (xL 0,(frame 19 []),[]))] [] [] []) bY.nil (.cons ih .nil)
end
theorem ctn (nn:Bool)(n:Nat)(w:Nat->Int)(c:Int)(x:Int)(ih:sP 67 [AW nn n w,iv c] (iv x)):sP 45 [AK nn n w,iv c] (bv (decide (x>=0))):=
 kP [] (.mk [] [] [some (iv x)] [] []) bY.nil (.cons ih .nil)
theorem thC (nn:Bool)(n:Nat)(w:Nat->Int)(c:Int)(b:Bool)(ih:sP 45 [AW nn n w,iv c] (bv b)):sP 59 [iv c,pv [AK nn n w] 0] (bv b):=
 kP [] (.mk [] [] [some (bv b)] [] []) bY.nil (.cons ih .nil)
abbrev Jm (a0:fG):=[pv (AD a0) 0]
abbrev H7 (a0:fG):=pv (Jm a0) 0
abbrev AX (a0:fG):=H7 a0
theorem shC (nn:Bool)(n:Nat)(w:Nat->Int)(c:Int)(q:fG)(b:Bool)(ih:sP 45 [AW nn n w,iv c] (bv b)):sP 65 [iv c,AX q,pv [AK nn n w] 0] (bv (bif c != q.uO then !b else false)):=
 kP [] (.mk [] [(3,.fork true (c != q.uO) 16 7 0 0 (.mk (dS 1048576) [] [some (bv b)] [] []) (.mk (dS 1048576) [] [] [] []))] [] [] []) bY.nil (oT ((c != q.uO)=true->sP 45 [sl nn 1 n fun i=>[iv (w i)],iv c] (bv b)) (fun _=>ih) .nil)
def Wq (n:Nat)(w:Nat->Int)(c:Int):Bool:=(List.range n).any fun p=>w p==c
theorem VA (nn:Bool){n:Nat}(hn:n<=1000)(w:Nat->Int)(c:Int):∃ x:Int,uY prog fF 67 [AW nn n w,.int .i64 c] (.int .i64 x)/\decide (x>=0)=Wq n w c:=by
 have key:∀ k i:Nat,i+k=n->(∀ p,p<i->w p≠c)->(∃ x:Nat,x<n/\w x=c/\aB prog fF false Y5 (frame 19 [(0,AW nn n w),(1,.int .i64 c),(4,.int .i64 0),(6,AW nn n w),(7,.int .i64 n),(8,.int .i64 i)]) [] (EX.ret,frame 19 [(4,.int .i64 x)],[]))∨
   ((∀ p,p<n->w p≠c)/\aB prog fF false Y5 (frame 19 [(0,AW nn n w),(1,.int .i64 c),(4,.int .i64 0),(6,AW nn n w),(7,.int .i64 n),(8,.int .i64 i)]) [] (EX.leave 0,frame 19 [],[])):=by
  intro k;induction k with
  | zero=>
   intro i h hp;obtain rfl:i=n:=by omega
   exact .inr ⟨hp,aB.last (ABM nn i w c i (by omega) hn (by simp)) (by simp)⟩
  | succ k ih=>
   intro i h hp;by_cases hc:w i=c
   ·exact .inl ⟨i,by omega,hc,aB.last (ABK nn n w c i (by omega) hn (uK (by omega)) (by rw [beq_iff_eq,uG]; exact hc.symm)) (by simp)⟩
   ·have hs:=ABL nn n w c i (by omega) hn (uK (by omega)) (by rw [beq_eq_false_iff_ne,uG]; exact fun e=>hc e.symm);rcases ih (i+1) (by omega) (fun p hp'=>by
     rcases Nat.lt_or_ge p i with h1 | h1
     ·exact hp p h1
     ·obtain rfl:p=i:=by omega
      exact hc) with ⟨x,h1,h2,h3⟩ | ⟨h1,h2⟩
    ·exact .inl ⟨x,h1,h2,aB.step hs h3⟩
    ·exact .inr ⟨h1,aB.step hs h2⟩
 rcases key n 0 (by omega) (fun p h=>by omega) with ⟨x,h1,h2,h3⟩ | ⟨h1,h2⟩
 ·refine ⟨x,ixY nn n w c x hn (aB.eO h3 (by kernel_rfl)),?_⟩;rw [uK (by omega)];exact (List.any_eq_true.2 ⟨x,List.mem_range.2 h1,by simpa using h2⟩).symm
 ·refine ⟨-1,ixN nn n w c 0 hn (aB.eO h2 (by kernel_rfl)),?_⟩;rw [uL (by omega)];exact (List.any_eq_false.2 fun p hp=>by simpa using h1 p (List.mem_range.1 hp)).symm
theorem Cq (nn:Bool){n:Nat}(hn:n<=1000)(w:Nat->Int)(c:Int):uY prog fF 45 [AW nn n w,.int .i64 c] (.bool (Wq n w c)):=by
 obtain ⟨x,h1,h2⟩:=VA nn hn w c;rw [<-h2];exact ctn nn n w c x h1
theorem VB {s:List Nat}{c:Nat}:Wq s.length (fun p=>((s.getD p 0:Nat):Int)) c=decide (c∈s):=by
 rw [Bool.eq_iff_iff,Wq,List.any_eq_true,decide_eq_true_iff];constructor
 ·rintro ⟨p,hp,h⟩
  have hp:=List.mem_range.1 hp;have h:s.getD p 0=c:=by have h':=eq_of_beq h; omega
  rw [<-h]; exact D9 hp
 ·intro h;obtain ⟨p,hp,e⟩:=List.getElem_of_mem h;exact ⟨p,List.mem_range.2 hp,by simp [uA,uD hp,e]⟩
def HZ (q:fG)(i:Nat):Int:=if (q.uV q.own - q.uV i+q.draw - 1).tdiv q.draw>0 then (q.uV q.own - q.uV i+q.draw - 1).tdiv q.draw else 0
def HE (q:fG)(i:Nat):Int:=if Bf q q.m - q.uV i<0 then 0 - (q.draw - 1 - (Bf q q.m - q.uV i)).tdiv q.draw else (Bf q q.m - q.uV i).tdiv q.draw
theorem HF {x d:Int}(hd:0<d)(hx:0<=x):∃ k r,x.tdiv d=k/\x=d*k+r/\0<=r/\r<d/\0<=k/\k<=x:=by
 refine ⟨x / d,x % d,Int.tdiv_eq_ediv_of_nonneg hx,(Int.mul_ediv_add_emod x d).symm,Int.emod_nonneg _ (by omega),Int.emod_lt_of_pos _ hd,Int.ediv_nonneg hx (by omega),Int.ediv_le_self _ hx⟩
theorem tdiv_neg {x d:Int}(hd:0<d)(hx:x<=0):∃ k,x.tdiv d=k/\k<=0/\x<=k:=by
 obtain ⟨k,r,h1,h2,h3,h4,h5,h6⟩:=HF hd (x:=-x) (by omega);rw [Int.neg_tdiv] at h1;exact ⟨x.tdiv d,rfl,by omega,by omega⟩
theorem wrap64 {x:Int}(h1: -9000000000000000000<=x)(h2:x<=9000000000000000000):IntKind.i64.wrap x=x:=M6 (by rw [C0,uF,decide_eq_true_iff,decide_eq_true_iff]; omega)
section
variable {q:fG}(hq:q.Ok)(hd:0<q.draw)
include hq hd
theorem YE:Bf q q.m=q.uV q.own+q.aI*((List.range q.m).filter fun g=>decide (q.gl g=q.own∨q.gr g=q.own)).length:=by
 have:∀ k,k<=q.m->Bf q k=q.uV q.own+q.aI*((List.range k).filter fun g=>decide (q.gl g=q.own∨q.gr g=q.own)).length:=by
  intro k;induction k with
  | zero=>intro _; simp [Bf]
  | succ k ih=>
   intro hk;rw [Bf,ih (by omega),List.range_succ,List.filter_append,List.length_append];by_cases h:q.gl k=q.own∨q.gr k=q.own
   ·rw [if_pos h];have e:([k].filter fun g=>decide (q.gl g=q.own∨q.gr g=q.own)).length=1:=by simp [h]
    rw [e,Int.natCast_add,Int.mul_add]; omega
   ·rw [if_neg h];have e:([k].filter fun g=>decide (q.gl g=q.own∨q.gr g=q.own)).length=0:=by simp [h]
    rw [e]; simp
 exact this _ (Nat.le_refl _)
theorem IV: -1000000<=Bf q q.m/\Bf q q.m<=1000000:=by
 have h1:=YE hq hd;have h2:((List.range q.m).filter fun g=>decide (q.gl g=q.own∨q.gr g=q.own)).length<=q.m:=by
  have:=List.length_filter_le (fun g=>decide (q.gl g=q.own∨q.gr g=q.own)) (List.range q.m)
  rwa [List.length_range] at this
 have hm:=hq.m;have hw:=hq.aI;have hp:=hq.uV q.own (by show q.uO.toNat<q.n; have:=hq.uO; omega);rw [h1];generalize ((List.range q.m).filter fun g=>decide (q.gl g=q.own∨q.gr g=q.own)).length=L at h2;have a:0<=q.aI*(L:Int):=Int.mul_nonneg (by omega) (by omega);have b:q.aI*(L:Int)<=999*(L:Int):=Int.mul_le_mul_of_nonneg_right hw.2.2 (by omega);omega
theorem OM {i:Nat}(hi:i<q.n):NJ q.draw q.uV q.own (HZ q) i:=by
 have hp:=hq.uV i hi;have hp2:=hq.uV q.own (by show q.uO.toNat<q.n; have:=hq.uO; omega);have hw:=hq.aI;unfold NJ HZ;rcases Int.lt_or_le (q.uV q.own - q.uV i+q.draw - 1) 0 with hx | hx
 ·obtain ⟨k,h1,h2,_⟩:=tdiv_neg hd (x:=q.uV q.own - q.uV i+q.draw - 1) (by omega);rw [h1,if_neg (by omega)];exact ⟨by omega,by omega,by simp; omega,fun h h0 _=>h0⟩
 ·obtain ⟨k,r,h1,h2,h3,h4,h5,h6⟩:=HF hd hx;rw [h1];by_cases hk:k>0
  ·rw [if_pos hk];refine ⟨by omega,by omega,by omega,fun h h0 hh=>?_⟩;rcases Int.lt_or_le h k with hlt | hge
   ·have:=Int.mul_le_mul_of_nonneg_left (show h<=k - 1 by omega) (Int.le_of_lt hd);rw [Int.mul_sub] at this;omega
   ·exact hge
  ·obtain rfl:k=0:=by omega
   rw [if_neg hk];refine ⟨by omega,by omega,?_,fun h h0 _=>h0⟩;simp at h2 ⊢;omega
theorem ON {i:Nat}(hi:i<q.n):NK q.draw q.uV (Bf q q.m) (HE q) i:=by
 have hp:=hq.uV i hi;have hb:=IV hq hd;have hw:=hq.aI;unfold NK HE;by_cases hn:Bf q q.m - q.uV i<0
 ·rw [if_pos hn];obtain ⟨k,r,h1,h2,h3,h4,h5,h6⟩:=HF hd (x:=q.draw - 1 - (Bf q q.m - q.uV i)) (by omega);rw [h1];refine ⟨by omega,fun h=>⟨fun hh=>?_,fun hh=>?_⟩⟩
  ·have:=Int.mul_le_mul_of_nonneg_left hh (Int.le_of_lt hd);rw [Int.mul_sub] at this;simp at this;omega
  ·rcases Int.lt_or_le (0 - k) h with hlt | hge
   ·have:=Int.mul_le_mul_of_nonneg_left (show 0 - k+1<=h by omega) (Int.le_of_lt hd);rw [Int.mul_add,Int.mul_sub] at this;simp at this;omega
   ·exact hge
 ·rw [if_neg hn];obtain ⟨k,r,h1,h2,h3,h4,h5,h6⟩:=HF hd (x:=Bf q q.m - q.uV i) (by omega);rw [h1];refine ⟨by omega,fun h=>⟨fun hh=>?_,fun hh=>?_⟩⟩
  ·have:=Int.mul_le_mul_of_nonneg_left hh (Int.le_of_lt hd);omega
  ·rcases Int.lt_or_le k h with hlt | hge
   ·have:=Int.mul_le_mul_of_nonneg_left (show k+1<=h by omega) (Int.le_of_lt hd);rw [Int.mul_add] at this;omega
   ·exact hge
theorem VD {i:Nat}(hi:i<q.n):uY prog fF 61 [.ip (AD q) 0,.int .i64 i] (.int .i64 (HZ q i)):=by
 have hp:=hq.uV i hi;have hc:=hq.uO;have hp2:=hq.uV q.own (by show q.uO.toNat<q.n; omega);have hw:=hq.aI;have hb:=IV hq hd;have hn:=hq.np.2;have h:=ABH q i (by omega) (by omega) hc.1 (by omega) (by omega) (by omega) (by rw [uG]; omega) (by rw [uG]; omega) (by have:q.uV q.uO.toNat=q.uV q.own:=rfl; omega) (by have:q.uV q.uO.toNat=q.uV q.own:=rfl; omega) (by omega) (by omega);rw [uG] at h;have e:IntKind.i64.wrap ((q.uV q.own - q.uV i+q.draw - 1).tdiv q.draw)=(q.uV q.own - q.uV i+q.draw - 1).tdiv q.draw:=by
  rcases Int.lt_or_le (q.uV q.own - q.uV i+q.draw - 1) 0 with hx | hx
  ·obtain ⟨k,h1,h2,h3⟩:=tdiv_neg hd (x:=q.uV q.own - q.uV i+q.draw - 1) (by omega);rw [h1]; exact wrap64 (by omega) (by omega)
  ·obtain ⟨k,r,h1,h2,h3,h4,h5,h6⟩:=HF hd hx;rw [h1]; exact wrap64 (by omega) (by omega)
 rw [show q.uV q.uO.toNat=q.uV q.own from rfl,e] at h;exact h
theorem VF {i:Nat}(hi:i<q.n):uY prog fF 66 [.ip (AD q) 0,.int .i64 i] (.int .i64 (HE q i)):=by
 have hp:=hq.uV i hi;have hc:=hq.uO;have hp2:=hq.uV q.own (by show q.uO.toNat<q.n; omega);have hw:=hq.aI;have hb:=IV hq hd;have hn:=hq.np.2;unfold HE;by_cases hneg:Bf q q.m - q.uV i<0
 ·have h:=ABI q i (by omega) (by omega) hc.1 (by omega) (by omega) (by omega) (by rw [uG]; omega) (by rw [uG]; omega) (by have:q.uV q.uO.toNat=q.uV q.own:=rfl; omega) (by have:q.uV q.uO.toNat=q.uV q.own:=rfl; omega) (by omega) (by omega) (by rw [uG]; exact uK hneg);rw [uG] at h;obtain ⟨k,r,h1,h2,h3,h4,h5,h6⟩:=HF hd (x:=q.draw - 1 - (Bf q q.m - q.uV i)) (by omega);rw [if_pos hneg];rw [h1,wrap64 (x:=k) (by omega) (by omega),wrap64 (by omega) (by omega)] at h;rw [h1]; exact h
 ·have h:=ABJ q i (by omega) (by omega) hc.1 (by omega) (by omega) (by omega) (by rw [uG]; omega) (by rw [uG]; omega) (by have:q.uV q.uO.toNat=q.uV q.own:=rfl; omega) (by have:q.uV q.uO.toNat=q.uV q.own:=rfl; omega) (by omega) (by omega) (by rw [uG]; exact uL hneg);rw [uG] at h;obtain ⟨k,r,h1,h2,h3,h4,h5,h6⟩:=HF hd (x:=Bf q q.m - q.uV i) (by omega);rw [if_neg hneg];rw [h1,wrap64 (x:=k) (by omega) (by omega)] at h;rw [h1]; exact h
end
abbrev Fg (a0:Int->Bool)(a1:Nat->aF)(a2:Int):=(a0 (a1 a2.toNat).left)=false
abbrev VG (a0:Nat)(a1:Nat->Int):=pv [AW true a0 a1] 0
abbrev VH (a0:Int->Bool)(a1:Nat->aF)(a2:Int):=bv (a0 (a1 a2.toNat).left)
abbrev C9 (a0:Int->Bool)(a1:Nat->aF)(a2:Int):=bv (a0 (a1 a2.toNat).right)
abbrev EM (a0:Int->Bool)(a1:Nat->aF)(a2:Int):=(a0 (a1 a2.toNat).left)=true
noncomputable abbrev AJg:=cR (cR (cR (AY prog 60)))
abbrev AR:=fE.var false false [pt 1 0]
abbrev VJ (a0:Int->Bool)(a1:Nat->aF)(a2:Int):=VH a0 a1 a2
abbrev Jn (a0:Nat)(a1:Nat->Int):=VG a0 a1
abbrev Ge (a0:fG):=Jm a0
abbrev Po:=fE.var false false [iv 0,Aq,.mm 0,iv 0,iv 0]
noncomputable abbrev AIP:=cB (cR (cL (AJg)))
abbrev Fi:=fE.var false false [iv 0,AT,EV.mm 0,iv 0,iv 0]
abbrev EN:=[A0,Fi,AR]
abbrev Ad (a0:Nat)(a1:Nat->Int):=Jn a0 a1
abbrev Ba (a0:Int->Bool)(a1:Nat->aF)(a2:Int):=VJ a0 a1 a2
abbrev AB (a0:fG):=Ge a0
noncomputable abbrev AH6:=cB (AIP)
abbrev B0:=[A0,Po,AR]
section
variable (q:fG)(ns:Nat)(sv:Nat->Int)(ct:Int->Bool)(K:Nat)(P:Nat->aF)(k:Nat)(F:Nat->aF)(i:Int)(nb:Bool)(h0:0<=i)(hK:K<=1000)(hk:k<=1000)(ihc:∀ x:Int,sP 59 [iv x,Ad ns sv] (bv (ct x)))
include q ns sv ct K P k F i nb h0 hK hk ihc
theorem zS (q0:BF i K)(q1:EM ct P i)(q2:(ct (P i.toNat).right)=true):sR 3 (AH6) (frame 195 [(0,pv (AD q) 0),(1,fc (59) [] [Ad ns sv]),(2,bv false),(3,fc (61) (AB q) []),(9,pt 2 0),(10,sl false 0 0 fun _=>[]),(27,sl nb 2 K fun i=>(P i).cells),(28,iv K),(29,iv i)]) (B0) (xN,(frame 195 [(0,pv (AD q) 0),(1,fc (59) [] [pv [AE ns sv] 0]),(2,bv false),(3,fc (61) (AB q) []),(9,pt 2 0),(10,EV.ms 3 2 0 1 none),(27,sl nb 2 K fun i=>(P i).cells),(28,iv ↑K),(29,iv (i+1))]),[A0,Fi,AR,oA 2 false 1 fun i_1=>[(P i.toNat).cells].getD (0+i_1) []]):=
 kR _ (.mk (dS 0x10a111112222203ae) [] [some (Ba ct P i),some (C9 ct P i)] [] []) (kO (kz q0 (kz q1 (kz q2 AN)))) (rI (i+1) (.cons (ihc (P i.toNat).right) (.cons (ihc (P i.toNat).left) (rB i K .nil)))) 939525647 15 [0,1,2,5] 3
theorem zT (q0:BF i K)(q1:EM ct P i)(q2:(ct (P i.toNat).right)=false):sR 3 (AH6) (frame 195 [(0,pv (AD q) 0),(1,fc (59) [] [Ad ns sv]),(2,bv false),(3,fc (61) (AB q) []),(9,pt 2 0),(10,sl false 0 0 fun _=>[]),(27,sl nb 2 K fun i=>(P i).cells),(28,iv K),(29,iv i)]) (B0) (xN,(frame 195 [(0,pv (AD q) 0),(1,fc (59) [] [pv [AE ns sv] 0]),(2,bv false),(3,fc (61) (AB q) []),(9,pt 2 0),(10,EV.ms 3 2 0 1 none),(27,sl nb 2 K fun i=>(P i).cells),(28,iv ↑K),(29,iv (i+1))]),[A0,Fi,AR,oA 2 false 1 fun i_1=>[(P i.toNat).cells].getD (0+i_1) []]):=
 kR _ (.mk (dS 0x10a11111222051e111011e2012e03ae) [] [some (Ba ct P i),some (C9 ct P i),some (Ba ct P i)] [] []) (kO (kz q0 (kz q1 (kz q2 AN)))) (rI (i+1) (.cons (ihc (P i.toNat).left) (.cons (ihc (P i.toNat).right) (.cons (ihc (P i.toNat).left) (rB i K .nil))))) 939525647 15 [0,1,2,5] 3
theorem zU (q0:BF i K)(q1:Fg ct P i)(q2:(ct (P i.toNat).right)=true):sR 3 (AH6) (frame 195 [(0,pv (AD q) 0),(1,fc (59) [] [Ad ns sv]),(2,bv false),(3,fc (61) (AB q) []),(9,pt 2 0),(10,sl false 0 0 fun _=>[]),(27,sl nb 2 K fun i=>(P i).cells),(28,iv K),(29,iv i)]) (B0) (xN,(frame 195 [(0,pv (AD q) 0),(1,fc (59) [] [pv [AE ns sv] 0]),(2,bv false),(3,fc (61) (AB q) []),(9,pt 2 0),(10,EV.ms 3 2 0 1 none),(27,sl nb 2 K fun i=>(P i).cells),(28,iv ↑K),(29,iv (i+1))]),[A0,Fi,AR,oA 2 false 1 fun i_1=>[(P i.toNat).cells].getD (0+i_1) []]):=
 kR _ (.mk (dS 0x10a11111081e111011e032e02ae) [] [some (Ba ct P i),some (Ba ct P i),some (C9 ct P i)] [] []) (kO (kz q0 (kz q1 (kz q2 AN)))) (rI (i+1) (.cons (ihc (P i.toNat).right) (.cons (ihc (P i.toNat).left) (.cons (ihc (P i.toNat).left) (rB i K .nil))))) 939525647 15 [0,1,2,5] 3
theorem zV (q0:BF i K)(q1:Fg ct P i)(q2:(ct (P i.toNat).right)=false):sR 3 (AH6) (frame 195 [(0,pv (AD q) 0),(1,fc (59) [] [Ad ns sv]),(2,bv false),(3,fc (61) (AB q) []),(9,pt 2 0),(10,sl false 0 0 fun _=>[]),(27,sl nb 2 K fun i=>(P i).cells),(28,iv K),(29,iv i)]) (B0) (xN,(frame 195 [(0,pv (AD q) 0),(1,fc (59) [] [pv [AE ns sv] 0]),(2,bv false),(3,fc (61) (AB q) []),(9,pt 2 0),(10,sl false 0 0 fun i=>[]),(27,sl nb 2 K fun i=>(P i).cells),(28,iv ↑K),(29,iv (i+1))]),EN):=
 kR _ (.mk (dS 0x10a11111081e111011e032ea) [] [some (Ba ct P i),some (Ba ct P i),some (C9 ct P i)] [] []) (kO (kz q0 (kz q1 (kz q2 AN)))) (rI (i+1) (.cons (ihc (P i.toNat).right) (.cons (ihc (P i.toNat).left) (.cons (ihc (P i.toNat).left) (rB i K .nil))))) 939525647 7 [0,1,2] 3
theorem zW (q0:DM i K):sR 3 (AH6) (frame 195 [(0,pv (AD q) 0),(1,fc (59) [] [Ad ns sv]),(2,bv false),(3,fc (61) (AB q) []),(9,pt 2 0),(10,sl false 0 0 fun _=>[]),(27,sl nb 2 K fun i=>(P i).cells),(28,iv K),(29,iv i)]) (B0) (xL 0,(frame 195 [(0,pv (AD q) 0),(1,fc (59) [] [pv [AE ns sv] 0]),(2,bv false),(3,fc (61) (AB q) []),(9,pt 2 0),(10,sl false 0 0 fun i=>[])]),EN):=
 kR _ (.mk (dS 16) [] [] [] []) (kO (kz q0 AN)) .nil 1551 7 [0,1,2] 3
end
noncomputable abbrev Ws:Code:=(cB (cR (cL (cR (cR (cR (AY prog 60)))))))
noncomputable abbrev Qt:Code:=(cB (cB (cR (cL (cR (cR (cR (AY prog 60))))))))
abbrev Fj (a0:Nat)(a1:Nat->aF):=[A0,Fi,AR,oA 2 false a0 fun i=>(a1 i).cells]
abbrev DT (a0:Nat)(a1:Nat->aF):=[A0,Po,AR,oA 2 false a0 fun i=>(a1 i).cells]
section
variable (q:fG)(ns:Nat)(sv:Nat->Int)(ct:Int->Bool)(K:Nat)(P:Nat->aF)(k:Nat)(F:Nat->aF)(i:Int)(nb:Bool)(h0:0<=i)(hK:K<=1000)(hk:k<=1000)(ihc:∀ x:Int,sP 59 [iv x,Ad ns sv] (bv (ct x)))
include q ns sv ct K P k F i nb h0 hK hk ihc
theorem zX (q0:BF i K)(q1:EM ct P i)(q2:(ct (P i.toNat).right)=true):sR 3 (AH6) (frame 195 [(0,pv (AD q) 0),(1,fc (59) [] [Ad ns sv]),(2,bv false),(3,fc (61) (AB q) []),(9,pt 2 0),(10,.ms 3 2 0 k none),(27,sl nb 2 K fun i=>(P i).cells),(28,iv K),(29,iv i)]) ((DT k F)) (xN,(frame 195 [(0,pv (AD q) 0),(1,fc (59) [] [pv [AE ns sv] 0]),(2,bv false),(3,fc (61) (AB q) []),(9,pt 2 0),(10,EV.ms 3 2 0 (k+1) none),(27,sl nb 2 K fun i=>(P i).cells),(28,iv ↑K),(29,iv (i+1))]),[A0,Fi,AR,oA 2 false (k+1) (Ar k (fun i=>(F (0+i)).cells) fun i_1=>[(P i.toNat).cells].getD (0+i_1) [])]):=
 kR _ (.mk (dS 0x10a111112222201aea) [] [some (Ba ct P i),some (C9 ct P i)] [] []) (kO (kz q0 (kz q1 (kz q2 AN)))) (rI (i+1) (oL (FT k) (.cons (ihc (P i.toNat).right) (.cons (ihc (P i.toNat).left) (rB i K .nil))))) 939525647 15 [0,1,2,6] 3
theorem zY (q0:BF i K)(q1:EM ct P i)(q2:(ct (P i.toNat).right)=false):sR 3 (AH6) (frame 195 [(0,pv (AD q) 0),(1,fc (59) [] [Ad ns sv]),(2,bv false),(3,fc (61) (AB q) []),(9,pt 2 0),(10,.ms 3 2 0 k none),(27,sl nb 2 K fun i=>(P i).cells),(28,iv K),(29,iv i)]) ((DT k F)) (xN,(frame 195 [(0,pv (AD q) 0),(1,fc (59) [] [pv [AE ns sv] 0]),(2,bv false),(3,fc (61) (AB q) []),(9,pt 2 0),(10,EV.ms 3 2 0 (k+1) none),(27,sl nb 2 K fun i=>(P i).cells),(28,iv ↑K),(29,iv (i+1))]),[A0,Fi,AR,oA 2 false (k+1) (Ar k (fun i=>(F (0+i)).cells) fun i_1=>[(P i.toNat).cells].getD (0+i_1) [])]):=
 kR _ (.mk (dS 0x10a11111222051e111011e2012e01aea) [] [some (Ba ct P i),some (C9 ct P i),some (Ba ct P i)] [] []) (kO (kz q0 (kz q1 (kz q2 AN)))) (rI (i+1) (oL (FT k) (.cons (ihc (P i.toNat).left) (.cons (ihc (P i.toNat).right) (.cons (ihc (P i.toNat).left) (rB i K .nil)))))) 939525647 15 [0,1,2,6] 3
theorem zZ (q0:BF i K)(q1:Fg ct P i)(q2:(ct (P i.toNat).right)=true):sR 3 (AH6) (frame 195 [(0,pv (AD q) 0),(1,fc (59) [] [Ad ns sv]),(2,bv false),(3,fc (61) (AB q) []),(9,pt 2 0),(10,.ms 3 2 0 k none),(27,sl nb 2 K fun i=>(P i).cells),(28,iv K),(29,iv i)]) ((DT k F)) (xN,(frame 195 [(0,pv (AD q) 0),(1,fc (59) [] [pv [AE ns sv] 0]),(2,bv false),(3,fc (61) (AB q) []),(9,pt 2 0),(10,EV.ms 3 2 0 (k+1) none),(27,sl nb 2 K fun i=>(P i).cells),(28,iv ↑K),(29,iv (i+1))]),[A0,Fi,AR,oA 2 false (k+1) (Ar k (fun i=>(F (0+i)).cells) fun i_1=>[(P i.toNat).cells].getD (0+i_1) [])]):=
 kR _ (.mk (dS 0x10a11111081e111011e032eaa) [] [some (Ba ct P i),some (Ba ct P i),some (C9 ct P i)] [] []) (kO (kz q0 (kz q1 (kz q2 AN)))) (rI (i+1) (oL (FT k) (.cons (ihc (P i.toNat).right) (.cons (ihc (P i.toNat).left) (.cons (ihc (P i.toNat).left) (rB i K .nil)))))) 939525647 15 [0,1,2,6] 3
theorem z0 (q0:BF i K)(q1:Fg ct P i)(q2:(ct (P i.toNat).right)=false):sR 3 (AH6) (frame 195 [(0,pv (AD q) 0),(1,fc (59) [] [Ad ns sv]),(2,bv false),(3,fc (61) (AB q) []),(9,pt 2 0),(10,.ms 3 2 0 k none),(27,sl nb 2 K fun i=>(P i).cells),(28,iv K),(29,iv i)]) ((DT k F)) (xN,(frame 195 [(0,pv (AD q) 0),(1,fc (59) [] [pv [AE ns sv] 0]),(2,bv false),(3,fc (61) (AB q) []),(9,pt 2 0),(10,EV.ms 3 2 0 k none),(27,sl nb 2 K fun i=>(P i).cells),(28,iv ↑K),(29,iv (i+1))]),(Fj k F)):=
 kR _ (.mk (dS 0x10a11111081e111011e032ea) [] [some (Ba ct P i),some (Ba ct P i),some (C9 ct P i)] [] []) (kO (kz q0 (kz q1 (kz q2 AN)))) (rI (i+1) (.cons (ihc (P i.toNat).right) (.cons (ihc (P i.toNat).left) (.cons (ihc (P i.toNat).left) (rB i K .nil))))) 939525647 15 [0,1,2,3] 3
theorem z4 (q0:DM i K):sR 3 (AH6) (frame 195 [(0,pv (AD q) 0),(1,fc (59) [] [Ad ns sv]),(2,bv false),(3,fc (61) (AB q) []),(9,pt 2 0),(10,.ms 3 2 0 k none),(27,sl nb 2 K fun i=>(P i).cells),(28,iv K),(29,iv i)]) ((DT k F)) (xL 0,(frame 195 [(0,pv (AD q) 0),(1,fc (59) [] [pv [AE ns sv] 0]),(2,bv false),(3,fc (61) (AB q) []),(9,pt 2 0),(10,EV.ms 3 2 0 k none)]),(Fj k F)):=
 kR _ (.mk (dS 16) [] [] [] []) (kO (kz q0 AN)) .nil 1551 15 [0,1,2,3] 3
end
abbrev Az (a0:fG)(a1:Nat)(a2:Nat->Int):=[H7 a0,Jn a1 a2]
section
variable (q:fG)(ns:Nat)(sv:Nat->Int)(ct:Int->Bool)(K:Nat)(P:Nat->aF)(k:Nat)(F:Nat->aF)(i:Int)(nb:Bool)(h0:0<=i)(hK:K<=1000)(hk:k<=1000)(ihc:∀ x:Int,sP 65 [iv x,AX q,Ad ns sv] (bv (ct x)))
include q ns sv ct K P k F i nb h0 hK hk ihc
theorem z5 (q0:BF i K)(q1:EM ct P i)(q2:(ct (P i.toNat).right)=true):sR 3 (AH6) (frame 195 [(0,pv (AD q) 0),(1,fc (65) [] (Az q ns sv)),(2,bv true),(3,fc (66) (AB q) []),(9,pt 2 0),(10,sl false 0 0 fun _=>[]),(27,sl nb 2 K fun i=>(P i).cells),(28,iv K),(29,iv i)]) (B0) (xN,(frame 195 [(0,pv (AD q) 0),(1,fc (65) [] [AX q,pv [AE ns sv] 0]),(2,bv true),(3,fc (66) (AB q) []),(9,pt 2 0),(10,EV.ms 3 2 0 1 none),(27,sl nb 2 K fun i=>(P i).cells),(28,iv ↑K),(29,iv (i+1))]),[A0,Fi,AR,oA 2 false 1 fun i_1=>[(P i.toNat).cells].getD (0+i_1) []]):=
 kR _ (.mk (dS 0x10a111112222203ae) [] [some (Ba ct P i),some (C9 ct P i)] [] []) (kO (kz q0 (kz q1 (kz q2 AN)))) (rI (i+1) (.cons (ihc (P i.toNat).right) (.cons (ihc (P i.toNat).left) (rB i K .nil)))) 939525647 15 [0,1,2,5] 3
theorem z6 (q0:BF i K)(q1:EM ct P i)(q2:(ct (P i.toNat).right)=false):sR 3 (AH6) (frame 195 [(0,pv (AD q) 0),(1,fc (65) [] (Az q ns sv)),(2,bv true),(3,fc (66) (AB q) []),(9,pt 2 0),(10,sl false 0 0 fun _=>[]),(27,sl nb 2 K fun i=>(P i).cells),(28,iv K),(29,iv i)]) (B0) (xN,(frame 195 [(0,pv (AD q) 0),(1,fc (65) [] [AX q,pv [AE ns sv] 0]),(2,bv true),(3,fc (66) (AB q) []),(9,pt 2 0),(10,sl false 0 0 fun i=>[]),(27,sl nb 2 K fun i=>(P i).cells),(28,iv ↑K),(29,iv (i+1))]),EN):=
 kR _ (.mk (dS 0x10a11111222062e012e01ae) [] [some (Ba ct P i),some (C9 ct P i)] [] []) (kO (kz q0 (kz q1 (kz q2 AN)))) (rI (i+1) (.cons (ihc (P i.toNat).right) (.cons (ihc (P i.toNat).left) (rB i K .nil)))) 939525647 7 [0,1,2] 3
theorem z7 (q0:BF i K)(q1:Fg ct P i):sR 3 (AH6) (frame 195 [(0,pv (AD q) 0),(1,fc (65) [] (Az q ns sv)),(2,bv true),(3,fc (66) (AB q) []),(9,pt 2 0),(10,sl false 0 0 fun _=>[]),(27,sl nb 2 K fun i=>(P i).cells),(28,iv K),(29,iv i)]) (B0) (xN,(frame 195 [(0,pv (AD q) 0),(1,fc (65) [] [AX q,pv [AE ns sv] 0]),(2,bv true),(3,fc (66) (AB q) []),(9,pt 2 0),(10,sl false 0 0 fun i=>[]),(27,sl nb 2 K fun i=>(P i).cells),(28,iv ↑K),(29,iv (i+1))]),EN):=
 kR _ (.mk (dS 18283962109358) [] [some (Ba ct P i)] [] []) (kO (kz q0 (kz q1 AN))) (rI (i+1) (.cons (ihc (P i.toNat).left) (rB i K .nil))) 939525647 7 [0,1,2] 3
theorem z8 (q0:DM i K):sR 3 (AH6) (frame 195 [(0,pv (AD q) 0),(1,fc (65) [] (Az q ns sv)),(2,bv true),(3,fc (66) (AB q) []),(9,pt 2 0),(10,sl false 0 0 fun _=>[]),(27,sl nb 2 K fun i=>(P i).cells),(28,iv K),(29,iv i)]) (B0) (xL 0,(frame 195 [(0,pv (AD q) 0),(1,fc (65) [] [AX q,pv [AE ns sv] 0]),(2,bv true),(3,fc (66) (AB q) []),(9,pt 2 0),(10,sl false 0 0 fun i=>[])]),EN):=
 kR _ (.mk (dS 16) [] [] [] []) (kO (kz q0 AN)) .nil 1551 7 [0,1,2] 3
end
noncomputable abbrev Wt:Code:=(cB (cR (cL (cR (cR (cR (AY prog 60)))))))
noncomputable abbrev Qu:Code:=(cB (cB (cR (cL (cR (cR (cR (AY prog 60))))))))
section
variable (q:fG)(ns:Nat)(sv:Nat->Int)(ct:Int->Bool)(K:Nat)(P:Nat->aF)(k:Nat)(F:Nat->aF)(i:Int)(nb:Bool)(h0:0<=i)(hK:K<=1000)(hk:k<=1000)(ihc:∀ x:Int,sP 65 [iv x,AX q,Ad ns sv] (bv (ct x)))
include q ns sv ct K P k F i nb h0 hK hk ihc
theorem z9 (q0:BF i K)(q1:EM ct P i)(q2:(ct (P i.toNat).right)=true):sR 3 (AH6) (frame 195 [(0,pv (AD q) 0),(1,fc (65) [] (Az q ns sv)),(2,bv true),(3,fc (66) (AB q) []),(9,pt 2 0),(10,.ms 3 2 0 k none),(27,sl nb 2 K fun i=>(P i).cells),(28,iv K),(29,iv i)]) ((DT k F)) (xN,(frame 195 [(0,pv (AD q) 0),(1,fc (65) [] [AX q,pv [AE ns sv] 0]),(2,bv true),(3,fc (66) (AB q) []),(9,pt 2 0),(10,EV.ms 3 2 0 (k+1) none),(27,sl nb 2 K fun i=>(P i).cells),(28,iv ↑K),(29,iv (i+1))]),[A0,Fi,AR,oA 2 false (k+1) (Ar k (fun i=>(F (0+i)).cells) fun i_1=>[(P i.toNat).cells].getD (0+i_1) [])]):=
 kR _ (.mk (dS 0x10a111112222201aea) [] [some (Ba ct P i),some (C9 ct P i)] [] []) (kO (kz q0 (kz q1 (kz q2 AN)))) (rI (i+1) (oL (FT k) (.cons (ihc (P i.toNat).right) (.cons (ihc (P i.toNat).left) (rB i K .nil))))) 939525647 15 [0,1,2,6] 3
theorem yA (q0:BF i K)(q1:EM ct P i)(q2:(ct (P i.toNat).right)=false):sR 3 (AH6) (frame 195 [(0,pv (AD q) 0),(1,fc (65) [] (Az q ns sv)),(2,bv true),(3,fc (66) (AB q) []),(9,pt 2 0),(10,.ms 3 2 0 k none),(27,sl nb 2 K fun i=>(P i).cells),(28,iv K),(29,iv i)]) ((DT k F)) (xN,(frame 195 [(0,pv (AD q) 0),(1,fc (65) [] [AX q,pv [AE ns sv] 0]),(2,bv true),(3,fc (66) (AB q) []),(9,pt 2 0),(10,EV.ms 3 2 0 k none),(27,sl nb 2 K fun i=>(P i).cells),(28,iv ↑K),(29,iv (i+1))]),(Fj k F)):=
 kR _ (.mk (dS 0x10a11111222062e012e01ae) [] [some (Ba ct P i),some (C9 ct P i)] [] []) (kO (kz q0 (kz q1 (kz q2 AN)))) (rI (i+1) (.cons (ihc (P i.toNat).right) (.cons (ihc (P i.toNat).left) (rB i K .nil)))) 939525647 15 [0,1,2,3] 3
theorem yB (q0:BF i K)(q1:Fg ct P i):sR 3 (AH6) (frame 195 [(0,pv (AD q) 0),(1,fc (65) [] (Az q ns sv)),(2,bv true),(3,fc (66) (AB q) []),(9,pt 2 0),(10,.ms 3 2 0 k none),(27,sl nb 2 K fun i=>(P i).cells),(28,iv K),(29,iv i)]) ((DT k F)) (xN,(frame 195 [(0,pv (AD q) 0),(1,fc (65) [] [AX q,pv [AE ns sv] 0]),(2,bv true),(3,fc (66) (AB q) []),(9,pt 2 0),(10,EV.ms 3 2 0 k none),(27,sl nb 2 K fun i=>(P i).cells),(28,iv ↑K),(29,iv (i+1))]),(Fj k F)):=
 kR _ (.mk (dS 18283962109358) [] [some (Ba ct P i)] [] []) (kO (kz q0 (kz q1 AN))) (rI (i+1) (.cons (ihc (P i.toNat).left) (rB i K .nil))) 939525647 15 [0,1,2,3] 3
theorem yC (q0:DM i K):sR 3 (AH6) (frame 195 [(0,pv (AD q) 0),(1,fc (65) [] (Az q ns sv)),(2,bv true),(3,fc (66) (AB q) []),(9,pt 2 0),(10,.ms 3 2 0 k none),(27,sl nb 2 K fun i=>(P i).cells),(28,iv K),(29,iv i)]) ((DT k F)) (xL 0,(frame 195 [(0,pv (AD q) 0),(1,fc (65) [] [AX q,pv [AE ns sv] 0]),(2,bv true),(3,fc (66) (AB q) []),(9,pt 2 0),(10,EV.ms 3 2 0 k none)]),(Fj k F)):=
 kR _ (.mk (dS 16) [] [] [] []) (kO (kz q0 AN)) .nil 1551 15 [0,1,2,3] 3
end
def Bv (f:FuncId):Bool:=f==0 || f==88 || news f
def BL (f:FuncId):Bool:=f==88 || (pures f && f != 0)
theorem ABN (NA:Nat)(A:Nat->uN)(es:List (EV×EV))(Vn:Int)(tot:Int)(fi:Int)(a:Int)(b:Int)(c:Int):aA prog fF 88 [EV.int IntKind.i64 a,EV.int IntKind.i64 b,EV.int IntKind.i64 c,EV.ptr 0 0] [fE.var false false [.ptr 1 0],fE.var false false [.int .i64 Vn,EV.uS false 0 0 fun _=>[],.mm 2,.int .i64 tot,.int .i64 fi],fE.map false true es] (EV.int IntKind.i64 0) [fE.var false false [EV.ptr 1 0],fE.var false false [EV.int IntKind.i64 Vn,EV.ms 3 3 0 1 none,EV.mm 2,EV.int IntKind.i64 tot,EV.int IntKind.i64 fi],fE.map false true es,fE.arr false true 3 false 1 fun (i:Nat)=>[[EV.int IntKind.i64 a,EV.int IntKind.i64 b,EV.int IntKind.i64 c]].getD (0+i) []]:=
 LL (modes:=pures) (news:=news) (n:=60) (fuel:=100000) (F:=[[]]) (s:=(.mk [] [] [] [] [])) (ow:=[]) 15 [0,1,2,4] C1 (bY.one AN) (by kernel_rfl) (by kernel_rfl) (by kernel_rfl) (by kernel_rfl) .nil
theorem ABO (NA:Nat)(A:Nat->uN)(es:List (EV×EV))(Vn:Int)(tot:Int)(fi:Int)(a:Int)(b:Int)(c:Int)(hN:NA<=5000):aA prog fF 88 [EV.int IntKind.i64 a,EV.int IntKind.i64 b,EV.int IntKind.i64 c,EV.ptr 0 0] [fE.var false false [.ptr 1 0],fE.var false false [.int .i64 Vn,.ms 2 3 0 NA none,.mm 3,.int .i64 tot,.int .i64 fi],fE.arr false true 3 false NA fun i=>(A i).cells,fE.map false true es] (EV.int IntKind.i64 ((↑(NA+1):Int) - 1)) [fE.var false false [EV.ptr 1 0],fE.var false false [EV.int IntKind.i64 Vn,EV.ms 4 3 0 (NA+1) none,EV.mm 3,EV.int IntKind.i64 tot,EV.int IntKind.i64 fi],fE.dead,fE.map false true es,fE.arr false true 3 false (NA+1) (Ar NA (fun (i:Nat)=>(A (0+i)).cells) fun (i:Nat)=>[[EV.int IntKind.i64 a,EV.int IntKind.i64 b,EV.int IntKind.i64 c]].getD (0+i) [])]:=
 LL (modes:=pures) (news:=news) (n:=60) (fuel:=100000) (F:=[[]]) (s:=(.mk [(0,.dec true),(0,.dec true)] [] [] [] [])) (ow:=[(inR IntKind.i64 ((↑(NA+1):Int) - 1))=true,(Decidable.decide ((NA+1)*24<=70368744177664) && Decidable.decide (NA+1<4611686018427387904))=true]) 27 [0,1,2,3,5] C1 (bY.one AN) (by kernel_rfl) (by kernel_rfl) (by kernel_rfl) (by kernel_rfl) (.cons (by (simp only [dG,C0,JF,Lm,JG,JH,JI,Bool.cond_true_left,Bool.cond_false_left,Bool.cond_true_right,Bool.cond_false_right,Bool.not_not,Bool.not_and,Bool.not_or,uF,Bool.or_eq_true,Bool.and_eq_false_imp,Bool.or_eq_false_iff,Bool.not_eq_true',Bool.not_eq_false',decide_eq_true_eq,decide_eq_false_iff_not,beq_iff_eq,bne_iff_ne,beq_eq_false_iff_ne,ne_eq,Decidable.not_not,uG] at* <;>omega)) (.cons (by exact Bool.and_eq_true_iff.2 ⟨uK (by omega),uK (by omega)⟩) .nil))
def B4 (N:Nat)(A:Nat->uN)(x:uN):Nat->uN:=fun i=>if i<N then A i else x
def IW (x:uN):Nat->uN
 | 0=>x
 | _+1=>default
theorem YF {N:Nat}{A:Nat->uN}{x:uN}{i:Nat}(h:i<N):B4 N A x i=A i:=if_pos h
theorem YG {N:Nat}{A:Nat->uN}{x:uN}:B4 N A x N=x:=if_neg (by omega)
theorem Ea (es:List (EV×EV))(Vn tot fi a b c:Int):aA prog fF 88 [EV.int .i64 a,EV.int .i64 b,EV.int .i64 c,EV.ptr 0 0] [fE.var false false [.ptr 1 0],fE.var false false [.int .i64 Vn,EV.uS false 0 0 fun _=>[],.mm 2,.int .i64 tot,.int .i64 fi],fE.map false true es] (EV.int .i64 0) [fE.var false false [.ptr 1 0],fE.var false false [.int .i64 Vn,.ms 3 3 0 1 none,.mm 2,.int .i64 tot,.int .i64 fi],fE.map false true es,fE.arr false true 3 false 1 fun i=>(IW ⟨a,b,c⟩ i).cells]:=
 (ABN 0 (fun _=>default) es Vn tot fi a b c).res (.cons (uH _) (.cons (uH _) (.cons (uH _) (.cons (uU.arr fun i hi=>by
  obtain rfl:i=0:=by omega
  rfl) .nil))))
theorem BQ (NA:Nat)(A:Nat->uN)(es:List (EV×EV))(Vn tot fi a b c:Int)(hN:NA<=5000):aA prog fF 88 [EV.int .i64 a,EV.int .i64 b,EV.int .i64 c,EV.ptr 0 0] [fE.var false false [.ptr 1 0],fE.var false false [.int .i64 Vn,.ms 2 3 0 NA none,.mm 3,.int .i64 tot,.int .i64 fi],fE.arr false true 3 false NA fun i=>(A i).cells,fE.map false true es] (EV.int .i64 (NA:Int)) [fE.var false false [.ptr 1 0],fE.var false false [.int .i64 Vn,.ms 4 3 0 (NA+1) none,.mm 3,.int .i64 tot,.int .i64 fi],fE.dead,fE.map false true es,fE.arr false true 3 false (NA+1) fun i=>(B4 NA A ⟨a,b,c⟩ i).cells]:=by
 have h:=(ABO NA A es Vn tot fi a b c hN).res (s':=[fE.var false false [.ptr 1 0],fE.var false false [.int .i64 Vn,.ms 4 3 0 (NA+1) none,.mm 3,.int .i64 tot,.int .i64 fi],fE.dead,fE.map false true es,fE.arr false true 3 false (NA+1) fun i=>(B4 NA A ⟨a,b,c⟩ i).cells]) (.cons (uH _) (.cons (uH _) (.cons (uH _) (.cons (uH _) (.cons (uU.arr fun i hi=>by
  rcases Nat.lt_or_ge i NA with h | h
  ·rw [Ar,if_pos h,YF h,uJ]
  ·obtain rfl:i=NA:=by omega
   rw [Ar,if_neg (by omega),YG];simp [uN.cells]) .nil)))))
 rwa [show ((↑(NA+1):Int) - 1)=(NA:Int) by omega] at h
abbrev VK (a0:Nat)(a1:Nat)(a2:Nat->Int):=(a0,sl true 1 a1 fun (p:Nat)=>[iv (a2 p)])
abbrev MK (a0:Int)(a1:Int)(a2:Int):=fE.var false false [iv a0,EV.ms 3 3 0 1 none,EV.mm 2,iv a1,iv a2]
abbrev ML (a0:Int)(a1:Int)(a2:Int):=fE.var false false [iv a0,EV.ms 4 3 0 2 none,EV.mm 3,iv a1,iv a2]
abbrev Jp (a0:Int)(a1:Nat):=uN.mk 0 (1+a0) (2*(↑a1:Int))
noncomputable abbrev AI6:=cR (cR (cR (cR (cR (cR (cR (AY prog 60)))))))
abbrev Jq (a0:Int)(a1:Int)(a2:Int):=fE.var false false [iv a0,AT,EV.mm 0,iv a1,iv a2]
abbrev E0 (a0:Int)(a1:Int)(a2:Int)(a3:List (EV×EV))(a4:Int)(a5:Nat):=(iv 0,[AR,MK a0 a1 a2,Ff a3,oA 3 false 1 fun i=>(IW (Jp a4 a5) i).cells])
abbrev VL (a0:Nat)(a1:Nat)(a2:Nat->Int):=VK a0 a1 a2
abbrev E1 (a0:Int)(a1:Nat):=Jp a0 a1
noncomputable abbrev AH5:=cB (cB (cR (cL (AI6))))
abbrev E2 (a0:List (EV×EV))(a1:Int)(a2:Int)(a3:Int)(a4:Nat)(a5:Nat->aF):=[Ff a0,fE.var false false [iv a1,Aq,.mm 0,iv a2,iv a3],AR,oA 2 false a4 fun i=>(a5 i).cells]
abbrev BO (a0:Nat)(a1:Nat)(a2:Nat->Int):=VL a0 a1 a2
abbrev B8 (a0:Int)(a1:Nat):=IW (E1 a0 a1)
section
variable (q:fG)(ns:Nat)(sv:Nat->Int)(ct:Int->Bool)(K:Nat)(F:Nat->aF)(NA:Nat)(A:Nat->uN)(es:List (EV×EV))(Vn:Int)(tot:Int)(fi:Int)(j:Nat)(L:Nat)(l:Nat->Int)(bb:Bool)(ix:Int)(h0:0<=ix)(hK:K<=1000)(hNA:NA<=4000)(hL:L<=1000)(hf:0<=fi)(hf2:fi<=1000)(ht:0<=tot)(ht2:tot<=100000000)(hb:bb=true)(hF:ix<K->0<=(F (0+ix.toNat)).left/\(F (0+ix.toNat)).left<=1000/\0<=(F (0+ix.toNat)).right/\(F (0+ix.toNat)).right<=1000)(ihc:∀ x:Int,sP 59 [iv x,Ad ns sv] (bv (ct x)))(fy:ix<K->BM prog 94 (ag (F (0+ix.toNat)).cells) (D0 q) 0 (some (j,sl true 1 L fun p=>[iv (l p)])))(fn:ix<K->BM prog 94 (ag (F (0+ix.toNat)).cells) es 0 none)
include q ns sv ct K F NA A es Vn tot fi j L l bb ix h0 hK hNA hL hf hf2 ht ht2 hb hF ihc fy fn
theorem yD (q0:Ah ix K)(q1:(ct (F (0+ix.toNat)).left)=true)(q2:(ct (F (0+ix.toNat)).right)=true):sR 4 (AH5) (frame 195 [(0,pv (AD q) 0),(1,fc (59) [] [Ad ns sv]),(2,bv false),(3,fc (61) (AB q) []),(9,pt 2 0),(13,fc (88) [] [pt 2 0]),(87,.ms 3 2 0 K none),(88,iv K),(89,iv ix)]) ((E2 es Vn tot fi K F)) (xN,(frame 195 [(0,pv (AD q) 0),(1,fc (59) [] [pv [AE ns sv] 0]),(2,bv false),(3,fc (61) (AB q) []),(9,pt 2 0),(13,fc (88) [] [pt 2 0]),(87,EV.ms 3 2 0 K none),(88,iv ↑K),(89,iv (ix+1))]),[fE.map false true (es++[(ag (F (0+ix.toNat)).cells,ag [iv 1,iv 2])]),fE.var false false [iv Vn,EV.ms 4 3 0 3 none,EV.mm 0,iv tot,iv fi],AR,oA 2 false K fun i=>(F i).cells,oA 3 false 3 fun i=>(B4 2 (B4 1 (B8 ix L) (uN.mk (1+ix) (fi+(F (0+ix.toNat)).left) (2*(↑L:Int)))) (uN.mk (1+ix) (fi+(F (0+ix.toNat)).right) (2*(↑L:Int))) i).cells]):=
 aM BL Bv _ (.mk (dS 0x10aaa021eaa062eaa05ae) [] [some (bv (ct (F (0+ix.toNat)).left)),some (bv (ct (F (0+ix.toNat)).right))] [some ((E0 Vn tot fi es ix L)),some ((iv 1,[AR,ML Vn tot fi,oD,Aj es,oA 3 false 2 fun i=>(B4 1 (B8 ix L) (uN.mk (1+ix) (fi+(F (0+ix.toNat)).left) (2*(↑L:Int))) i).cells])),some ((iv 2,[AR,fE.var false false [iv Vn,EV.ms 4 3 0 3 none,EV.mm 3,iv tot,iv fi],oD,Aj es,oA 3 false 3 fun i=>(B4 2 (B4 1 (B8 ix L) (uN.mk (1+ix) (fi+(F (0+ix.toNat)).left) (2*(↑L:Int)))) (uN.mk (1+ix) (fi+(F (0+ix.toNat)).right) (2*(↑L:Int))) i).cells]))] [some (some (BO j L l)),some (none)]) (kO (kz q0 (kz q1 (kz q2 AN)))) (rI (ix+1) (.cons (fn (by simp_all)) (.cons (BQ (2) (B4 1 (B8 ix L) (uN.mk (1+ix) (fi+(F (0+ix.toNat)).left) (2*(↑L:Int)))) (es) (Vn) (tot) (fi) (1+ix) (fi+(F (0+ix.toNat)).right) (2*(↑L:Int)) (by omega)) (rI (fi+(F (0+ix.toNat)).right) (rI (1+ix) (.cons (ihc (F (0+ix.toNat)).right) (.cons (BQ (1) (B8 ix L) (es) (Vn) (tot) (fi) (1+ix) (fi+(F (0+ix.toNat)).left) (2*(↑L:Int)) (by omega)) (rI (fi+(F (0+ix.toNat)).left) (rI (1+ix) (.cons (ihc (F (0+ix.toNat)).left) (.cons (Ea (es) (Vn) (tot) (fi) (0) (1+ix) (2*(↑L:Int))) (rI (1+ix) (rI (2*(↑L:Int)) (.cons (fy (by simp_all)) (rB ix K .nil))))))))))))))) 1083197534374707740536742415 31 [0,1,2,3,19] 4
theorem yE (q0:Ah ix K)(q1:(ct (F (0+ix.toNat)).left)=true)(q2:(ct (F (0+ix.toNat)).right)=false):sR 4 (AH5) (frame 195 [(0,pv (AD q) 0),(1,fc (59) [] [Ad ns sv]),(2,bv false),(3,fc (61) (AB q) []),(9,pt 2 0),(13,fc (88) [] [pt 2 0]),(87,.ms 3 2 0 K none),(88,iv K),(89,iv ix)]) ((E2 es Vn tot fi K F)) (xN,(frame 195 [(0,pv (AD q) 0),(1,fc (59) [] [pv [AE ns sv] 0]),(2,bv false),(3,fc (61) (AB q) []),(9,pt 2 0),(13,fc (88) [] [pt 2 0]),(87,EV.ms 3 2 0 K none),(88,iv ↑K),(89,iv (ix+1))]),[fE.map false true (es++[(ag (F (0+ix.toNat)).cells,ag [iv 1,iv (-1)])]),fE.var false false [iv Vn,EV.ms 4 3 0 2 none,EV.mm 0,iv tot,iv fi],AR,oA 2 false K fun i=>(F i).cells,oA 3 false 2 fun i=>(B4 1 (B8 ix L) (uN.mk (1+ix) (fi+(F (0+ix.toNat)).left) (2*(↑L:Int))) i).cells]):=
 aM BL Bv _ (.mk (dS 0x10aaa021eaa062e03ae) [] [some (bv (ct (F (0+ix.toNat)).left)),some (bv (ct (F (0+ix.toNat)).right))] [some ((E0 Vn tot fi es ix L)),some ((iv 1,[AR,ML Vn tot fi,oD,Aj es,oA 3 false 2 fun i=>(B4 1 (B8 ix L) (uN.mk (1+ix) (fi+(F (0+ix.toNat)).left) (2*(↑L:Int))) i).cells]))] [some (some (BO j L l)),some (none)]) (kO (kz q0 (kz q1 (kz q2 AN)))) (rI (ix+1) (.cons (fn (by simp_all)) (.cons (ihc (F (0+ix.toNat)).right) (.cons (BQ (1) (B8 ix L) (es) (Vn) (tot) (fi) (1+ix) (fi+(F (0+ix.toNat)).left) (2*(↑L:Int)) (by omega)) (rI (fi+(F (0+ix.toNat)).left) (rI (1+ix) (.cons (ihc (F (0+ix.toNat)).left) (.cons (Ea (es) (Vn) (tot) (fi) (0) (1+ix) (2*(↑L:Int))) (rI (1+ix) (rI (2*(↑L:Int)) (.cons (fy (by simp_all)) (rB ix K .nil)))))))))))) 1083197534374707740536742415 31 [0,1,2,3,13] 4
theorem yF (q0:Ah ix K)(q1:(ct (F (0+ix.toNat)).left)=false)(q2:(ct (F (0+ix.toNat)).right)=true):sR 4 (AH5) (frame 195 [(0,pv (AD q) 0),(1,fc (59) [] [Ad ns sv]),(2,bv false),(3,fc (61) (AB q) []),(9,pt 2 0),(13,fc (88) [] [pt 2 0]),(87,.ms 3 2 0 K none),(88,iv K),(89,iv ix)]) ((E2 es Vn tot fi K F)) (xN,(frame 195 [(0,pv (AD q) 0),(1,fc (59) [] [pv [AE ns sv] 0]),(2,bv false),(3,fc (61) (AB q) []),(9,pt 2 0),(13,fc (88) [] [pt 2 0]),(87,EV.ms 3 2 0 K none),(88,iv ↑K),(89,iv (ix+1))]),[fE.map false true (es++[(ag (F (0+ix.toNat)).cells,ag [iv (-1),iv 1])]),fE.var false false [iv Vn,EV.ms 4 3 0 2 none,EV.mm 0,iv tot,iv fi],AR,oA 2 false K fun i=>(F i).cells,oA 3 false 2 fun i=>(B4 1 (B8 ix L) (uN.mk (1+ix) (fi+(F (0+ix.toNat)).right) (2*(↑L:Int))) i).cells]):=
 aM BL Bv _ (.mk (dS 0x10aaa021e032eaa05ae) [] [some (bv (ct (F (0+ix.toNat)).left)),some (bv (ct (F (0+ix.toNat)).right))] [some ((E0 Vn tot fi es ix L)),some ((iv 1,[AR,ML Vn tot fi,oD,Aj es,oA 3 false 2 fun i=>(B4 1 (B8 ix L) (uN.mk (1+ix) (fi+(F (0+ix.toNat)).right) (2*(↑L:Int))) i).cells]))] [some (some (BO j L l)),some (none)]) (kO (kz q0 (kz q1 (kz q2 AN)))) (rI (ix+1) (.cons (fn (by simp_all)) (.cons (BQ (1) (B8 ix L) (es) (Vn) (tot) (fi) (1+ix) (fi+(F (0+ix.toNat)).right) (2*(↑L:Int)) (by omega)) (rI (fi+(F (0+ix.toNat)).right) (rI (1+ix) (.cons (ihc (F (0+ix.toNat)).right) (.cons (ihc (F (0+ix.toNat)).left) (.cons (Ea (es) (Vn) (tot) (fi) (0) (1+ix) (2*(↑L:Int))) (rI (1+ix) (rI (2*(↑L:Int)) (.cons (fy (by simp_all)) (rB ix K .nil)))))))))))) 1083197534374707740536742415 31 [0,1,2,3,16] 4
theorem yG (q0:Ah ix K)(q1:(ct (F (0+ix.toNat)).left)=false)(q2:(ct (F (0+ix.toNat)).right)=false):sR 4 (AH5) (frame 195 [(0,pv (AD q) 0),(1,fc (59) [] [Ad ns sv]),(2,bv false),(3,fc (61) (AB q) []),(9,pt 2 0),(13,fc (88) [] [pt 2 0]),(87,.ms 3 2 0 K none),(88,iv K),(89,iv ix)]) ((E2 es Vn tot fi K F)) (xN,(frame 195 [(0,pv (AD q) 0),(1,fc (59) [] [pv [AE ns sv] 0]),(2,bv false),(3,fc (61) (AB q) []),(9,pt 2 0),(13,fc (88) [] [pt 2 0]),(87,EV.ms 3 2 0 K none),(88,iv ↑K),(89,iv (ix+1))]),[fE.map false true (es++[(ag (F (0+ix.toNat)).cells,ag [iv (-1),iv (-1)])]),fE.var false false [iv Vn,EV.ms 4 3 0 1 none,EV.mm 0,iv tot,iv fi],AR,oA 2 false K fun i=>(F i).cells,oA 3 false 1 fun i=>(IW (E1 ix L) i).cells]):=
 aM BL Bv _ (.mk (dS 0x10aaa021e032e03ae) [] [some (bv (ct (F (0+ix.toNat)).left)),some (bv (ct (F (0+ix.toNat)).right))] [some ((E0 Vn tot fi es ix L))] [some (some (BO j L l)),some (none)]) (kO (kz q0 (kz q1 (kz q2 AN)))) (rI (ix+1) (.cons (fn (by simp_all)) (.cons (ihc (F (0+ix.toNat)).right) (.cons (ihc (F (0+ix.toNat)).left) (.cons (Ea (es) (Vn) (tot) (fi) (0) (1+ix) (2*(↑L:Int))) (rI (1+ix) (rI (2*(↑L:Int)) (.cons (fy (by simp_all)) (rB ix K .nil))))))))) 1083197534374707740536742415 31 [0,1,2,3,5] 4
end
noncomputable abbrev yH:Code:=(cB (cR (cL (cR (cR (cR (cR (cR (cR (cR (AY prog 60)))))))))))
noncomputable abbrev Si:Code:=(cB (cB (cR (cL (cR (cR (cR (cR (cR (cR (cR (AY prog 60))))))))))))
abbrev Js (a0:Int)(a1:Nat)(a2:Int)(a3:Int):=fE.var false false [iv a0,EV.ms 4 3 0 a1 none,EV.mm 0,iv a2,iv a3]
abbrev Pr (a0:Int)(a1:Nat)(a2:Int)(a3:Int):=fE.var false false [iv a0,EV.ms 4 3 0 (a1+1) none,EV.mm 3,iv a2,iv a3]
abbrev H8 (a0:Nat):=EV.ms 4 3 0 (a0+1+1) none
abbrev MM (a0:Int)(a1:Nat)(a2:Int)(a3:Int):=fE.var false false [iv a0,H8 a1,EV.mm 3,iv a2,iv a3]
abbrev Ps (a0:Int)(a1:Nat)(a2:Int)(a3:Int):=fE.var false false [iv a0,.ms 4 3 0 a1 none,.mm 0,iv a2,iv a3]
abbrev E3 (a0:Nat)(a1:Int)(a2:Int)(a3:Int)(a4:List (EV×EV))(a5:Nat->uN)(a6:Int)(a7:Nat):=(iv ↑a0,[AR,Pr a1 a0 a2 a3,oD,Ff a4,oA 3 false (a0+1) fun i=>(B4 a0 a5 (Jp a6 a7) i).cells])
abbrev Dr (a0:List (EV×EV))(a1:Int)(a2:Nat)(a3:Int)(a4:Int)(a5:Nat)(a6:Nat->aF)(a7:Nat->uN):=[Ff a0,Ps a1 a2 a3 a4,AR,oA 2 false a5 fun i=>(a6 i).cells,oA 3 false a2 fun i=>(a7 i).cells]
abbrev Cj (a0:Nat)(a1:Nat->uN)(a2:Int)(a3:Nat):=B4 a0 a1 (E1 a2 a3)
section
variable (q:fG)(ns:Nat)(sv:Nat->Int)(ct:Int->Bool)(K:Nat)(F:Nat->aF)(NA:Nat)(A:Nat->uN)(es:List (EV×EV))(Vn:Int)(tot:Int)(fi:Int)(j:Nat)(L:Nat)(l:Nat->Int)(bb:Bool)(ix:Int)(h0:0<=ix)(hK:K<=1000)(hNA:NA<=4000)(hL:L<=1000)(hf:0<=fi)(hf2:fi<=1000)(ht:0<=tot)(ht2:tot<=100000000)(hb:bb=true)(hF:ix<K->0<=(F (0+ix.toNat)).left/\(F (0+ix.toNat)).left<=1000/\0<=(F (0+ix.toNat)).right/\(F (0+ix.toNat)).right<=1000)(ihc:∀ x:Int,sP 59 [iv x,Ad ns sv] (bv (ct x)))(fy:ix<K->BM prog 94 (ag (F (0+ix.toNat)).cells) (D0 q) 0 (some (j,sl true 1 L fun p=>[iv (l p)])))(fn:ix<K->BM prog 94 (ag (F (0+ix.toNat)).cells) es 0 none)
include q ns sv ct K F NA A es Vn tot fi j L l bb ix h0 hK hNA hL hf hf2 ht ht2 hb hF ihc fy fn
theorem yI (q0:Ah ix K)(q1:(ct (F (0+ix.toNat)).left)=true)(q2:(ct (F (0+ix.toNat)).right)=true):sR 4 (AH5) (frame 195 [(0,pv (AD q) 0),(1,fc (59) [] [Ad ns sv]),(2,bv false),(3,fc (61) (AB q) []),(9,pt 2 0),(13,fc (88) [] [pt 2 0]),(87,.ms 3 2 0 K none),(88,iv K),(89,iv ix)]) ((Dr es Vn NA tot fi K F A)) (xN,(frame 195 [(0,pv (AD q) 0),(1,fc (59) [] [pv [AE ns sv] 0]),(2,bv false),(3,fc (61) (AB q) []),(9,pt 2 0),(13,fc (88) [] [pt 2 0]),(87,EV.ms 3 2 0 K none),(88,iv ↑K),(89,iv (ix+1))]),[fE.map false true (es++[(ag (F (0+ix.toNat)).cells,ag [iv ((↑NA:Int)+1),iv ((↑NA:Int)+1+1)])]),fE.var false false [iv Vn,EV.ms 4 3 0 (NA+1+1+1) none,EV.mm 0,iv tot,iv fi],AR,oA 2 false K fun i=>(F i).cells,oA 3 false (NA+1+1+1) fun i=>(B4 (NA+1+1) (B4 (NA+1) (Cj NA A ix L) (uN.mk (1+ix) (fi+(F (0+ix.toNat)).left) (2*(↑L:Int)))) (uN.mk (1+ix) (fi+(F (0+ix.toNat)).right) (2*(↑L:Int))) i).cells]):=
 aM BL Bv _ (.mk (dS 0x10aaa021eaa062eaa05ae) [] [some (bv (ct (F (0+ix.toNat)).left)),some (bv (ct (F (0+ix.toNat)).right))] [some ((E3 NA Vn tot fi es A ix L)),some ((iv ((↑NA:Int)+1),[AR,MM Vn NA tot fi,oD,Aj es,oA 3 false (NA+1+1) fun i=>(B4 (NA+1) (Cj NA A ix L) (uN.mk (1+ix) (fi+(F (0+ix.toNat)).left) (2*(↑L:Int))) i).cells])),some ((iv ((↑NA:Int)+1+1),[AR,fE.var false false [iv Vn,EV.ms 4 3 0 (NA+1+1+1) none,EV.mm 3,iv tot,iv fi],oD,Aj es,oA 3 false (NA+1+1+1) fun i=>(B4 (NA+1+1) (B4 (NA+1) (Cj NA A ix L) (uN.mk (1+ix) (fi+(F (0+ix.toNat)).left) (2*(↑L:Int)))) (uN.mk (1+ix) (fi+(F (0+ix.toNat)).right) (2*(↑L:Int))) i).cells]))] [some (some (BO j L l)),some (none)]) (kO (kz q0 (kz q1 (kz q2 AN)))) (rI (ix+1) (.cons (fn (by simp_all)) (.cons (BQ (NA+1+1) (B4 (NA+1) (Cj NA A ix L) (uN.mk (1+ix) (fi+(F (0+ix.toNat)).left) (2*(↑L:Int)))) (es) (Vn) (tot) (fi) (1+ix) (fi+(F (0+ix.toNat)).right) (2*(↑L:Int)) (by omega)) (rI (fi+(F (0+ix.toNat)).right) (rI (1+ix) (.cons (ihc (F (0+ix.toNat)).right) (.cons (BQ (NA+1) (Cj NA A ix L) (es) (Vn) (tot) (fi) (1+ix) (fi+(F (0+ix.toNat)).left) (2*(↑L:Int)) (by omega)) (rI (fi+(F (0+ix.toNat)).left) (rI (1+ix) (.cons (ihc (F (0+ix.toNat)).left) (.cons (BQ (NA) (A) (es) (Vn) (tot) (fi) (0) (1+ix) (2*(↑L:Int)) (by omega)) (rI (1+ix) (rI (2*(↑L:Int)) (.cons (fy (by simp_all)) (rB ix K .nil))))))))))))))) 1083197534374707740536742415 31 [0,1,2,3,20] 4
theorem yJ (q0:Ah ix K)(q1:(ct (F (0+ix.toNat)).left)=true)(q2:(ct (F (0+ix.toNat)).right)=false):sR 4 (AH5) (frame 195 [(0,pv (AD q) 0),(1,fc (59) [] [Ad ns sv]),(2,bv false),(3,fc (61) (AB q) []),(9,pt 2 0),(13,fc (88) [] [pt 2 0]),(87,.ms 3 2 0 K none),(88,iv K),(89,iv ix)]) ((Dr es Vn NA tot fi K F A)) (xN,(frame 195 [(0,pv (AD q) 0),(1,fc (59) [] [pv [AE ns sv] 0]),(2,bv false),(3,fc (61) (AB q) []),(9,pt 2 0),(13,fc (88) [] [pt 2 0]),(87,EV.ms 3 2 0 K none),(88,iv ↑K),(89,iv (ix+1))]),[fE.map false true (es++[(ag (F (0+ix.toNat)).cells,ag [iv ((↑NA:Int)+1),iv (-1)])]),fE.var false false [iv Vn,H8 NA,EV.mm 0,iv tot,iv fi],AR,oA 2 false K fun i=>(F i).cells,oA 3 false (NA+1+1) fun i=>(B4 (NA+1) (Cj NA A ix L) (uN.mk (1+ix) (fi+(F (0+ix.toNat)).left) (2*(↑L:Int))) i).cells]):=
 aM BL Bv _ (.mk (dS 0x10aaa021eaa062e03ae) [] [some (bv (ct (F (0+ix.toNat)).left)),some (bv (ct (F (0+ix.toNat)).right))] [some ((E3 NA Vn tot fi es A ix L)),some ((iv ((↑NA:Int)+1),[AR,MM Vn NA tot fi,oD,Aj es,oA 3 false (NA+1+1) fun i=>(B4 (NA+1) (Cj NA A ix L) (uN.mk (1+ix) (fi+(F (0+ix.toNat)).left) (2*(↑L:Int))) i).cells]))] [some (some (BO j L l)),some (none)]) (kO (kz q0 (kz q1 (kz q2 AN)))) (rI (ix+1) (.cons (fn (by simp_all)) (.cons (ihc (F (0+ix.toNat)).right) (.cons (BQ (NA+1) (Cj NA A ix L) (es) (Vn) (tot) (fi) (1+ix) (fi+(F (0+ix.toNat)).left) (2*(↑L:Int)) (by omega)) (rI (fi+(F (0+ix.toNat)).left) (rI (1+ix) (.cons (ihc (F (0+ix.toNat)).left) (.cons (BQ (NA) (A) (es) (Vn) (tot) (fi) (0) (1+ix) (2*(↑L:Int)) (by omega)) (rI (1+ix) (rI (2*(↑L:Int)) (.cons (fy (by simp_all)) (rB ix K .nil)))))))))))) 1083197534374707740536742415 31 [0,1,2,3,14] 4
theorem yK (q0:Ah ix K)(q1:(ct (F (0+ix.toNat)).left)=false)(q2:(ct (F (0+ix.toNat)).right)=true):sR 4 (AH5) (frame 195 [(0,pv (AD q) 0),(1,fc (59) [] [Ad ns sv]),(2,bv false),(3,fc (61) (AB q) []),(9,pt 2 0),(13,fc (88) [] [pt 2 0]),(87,.ms 3 2 0 K none),(88,iv K),(89,iv ix)]) ((Dr es Vn NA tot fi K F A)) (xN,(frame 195 [(0,pv (AD q) 0),(1,fc (59) [] [pv [AE ns sv] 0]),(2,bv false),(3,fc (61) (AB q) []),(9,pt 2 0),(13,fc (88) [] [pt 2 0]),(87,EV.ms 3 2 0 K none),(88,iv ↑K),(89,iv (ix+1))]),[fE.map false true (es++[(ag (F (0+ix.toNat)).cells,ag [iv (-1),iv ((↑NA:Int)+1)])]),fE.var false false [iv Vn,H8 NA,EV.mm 0,iv tot,iv fi],AR,oA 2 false K fun i=>(F i).cells,oA 3 false (NA+1+1) fun i=>(B4 (NA+1) (Cj NA A ix L) (uN.mk (1+ix) (fi+(F (0+ix.toNat)).right) (2*(↑L:Int))) i).cells]):=
 aM BL Bv _ (.mk (dS 0x10aaa021e032eaa05ae) [] [some (bv (ct (F (0+ix.toNat)).left)),some (bv (ct (F (0+ix.toNat)).right))] [some ((E3 NA Vn tot fi es A ix L)),some ((iv ((↑NA:Int)+1),[AR,MM Vn NA tot fi,oD,Aj es,oA 3 false (NA+1+1) fun i=>(B4 (NA+1) (Cj NA A ix L) (uN.mk (1+ix) (fi+(F (0+ix.toNat)).right) (2*(↑L:Int))) i).cells]))] [some (some (BO j L l)),some (none)]) (kO (kz q0 (kz q1 (kz q2 AN)))) (rI (ix+1) (.cons (fn (by simp_all)) (.cons (BQ (NA+1) (Cj NA A ix L) (es) (Vn) (tot) (fi) (1+ix) (fi+(F (0+ix.toNat)).right) (2*(↑L:Int)) (by omega)) (rI (fi+(F (0+ix.toNat)).right) (rI (1+ix) (.cons (ihc (F (0+ix.toNat)).right) (.cons (ihc (F (0+ix.toNat)).left) (.cons (BQ (NA) (A) (es) (Vn) (tot) (fi) (0) (1+ix) (2*(↑L:Int)) (by omega)) (rI (1+ix) (rI (2*(↑L:Int)) (.cons (fy (by simp_all)) (rB ix K .nil)))))))))))) 1083197534374707740536742415 31 [0,1,2,3,17] 4
theorem yL (q0:Ah ix K)(q1:(ct (F (0+ix.toNat)).left)=false)(q2:(ct (F (0+ix.toNat)).right)=false):sR 4 (AH5) (frame 195 [(0,pv (AD q) 0),(1,fc (59) [] [Ad ns sv]),(2,bv false),(3,fc (61) (AB q) []),(9,pt 2 0),(13,fc (88) [] [pt 2 0]),(87,.ms 3 2 0 K none),(88,iv K),(89,iv ix)]) ((Dr es Vn NA tot fi K F A)) (xN,(frame 195 [(0,pv (AD q) 0),(1,fc (59) [] [pv [AE ns sv] 0]),(2,bv false),(3,fc (61) (AB q) []),(9,pt 2 0),(13,fc (88) [] [pt 2 0]),(87,EV.ms 3 2 0 K none),(88,iv ↑K),(89,iv (ix+1))]),[fE.map false true (es++[(ag (F (0+ix.toNat)).cells,ag [iv (-1),iv (-1)])]),fE.var false false [iv Vn,EV.ms 4 3 0 (NA+1) none,EV.mm 0,iv tot,iv fi],AR,oA 2 false K fun i=>(F i).cells,oA 3 false (NA+1) fun i=>(B4 NA A (E1 ix L) i).cells]):=
 aM BL Bv _ (.mk (dS 0x10aaa021e032e03ae) [] [some (bv (ct (F (0+ix.toNat)).left)),some (bv (ct (F (0+ix.toNat)).right))] [some ((E3 NA Vn tot fi es A ix L))] [some (some (BO j L l)),some (none)]) (kO (kz q0 (kz q1 (kz q2 AN)))) (rI (ix+1) (.cons (fn (by simp_all)) (.cons (ihc (F (0+ix.toNat)).right) (.cons (ihc (F (0+ix.toNat)).left) (.cons (BQ (NA) (A) (es) (Vn) (tot) (fi) (0) (1+ix) (2*(↑L:Int)) (by omega)) (rI (1+ix) (rI (2*(↑L:Int)) (.cons (fy (by simp_all)) (rB ix K .nil))))))))) 1083197534374707740536742415 31 [0,1,2,3,6] 4
theorem yM (q0:Cf ix K):sR 4 (AH5) (frame 195 [(0,pv (AD q) 0),(1,fc (59) [] [Ad ns sv]),(2,bv false),(3,fc (61) (AB q) []),(9,pt 2 0),(13,fc (88) [] [pt 2 0]),(87,.ms 3 2 0 K none),(88,iv K),(89,iv ix)]) ((Dr es Vn NA tot fi K F A)) (xL 2,(frame 195 [(0,pv (AD q) 0),(1,fc (59) [] [pv [AE ns sv] 0]),(2,bv false),(3,fc (61) (AB q) []),(9,pt 2 0),(13,fc (88) [] [pt 2 0])]),[Aj es,Js Vn NA tot fi,AR,oA 2 false K fun i=>(F i).cells,oA 3 false NA fun i=>(A i).cells]):=
 aM BL Bv _ (.mk (dS 16) [] [] [] []) (kO (kz q0 AN)) .nil 8719 31 [0,1,2,3,4] 4
end
abbrev E4 (a0:Int)(a1:Nat):=iv (a0+2*(↑a1:Int))
noncomputable abbrev AIC (a0:fG)(a1:Nat)(a2:Nat->Int):=frame 195 [(0,pv (AD a0) 0),(1,fc (65) [] [H7 a0,pv [Pc a1 a2] 0]),(2,bv true),(3,fc (66) (Ge a0) []),(9,pt 2 0),(13,fc (88) [] [pt 2 0])]
section
variable (q:fG)(ns:Nat)(sv:Nat->Int)(ct:Int->Bool)(K:Nat)(F:Nat->aF)(NA:Nat)(A:Nat->uN)(es:List (EV×EV))(Vn:Int)(tot:Int)(fi:Int)(j:Nat)(L:Nat)(l:Nat->Int)(bb:Bool)(ix:Int)(h0:0<=ix)(hK:K<=1000)(hNA:NA<=4000)(hL:L<=1000)(hf:0<=fi)(hf2:fi<=1000)(ht:0<=tot)(ht2:tot<=100000000)(hb:bb=true)(hF:ix<K->0<=(F (0+ix.toNat)).left/\(F (0+ix.toNat)).left<=1000/\0<=(F (0+ix.toNat)).right/\(F (0+ix.toNat)).right<=1000)(ihc:∀ x:Int,sP 65 [iv x,AX q,Ad ns sv] (bv (ct x)))(fy:ix<K->BM prog 94 (ag (F (0+ix.toNat)).cells) (D0 q) 0 (some (j,sl true 1 L fun p=>[iv (l p)])))(fn:ix<K->BM prog 94 (ag (F (0+ix.toNat)).cells) es 0 none)
include q ns sv ct K F NA A es Vn tot fi j L l bb ix h0 hK hNA hL hf hf2 ht ht2 hb hF ihc fy fn
theorem yN (q0:Ah ix K)(q1:(ct (F (0+ix.toNat)).left)=true)(q2:(ct (F (0+ix.toNat)).right)=true):sR 4 (AH5) (frame 195 [(0,pv (AD q) 0),(1,fc (65) [] (Az q ns sv)),(2,bv true),(3,fc (66) (AB q) []),(9,pt 2 0),(13,fc (88) [] [pt 2 0]),(87,.ms 3 2 0 K none),(88,iv K),(89,iv ix)]) ((E2 es Vn tot fi K F)) (xN,(frame 195 [(0,pv (AD q) 0),(1,fc (65) [] [AX q,pv [AE ns sv] 0]),(2,bv true),(3,fc (66) (AB q) []),(9,pt 2 0),(13,fc (88) [] [pt 2 0]),(87,EV.ms 3 2 0 K none),(88,iv ↑K),(89,iv (ix+1))]),[fE.map false true (es++[(ag (F (0+ix.toNat)).cells,ag [iv 1,iv 2])]),fE.var false false [iv Vn,EV.ms 4 3 0 3 none,EV.mm 0,E4 tot L,iv fi],AR,oA 2 false K fun i=>(F i).cells,oA 3 false 3 fun i=>(B4 2 (B4 1 (B8 ix L) (uN.mk (1+ix) (fi+(F (0+ix.toNat)).left) (2*(↑L:Int)))) (uN.mk (1+ix) (fi+(F (0+ix.toNat)).right) (2*(↑L:Int))) i).cells]):=
 aM BL Bv _ (.mk (dS 0x10aaa021eaa062eaa05aea) [] [some (bv (ct (F (0+ix.toNat)).left)),some (bv (ct (F (0+ix.toNat)).right))] [some ((E0 Vn tot fi es ix L)),some ((iv 1,[AR,ML Vn tot fi,oD,Aj es,oA 3 false 2 fun i=>(B4 1 (B8 ix L) (uN.mk (1+ix) (fi+(F (0+ix.toNat)).left) (2*(↑L:Int))) i).cells])),some ((iv 2,[AR,fE.var false false [iv Vn,EV.ms 4 3 0 3 none,EV.mm 3,iv tot,iv fi],oD,Aj es,oA 3 false 3 fun i=>(B4 2 (B4 1 (B8 ix L) (uN.mk (1+ix) (fi+(F (0+ix.toNat)).left) (2*(↑L:Int)))) (uN.mk (1+ix) (fi+(F (0+ix.toNat)).right) (2*(↑L:Int))) i).cells]))] [some (some (BO j L l)),some (none)]) (kO (kz q0 (kz q1 (kz q2 AN)))) (rI (ix+1) (rI (tot+2*(↑L:Int)) (.cons (fn (by simp_all)) (.cons (BQ (2) (B4 1 (B8 ix L) (uN.mk (1+ix) (fi+(F (0+ix.toNat)).left) (2*(↑L:Int)))) (es) (Vn) (tot) (fi) (1+ix) (fi+(F (0+ix.toNat)).right) (2*(↑L:Int)) (by omega)) (rI (fi+(F (0+ix.toNat)).right) (rI (1+ix) (.cons (ihc (F (0+ix.toNat)).right) (.cons (BQ (1) (B8 ix L) (es) (Vn) (tot) (fi) (1+ix) (fi+(F (0+ix.toNat)).left) (2*(↑L:Int)) (by omega)) (rI (fi+(F (0+ix.toNat)).left) (rI (1+ix) (.cons (ihc (F (0+ix.toNat)).left) (.cons (Ea (es) (Vn) (tot) (fi) (0) (1+ix) (2*(↑L:Int))) (rI (1+ix) (rI (2*(↑L:Int)) (.cons (fy (by simp_all)) (rB ix K .nil)))))))))))))))) 1083197534374707740536742415 31 [0,1,2,3,19] 4
theorem yO (q0:Ah ix K)(q1:(ct (F (0+ix.toNat)).left)=true)(q2:(ct (F (0+ix.toNat)).right)=false):sR 4 (AH5) (frame 195 [(0,pv (AD q) 0),(1,fc (65) [] (Az q ns sv)),(2,bv true),(3,fc (66) (AB q) []),(9,pt 2 0),(13,fc (88) [] [pt 2 0]),(87,.ms 3 2 0 K none),(88,iv K),(89,iv ix)]) ((E2 es Vn tot fi K F)) (xN,(frame 195 [(0,pv (AD q) 0),(1,fc (65) [] [AX q,pv [AE ns sv] 0]),(2,bv true),(3,fc (66) (AB q) []),(9,pt 2 0),(13,fc (88) [] [pt 2 0]),(87,EV.ms 3 2 0 K none),(88,iv ↑K),(89,iv (ix+1))]),[fE.map false true (es++[(ag (F (0+ix.toNat)).cells,ag [iv 1,iv (-1)])]),fE.var false false [iv Vn,EV.ms 4 3 0 2 none,EV.mm 0,E4 tot L,iv fi],AR,oA 2 false K fun i=>(F i).cells,oA 3 false 2 fun i=>(B4 1 (B8 ix L) (uN.mk (1+ix) (fi+(F (0+ix.toNat)).left) (2*(↑L:Int))) i).cells]):=
 aM BL Bv _ (.mk (dS 0x10aaa021eaa062e03aea) [] [some (bv (ct (F (0+ix.toNat)).left)),some (bv (ct (F (0+ix.toNat)).right))] [some ((E0 Vn tot fi es ix L)),some ((iv 1,[AR,ML Vn tot fi,oD,Aj es,oA 3 false 2 fun i=>(B4 1 (B8 ix L) (uN.mk (1+ix) (fi+(F (0+ix.toNat)).left) (2*(↑L:Int))) i).cells]))] [some (some (BO j L l)),some (none)]) (kO (kz q0 (kz q1 (kz q2 AN)))) (rI (ix+1) (rI (tot+2*(↑L:Int)) (.cons (fn (by simp_all)) (.cons (ihc (F (0+ix.toNat)).right) (.cons (BQ (1) (B8 ix L) (es) (Vn) (tot) (fi) (1+ix) (fi+(F (0+ix.toNat)).left) (2*(↑L:Int)) (by omega)) (rI (fi+(F (0+ix.toNat)).left) (rI (1+ix) (.cons (ihc (F (0+ix.toNat)).left) (.cons (Ea (es) (Vn) (tot) (fi) (0) (1+ix) (2*(↑L:Int))) (rI (1+ix) (rI (2*(↑L:Int)) (.cons (fy (by simp_all)) (rB ix K .nil))))))))))))) 1083197534374707740536742415 31 [0,1,2,3,13] 4
theorem yP (q0:Ah ix K)(q1:(ct (F (0+ix.toNat)).left)=false)(q2:(ct (F (0+ix.toNat)).right)=true):sR 4 (AH5) (frame 195 [(0,pv (AD q) 0),(1,fc (65) [] (Az q ns sv)),(2,bv true),(3,fc (66) (AB q) []),(9,pt 2 0),(13,fc (88) [] [pt 2 0]),(87,.ms 3 2 0 K none),(88,iv K),(89,iv ix)]) ((E2 es Vn tot fi K F)) (xN,(frame 195 [(0,pv (AD q) 0),(1,fc (65) [] [AX q,pv [AE ns sv] 0]),(2,bv true),(3,fc (66) (AB q) []),(9,pt 2 0),(13,fc (88) [] [pt 2 0]),(87,EV.ms 3 2 0 K none),(88,iv ↑K),(89,iv (ix+1))]),[fE.map false true (es++[(ag (F (0+ix.toNat)).cells,ag [iv (-1),iv 1])]),fE.var false false [iv Vn,EV.ms 4 3 0 2 none,EV.mm 0,E4 tot L,iv fi],AR,oA 2 false K fun i=>(F i).cells,oA 3 false 2 fun i=>(B4 1 (B8 ix L) (uN.mk (1+ix) (fi+(F (0+ix.toNat)).right) (2*(↑L:Int))) i).cells]):=
 aM BL Bv _ (.mk (dS 0x10aaa021e032eaa05aea) [] [some (bv (ct (F (0+ix.toNat)).left)),some (bv (ct (F (0+ix.toNat)).right))] [some ((E0 Vn tot fi es ix L)),some ((iv 1,[AR,ML Vn tot fi,oD,Aj es,oA 3 false 2 fun i=>(B4 1 (B8 ix L) (uN.mk (1+ix) (fi+(F (0+ix.toNat)).right) (2*(↑L:Int))) i).cells]))] [some (some (BO j L l)),some (none)]) (kO (kz q0 (kz q1 (kz q2 AN)))) (rI (ix+1) (rI (tot+2*(↑L:Int)) (.cons (fn (by simp_all)) (.cons (BQ (1) (B8 ix L) (es) (Vn) (tot) (fi) (1+ix) (fi+(F (0+ix.toNat)).right) (2*(↑L:Int)) (by omega)) (rI (fi+(F (0+ix.toNat)).right) (rI (1+ix) (.cons (ihc (F (0+ix.toNat)).right) (.cons (ihc (F (0+ix.toNat)).left) (.cons (Ea (es) (Vn) (tot) (fi) (0) (1+ix) (2*(↑L:Int))) (rI (1+ix) (rI (2*(↑L:Int)) (.cons (fy (by simp_all)) (rB ix K .nil))))))))))))) 1083197534374707740536742415 31 [0,1,2,3,16] 4
theorem yQ (q0:Ah ix K)(q1:(ct (F (0+ix.toNat)).left)=false)(q2:(ct (F (0+ix.toNat)).right)=false):sR 4 (AH5) (frame 195 [(0,pv (AD q) 0),(1,fc (65) [] (Az q ns sv)),(2,bv true),(3,fc (66) (AB q) []),(9,pt 2 0),(13,fc (88) [] [pt 2 0]),(87,.ms 3 2 0 K none),(88,iv K),(89,iv ix)]) ((E2 es Vn tot fi K F)) (xN,(frame 195 [(0,pv (AD q) 0),(1,fc (65) [] [AX q,pv [AE ns sv] 0]),(2,bv true),(3,fc (66) (AB q) []),(9,pt 2 0),(13,fc (88) [] [pt 2 0]),(87,EV.ms 3 2 0 K none),(88,iv ↑K),(89,iv (ix+1))]),[fE.map false true (es++[(ag (F (0+ix.toNat)).cells,ag [iv (-1),iv (-1)])]),fE.var false false [iv Vn,EV.ms 4 3 0 1 none,EV.mm 0,E4 tot L,iv fi],AR,oA 2 false K fun i=>(F i).cells,oA 3 false 1 fun i=>(IW (E1 ix L) i).cells]):=
 aM BL Bv _ (.mk (dS 0x10aaa021e032e03aea) [] [some (bv (ct (F (0+ix.toNat)).left)),some (bv (ct (F (0+ix.toNat)).right))] [some ((E0 Vn tot fi es ix L))] [some (some (BO j L l)),some (none)]) (kO (kz q0 (kz q1 (kz q2 AN)))) (rI (ix+1) (rI (tot+2*(↑L:Int)) (.cons (fn (by simp_all)) (.cons (ihc (F (0+ix.toNat)).right) (.cons (ihc (F (0+ix.toNat)).left) (.cons (Ea (es) (Vn) (tot) (fi) (0) (1+ix) (2*(↑L:Int))) (rI (1+ix) (rI (2*(↑L:Int)) (.cons (fy (by simp_all)) (rB ix K .nil)))))))))) 1083197534374707740536742415 31 [0,1,2,3,5] 4
end
noncomputable abbrev yR:Code:=(cB (cR (cL (cR (cR (cR (cR (cR (cR (cR (AY prog 60)))))))))))
noncomputable abbrev Sj:Code:=(cB (cB (cR (cL (cR (cR (cR (cR (cR (cR (cR (AY prog 60))))))))))))
section
variable (q:fG)(ns:Nat)(sv:Nat->Int)(ct:Int->Bool)(K:Nat)(F:Nat->aF)(NA:Nat)(A:Nat->uN)(es:List (EV×EV))(Vn:Int)(tot:Int)(fi:Int)(j:Nat)(L:Nat)(l:Nat->Int)(bb:Bool)(ix:Int)(h0:0<=ix)(hK:K<=1000)(hNA:NA<=4000)(hL:L<=1000)(hf:0<=fi)(hf2:fi<=1000)(ht:0<=tot)(ht2:tot<=100000000)(hb:bb=true)(hF:ix<K->0<=(F (0+ix.toNat)).left/\(F (0+ix.toNat)).left<=1000/\0<=(F (0+ix.toNat)).right/\(F (0+ix.toNat)).right<=1000)(ihc:∀ x:Int,sP 65 [iv x,AX q,Ad ns sv] (bv (ct x)))(fy:ix<K->BM prog 94 (ag (F (0+ix.toNat)).cells) (D0 q) 0 (some (j,sl true 1 L fun p=>[iv (l p)])))(fn:ix<K->BM prog 94 (ag (F (0+ix.toNat)).cells) es 0 none)
include q ns sv ct K F NA A es Vn tot fi j L l bb ix h0 hK hNA hL hf hf2 ht ht2 hb hF ihc fy fn
theorem yS (q0:Ah ix K)(q1:(ct (F (0+ix.toNat)).left)=true)(q2:(ct (F (0+ix.toNat)).right)=true):sR 4 (AH5) (frame 195 [(0,pv (AD q) 0),(1,fc (65) [] (Az q ns sv)),(2,bv true),(3,fc (66) (AB q) []),(9,pt 2 0),(13,fc (88) [] [pt 2 0]),(87,.ms 3 2 0 K none),(88,iv K),(89,iv ix)]) ((Dr es Vn NA tot fi K F A)) (xN,(frame 195 [(0,pv (AD q) 0),(1,fc (65) [] [AX q,pv [AE ns sv] 0]),(2,bv true),(3,fc (66) (AB q) []),(9,pt 2 0),(13,fc (88) [] [pt 2 0]),(87,EV.ms 3 2 0 K none),(88,iv ↑K),(89,iv (ix+1))]),[fE.map false true (es++[(ag (F (0+ix.toNat)).cells,ag [iv ((↑NA:Int)+1),iv ((↑NA:Int)+1+1)])]),fE.var false false [iv Vn,EV.ms 4 3 0 (NA+1+1+1) none,EV.mm 0,E4 tot L,iv fi],AR,oA 2 false K fun i=>(F i).cells,oA 3 false (NA+1+1+1) fun i=>(B4 (NA+1+1) (B4 (NA+1) (Cj NA A ix L) (uN.mk (1+ix) (fi+(F (0+ix.toNat)).left) (2*(↑L:Int)))) (uN.mk (1+ix) (fi+(F (0+ix.toNat)).right) (2*(↑L:Int))) i).cells]):=
 aM BL Bv _ (.mk (dS 0x10aaa021eaa062eaa05aea) [] [some (bv (ct (F (0+ix.toNat)).left)),some (bv (ct (F (0+ix.toNat)).right))] [some ((E3 NA Vn tot fi es A ix L)),some ((iv ((↑NA:Int)+1),[AR,MM Vn NA tot fi,oD,Aj es,oA 3 false (NA+1+1) fun i=>(B4 (NA+1) (Cj NA A ix L) (uN.mk (1+ix) (fi+(F (0+ix.toNat)).left) (2*(↑L:Int))) i).cells])),some ((iv ((↑NA:Int)+1+1),[AR,fE.var false false [iv Vn,EV.ms 4 3 0 (NA+1+1+1) none,EV.mm 3,iv tot,iv fi],oD,Aj es,oA 3 false (NA+1+1+1) fun i=>(B4 (NA+1+1) (B4 (NA+1) (Cj NA A ix L) (uN.mk (1+ix) (fi+(F (0+ix.toNat)).left) (2*(↑L:Int)))) (uN.mk (1+ix) (fi+(F (0+ix.toNat)).right) (2*(↑L:Int))) i).cells]))] [some (some (BO j L l)),some (none)]) (kO (kz q0 (kz q1 (kz q2 AN)))) (rI (ix+1) (rI (tot+2*(↑L:Int)) (.cons (fn (by simp_all)) (.cons (BQ (NA+1+1) (B4 (NA+1) (Cj NA A ix L) (uN.mk (1+ix) (fi+(F (0+ix.toNat)).left) (2*(↑L:Int)))) (es) (Vn) (tot) (fi) (1+ix) (fi+(F (0+ix.toNat)).right) (2*(↑L:Int)) (by omega)) (rI (fi+(F (0+ix.toNat)).right) (rI (1+ix) (.cons (ihc (F (0+ix.toNat)).right) (.cons (BQ (NA+1) (Cj NA A ix L) (es) (Vn) (tot) (fi) (1+ix) (fi+(F (0+ix.toNat)).left) (2*(↑L:Int)) (by omega)) (rI (fi+(F (0+ix.toNat)).left) (rI (1+ix) (.cons (ihc (F (0+ix.toNat)).left) (.cons (BQ (NA) (A) (es) (Vn) (tot) (fi) (0) (1+ix) (2*(↑L:Int)) (by omega)) (rI (1+ix) (rI (2*(↑L:Int)) (.cons (fy (by simp_all)) (rB ix K .nil)))))))))))))))) 1083197534374707740536742415 31 [0,1,2,3,20] 4
theorem yT (q0:Ah ix K)(q1:(ct (F (0+ix.toNat)).left)=true)(q2:(ct (F (0+ix.toNat)).right)=false):sR 4 (AH5) (frame 195 [(0,pv (AD q) 0),(1,fc (65) [] (Az q ns sv)),(2,bv true),(3,fc (66) (AB q) []),(9,pt 2 0),(13,fc (88) [] [pt 2 0]),(87,.ms 3 2 0 K none),(88,iv K),(89,iv ix)]) ((Dr es Vn NA tot fi K F A)) (xN,(frame 195 [(0,pv (AD q) 0),(1,fc (65) [] [AX q,pv [AE ns sv] 0]),(2,bv true),(3,fc (66) (AB q) []),(9,pt 2 0),(13,fc (88) [] [pt 2 0]),(87,EV.ms 3 2 0 K none),(88,iv ↑K),(89,iv (ix+1))]),[fE.map false true (es++[(ag (F (0+ix.toNat)).cells,ag [iv ((↑NA:Int)+1),iv (-1)])]),fE.var false false [iv Vn,H8 NA,EV.mm 0,E4 tot L,iv fi],AR,oA 2 false K fun i=>(F i).cells,oA 3 false (NA+1+1) fun i=>(B4 (NA+1) (Cj NA A ix L) (uN.mk (1+ix) (fi+(F (0+ix.toNat)).left) (2*(↑L:Int))) i).cells]):=
 aM BL Bv _ (.mk (dS 0x10aaa021eaa062e03aea) [] [some (bv (ct (F (0+ix.toNat)).left)),some (bv (ct (F (0+ix.toNat)).right))] [some ((E3 NA Vn tot fi es A ix L)),some ((iv ((↑NA:Int)+1),[AR,MM Vn NA tot fi,oD,Aj es,oA 3 false (NA+1+1) fun i=>(B4 (NA+1) (Cj NA A ix L) (uN.mk (1+ix) (fi+(F (0+ix.toNat)).left) (2*(↑L:Int))) i).cells]))] [some (some (BO j L l)),some (none)]) (kO (kz q0 (kz q1 (kz q2 AN)))) (rI (ix+1) (rI (tot+2*(↑L:Int)) (.cons (fn (by simp_all)) (.cons (ihc (F (0+ix.toNat)).right) (.cons (BQ (NA+1) (Cj NA A ix L) (es) (Vn) (tot) (fi) (1+ix) (fi+(F (0+ix.toNat)).left) (2*(↑L:Int)) (by omega)) (rI (fi+(F (0+ix.toNat)).left) (rI (1+ix) (.cons (ihc (F (0+ix.toNat)).left) (.cons (BQ (NA) (A) (es) (Vn) (tot) (fi) (0) (1+ix) (2*(↑L:Int)) (by omega)) (rI (1+ix) (rI (2*(↑L:Int)) (.cons (fy (by simp_all)) (rB ix K .nil))))))))))))) 1083197534374707740536742415 31 [0,1,2,3,14] 4
theorem yU (q0:Ah ix K)(q1:(ct (F (0+ix.toNat)).left)=false)(q2:(ct (F (0+ix.toNat)).right)=true):sR 4 (AH5) (frame 195 [(0,pv (AD q) 0),(1,fc (65) [] (Az q ns sv)),(2,bv true),(3,fc (66) (AB q) []),(9,pt 2 0),(13,fc (88) [] [pt 2 0]),(87,.ms 3 2 0 K none),(88,iv K),(89,iv ix)]) ((Dr es Vn NA tot fi K F A)) (xN,(frame 195 [(0,pv (AD q) 0),(1,fc (65) [] [AX q,pv [AE ns sv] 0]),(2,bv true),(3,fc (66) (AB q) []),(9,pt 2 0),(13,fc (88) [] [pt 2 0]),(87,EV.ms 3 2 0 K none),(88,iv ↑K),(89,iv (ix+1))]),[fE.map false true (es++[(ag (F (0+ix.toNat)).cells,ag [iv (-1),iv ((↑NA:Int)+1)])]),fE.var false false [iv Vn,H8 NA,EV.mm 0,E4 tot L,iv fi],AR,oA 2 false K fun i=>(F i).cells,oA 3 false (NA+1+1) fun i=>(B4 (NA+1) (Cj NA A ix L) (uN.mk (1+ix) (fi+(F (0+ix.toNat)).right) (2*(↑L:Int))) i).cells]):=
 aM BL Bv _ (.mk (dS 0x10aaa021e032eaa05aea) [] [some (bv (ct (F (0+ix.toNat)).left)),some (bv (ct (F (0+ix.toNat)).right))] [some ((E3 NA Vn tot fi es A ix L)),some ((iv ((↑NA:Int)+1),[AR,MM Vn NA tot fi,oD,Aj es,oA 3 false (NA+1+1) fun i=>(B4 (NA+1) (Cj NA A ix L) (uN.mk (1+ix) (fi+(F (0+ix.toNat)).right) (2*(↑L:Int))) i).cells]))] [some (some (BO j L l)),some (none)]) (kO (kz q0 (kz q1 (kz q2 AN)))) (rI (ix+1) (rI (tot+2*(↑L:Int)) (.cons (fn (by simp_all)) (.cons (BQ (NA+1) (Cj NA A ix L) (es) (Vn) (tot) (fi) (1+ix) (fi+(F (0+ix.toNat)).right) (2*(↑L:Int)) (by omega)) (rI (fi+(F (0+ix.toNat)).right) (rI (1+ix) (.cons (ihc (F (0+ix.toNat)).right) (.cons (ihc (F (0+ix.toNat)).left) (.cons (BQ (NA) (A) (es) (Vn) (tot) (fi) (0) (1+ix) (2*(↑L:Int)) (by omega)) (rI (1+ix) (rI (2*(↑L:Int)) (.cons (fy (by simp_all)) (rB ix K .nil))))))))))))) 1083197534374707740536742415 31 [0,1,2,3,17] 4
theorem yV (q0:Ah ix K)(q1:(ct (F (0+ix.toNat)).left)=false)(q2:(ct (F (0+ix.toNat)).right)=false):sR 4 (AH5) (frame 195 [(0,pv (AD q) 0),(1,fc (65) [] (Az q ns sv)),(2,bv true),(3,fc (66) (AB q) []),(9,pt 2 0),(13,fc (88) [] [pt 2 0]),(87,.ms 3 2 0 K none),(88,iv K),(89,iv ix)]) ((Dr es Vn NA tot fi K F A)) (xN,(frame 195 [(0,pv (AD q) 0),(1,fc (65) [] [AX q,pv [AE ns sv] 0]),(2,bv true),(3,fc (66) (AB q) []),(9,pt 2 0),(13,fc (88) [] [pt 2 0]),(87,EV.ms 3 2 0 K none),(88,iv ↑K),(89,iv (ix+1))]),[fE.map false true (es++[(ag (F (0+ix.toNat)).cells,ag [iv (-1),iv (-1)])]),fE.var false false [iv Vn,EV.ms 4 3 0 (NA+1) none,EV.mm 0,E4 tot L,iv fi],AR,oA 2 false K fun i=>(F i).cells,oA 3 false (NA+1) fun i=>(B4 NA A (E1 ix L) i).cells]):=
 aM BL Bv _ (.mk (dS 0x10aaa021e032e03aea) [] [some (bv (ct (F (0+ix.toNat)).left)),some (bv (ct (F (0+ix.toNat)).right))] [some ((E3 NA Vn tot fi es A ix L))] [some (some (BO j L l)),some (none)]) (kO (kz q0 (kz q1 (kz q2 AN)))) (rI (ix+1) (rI (tot+2*(↑L:Int)) (.cons (fn (by simp_all)) (.cons (ihc (F (0+ix.toNat)).right) (.cons (ihc (F (0+ix.toNat)).left) (.cons (BQ (NA) (A) (es) (Vn) (tot) (fi) (0) (1+ix) (2*(↑L:Int)) (by omega)) (rI (1+ix) (rI (2*(↑L:Int)) (.cons (fy (by simp_all)) (rB ix K .nil)))))))))) 1083197534374707740536742415 31 [0,1,2,3,6] 4
theorem yW (q0:Cf ix K):sR 4 (AH5) (frame 195 [(0,pv (AD q) 0),(1,fc (65) [] (Az q ns sv)),(2,bv true),(3,fc (66) (AB q) []),(9,pt 2 0),(13,fc (88) [] [pt 2 0]),(87,.ms 3 2 0 K none),(88,iv K),(89,iv ix)]) ((Dr es Vn NA tot fi K F A)) (xL 2,(AIC q ns sv),[Aj es,Js Vn NA tot fi,AR,oA 2 false K fun i=>(F i).cells,oA 3 false NA fun i=>(A i).cells]):=
 aM BL Bv _ (.mk (dS 16) [] [] [] []) (kO (kz q0 AN)) .nil 8719 31 [0,1,2,3,4] 4
end
abbrev Pt (a0:Int)(a1:fG):=decide (a0<(↑a1.n:Int))
abbrev E5 (a0:Int):=a0<=1000000000000000
abbrev Gf (a0:Int)(a1:fG):=(Pt a0 a1)=false
abbrev Gg (a0:Int)(a1:Int)(a2:Int):=fE.var false false [iv a0,Aq,.mm 0,iv a1,iv a2]
noncomputable abbrev AIQ:=cB (cR (cL (cR (AI6))))
abbrev CP (a0:Int)(a1:fG):=(Pt a0 a1)=true
noncomputable abbrev AID (a0:fG)(a1:Nat)(a2:Nat->Int)(a3:Int):=frame 195 [(0,pv (AD a0) 0),(1,fc (59) [] [Jn a1 a2]),(2,bv false),(3,fc (61) (Ge a0) []),(9,pt 2 0),(13,fc (88) [] [pt 2 0]),(157,iv a0.n),(158,iv a3)]
noncomputable abbrev AH2:=cB (AIQ)
section
variable (q:fG)(ns:Nat)(sv:Nat->Int)(ct:Int->Bool)(mo:Int->Int)(NA:Nat)(A:Nat->uN)(es:List (EV×EV))(Vn:Int)(tot:Int)(fi:Int)(ix:Int)(h0:0<=ix)(hn:q.n<=1000)(hnm:q.n=q.m')(hNA:NA<=4000)(hf:0<=fi)(hf2:fi<=1000)(hv:0<=Vn)(hv2:Vn<=3000)(ht: -1000000000000000<=tot)(ht2:E5 tot)(hm: -100000000000<=mo ix)(hm2:mo ix<=100000000000)(ihc:∀ x:Int,sP 59 [iv x,Ad ns sv] (bv (ct x)))(ihm:∀ x:Int,0<=x->x<q.m'->sP 61 [Ak q,iv x] (iv (mo x)))
include q ns sv ct mo NA A es Vn tot fi ix h0 hn hnm hNA hf hf2 hv hv2 ht ht2 hm hm2 ihc ihm
theorem yX (q0:CP ix q)(q1:(ct ix)=true):sR 3 (AH2) (AID q ns sv ix) ([Aj es,Gg Vn tot fi,AR]) (xN,(frame 195 [(0,pv (AD q) 0),(1,fc (59) [] [pv [AE ns sv] 0]),(2,bv false),(3,fc (61) (AB q) []),(9,pt 2 0),(13,fc (88) [] [pt 2 0]),(157,iv ↑q.n),(158,iv (ix+1))]),[Aj es,fE.var false false [iv Vn,EV.ms 3 3 0 1 none,EV.mm 0,iv (tot+mo ix),iv fi],AR,oA 3 false 1 fun i=>(IW (uN.mk (fi+ix) (Vn - 1) (mo ix)) i).cells]):=
 aM BL Bv _ (.mk (dS 69166177002) [] [some (bv (ct ix)),some (iv (mo ix)),some (iv (mo ix))] [some ((iv 0,[AR,MK Vn tot fi,Aj es,oA 3 false 1 fun i=>(IW (uN.mk (fi+ix) (Vn - 1) (mo ix)) i).cells]))] []) (kO (kz q0 (kz q1 AN))) (rI (ix+1) (rI (tot+mo ix) (.cons (ihm ix (by omega) (by simp_all<;>omega)) (.cons (Ea (es) (Vn) (tot) (fi) (fi+ix) (Vn - 1) (mo ix)) (.cons (ihm ix (by omega) (by simp_all<;>omega)) (rI (Vn - 1) (rI (fi+ix) (.cons (ihc ix) .nil)))))))) 548063113999088594326381812268606132370974712335 15 [0,1,2,9] 3
theorem Wu (q0:CP ix q)(q1:(ct ix)=false):sR 3 (AH2) (AID q ns sv ix) ([Aj es,Gg Vn tot fi,AR]) (xN,(frame 195 [(0,pv (AD q) 0),(1,fc (59) [] [pv [AE ns sv] 0]),(2,bv false),(3,fc (61) (AB q) []),(9,pt 2 0),(13,fc (88) [] [pt 2 0]),(157,iv ↑q.n),(158,iv (ix+1))]),[Aj es,Jq Vn tot fi,AR]):=
 aM BL Bv _ (.mk (dS 4122) [] [some (bv (ct ix))] [] []) (kO (kz q0 (kz q1 AN))) (rI (ix+1) (.cons (ihc ix) .nil)) 548063113999088594326381812268606132370974712335 7 [0,1,2] 3
theorem yY (q0:Gf ix q):sR 3 (AH2) (AID q ns sv ix) ([Aj es,Gg Vn tot fi,AR]) (xL 6,(frame 195 [(0,pv (AD q) 0),(1,fc (59) [] [pv [AE ns sv] 0]),(2,bv false),(3,fc (61) (AB q) []),(9,pt 2 0),(13,fc (88) [] [pt 2 0])]),[Aj es,Jq Vn tot fi,AR]):=
 aM BL Bv _ (.mk (dS 16) [] [] [] []) (kO (kz q0 AN)) .nil 8719 7 [0,1,2] 3
end
noncomputable abbrev Sk:Code:=(cB (cR (cL (cR (cR (cR (cR (cR (cR (cR (cR (AY prog 60))))))))))))
noncomputable abbrev OO:Code:=(cB (cB (cR (cL (cR (cR (cR (cR (cR (cR (cR (cR (AY prog 60)))))))))))))
abbrev Jv (a0:Int)(a1:Nat)(a2:Int)(a3:Int):=fE.var false false [iv a0,EV.ms 3 3 0 a1 none,EV.mm 0,iv a2,iv a3]
abbrev VN (a0:Int)(a1:Nat)(a2:Int)(a3:Int):=fE.var false false [iv a0,.ms 3 3 0 a1 none,.mm 0,iv a2,iv a3]
section
variable (q:fG)(ns:Nat)(sv:Nat->Int)(ct:Int->Bool)(mo:Int->Int)(NA:Nat)(A:Nat->uN)(es:List (EV×EV))(Vn:Int)(tot:Int)(fi:Int)(ix:Int)(h0:0<=ix)(hn:q.n<=1000)(hnm:q.n=q.m')(hNA:NA<=4000)(hf:0<=fi)(hf2:fi<=1000)(hv:0<=Vn)(hv2:Vn<=3000)(ht: -1000000000000000<=tot)(ht2:E5 tot)(hm: -100000000000<=mo ix)(hm2:mo ix<=100000000000)(ihc:∀ x:Int,sP 59 [iv x,Ad ns sv] (bv (ct x)))(ihm:∀ x:Int,0<=x->x<q.m'->sP 61 [Ak q,iv x] (iv (mo x)))
include q ns sv ct mo NA A es Vn tot fi ix h0 hn hnm hNA hf hf2 hv hv2 ht ht2 hm hm2 ihc ihm
theorem yZ (q0:CP ix q)(q1:(ct ix)=true):sR 3 (AH2) (AID q ns sv ix) ([Aj es,VN Vn NA tot fi,AR,oA 3 false NA fun i=>(A i).cells]) (xN,(frame 195 [(0,pv (AD q) 0),(1,fc (59) [] [pv [AE ns sv] 0]),(2,bv false),(3,fc (61) (AB q) []),(9,pt 2 0),(13,fc (88) [] [pt 2 0]),(157,iv ↑q.n),(158,iv (ix+1))]),[Aj es,fE.var false false [iv Vn,EV.ms 3 3 0 (NA+1) none,EV.mm 0,iv (tot+mo ix),iv fi],AR,oA 3 false (NA+1) fun i=>(B4 NA A (uN.mk (fi+ix) (Vn - 1) (mo ix)) i).cells]):=
 aM BL Bv _ (.mk (dS 69166177002) [] [some (bv (ct ix)),some (iv (mo ix)),some (iv (mo ix))] [some ((iv ↑NA,[AR,Pr Vn NA tot fi,oD,Aj es,oA 3 false (NA+1) fun i=>(B4 NA A (uN.mk (fi+ix) (Vn - 1) (mo ix)) i).cells]))] []) (kO (kz q0 (kz q1 AN))) (rI (ix+1) (rI (tot+mo ix) (.cons (ihm ix (by omega) (by simp_all<;>omega)) (.cons (BQ (NA) (A) (es) (Vn) (tot) (fi) (fi+ix) (Vn - 1) (mo ix) (by omega)) (.cons (ihm ix (by omega) (by simp_all<;>omega)) (rI (Vn - 1) (rI (fi+ix) (.cons (ihc ix) .nil)))))))) 548063113999088594326381812268606132370974712335 15 [0,1,2,10] 3
theorem y0 (q0:CP ix q)(q1:(ct ix)=false):sR 3 (AH2) (AID q ns sv ix) ([Aj es,VN Vn NA tot fi,AR,oA 3 false NA fun i=>(A i).cells]) (xN,(frame 195 [(0,pv (AD q) 0),(1,fc (59) [] [pv [AE ns sv] 0]),(2,bv false),(3,fc (61) (AB q) []),(9,pt 2 0),(13,fc (88) [] [pt 2 0]),(157,iv ↑q.n),(158,iv (ix+1))]),[Aj es,Jv Vn NA tot fi,AR,oA 3 false NA fun i=>(A i).cells]):=
 aM BL Bv _ (.mk (dS 4122) [] [some (bv (ct ix))] [] []) (kO (kz q0 (kz q1 AN))) (rI (ix+1) (.cons (ihc ix) .nil)) 548063113999088594326381812268606132370974712335 15 [0,1,2,3] 3
theorem y6 (q0:Gf ix q):sR 3 (AH2) (AID q ns sv ix) ([Aj es,VN Vn NA tot fi,AR,oA 3 false NA fun i=>(A i).cells]) (xL 6,(frame 195 [(0,pv (AD q) 0),(1,fc (59) [] [pv [AE ns sv] 0]),(2,bv false),(3,fc (61) (AB q) []),(9,pt 2 0),(13,fc (88) [] [pt 2 0])]),[Aj es,Jv Vn NA tot fi,AR,oA 3 false NA fun i=>(A i).cells]):=
 aM BL Bv _ (.mk (dS 16) [] [] [] []) (kO (kz q0 AN)) .nil 8719 15 [0,1,2,3] 3
end
noncomputable abbrev AIE (a0:fG)(a1:Nat)(a2:Nat->Int)(a3:Int):=frame 195 [(0,pv (AD a0) 0),(1,fc (65) [] [H7 a0,Jn a1 a2]),(2,bv true),(3,fc (66) (Ge a0) []),(9,pt 2 0),(13,fc (88) [] [pt 2 0]),(157,iv a0.n),(158,iv a3)]
section
variable (q:fG)(ns:Nat)(sv:Nat->Int)(ct:Int->Bool)(mo:Int->Int)(NA:Nat)(A:Nat->uN)(es:List (EV×EV))(Vn:Int)(tot:Int)(fi:Int)(ix:Int)(h0:0<=ix)(hn:q.n<=1000)(hnm:q.n=q.m')(hNA:NA<=4000)(hf:0<=fi)(hf2:fi<=1000)(hv:0<=Vn)(hv2:Vn<=3000)(ht: -1000000000000000<=tot)(ht2:E5 tot)(hm: -100000000000<=mo ix)(hm2:mo ix<=100000000000)(ihc:∀ x:Int,sP 65 [iv x,AX q,Ad ns sv] (bv (ct x)))(ihm:∀ x:Int,0<=x->x<q.m'->sP 66 [Ak q,iv x] (iv (mo x)))
include q ns sv ct mo NA A es Vn tot fi ix h0 hn hnm hNA hf hf2 hv hv2 ht ht2 hm hm2 ihc ihm
theorem y7 (q0:CP ix q)(q1:(ct ix)=true):sR 3 (AH2) (AIE q ns sv ix) ([Aj es,Gg Vn tot fi,AR]) (xN,(frame 195 [(0,pv (AD q) 0),(1,fc (65) [] [AX q,pv [AE ns sv] 0]),(2,bv true),(3,fc (66) (AB q) []),(9,pt 2 0),(13,fc (88) [] [pt 2 0]),(157,iv ↑q.n),(158,iv (ix+1))]),[Aj es,fE.var false false [iv Vn,EV.ms 3 3 0 1 none,EV.mm 0,iv tot,iv fi],AR,oA 3 false 1 fun i=>(IW (uN.mk (fi+ix) (Vn - 1) (mo ix)) i).cells]):=
 aM BL Bv _ (.mk (dS 4322886062) [] [some (bv (ct ix)),some (iv (mo ix))] [some ((iv 0,[AR,MK Vn tot fi,Aj es,oA 3 false 1 fun i=>(IW (uN.mk (fi+ix) (Vn - 1) (mo ix)) i).cells]))] []) (kO (kz q0 (kz q1 AN))) (rI (ix+1) (.cons (Ea (es) (Vn) (tot) (fi) (fi+ix) (Vn - 1) (mo ix)) (.cons (ihm ix (by omega) (by simp_all<;>omega)) (rI (Vn - 1) (rI (fi+ix) (.cons (ihc ix) .nil)))))) 548063113999088594326381812268606132370974712335 15 [0,1,2,9] 3
theorem Wv (q0:CP ix q)(q1:(ct ix)=false):sR 3 (AH2) (AIE q ns sv ix) ([Aj es,Gg Vn tot fi,AR]) (xN,(frame 195 [(0,pv (AD q) 0),(1,fc (65) [] [AX q,pv [AE ns sv] 0]),(2,bv true),(3,fc (66) (AB q) []),(9,pt 2 0),(13,fc (88) [] [pt 2 0]),(157,iv ↑q.n),(158,iv (ix+1))]),[Aj es,Jq Vn tot fi,AR]):=
 aM BL Bv _ (.mk (dS 4122) [] [some (bv (ct ix))] [] []) (kO (kz q0 (kz q1 AN))) (rI (ix+1) (.cons (ihc ix) .nil)) 548063113999088594326381812268606132370974712335 7 [0,1,2] 3
theorem y8 (q0:Gf ix q):sR 3 (AH2) (AIE q ns sv ix) ([Aj es,Gg Vn tot fi,AR]) (xL 6,(AIC q ns sv),[Aj es,Jq Vn tot fi,AR]):=
 aM BL Bv _ (.mk (dS 16) [] [] [] []) (kO (kz q0 AN)) .nil 8719 7 [0,1,2] 3
end
noncomputable abbrev Sl:Code:=(cB (cR (cL (cR (cR (cR (cR (cR (cR (cR (cR (AY prog 60))))))))))))
noncomputable abbrev OP:Code:=(cB (cB (cR (cL (cR (cR (cR (cR (cR (cR (cR (cR (AY prog 60)))))))))))))
section
variable (q:fG)(ns:Nat)(sv:Nat->Int)(ct:Int->Bool)(mo:Int->Int)(NA:Nat)(A:Nat->uN)(es:List (EV×EV))(Vn:Int)(tot:Int)(fi:Int)(ix:Int)(h0:0<=ix)(hn:q.n<=1000)(hnm:q.n=q.m')(hNA:NA<=4000)(hf:0<=fi)(hf2:fi<=1000)(hv:0<=Vn)(hv2:Vn<=3000)(ht: -1000000000000000<=tot)(ht2:E5 tot)(hm: -100000000000<=mo ix)(hm2:mo ix<=100000000000)(ihc:∀ x:Int,sP 65 [iv x,AX q,Ad ns sv] (bv (ct x)))(ihm:∀ x:Int,0<=x->x<q.m'->sP 66 [Ak q,iv x] (iv (mo x)))
include q ns sv ct mo NA A es Vn tot fi ix h0 hn hnm hNA hf hf2 hv hv2 ht ht2 hm hm2 ihc ihm
theorem y9 (q0:CP ix q)(q1:(ct ix)=true):sR 3 (AH2) (AIE q ns sv ix) ([Aj es,VN Vn NA tot fi,AR,oA 3 false NA fun i=>(A i).cells]) (xN,(frame 195 [(0,pv (AD q) 0),(1,fc (65) [] [AX q,pv [AE ns sv] 0]),(2,bv true),(3,fc (66) (AB q) []),(9,pt 2 0),(13,fc (88) [] [pt 2 0]),(157,iv ↑q.n),(158,iv (ix+1))]),[Aj es,fE.var false false [iv Vn,EV.ms 3 3 0 (NA+1) none,EV.mm 0,iv tot,iv fi],AR,oA 3 false (NA+1) fun i=>(B4 NA A (uN.mk (fi+ix) (Vn - 1) (mo ix)) i).cells]):=
 aM BL Bv _ (.mk (dS 4322886062) [] [some (bv (ct ix)),some (iv (mo ix))] [some ((iv ↑NA,[AR,Pr Vn NA tot fi,oD,Aj es,oA 3 false (NA+1) fun i=>(B4 NA A (uN.mk (fi+ix) (Vn - 1) (mo ix)) i).cells]))] []) (kO (kz q0 (kz q1 AN))) (rI (ix+1) (.cons (BQ (NA) (A) (es) (Vn) (tot) (fi) (fi+ix) (Vn - 1) (mo ix) (by omega)) (.cons (ihm ix (by omega) (by simp_all<;>omega)) (rI (Vn - 1) (rI (fi+ix) (.cons (ihc ix) .nil)))))) 548063113999088594326381812268606132370974712335 15 [0,1,2,10] 3
theorem xA (q0:CP ix q)(q1:(ct ix)=false):sR 3 (AH2) (AIE q ns sv ix) ([Aj es,VN Vn NA tot fi,AR,oA 3 false NA fun i=>(A i).cells]) (xN,(frame 195 [(0,pv (AD q) 0),(1,fc (65) [] [AX q,pv [AE ns sv] 0]),(2,bv true),(3,fc (66) (AB q) []),(9,pt 2 0),(13,fc (88) [] [pt 2 0]),(157,iv ↑q.n),(158,iv (ix+1))]),[Aj es,Jv Vn NA tot fi,AR,oA 3 false NA fun i=>(A i).cells]):=
 aM BL Bv _ (.mk (dS 4122) [] [some (bv (ct ix))] [] []) (kO (kz q0 (kz q1 AN))) (rI (ix+1) (.cons (ihc ix) .nil)) 548063113999088594326381812268606132370974712335 15 [0,1,2,3] 3
theorem xB (q0:Gf ix q):sR 3 (AH2) (AIE q ns sv ix) ([Aj es,VN Vn NA tot fi,AR,oA 3 false NA fun i=>(A i).cells]) (xL 6,(AIC q ns sv),[Aj es,Jv Vn NA tot fi,AR,oA 3 false NA fun i=>(A i).cells]):=
 aM BL Bv _ (.mk (dS 16) [] [] [] []) (kO (kz q0 AN)) .nil 8719 15 [0,1,2,3] 3
end
abbrev Jw (a0:List (EV×EV))(a1:Int)(a2:Nat)(a3:Int)(a4:Int)(a5:Nat->uN):=[H5 a0,Ps a1 a2 a3 a4,AR,oD,oA 3 false a2 fun i=>(a5 i).cells]
section
variable (q:fG)(ns:Nat)(sv:Nat->Int)(ct:Int->Bool)(mo:Int->Int)(NA:Nat)(A:Nat->uN)(es:List (EV×EV))(Vn:Int)(tot:Int)(fi:Int)(ix:Int)(h0:0<=ix)(hn:q.n<=1000)(hnm:q.n=q.m')(hNA:NA<=4000)(hf:0<=fi)(hf2:fi<=1000)(hv:0<=Vn)(hv2:Vn<=3000)(ht: -1000000000000000<=tot)(ht2:E5 tot)(hm: -100000000000<=mo ix)(hm2:mo ix<=100000000000)(ihc:∀ x:Int,sP 59 [iv x,Ad ns sv] (bv (ct x)))(ihm:∀ x:Int,0<=x->x<q.m'->sP 61 [Ak q,iv x] (iv (mo x)))
include q ns sv ct mo NA A es Vn tot fi ix h0 hn hnm hNA hf hf2 hv hv2 ht ht2 hm hm2 ihc ihm
theorem xC (q0:CP ix q)(q1:(ct ix)=true):sR 5 (AH2) (AID q ns sv ix) ((Jw es Vn NA tot fi A)) (xN,(frame 195 [(0,pv (AD q) 0),(1,fc (59) [] [pv [AE ns sv] 0]),(2,bv false),(3,fc (61) (AB q) []),(9,pt 2 0),(13,fc (88) [] [pt 2 0]),(157,iv ↑q.n),(158,iv (ix+1))]),[Aj es,fE.var false false [iv Vn,EV.ms 5 3 0 (NA+1) none,EV.mm 0,iv (tot+mo ix),iv fi],AR,oD,oD,oA 3 false (NA+1) fun i=>(B4 NA A (uN.mk (fi+ix) (Vn - 1) (mo ix)) i).cells]):=
 aM BL Bv _ (.mk (dS 69166177002) [] [some (bv (ct ix)),some (iv (mo ix)),some (iv (mo ix))] [some ((iv ↑NA,[AR,Pr Vn NA tot fi,oD,Aj es,oA 3 false (NA+1) fun i=>(B4 NA A (uN.mk (fi+ix) (Vn - 1) (mo ix)) i).cells]))] []) (kO (kz q0 (kz q1 AN))) (rI (ix+1) (rI (tot+mo ix) (.cons (ihm ix (by omega) (by simp_all<;>omega)) (.cons (BQ (NA) (A) (es) (Vn) (tot) (fi) (fi+ix) (Vn - 1) (mo ix) (by omega)) (.cons (ihm ix (by omega) (by simp_all<;>omega)) (rI (Vn - 1) (rI (fi+ix) (.cons (ihc ix) .nil)))))))) 548063113999088594326381812268606132370974712335 39 [0,1,2,3,4,11] 5
theorem xD (q0:CP ix q)(q1:(ct ix)=false):sR 5 (AH2) (AID q ns sv ix) ((Jw es Vn NA tot fi A)) (xN,(frame 195 [(0,pv (AD q) 0),(1,fc (59) [] [pv [AE ns sv] 0]),(2,bv false),(3,fc (61) (AB q) []),(9,pt 2 0),(13,fc (88) [] [pt 2 0]),(157,iv ↑q.n),(158,iv (ix+1))]),[Aj es,Js Vn NA tot fi,AR,oD,oA 3 false NA fun i=>(A i).cells]):=
 aM BL Bv _ (.mk (dS 4122) [] [some (bv (ct ix))] [] []) (kO (kz q0 (kz q1 AN))) (rI (ix+1) (.cons (ihc ix) .nil)) 548063113999088594326381812268606132370974712335 23 [0,1,2,3,4] 5
end
abbrev Jx (a0:Int)(a1:Nat)(a2:Int)(a3:Int):=fE.var false false [iv a0,EV.ms 5 3 0 a1 none,EV.mm 0,iv a2,iv a3]
abbrev VO (a0:Int)(a1:Nat)(a2:Int)(a3:Int):=fE.var false false [iv a0,.ms 5 3 0 a1 none,.mm 0,iv a2,iv a3]
abbrev Gj (a0:List (EV×EV))(a1:Int)(a2:Nat)(a3:Int)(a4:Int)(a5:Nat->uN):=[H5 a0,VO a1 a2 a3 a4,AR,oD,oD,oA 3 false a2 fun i=>(a5 i).cells]
section
variable (q:fG)(ns:Nat)(sv:Nat->Int)(ct:Int->Bool)(mo:Int->Int)(NA:Nat)(A:Nat->uN)(es:List (EV×EV))(Vn:Int)(tot:Int)(fi:Int)(ix:Int)(h0:0<=ix)(hn:q.n<=1000)(hnm:q.n=q.m')(hNA:NA<=4000)(hf:0<=fi)(hf2:fi<=1000)(hv:0<=Vn)(hv2:Vn<=3000)(ht: -1000000000000000<=tot)(ht2:E5 tot)(hm: -100000000000<=mo ix)(hm2:mo ix<=100000000000)(ihc:∀ x:Int,sP 59 [iv x,Ad ns sv] (bv (ct x)))(ihm:∀ x:Int,0<=x->x<q.m'->sP 61 [Ak q,iv x] (iv (mo x)))
include q ns sv ct mo NA A es Vn tot fi ix h0 hn hnm hNA hf hf2 hv hv2 ht ht2 hm hm2 ihc ihm
theorem xE (q0:CP ix q)(q1:(ct ix)=true):sR 5 (AH2) (AID q ns sv ix) ((Gj es Vn NA tot fi A)) (xN,(frame 195 [(0,pv (AD q) 0),(1,fc (59) [] [pv [AE ns sv] 0]),(2,bv false),(3,fc (61) (AB q) []),(9,pt 2 0),(13,fc (88) [] [pt 2 0]),(157,iv ↑q.n),(158,iv (ix+1))]),[Aj es,fE.var false false [iv Vn,EV.ms 5 3 0 (NA+1) none,EV.mm 0,iv (tot+mo ix),iv fi],AR,oD,oD,oA 3 false (NA+1) fun i=>(B4 NA A (uN.mk (fi+ix) (Vn - 1) (mo ix)) i).cells]):=
 aM BL Bv _ (.mk (dS 69166177002) [] [some (bv (ct ix)),some (iv (mo ix)),some (iv (mo ix))] [some ((iv ↑NA,[AR,Pr Vn NA tot fi,oD,Aj es,oA 3 false (NA+1) fun i=>(B4 NA A (uN.mk (fi+ix) (Vn - 1) (mo ix)) i).cells]))] []) (kO (kz q0 (kz q1 AN))) (rI (ix+1) (rI (tot+mo ix) (.cons (ihm ix (by omega) (by simp_all<;>omega)) (.cons (BQ (NA) (A) (es) (Vn) (tot) (fi) (fi+ix) (Vn - 1) (mo ix) (by omega)) (.cons (ihm ix (by omega) (by simp_all<;>omega)) (rI (Vn - 1) (rI (fi+ix) (.cons (ihc ix) .nil)))))))) 548063113999088594326381812268606132370974712335 39 [0,1,2,3,4,12] 5
theorem xF (q0:CP ix q)(q1:(ct ix)=false):sR 5 (AH2) (AID q ns sv ix) ((Gj es Vn NA tot fi A)) (xN,(frame 195 [(0,pv (AD q) 0),(1,fc (59) [] [pv [AE ns sv] 0]),(2,bv false),(3,fc (61) (AB q) []),(9,pt 2 0),(13,fc (88) [] [pt 2 0]),(157,iv ↑q.n),(158,iv (ix+1))]),[Aj es,Jx Vn NA tot fi,AR,oD,oD,oA 3 false NA fun i=>(A i).cells]):=
 aM BL Bv _ (.mk (dS 4122) [] [some (bv (ct ix))] [] []) (kO (kz q0 (kz q1 AN))) (rI (ix+1) (.cons (ihc ix) .nil)) 548063113999088594326381812268606132370974712335 39 [0,1,2,3,4,5] 5
theorem xG (q0:Gf ix q):sR 5 (AH2) (AID q ns sv ix) ((Gj es Vn NA tot fi A)) (xL 6,(frame 195 [(0,pv (AD q) 0),(1,fc (59) [] [pv [AE ns sv] 0]),(2,bv false),(3,fc (61) (AB q) []),(9,pt 2 0),(13,fc (88) [] [pt 2 0])]),[Aj es,Jx Vn NA tot fi,AR,oD,oD,oA 3 false NA fun i=>(A i).cells]):=
 aM BL Bv _ (.mk (dS 16) [] [] [] []) (kO (kz q0 AN)) .nil 8719 39 [0,1,2,3,4,5] 5
end
section
variable (q:fG)(ns:Nat)(sv:Nat->Int)(ct:Int->Bool)(mo:Int->Int)(NA:Nat)(A:Nat->uN)(es:List (EV×EV))(Vn:Int)(tot:Int)(fi:Int)(ix:Int)(h0:0<=ix)(hn:q.n<=1000)(hnm:q.n=q.m')(hNA:NA<=4000)(hf:0<=fi)(hf2:fi<=1000)(hv:0<=Vn)(hv2:Vn<=3000)(ht: -1000000000000000<=tot)(ht2:E5 tot)(hm: -100000000000<=mo ix)(hm2:mo ix<=100000000000)(ihc:∀ x:Int,sP 65 [iv x,AX q,Ad ns sv] (bv (ct x)))(ihm:∀ x:Int,0<=x->x<q.m'->sP 66 [Ak q,iv x] (iv (mo x)))
include q ns sv ct mo NA A es Vn tot fi ix h0 hn hnm hNA hf hf2 hv hv2 ht ht2 hm hm2 ihc ihm
theorem xH (q0:CP ix q)(q1:(ct ix)=true):sR 5 (AH2) (AIE q ns sv ix) ((Jw es Vn NA tot fi A)) (xN,(frame 195 [(0,pv (AD q) 0),(1,fc (65) [] [AX q,pv [AE ns sv] 0]),(2,bv true),(3,fc (66) (AB q) []),(9,pt 2 0),(13,fc (88) [] [pt 2 0]),(157,iv ↑q.n),(158,iv (ix+1))]),[Aj es,fE.var false false [iv Vn,EV.ms 5 3 0 (NA+1) none,EV.mm 0,iv tot,iv fi],AR,oD,oD,oA 3 false (NA+1) fun i=>(B4 NA A (uN.mk (fi+ix) (Vn - 1) (mo ix)) i).cells]):=
 aM BL Bv _ (.mk (dS 4322886062) [] [some (bv (ct ix)),some (iv (mo ix))] [some ((iv ↑NA,[AR,Pr Vn NA tot fi,oD,Aj es,oA 3 false (NA+1) fun i=>(B4 NA A (uN.mk (fi+ix) (Vn - 1) (mo ix)) i).cells]))] []) (kO (kz q0 (kz q1 AN))) (rI (ix+1) (.cons (BQ (NA) (A) (es) (Vn) (tot) (fi) (fi+ix) (Vn - 1) (mo ix) (by omega)) (.cons (ihm ix (by omega) (by simp_all<;>omega)) (rI (Vn - 1) (rI (fi+ix) (.cons (ihc ix) .nil)))))) 548063113999088594326381812268606132370974712335 39 [0,1,2,3,4,11] 5
theorem xI (q0:CP ix q)(q1:(ct ix)=false):sR 5 (AH2) (AIE q ns sv ix) ((Jw es Vn NA tot fi A)) (xN,(frame 195 [(0,pv (AD q) 0),(1,fc (65) [] [AX q,pv [AE ns sv] 0]),(2,bv true),(3,fc (66) (AB q) []),(9,pt 2 0),(13,fc (88) [] [pt 2 0]),(157,iv ↑q.n),(158,iv (ix+1))]),[Aj es,Js Vn NA tot fi,AR,oD,oA 3 false NA fun i=>(A i).cells]):=
 aM BL Bv _ (.mk (dS 4122) [] [some (bv (ct ix))] [] []) (kO (kz q0 (kz q1 AN))) (rI (ix+1) (.cons (ihc ix) .nil)) 548063113999088594326381812268606132370974712335 23 [0,1,2,3,4] 5
end
section
variable (q:fG)(ns:Nat)(sv:Nat->Int)(ct:Int->Bool)(mo:Int->Int)(NA:Nat)(A:Nat->uN)(es:List (EV×EV))(Vn:Int)(tot:Int)(fi:Int)(ix:Int)(h0:0<=ix)(hn:q.n<=1000)(hnm:q.n=q.m')(hNA:NA<=4000)(hf:0<=fi)(hf2:fi<=1000)(hv:0<=Vn)(hv2:Vn<=3000)(ht: -1000000000000000<=tot)(ht2:E5 tot)(hm: -100000000000<=mo ix)(hm2:mo ix<=100000000000)(ihc:∀ x:Int,sP 65 [iv x,AX q,Ad ns sv] (bv (ct x)))(ihm:∀ x:Int,0<=x->x<q.m'->sP 66 [Ak q,iv x] (iv (mo x)))
include q ns sv ct mo NA A es Vn tot fi ix h0 hn hnm hNA hf hf2 hv hv2 ht ht2 hm hm2 ihc ihm
theorem xJ (q0:CP ix q)(q1:(ct ix)=true):sR 5 (AH2) (AIE q ns sv ix) ((Gj es Vn NA tot fi A)) (xN,(frame 195 [(0,pv (AD q) 0),(1,fc (65) [] [AX q,pv [AE ns sv] 0]),(2,bv true),(3,fc (66) (AB q) []),(9,pt 2 0),(13,fc (88) [] [pt 2 0]),(157,iv ↑q.n),(158,iv (ix+1))]),[Aj es,fE.var false false [iv Vn,EV.ms 5 3 0 (NA+1) none,EV.mm 0,iv tot,iv fi],AR,oD,oD,oA 3 false (NA+1) fun i=>(B4 NA A (uN.mk (fi+ix) (Vn - 1) (mo ix)) i).cells]):=
 aM BL Bv _ (.mk (dS 4322886062) [] [some (bv (ct ix)),some (iv (mo ix))] [some ((iv ↑NA,[AR,Pr Vn NA tot fi,oD,Aj es,oA 3 false (NA+1) fun i=>(B4 NA A (uN.mk (fi+ix) (Vn - 1) (mo ix)) i).cells]))] []) (kO (kz q0 (kz q1 AN))) (rI (ix+1) (.cons (BQ (NA) (A) (es) (Vn) (tot) (fi) (fi+ix) (Vn - 1) (mo ix) (by omega)) (.cons (ihm ix (by omega) (by simp_all<;>omega)) (rI (Vn - 1) (rI (fi+ix) (.cons (ihc ix) .nil)))))) 548063113999088594326381812268606132370974712335 39 [0,1,2,3,4,12] 5
theorem xK (q0:CP ix q)(q1:(ct ix)=false):sR 5 (AH2) (AIE q ns sv ix) ((Gj es Vn NA tot fi A)) (xN,(frame 195 [(0,pv (AD q) 0),(1,fc (65) [] [AX q,pv [AE ns sv] 0]),(2,bv true),(3,fc (66) (AB q) []),(9,pt 2 0),(13,fc (88) [] [pt 2 0]),(157,iv ↑q.n),(158,iv (ix+1))]),[Aj es,Jx Vn NA tot fi,AR,oD,oD,oA 3 false NA fun i=>(A i).cells]):=
 aM BL Bv _ (.mk (dS 4122) [] [some (bv (ct ix))] [] []) (kO (kz q0 (kz q1 AN))) (rI (ix+1) (.cons (ihc ix) .nil)) 548063113999088594326381812268606132370974712335 39 [0,1,2,3,4,5] 5
theorem xM (q0:Gf ix q):sR 5 (AH2) (AIE q ns sv ix) ((Gj es Vn NA tot fi A)) (xL 6,(AIC q ns sv),[Aj es,Jx Vn NA tot fi,AR,oD,oD,oA 3 false NA fun i=>(A i).cells]):=
 aM BL Bv _ (.mk (dS 16) [] [] [] []) (kO (kz q0 AN)) .nil 8719 39 [0,1,2,3,4,5] 5
end
noncomputable abbrev xO:Code:=(cB (cR (cL (cR (cR (cR (cR (cR (cR (cR (AY prog 60)))))))))))
theorem xP (q:fG)(ns:Nat)(sv:Nat->Int)(ct:Int->Bool)(Vn:Int)(fi:Int):sC (AH5) (frame 195 [(0,pv (AD q) 0),(1,fc (59) [] [Ad ns sv]),(2,bv false),(3,fc (61) (AB q) []),(9,pt 2 0),(13,fc (88) [] [pt 2 0]),(87,sl false 0 0 fun _=>[]),(88,iv 0),(89,iv 0)]) ([A0,fE.var false false [iv Vn,Aq,.mm 0,iv 0,iv fi],AR]) (xL 2,(frame 195 [(0,pv (AD q) 0),(1,fc (59) [] [pv [AE ns sv] 0]),(2,bv false),(3,fc (61) (AB q) []),(9,pt 2 0),(13,fc (88) [] [pt 2 0])]),[A0,fE.var false false [iv Vn,AT,EV.mm 0,iv 0,iv fi],AR]):=
 kC [[]] (.mk [] [] [] [] []) (kO AN) .nil 8719 7 3
noncomputable abbrev xQ:Code:=(cB (cR (cL (cR (cR (cR (cR (cR (cR (cR (AY prog 60)))))))))))
theorem xR (q:fG)(ns:Nat)(sv:Nat->Int)(ct:Int->Bool)(Vn:Int)(fi:Int):sC (AH5) (frame 195 [(0,pv (AD q) 0),(1,fc (65) [] (Az q ns sv)),(2,bv true),(3,fc (66) (AB q) []),(9,pt 2 0),(13,fc (88) [] [pt 2 0]),(87,sl false 0 0 fun _=>[]),(88,iv 0),(89,iv 0)]) ([A0,fE.var false false [iv Vn,Aq,.mm 0,iv 0,iv fi],AR]) (xL 2,(AIC q ns sv),[A0,fE.var false false [iv Vn,AT,EV.mm 0,iv 0,iv fi],AR]):=
 kC [[]] (.mk [] [] [] [] []) (kO AN) .nil 8719 7 3
abbrev EO (a0:fG):=iv (1+(↑a0.n:Int)+1)
abbrev Ds (a0:Nat)(a1:fG):=iv (1+(↑a0:Int)+(↑a1.n:Int)+1)
abbrev VP (a0:fG):=AG a0 a0.m
abbrev Dt (a0:Nat):=iv (1+(↑a0:Int))
abbrev Pu (a0:fG)(a1:Nat)(a2:Int)(a3:Nat->uN):=[A0,fE.var false false [EO a0,EV.ms 3 3 0 a1 none,EV.mm 0,iv a2,iv 1],AR,oA 3 false a1 fun i=>(a3 i).cells]
abbrev Gk (a0:fG):=[A0,fE.var false false [EO a0,AT,EV.mm 0,iv 0,iv 1],AR]
abbrev Ck (a0:fG):=[A0,fE.var false false [EO a0,Aq,.mm 0,iv 0,iv 1],AR]
abbrev Pv (a0:Nat)(a1:fG)(a2:Nat->aF):=[A0,fE.var false false [Ds a0 a1,Aq,.mm 0,iv 0,Dt a0],AR,oA 2 false a0 fun i=>(a2 i).cells]
abbrev VQ (a0:fG):=VP a0
abbrev Jy (a0:Nat)(a1:fG)(a2:Nat)(a3:Int):=fE.var false false [Ds a0 a1,.ms 4 3 0 a2 none,.mm 0,iv a3,Dt a0]
noncomputable abbrev AIc:=cB (cR (cL (AI6)))
abbrev BB (a0:fG):=VQ a0
section
variable (q:fG)(ns:Nat)(sv:Nat->Int)(ct:Int->Bool)(mo:Int->Int)(K:Nat)(F:Nat->aF)(NA:Nat)(A:Nat->uN)(es:List (EV×EV))(Vn:Int)(tot:Int)(fi:Int)(NB:Nat)(B:Nat->uN)(tot2:Int)(hK:K<=1000)(hn:q.n<=1000)
include q ns sv ct mo K F NA A es Vn tot fi NB B tot2 hK hn
theorem xS (ih4:sL (AIP) (frame 195 [(0,pv (AD q) 0),(1,fc (59) [] [Ad ns sv]),(2,bv false),(3,fc (61) (AB q) []),(9,pt 2 0),(10,sl false 0 0 fun _=>[]),(27,sl (!(BB q).isEmpty) 2 (BB q).length fun i=>(aK (BB q) i).cells),(28,iv (BB q).length),(29,iv 0)]) B0 ((xL 0,frame 195 [(0,pv (AD q) 0),(1,fc (59) [] [Ad ns sv]),(2,bv false),(3,fc (61) (AB q) []),(9,pt 2 0),(10,.ms 3 2 0 K none)],(DT K F)):RC))(ih13:sL (AIc) (frame 195 [(0,pv (AD q) 0),(1,fc (59) [] [Ad ns sv]),(2,bv false),(3,fc (61) (AB q) []),(9,pt 2 0),(13,fc (88) [] [pt 2 0]),(87,.ms 3 2 0 K none),(88,iv ↑K),(89,iv 0)]) (Pv K q F) ((xL 2,frame 195 [(0,pv (AD q) 0),(1,fc (59) [] [Ad ns sv]),(2,bv false),(3,fc (61) (AB q) []),(9,pt 2 0),(13,fc (88) [] [pt 2 0])],[Aj es,Jy K q NA tot,AR,oA 2 false K fun i=>(F i).cells,oA 3 false NA fun i=>(A i).cells]):RC))(ih29:sL (AIQ) (frame 195 [(0,pv (AD q) 0),(1,fc (59) [] [Ad ns sv]),(2,bv false),(3,fc (61) (AB q) []),(9,pt 2 0),(13,fc (88) [] [pt 2 0]),(157,iv q.n),(158,iv 0)]) [Aj es,Jy K q NA tot,AR,oD,oA 3 false NA fun i=>(A i).cells] ((xL 6,frame 195 [(0,pv (AD q) 0),(1,fc (59) [] [Ad ns sv]),(2,bv false),(3,fc (61) (AB q) []),(9,pt 2 0),(13,fc (88) [] [pt 2 0])],[Aj es,fE.var false false [Ds K q,.ms 5 3 0 NB none,.mm 0,iv tot2,Dt K],AR,oD,oD,oA 3 false NB fun i=>(B i).cells]):RC)):sP 60 [Ak q,fc (59) [] [pv [AE ns sv] 0],bv false,fc (61) (AB q) []] (pv [Ds K q,sl true 3 NB fun i=>(B (0+i)).cells,EV.im es,iv tot2,Dt K] 0):=
 kPm BL Bv [[]] (.mk (dS 6826) [(10,.is 939525647 7 (xL 0,(frame 195 [(0,pv (AD q) 0),(1,fc (59) [] [pv [AE ns sv] 0]),(2,bv false),(3,fc (61) (AB q) []),(9,pt 2 0),(10,EV.ms 3 2 0 K none)]),(Fj K F))),(10,.is 1083197534374707740536742415 15 (xL 2,(frame 195 [(0,pv (AD q) 0),(1,fc (59) [] [pv [AE ns sv] 0]),(2,bv false),(3,fc (61) (AB q) []),(9,pt 2 0),(13,fc (88) [] [pt 2 0])]),[Aj es,fE.var false false [Ds K q,EV.ms 4 3 0 NA none,EV.mm 0,iv tot,Dt K],AR,oA 2 false K fun i=>(F i).cells,oA 3 false NA fun i=>(A i).cells])),(4,.is 548063113999088594326381812268606132370974712335 23 (xL 6,(frame 195 [(0,pv (AD q) 0),(1,fc (59) [] [pv [AE ns sv] 0]),(2,bv false),(3,fc (61) (AB q) []),(9,pt 2 0),(13,fc (88) [] [pt 2 0])]),[Aj es,fE.var false false [Ds K q,EV.ms 5 3 0 NB none,EV.mm 0,iv tot2,Dt K],AR,oD,oD,oA 3 false NB fun i=>(B i).cells]))] [] [] []) (kO AN) (.cons ih29 (.cons ih13 (rI (1+(↑K:Int)+(↑q.n:Int)+1) (rI (1+(↑K:Int)+(↑q.n:Int)) (rI (1+(↑K:Int)) (.cons ih4 .nil))))))
theorem xT (ih4:sL (AIP) (frame 195 [(0,pv (AD q) 0),(1,fc (59) [] [Ad ns sv]),(2,bv false),(3,fc (61) (AB q) []),(9,pt 2 0),(10,sl false 0 0 fun _=>[]),(27,sl (!(BB q).isEmpty) 2 (BB q).length fun i=>(aK (BB q) i).cells),(28,iv (BB q).length),(29,iv 0)]) B0 ((xL 0,frame 195 [(0,pv (AD q) 0),(1,fc (59) [] [Ad ns sv]),(2,bv false),(3,fc (61) (AB q) []),(9,pt 2 0),(10,sl false 0 0 fun _=>[])],B0):RC))(ih13:sL (AIc) (frame 195 [(0,pv (AD q) 0),(1,fc (59) [] [Ad ns sv]),(2,bv false),(3,fc (61) (AB q) []),(9,pt 2 0),(13,fc (88) [] [pt 2 0]),(87,sl false 0 0 fun _=>[]),(88,iv 0),(89,iv 0)]) (Ck q) ((xL 2,frame 195 [(0,pv (AD q) 0),(1,fc (59) [] [Ad ns sv]),(2,bv false),(3,fc (61) (AB q) []),(9,pt 2 0),(13,fc (88) [] [pt 2 0])],(Ck q)):RC))(ih29:sL (AIQ) (frame 195 [(0,pv (AD q) 0),(1,fc (59) [] [Ad ns sv]),(2,bv false),(3,fc (61) (AB q) []),(9,pt 2 0),(13,fc (88) [] [pt 2 0]),(157,iv q.n),(158,iv 0)]) (Ck q) ((xL 6,frame 195 [(0,pv (AD q) 0),(1,fc (59) [] [Ad ns sv]),(2,bv false),(3,fc (61) (AB q) []),(9,pt 2 0),(13,fc (88) [] [pt 2 0])],(Ck q)):RC)):sP 60 [Ak q,fc (59) [] [pv [AE ns sv] 0],bv false,fc (61) (AB q) []] (pv [EO q,AT,EV.im [],iv 0,iv 1] 0):=
 kPm BL Bv [[]] (.mk (dS 1055466) [(10,.is 939525647 7 (xL 0,(frame 195 [(0,pv (AD q) 0),(1,fc (59) [] [pv [AE ns sv] 0]),(2,bv false),(3,fc (61) (AB q) []),(9,pt 2 0),(10,sl false 0 0 fun i=>[])]),EN)),(10,.is 1083197534374707740536742415 7 (xL 2,(frame 195 [(0,pv (AD q) 0),(1,fc (59) [] [pv [AE ns sv] 0]),(2,bv false),(3,fc (61) (AB q) []),(9,pt 2 0),(13,fc (88) [] [pt 2 0])]),(Gk q))),(4,.is 548063113999088594326381812268606132370974712335 7 (xL 6,(frame 195 [(0,pv (AD q) 0),(1,fc (59) [] [pv [AE ns sv] 0]),(2,bv false),(3,fc (61) (AB q) []),(9,pt 2 0),(13,fc (88) [] [pt 2 0])]),(Gk q)))] [] [] []) (kO AN) (.cons ih29 (.cons ih13 (rI (1+(↑q.n:Int)+1) (rI (1+(↑q.n:Int)) (.cons ih4 .nil)))))
theorem xU (ih4:sL (AIP) (frame 195 [(0,pv (AD q) 0),(1,fc (59) [] [Ad ns sv]),(2,bv false),(3,fc (61) (AB q) []),(9,pt 2 0),(10,sl false 0 0 fun _=>[]),(27,sl (!(BB q).isEmpty) 2 (BB q).length fun i=>(aK (BB q) i).cells),(28,iv (BB q).length),(29,iv 0)]) B0 ((xL 0,frame 195 [(0,pv (AD q) 0),(1,fc (59) [] [Ad ns sv]),(2,bv false),(3,fc (61) (AB q) []),(9,pt 2 0),(10,sl false 0 0 fun _=>[])],B0):RC))(ih13:sL (AIc) (frame 195 [(0,pv (AD q) 0),(1,fc (59) [] [Ad ns sv]),(2,bv false),(3,fc (61) (AB q) []),(9,pt 2 0),(13,fc (88) [] [pt 2 0]),(87,sl false 0 0 fun _=>[]),(88,iv 0),(89,iv 0)]) (Ck q) ((xL 2,frame 195 [(0,pv (AD q) 0),(1,fc (59) [] [Ad ns sv]),(2,bv false),(3,fc (61) (AB q) []),(9,pt 2 0),(13,fc (88) [] [pt 2 0])],(Ck q)):RC))(ih29:sL (AIQ) (frame 195 [(0,pv (AD q) 0),(1,fc (59) [] [Ad ns sv]),(2,bv false),(3,fc (61) (AB q) []),(9,pt 2 0),(13,fc (88) [] [pt 2 0]),(157,iv q.n),(158,iv 0)]) (Ck q) ((xL 6,frame 195 [(0,pv (AD q) 0),(1,fc (59) [] [Ad ns sv]),(2,bv false),(3,fc (61) (AB q) []),(9,pt 2 0),(13,fc (88) [] [pt 2 0])],[A0,fE.var false false [EO q,.ms 3 3 0 NB none,.mm 0,iv tot2,iv 1],AR,oA 3 false NB fun i=>(B i).cells]):RC)):sP 60 [Ak q,fc (59) [] [pv [AE ns sv] 0],bv false,fc (61) (AB q) []] (pv [EO q,sl true 3 NB fun i=>(B (0+i)).cells,EV.im [],iv tot2,iv 1] 0):=
 kPm BL Bv [[]] (.mk (dS 1055466) [(10,.is 939525647 7 (xL 0,(frame 195 [(0,pv (AD q) 0),(1,fc (59) [] [pv [AE ns sv] 0]),(2,bv false),(3,fc (61) (AB q) []),(9,pt 2 0),(10,sl false 0 0 fun i=>[])]),EN)),(10,.is 1083197534374707740536742415 7 (xL 2,(frame 195 [(0,pv (AD q) 0),(1,fc (59) [] [pv [AE ns sv] 0]),(2,bv false),(3,fc (61) (AB q) []),(9,pt 2 0),(13,fc (88) [] [pt 2 0])]),(Gk q))),(4,.is 548063113999088594326381812268606132370974712335 7 (xL 6,(frame 195 [(0,pv (AD q) 0),(1,fc (59) [] [pv [AE ns sv] 0]),(2,bv false),(3,fc (61) (AB q) []),(9,pt 2 0),(13,fc (88) [] [pt 2 0])]),(Pu q NB tot2 B)))] [] [] []) (kO AN) (.cons ih29 (.cons ih13 (rI (1+(↑q.n:Int)+1) (rI (1+(↑q.n:Int)) (.cons ih4 .nil)))))
theorem xV (ih4:sL (AIP) (frame 195 [(0,pv (AD q) 0),(1,fc (65) [] (Az q ns sv)),(2,bv true),(3,fc (66) (AB q) []),(9,pt 2 0),(10,sl false 0 0 fun _=>[]),(27,sl (!(BB q).isEmpty) 2 (BB q).length fun i=>(aK (BB q) i).cells),(28,iv (BB q).length),(29,iv 0)]) B0 ((xL 0,frame 195 [(0,pv (AD q) 0),(1,fc (65) [] (Az q ns sv)),(2,bv true),(3,fc (66) (AB q) []),(9,pt 2 0),(10,.ms 3 2 0 K none)],(DT K F)):RC))(ih13:sL (AIc) (frame 195 [(0,pv (AD q) 0),(1,fc (65) [] (Az q ns sv)),(2,bv true),(3,fc (66) (AB q) []),(9,pt 2 0),(13,fc (88) [] [pt 2 0]),(87,.ms 3 2 0 K none),(88,iv ↑K),(89,iv 0)]) (Pv K q F) ((xL 2,frame 195 [(0,pv (AD q) 0),(1,fc (65) [] (Az q ns sv)),(2,bv true),(3,fc (66) (AB q) []),(9,pt 2 0),(13,fc (88) [] [pt 2 0])],[Aj es,Jy K q NA tot,AR,oA 2 false K fun i=>(F i).cells,oA 3 false NA fun i=>(A i).cells]):RC))(ih29:sL (AIQ) (frame 195 [(0,pv (AD q) 0),(1,fc (65) [] (Az q ns sv)),(2,bv true),(3,fc (66) (AB q) []),(9,pt 2 0),(13,fc (88) [] [pt 2 0]),(157,iv q.n),(158,iv 0)]) [Aj es,Jy K q NA tot,AR,oD,oA 3 false NA fun i=>(A i).cells] ((xL 6,frame 195 [(0,pv (AD q) 0),(1,fc (65) [] (Az q ns sv)),(2,bv true),(3,fc (66) (AB q) []),(9,pt 2 0),(13,fc (88) [] [pt 2 0])],[Aj es,fE.var false false [Ds K q,.ms 5 3 0 NB none,.mm 0,iv tot2,Dt K],AR,oD,oD,oA 3 false NB fun i=>(B i).cells]):RC)):sP 60 [Ak q,fc (65) [] [AX q,pv [AE ns sv] 0],bv true,fc (66) (AB q) []] (pv [Ds K q,sl true 3 NB fun i=>(B (0+i)).cells,EV.im es,iv tot2,Dt K] 0):=
 kPm BL Bv [[]] (.mk (dS 6826) [(10,.is 939525647 7 (xL 0,(frame 195 [(0,pv (AD q) 0),(1,fc (65) [] [AX q,pv [AE ns sv] 0]),(2,bv true),(3,fc (66) (AB q) []),(9,pt 2 0),(10,EV.ms 3 2 0 K none)]),(Fj K F))),(10,.is 1083197534374707740536742415 15 (xL 2,(AIC q ns sv),[Aj es,fE.var false false [Ds K q,EV.ms 4 3 0 NA none,EV.mm 0,iv tot,Dt K],AR,oA 2 false K fun i=>(F i).cells,oA 3 false NA fun i=>(A i).cells])),(4,.is 548063113999088594326381812268606132370974712335 23 (xL 6,(AIC q ns sv),[Aj es,fE.var false false [Ds K q,EV.ms 5 3 0 NB none,EV.mm 0,iv tot2,Dt K],AR,oD,oD,oA 3 false NB fun i=>(B i).cells]))] [] [] []) (kO AN) (.cons ih29 (.cons ih13 (rI (1+(↑K:Int)+(↑q.n:Int)+1) (rI (1+(↑K:Int)+(↑q.n:Int)) (rI (1+(↑K:Int)) (.cons ih4 .nil))))))
theorem xW (ih4:sL (AIP) (frame 195 [(0,pv (AD q) 0),(1,fc (65) [] (Az q ns sv)),(2,bv true),(3,fc (66) (AB q) []),(9,pt 2 0),(10,sl false 0 0 fun _=>[]),(27,sl (!(BB q).isEmpty) 2 (BB q).length fun i=>(aK (BB q) i).cells),(28,iv (BB q).length),(29,iv 0)]) B0 ((xL 0,frame 195 [(0,pv (AD q) 0),(1,fc (65) [] (Az q ns sv)),(2,bv true),(3,fc (66) (AB q) []),(9,pt 2 0),(10,sl false 0 0 fun _=>[])],B0):RC))(ih13:sL (AIc) (frame 195 [(0,pv (AD q) 0),(1,fc (65) [] (Az q ns sv)),(2,bv true),(3,fc (66) (AB q) []),(9,pt 2 0),(13,fc (88) [] [pt 2 0]),(87,sl false 0 0 fun _=>[]),(88,iv 0),(89,iv 0)]) (Ck q) ((xL 2,frame 195 [(0,pv (AD q) 0),(1,fc (65) [] (Az q ns sv)),(2,bv true),(3,fc (66) (AB q) []),(9,pt 2 0),(13,fc (88) [] [pt 2 0])],(Ck q)):RC))(ih29:sL (AIQ) (frame 195 [(0,pv (AD q) 0),(1,fc (65) [] (Az q ns sv)),(2,bv true),(3,fc (66) (AB q) []),(9,pt 2 0),(13,fc (88) [] [pt 2 0]),(157,iv q.n),(158,iv 0)]) (Ck q) ((xL 6,frame 195 [(0,pv (AD q) 0),(1,fc (65) [] (Az q ns sv)),(2,bv true),(3,fc (66) (AB q) []),(9,pt 2 0),(13,fc (88) [] [pt 2 0])],(Ck q)):RC)):sP 60 [Ak q,fc (65) [] [AX q,pv [AE ns sv] 0],bv true,fc (66) (AB q) []] (pv [EO q,AT,EV.im [],iv 0,iv 1] 0):=
 kPm BL Bv [[]] (.mk (dS 1055466) [(10,.is 939525647 7 (xL 0,(frame 195 [(0,pv (AD q) 0),(1,fc (65) [] [AX q,pv [AE ns sv] 0]),(2,bv true),(3,fc (66) (AB q) []),(9,pt 2 0),(10,sl false 0 0 fun i=>[])]),EN)),(10,.is 1083197534374707740536742415 7 (xL 2,(AIC q ns sv),(Gk q))),(4,.is 548063113999088594326381812268606132370974712335 7 (xL 6,(AIC q ns sv),(Gk q)))] [] [] []) (kO AN) (.cons ih29 (.cons ih13 (rI (1+(↑q.n:Int)+1) (rI (1+(↑q.n:Int)) (.cons ih4 .nil)))))
theorem xX (ih4:sL (AIP) (frame 195 [(0,pv (AD q) 0),(1,fc (65) [] (Az q ns sv)),(2,bv true),(3,fc (66) (AB q) []),(9,pt 2 0),(10,sl false 0 0 fun _=>[]),(27,sl (!(BB q).isEmpty) 2 (BB q).length fun i=>(aK (BB q) i).cells),(28,iv (BB q).length),(29,iv 0)]) B0 ((xL 0,frame 195 [(0,pv (AD q) 0),(1,fc (65) [] (Az q ns sv)),(2,bv true),(3,fc (66) (AB q) []),(9,pt 2 0),(10,sl false 0 0 fun _=>[])],B0):RC))(ih13:sL (AIc) (frame 195 [(0,pv (AD q) 0),(1,fc (65) [] (Az q ns sv)),(2,bv true),(3,fc (66) (AB q) []),(9,pt 2 0),(13,fc (88) [] [pt 2 0]),(87,sl false 0 0 fun _=>[]),(88,iv 0),(89,iv 0)]) (Ck q) ((xL 2,frame 195 [(0,pv (AD q) 0),(1,fc (65) [] (Az q ns sv)),(2,bv true),(3,fc (66) (AB q) []),(9,pt 2 0),(13,fc (88) [] [pt 2 0])],(Ck q)):RC))(ih29:sL (AIQ) (frame 195 [(0,pv (AD q) 0),(1,fc (65) [] (Az q ns sv)),(2,bv true),(3,fc (66) (AB q) []),(9,pt 2 0),(13,fc (88) [] [pt 2 0]),(157,iv q.n),(158,iv 0)]) (Ck q) ((xL 6,frame 195 [(0,pv (AD q) 0),(1,fc (65) [] (Az q ns sv)),(2,bv true),(3,fc (66) (AB q) []),(9,pt 2 0),(13,fc (88) [] [pt 2 0])],[A0,fE.var false false [EO q,.ms 3 3 0 NB none,.mm 0,iv tot2,iv 1],AR,oA 3 false NB fun i=>(B i).cells]):RC)):sP 60 [Ak q,fc (65) [] [AX q,pv [AE ns sv] 0],bv true,fc (66) (AB q) []] (pv [EO q,sl true 3 NB fun i=>(B (0+i)).cells,EV.im [],iv tot2,iv 1] 0):=
 kPm BL Bv [[]] (.mk (dS 1055466) [(10,.is 939525647 7 (xL 0,(frame 195 [(0,pv (AD q) 0),(1,fc (65) [] [AX q,pv [AE ns sv] 0]),(2,bv true),(3,fc (66) (AB q) []),(9,pt 2 0),(10,sl false 0 0 fun i=>[])]),EN)),(10,.is 1083197534374707740536742415 7 (xL 2,(AIC q ns sv),(Gk q))),(4,.is 548063113999088594326381812268606132370974712335 7 (xL 6,(AIC q ns sv),(Pu q NB tot2 B)))] [] [] []) (kO AN) (.cons ih29 (.cons ih13 (rI (1+(↑q.n:Int)+1) (rI (1+(↑q.n:Int)) (.cons ih4 .nil)))))
end
abbrev Av:EV:=EV.uS false 0 0 fun _=>[]
abbrev wO:fE:=fE.var false false [.ptr 1 0]
abbrev CK (V:Int)(a:EV)(t f:Int):fE:=fE.var false false [.int .i64 V,a,.mm 0,.int .i64 t,.int .i64 f]
theorem HR {met:Nat×Nat->Bool}{ps:List (Nat×Nat)}{i:Nat}(hi:i<ps.length):(ps.take (i+1)).filter met=(ps.take i).filter met++if met (ps.getD i (0,0)) then [ps.getD i (0,0)] else []:=by
 rw [List.take_add_one,uD hi,List.filter_append,uA,uD hi];simp [List.filter_cons]
theorem TV {fl:List (Nat×Nat)}{x:Nat×Nat}{i:Nat}(hi:i<fl.length+1):(if i<fl.length then (aK fl i).cells else (aF.mk (x.1:Nat) (x.2:Nat)).cells)=(aK (fl++[x]) i).cells:=by
 simp only [aK];rw [uA,uA];split
 ·rename_i h;rw [List.getElem?_append_left h]
 ·obtain rfl:i=fl.length:=by omega
  rw [List.getElem?_concat_length,Option.getD_some]
section
variable {q:fG}{ns:Nat}{sv:Nat->Int}{ct:Int->Bool}{ps:List (Nat×Nat)}{nb:Bool}(hK:ps.length<=1000)
 (ihc:∀ x:Int,uY prog fF 59 [.int .i64 x,EV.ip [AW true ns sv] 0] (.bool (ct x)))
abbrev CX (ct:Int->Bool)(p:Nat×Nat):Bool:=ct (p.1:Nat) || ct (p.2:Nat)
abbrev bTA (q:fG)(ns:Nat)(sv:Nat->Int)(ps:List (Nat×Nat))(nb:Bool)(pr:EV)(i:Int):List EV:=frame 195 [(0,EV.ip (AD q) 0),(1,EV.func (.func 59) [] [EV.ip [AW true ns sv] 0]),(2,EV.bool false),(3,EV.func (.func 61) [EV.ip (AD q) 0] []),(9,.ptr 2 0),(10,pr),(27,EV.uS nb 2 ps.length fun i=>(aK ps i).cells),(28,.int .i64 ps.length),(29,.int .i64 i)]
abbrev bTE (q:fG)(ns:Nat)(sv:Nat->Int)(pr:EV):List EV:=frame 195 [(0,EV.ip (AD q) 0),(1,EV.func (.func 59) [] [EV.ip [AW true ns sv] 0]),(2,EV.bool false),(3,EV.func (.func 61) [EV.ip (AD q) 0] []),(9,.ptr 2 0),(10,pr)]
include hK ihc
theorem Ww:∀ (k i:Nat) (fl:List (Nat×Nat)),i+k=ps.length->fl=(ps.take i).filter (CX ct)->uM prog fF false 3 Qt (bTA q ns sv ps nb (.ms 3 2 0 fl.length none) i) [fE.map false true [],CK 0 Av 0 0,wO,cO fl]
  (EX.leave 0,bTE q ns sv (.ms 3 2 0 (ps.filter (CX ct)).length none),[fE.map false true [],CK 0 Av 0 0,wO,cO (ps.filter (CX ct))])
 | 0,i,fl,h,hf=>by
  obtain rfl:i=ps.length:=by omega
  rw [List.take_length] at hf;subst hf;have hl:=List.length_filter_le (CX ct) ps;exact uM.aC (z4 q ns sv ct ps.length (aK ps) (ps.filter (CX ct)).length (aK (ps.filter (CX ct))) ps.length nb (by omega) hK (by omega) ihc (uL (by omega))) (by simp)
 | k+1,i,fl,h,hf=>by
  have hi:i<ps.length:=by omega
  have hl:fl.length<=1000:=by
   have h1:=List.length_filter_le (CX ct) (ps.take i);have h2:=List.length_take_le i ps;rw [<-hf] at h1;omega
  have q0:(Decidable.decide ((i:Int)<(ps.length:Int)))=true:=uK (by omega);have ft:=HR (met:=CX ct) hi;by_cases hm:CX ct (ps.getD i (0,0))=true
  ·rw [if_pos hm,<-hf] at ft;have ih:=Ww k (i+1) (fl++[ps.getD i (0,0)]) (by omega) ft.symm;have hrow:∀ p,p<fl.length+1->Ar fl.length (fun j=>(aK fl (0+j)).cells) (fun j=>[(aK ps (i:Int).toNat).cells].getD (0+j) []) p=(aK (fl++[ps.getD i (0,0)]) p).cells:=fun p hp=>by
    rw [<-TV hp,Ar];split
    ·rw [uJ]
    ·obtain rfl:p=fl.length:=by omega
     simp [aK]
   have el:(fl++[ps.getD i (0,0)]).length=fl.length+1:=by simp
   simp only [cO,el] at ih;rcases hA:ct ((ps.getD i (0,0)).1:Nat) with _ | _
   ·have hB:ct ((ps.getD i (0,0)).2:Nat)=true:=by have h9:=hm; simp only [CX,hA,Bool.false_or] at h9; exact h9
    exact uM.uQ (uR.weaken (zZ q ns sv ct ps.length (aK ps) fl.length (aK fl) i nb (by omega) hK hl ihc q0 hA hB) (uI _) (.cons (uH _) (.cons (uH _) (.cons (uH _) (.cons (uU.arr hrow) .nil))))) ih
   ·rcases hB:ct ((ps.getD i (0,0)).2:Nat) with _ | _
    ·exact uM.uQ (uR.weaken (zY q ns sv ct ps.length (aK ps) fl.length (aK fl) i nb (by omega) hK hl ihc q0 hA hB) (uI _) (.cons (uH _) (.cons (uH _) (.cons (uH _) (.cons (uU.arr hrow) .nil))))) ih
    ·exact uM.uQ (uR.weaken (zX q ns sv ct ps.length (aK ps) fl.length (aK fl) i nb (by omega) hK hl ihc q0 hA hB) (uI _) (.cons (uH _) (.cons (uH _) (.cons (uH _) (.cons (uU.arr hrow) .nil))))) ih
  ·rw [if_neg hm,List.append_nil,<-hf] at ft;have ih:=Ww k (i+1) fl (by omega) ft.symm;have hm':=hm;simp only [Bool.or_eq_true,not_or,Bool.not_eq_true] at hm';exact uM.uQ (z0 q ns sv ct ps.length (aK ps) fl.length (aK fl) i nb (by omega) hK hl ihc q0 hm'.1 hm'.2) ih
theorem Y6:∀ (k i:Nat),i+k=ps.length->(ps.take i).filter (CX ct)=[]->
  (ps.filter (CX ct)=[]->uM prog fF false 3 Qt (bTA q ns sv ps nb Av i) [fE.map false true [],CK 0 Av 0 0,wO] (EX.leave 0,bTE q ns sv Av,[fE.map false true [],CK 0 Av 0 0,wO]))/\
  (ps.filter (CX ct)≠[]->uM prog fF false 3 Qt (bTA q ns sv ps nb Av i) [fE.map false true [],CK 0 Av 0 0,wO] (EX.leave 0,bTE q ns sv (.ms 3 2 0 (ps.filter (CX ct)).length none),[fE.map false true [],CK 0 Av 0 0,wO,cO (ps.filter (CX ct))]))
 | 0,i,h,hf=>by
  obtain rfl:i=ps.length:=by omega
  rw [List.take_length] at hf;exact ⟨fun _=>uM.aC (zW q ns sv ct ps.length (aK ps) 0 (fun _=>default) ps.length nb (by omega) hK (by omega) ihc (uL (by omega))) (by simp),fun x=>absurd hf x⟩
 | k+1,i,h,hf=>by
  have hi:i<ps.length:=by omega
  have q0:(Decidable.decide ((i:Int)<(ps.length:Int)))=true:=uK (by omega);have ft:=HR (met:=CX ct) hi;by_cases hm:CX ct (ps.getD i (0,0))=true
  ·rw [if_pos hm,hf,List.nil_append] at ft;have ih:=Ww hK ihc (q:=q) (nb:=nb) k (i+1) [ps.getD i (0,0)] (by omega) ft.symm;refine ⟨fun e=>?_,fun _=>?_⟩
   ·have hx:ps.getD i (0,0)∈ps.filter (CX ct):=List.mem_filter.2 ⟨D9 hi,hm⟩;rw [e] at hx;exact absurd hx List.not_mem_nil
   have hrow:∀ p,p<1->[(aK ps (i:Int).toNat).cells].getD (0+p) []=(aK [ps.getD i (0,0)] p).cells:=fun p hp=>by
    obtain rfl:p=0:=by omega
    simp [aK]
   simp only [cO,List.length_singleton] at ih;rcases hA:ct ((ps.getD i (0,0)).1:Nat) with _ | _
   ·have hB:ct ((ps.getD i (0,0)).2:Nat)=true:=by have h9:=hm; simp only [CX,hA,Bool.false_or] at h9; exact h9
    exact uM.uQ (uR.weaken (zU q ns sv ct ps.length (aK ps) 0 (fun _=>default) i nb (by omega) hK (by omega) ihc q0 hA hB) (uI _) (.cons (uH _) (.cons (uH _) (.cons (uH _) (.cons (uU.arr hrow) .nil))))) ih
   ·rcases hB:ct ((ps.getD i (0,0)).2:Nat) with _ | _
    ·exact uM.uQ (uR.weaken (zT q ns sv ct ps.length (aK ps) 0 (fun _=>default) i nb (by omega) hK (by omega) ihc q0 hA hB) (uI _) (.cons (uH _) (.cons (uH _) (.cons (uH _) (.cons (uU.arr hrow) .nil))))) ih
    ·exact uM.uQ (uR.weaken (zS q ns sv ct ps.length (aK ps) 0 (fun _=>default) i nb (by omega) hK (by omega) ihc q0 hA hB) (uI _) (.cons (uH _) (.cons (uH _) (.cons (uH _) (.cons (uU.arr hrow) .nil))))) ih
  ·rw [if_neg hm,List.append_nil,hf] at ft;have ih:=Y6 k (i+1) (by omega) ft;have st:uR prog fF false 3 Qt (bTA q ns sv ps nb Av i) [fE.map false true [],CK 0 Av 0 0,wO] (EX.normal,bTA q ns sv ps nb Av ((i+1:Nat):Int),[fE.map false true [],CK 0 Av 0 0,wO]):=by
    have hm':=hm;simp only [Bool.or_eq_true,not_or,Bool.not_eq_true] at hm';exact zV q ns sv ct ps.length (aK ps) 0 (fun _=>default) i nb (by omega) hK (by omega) ihc q0 hm'.1 hm'.2
   exact ⟨fun e=>uM.uQ st (ih.1 e),fun e=>uM.uQ st (ih.2 e)⟩
theorem YH:(ps.filter (CX ct)=[]->uT prog fF false Ws (bTA q ns sv ps nb Av 0) [fE.map false true [],CK 0 Av 0 0,wO] (EX.leave 0,bTE q ns sv Av,[fE.map false true [],CK 0 Av 0 0,wO]))/\
  (ps.filter (CX ct)≠[]->uT prog fF false Ws (bTA q ns sv ps nb Av 0) [fE.map false true [],CK 0 Av 0 0,wO] (EX.leave 0,bTE q ns sv (.ms 3 2 0 (ps.filter (CX ct)).length none),[fE.map false true [],CK 0 Av 0 0,wO,cO (ps.filter (CX ct))])):=by
 have h:=Y6 hK ihc (q:=q) (nb:=nb) ps.length 0 (by omega) rfl;exact ⟨fun e=>(h.1 e).cl (by kernel_rfl) (by kernel_rfl),fun e=>(h.2 e).cl (by kernel_rfl) (by kernel_rfl)⟩
end
section
variable {q:fG}{ns:Nat}{sv:Nat->Int}{ct:Int->Bool}{ps:List (Nat×Nat)}{nb:Bool}(hK:ps.length<=1000)
 (ihc:∀ x:Int,uY prog fF 65 [.int .i64 x,EV.ip [EV.ip (AD q) 0] 0,EV.ip [AW true ns sv] 0] (.bool (ct x)))
abbrev CT (ct:Int->Bool)(p:Nat×Nat):Bool:=ct (p.1:Nat) && ct (p.2:Nat)
abbrev bSA (q:fG)(ns:Nat)(sv:Nat->Int)(ps:List (Nat×Nat))(nb:Bool)(pr:EV)(i:Int):List EV:=frame 195 [(0,EV.ip (AD q) 0),(1,EV.func (.func 65) [] [EV.ip [EV.ip (AD q) 0] 0,EV.ip [AW true ns sv] 0]),(2,EV.bool true),(3,EV.func (.func 66) [EV.ip (AD q) 0] []),(9,.ptr 2 0),(10,pr),(27,EV.uS nb 2 ps.length fun i=>(aK ps i).cells),(28,.int .i64 ps.length),(29,.int .i64 i)]
abbrev bSE (q:fG)(ns:Nat)(sv:Nat->Int)(pr:EV):List EV:=frame 195 [(0,EV.ip (AD q) 0),(1,EV.func (.func 65) [] [EV.ip [EV.ip (AD q) 0] 0,EV.ip [AW true ns sv] 0]),(2,EV.bool true),(3,EV.func (.func 66) [EV.ip (AD q) 0] []),(9,.ptr 2 0),(10,pr)]
include hK ihc
theorem Wx:∀ (k i:Nat) (fl:List (Nat×Nat)),i+k=ps.length->fl=(ps.take i).filter (CT ct)->uM prog fF false 3 Qu (bSA q ns sv ps nb (.ms 3 2 0 fl.length none) i) [fE.map false true [],CK 0 Av 0 0,wO,cO fl]
  (EX.leave 0,bSE q ns sv (.ms 3 2 0 (ps.filter (CT ct)).length none),[fE.map false true [],CK 0 Av 0 0,wO,cO (ps.filter (CT ct))])
 | 0,i,fl,h,hf=>by
  obtain rfl:i=ps.length:=by omega
  rw [List.take_length] at hf;subst hf;have hl:=List.length_filter_le (CT ct) ps;exact uM.aC (yC q ns sv ct ps.length (aK ps) (ps.filter (CT ct)).length (aK (ps.filter (CT ct))) ps.length nb (by omega) hK (by omega) ihc (uL (by omega))) (by simp)
 | k+1,i,fl,h,hf=>by
  have hi:i<ps.length:=by omega
  have hl:fl.length<=1000:=by
   have h1:=List.length_filter_le (CT ct) (ps.take i);have h2:=List.length_take_le i ps;rw [<-hf] at h1;omega
  have q0:(Decidable.decide ((i:Int)<(ps.length:Int)))=true:=uK (by omega);have ft:=HR (met:=CT ct) hi;by_cases hm:CT ct (ps.getD i (0,0))=true
  ·rw [if_pos hm,<-hf] at ft;have ih:=Wx k (i+1) (fl++[ps.getD i (0,0)]) (by omega) ft.symm;have hrow:∀ p,p<fl.length+1->Ar fl.length (fun j=>(aK fl (0+j)).cells) (fun j=>[(aK ps (i:Int).toNat).cells].getD (0+j) []) p=(aK (fl++[ps.getD i (0,0)]) p).cells:=fun p hp=>by
    rw [<-TV hp,Ar];split
    ·rw [uJ]
    ·obtain rfl:p=fl.length:=by omega
     simp [aK]
   have el:(fl++[ps.getD i (0,0)]).length=fl.length+1:=by simp
   simp only [cO,el] at ih;have hm':=hm;simp only [uF] at hm';exact uM.uQ (uR.weaken (z9 q ns sv ct ps.length (aK ps) fl.length (aK fl) i nb (by omega) hK hl ihc q0 hm'.1 hm'.2) (uI _) (.cons (uH _) (.cons (uH _) (.cons (uH _) (.cons (uU.arr hrow) .nil))))) ih
  ·rw [if_neg hm,List.append_nil,<-hf] at ft;have ih:=Wx k (i+1) fl (by omega) ft.symm;rcases hA:ct ((ps.getD i (0,0)).1:Nat) with _ | _
   ·exact uM.uQ (yB q ns sv ct ps.length (aK ps) fl.length (aK fl) i nb (by omega) hK hl ihc q0 hA) ih
   ·have hB:ct ((ps.getD i (0,0)).2:Nat)=false:=by have h9:=hm; simp only [CT,hA,Bool.true_and,Bool.not_eq_true] at h9; exact h9
    exact uM.uQ (yA q ns sv ct ps.length (aK ps) fl.length (aK fl) i nb (by omega) hK hl ihc q0 hA hB) ih
theorem Y7:∀ (k i:Nat),i+k=ps.length->(ps.take i).filter (CT ct)=[]->
  (ps.filter (CT ct)=[]->uM prog fF false 3 Qu (bSA q ns sv ps nb Av i) [fE.map false true [],CK 0 Av 0 0,wO] (EX.leave 0,bSE q ns sv Av,[fE.map false true [],CK 0 Av 0 0,wO]))/\
  (ps.filter (CT ct)≠[]->uM prog fF false 3 Qu (bSA q ns sv ps nb Av i) [fE.map false true [],CK 0 Av 0 0,wO] (EX.leave 0,bSE q ns sv (.ms 3 2 0 (ps.filter (CT ct)).length none),[fE.map false true [],CK 0 Av 0 0,wO,cO (ps.filter (CT ct))]))
 | 0,i,h,hf=>by
  obtain rfl:i=ps.length:=by omega
  rw [List.take_length] at hf;exact ⟨fun _=>uM.aC (z8 q ns sv ct ps.length (aK ps) 0 (fun _=>default) ps.length nb (by omega) hK (by omega) ihc (uL (by omega))) (by simp),fun x=>absurd hf x⟩
 | k+1,i,h,hf=>by
  have hi:i<ps.length:=by omega
  have q0:(Decidable.decide ((i:Int)<(ps.length:Int)))=true:=uK (by omega);have ft:=HR (met:=CT ct) hi;by_cases hm:CT ct (ps.getD i (0,0))=true
  ·rw [if_pos hm,hf,List.nil_append] at ft;have ih:=Wx hK ihc (q:=q) (nb:=nb) k (i+1) [ps.getD i (0,0)] (by omega) ft.symm;refine ⟨fun e=>?_,fun _=>?_⟩
   ·have hx:ps.getD i (0,0)∈ps.filter (CT ct):=List.mem_filter.2 ⟨D9 hi,hm⟩;rw [e] at hx;exact absurd hx List.not_mem_nil
   have hrow:∀ p,p<1->[(aK ps (i:Int).toNat).cells].getD (0+p) []=(aK [ps.getD i (0,0)] p).cells:=fun p hp=>by
    obtain rfl:p=0:=by omega
    simp [aK]
   simp only [cO,List.length_singleton] at ih;have hm':=hm;simp only [uF] at hm';exact uM.uQ (uR.weaken (z5 q ns sv ct ps.length (aK ps) 0 (fun _=>default) i nb (by omega) hK (by omega) ihc q0 hm'.1 hm'.2) (uI _) (.cons (uH _) (.cons (uH _) (.cons (uH _) (.cons (uU.arr hrow) .nil))))) ih
  ·rw [if_neg hm,List.append_nil,hf] at ft;have ih:=Y7 k (i+1) (by omega) ft;have st:uR prog fF false 3 Qu (bSA q ns sv ps nb Av i) [fE.map false true [],CK 0 Av 0 0,wO] (EX.normal,bSA q ns sv ps nb Av ((i+1:Nat):Int),[fE.map false true [],CK 0 Av 0 0,wO]):=by
    rcases hA:ct ((ps.getD i (0,0)).1:Nat) with _ | _
    ·exact z7 q ns sv ct ps.length (aK ps) 0 (fun _=>default) i nb (by omega) hK (by omega) ihc q0 hA
    ·have hB:ct ((ps.getD i (0,0)).2:Nat)=false:=by have h9:=hm; simp only [CT,hA,Bool.true_and,Bool.not_eq_true] at h9; exact h9
     exact z6 q ns sv ct ps.length (aK ps) 0 (fun _=>default) i nb (by omega) hK (by omega) ihc q0 hA hB
   exact ⟨fun e=>uM.uQ st (ih.1 e),fun e=>uM.uQ st (ih.2 e)⟩
theorem YI:(ps.filter (CT ct)=[]->uT prog fF false Wt (bSA q ns sv ps nb Av 0) [fE.map false true [],CK 0 Av 0 0,wO] (EX.leave 0,bSE q ns sv Av,[fE.map false true [],CK 0 Av 0 0,wO]))/\
  (ps.filter (CT ct)≠[]->uT prog fF false Wt (bSA q ns sv ps nb Av 0) [fE.map false true [],CK 0 Av 0 0,wO] (EX.leave 0,bSE q ns sv (.ms 3 2 0 (ps.filter (CT ct)).length none),[fE.map false true [],CK 0 Av 0 0,wO,cO (ps.filter (CT ct))])):=by
 have h:=Y7 hK ihc (q:=q) (nb:=nb) ps.length 0 (by omega) rfl;exact ⟨fun e=>(h.1 e).cl (by kernel_rfl) (by kernel_rfl),fun e=>(h.2 e).cl (by kernel_rfl) (by kernel_rfl)⟩
end
abbrev Cb (xs:List uN):Nat->uN:=fun i=>xs.getD i default
abbrev arO (xs:List uN):fE:=.arr false true 3 false xs.length fun i=>(Cb xs i).cells
theorem BZ {xs:List uN}{NA:Nat}{A:Nat->uN}{x:uN}(hl:NA=xs.length)(h:∀ i,i<NA->A i=Cb xs i):∀ i,i<NA+1->B4 NA A x i=Cb (xs++[x]) i:=fun i hi=>by
 rw [B4,Cb];split
 ·rename_i h1;rw [h i h1,Cb,uA,uA,List.getElem?_append_left (by omega)]
 ·obtain rfl:i=xs.length:=by omega
  rw [uA,List.getElem?_concat_length,Option.getD_some]
theorem HS {x:uN}:∀ i,i<1->IW x i=Cb [x] i:=fun i hi=>by
 obtain rfl:i=0:=by omega
 rfl
abbrev bK (ct:Int->Bool):Nat->Bool:=fun c=>ct (c:Nat)
def Bx (ct:Int->Bool)(fl:List (Nat×Nat))(n:Nat)(all:Nat×Nat->Int)(most:Nat->Int)(j:Nat):List uN:=(CD (bK ct) (uP fl) j).map (Cp (uP fl) fl.length n (fun j=>all (uP fl j)) most)
def Mz (ct:Int->Bool)(fl:List (Nat×Nat))(j:Nat):EV:=.agg [.int .i64 (if ct (uP fl j).1 then ((CD (bK ct) (uP fl) j).length:Int)+1 else -1),.int .i64 (if ct (uP fl j).2 then (if ct (uP fl j).1 then ((CD (bK ct) (uP fl) j).length:Int)+1+1 else ((CD (bK ct) (uP fl) j).length:Int)+1) else -1)]
abbrev CU (ct:Int->Bool)(fl:List (Nat×Nat))(j:Nat):List (EV×EV):=bP (fl.take j) (Mz ct fl) 0
section
variable {ct:Int->Bool}{fl:List (Nat×Nat)}{n:Nat}{all:Nat×Nat->Int}{most:Nat->Int}
theorem E6 {j:Nat}:(Bx ct fl n all most j).length=(CD (bK ct) (uP fl) j).length:=by rw [Bx,List.length_map]
theorem OQ (j:Nat):Bx ct fl n all most (j+1)=Bx ct fl n all most j++((⟨0,1+j,all (uP fl j)⟩:uN) :: ((if ct (uP fl j).1 then [⟨1+j,1+fl.length+(uP fl j).1,all (uP fl j)⟩] else [])++if ct (uP fl j).2 then [⟨1+j,1+fl.length+(uP fl j).2,all (uP fl j)⟩] else [])):=by
 rw [Bx,CD,List.map_append]
 congr 1
 rw [Ih,List.map_cons,List.map_append]
 congr 2
 ·by_cases h:ct (uP fl j).1=true
  ·rw [if_pos h,if_pos h]; rfl
  ·rw [if_neg h,if_neg h]; rfl
 ·by_cases h:ct (uP fl j).2=true
  ·rw [if_pos h,if_pos h]; rfl
  ·rw [if_neg h,if_neg h]; rfl
theorem Mk {j:Nat}(hj:j<fl.length):CU ct fl (j+1)=CU ct fl j++[(FM (uP fl j),Mz ct fl j)]:=by
 have e:fl.take (j+1)=fl.take j++[uP fl j]:=by
  rw [List.take_add_one,uD hj,uP,uA,uD hj]; rfl
 rw [CU,e,OI,List.length_take,Nat.min_eq_left (by omega),uJ]
theorem Fm (j:Nat):(CD (bK ct) (uP fl) j).length<=3*j:=by
 induction j with
 | zero=>simp [CD]
 | succ j ih=>
  rw [CD,List.length_append,Ih,List.length_cons,List.length_append];have h1:(if bK ct (uP fl j).1=true then [Tag.toA j] else []).length<=1:=by split<;>simp
  have h2:(if bK ct (uP fl j).2=true then [Tag.toB j] else []).length<=1:=by split<;>simp
  omega
theorem OS (hnd:fl.Nodup){j:Nat}(hj:j<fl.length):BM prog 94 (FM (uP fl j)) (CU ct fl j) 0 none:=I4 _ _ _ fun h=>by
 have e:uP fl j=fl[j]:=by rw [uP,uA,uD hj]; rfl
 rw [e] at h;obtain ⟨i,hi,e2⟩:=List.mem_take_iff_getElem.1 h;have:=(List.getElem_inj hnd (h₀:=by omega) (h₁:=hj)).1 e2;omega
end
theorem Jz {q:fG}{p:Nat×Nat}(hp:p∈AG q q.m):∃ (n:Nat) (l:Nat->Int),BM prog 94 (FM p) (D0 q) 0 (some (n,.uS true 1 (AO q.gp q.m p).length fun x=>[.int .i64 (l x)])):=by
 obtain ⟨n,hn,e⟩:=List.getElem_of_mem hp;have h:=Gc (f:=gmE q) (AG q q.m) 0 0 n hn (Bo _) e;have hL:cA q q.m n=(AO q.gp q.m p).length:=by
  show (AO q.gp q.m ((AG q q.m).getD n (0,0))).length=_;rw [uA,uD hn,Option.getD_some,e]
 have hpos:0<(AO q.gp q.m p).length:=by
  obtain ⟨g,hg,e2⟩:=Gd hp;exact List.length_pos_of_mem (List.mem_filter.2 ⟨List.mem_range.2 hg,uK e2⟩)
 refine ⟨n,lN q q.m n,?_⟩;rw [uJ,gmE,hL,uK hpos] at h;exact h
theorem Cs {gp:Nat->Nat×Nat}{m:Nat}{p:Nat×Nat}:(AO gp m p).length<=m:=by
 have:=List.length_filter_le (fun g=>decide (gp g=p)) (List.range m)
 rwa [List.length_range] at this
theorem NN {F:Nat->Int}{B:Int}:∀ {k:Nat},(∀ j,j<k->0<=F j/\F j<=B)->0<=Bd F k/\Bd F k<=B*k
 | 0,_=>by simp [Bd]
 | k+1,h=>by
  have h1:=NN (k:=k) fun j hj=>h j (by omega);have h2:=h k (by omega);rw [Bd];have:B*((k+1:Nat):Int)=B*k+B:=by rw [Int.natCast_add,Int.mul_add]; simp
  omega
section
variable {q:fG}{ns:Nat}{sv:Nat->Int}{ct:Int->Bool}{fl:List (Nat×Nat)}{n:Nat}{most:Nat->Int}{V:Int}(hK:fl.length<=900)(hm:q.m<=1000)(hnd:fl.Nodup)(hmem:∀ p,p∈fl->p∈AG q q.m/\p.1<=1000/\p.2<=1000)
 (ihc:∀ x:Int,uY prog fF 59 [.int .i64 x,EV.ip [AW true ns sv] 0] (.bool (ct x)))
abbrev bTB (q:fG)(ns:Nat)(sv:Nat->Int)(K:Nat)(i:Int):List EV:=frame 195 [(0,EV.ip (AD q) 0),(1,EV.func (.func 59) [] [EV.ip [AW true ns sv] 0]),(2,EV.bool false),(3,EV.func (.func 61) [EV.ip (AD q) 0] []),(9,.ptr 2 0),(13,EV.func (.func 88) [] [.ptr 2 0]),(87,.ms 3 2 0 K none),(88,.int .i64 K),(89,.int .i64 i)]
abbrev bTF (q:fG)(ns:Nat)(sv:Nat->Int):List EV:=frame 195 [(0,EV.ip (AD q) 0),(1,EV.func (.func 59) [] [EV.ip [AW true ns sv] 0]),(2,EV.bool false),(3,EV.func (.func 61) [EV.ip (AD q) 0] []),(9,.ptr 2 0),(13,EV.func (.func 88) [] [.ptr 2 0])]
abbrev Ii (q:fG)(fl:List (Nat×Nat))(j:Nat):Int:=0
include hK hm hnd hmem ihc
theorem TW {j:Nat}(hj:j<fl.length){NA:Nat}{A:Nat->uN}{es:List (EV×EV)}{tot:Int}(h1:NA=(Bx ct fl n (Ac q.gl q.gr q.m) most j).length)(h2:∀ i,i<NA->A i=Cb (Bx ct fl n (Ac q.gl q.gr q.m) most j) i)(h3:es=CU ct fl j)(h4:tot=Ii q fl j):
  ∃ (NA':Nat) (A':Nat->uN) (es':List (EV×EV)) (tot':Int),NA'=(Bx ct fl n (Ac q.gl q.gr q.m) most (j+1)).length/\(∀ i,i<NA'->A' i=Cb (Bx ct fl n (Ac q.gl q.gr q.m) most (j+1)) i)/\es'=CU ct fl (j+1)/\tot'=Ii q fl (j+1)/\
   uR prog fF false 4 Si (bTB q ns sv fl.length j) [fE.map false true es,CK V (.ms 4 3 0 NA none) tot (1+fl.length),wO,cO fl,fE.arr false true 3 false NA fun i=>(A i).cells]
    (EX.normal,bTB q ns sv fl.length ((j:Int)+1),[fE.map false true es',CK V (.ms 4 3 0 NA' none) tot' (1+fl.length),wO,cO fl,fE.arr false true 3 false NA' fun i=>(A' i).cells])/\
   (j=0->uR prog fF false 4 Si (bTB q ns sv fl.length j) [fE.map false true es,CK V Av tot (1+fl.length),wO,cO fl]
    (EX.normal,bTB q ns sv fl.length ((j:Int)+1),[fE.map false true es',CK V (.ms 4 3 0 NA' none) tot' (1+fl.length),wO,cO fl,fE.arr false true 3 false NA' fun i=>(A' i).cells])):=by
 have zz:0+((j:Nat):Int).toNat=j:=by omega
 have hp:uP fl j∈fl:=D9 hj;obtain ⟨hp1,hp2,hp3⟩:=hmem _ hp;obtain ⟨nn,l,hfy⟩:=Jz hp1;have hfn:=OS (ct:=ct) hnd hj;rw [<-h3] at hfn;have hL:=Cs (gp:=q.gp) (m:=q.m) (p:=uP fl j);have hNA:NA<=2700:=by
  have:=Fm (ct:=ct) (fl:=fl) j;rw [h1,E6]; omega
 have hN:(CD (bK ct) (uP fl) j).length=NA:=by rw [h1,E6]
 have hT:0<=tot/\tot<=100000000:=by
  rw [h4];show (0:Int)<=0/\(0:Int)<=100000000;exact ⟨by decide,by decide⟩
 have q0:(Decidable.decide ((j:Int)<(fl.length:Int)))=true:=uK (by omega);have hF:(j:Int)<fl.length->0<=(aK fl (0+((j:Nat):Int).toNat)).left/\(aK fl (0+((j:Nat):Int).toNat)).left<=1000/\0<=(aK fl (0+((j:Nat):Int).toNat)).right/\(aK fl (0+((j:Nat):Int).toNat)).right<=1000:=fun _=>by
  rw [zz];show 0<=((uP fl j).1:Int)/\((uP fl j).1:Int)<=1000/\0<=((uP fl j).2:Int)/\((uP fl j).2:Int)<=1000;omega
 have e1:=OQ (ct:=ct) (fl:=fl) (n:=n) (all:=Ac q.gl q.gr q.m) (most:=most) j;have e2:=Mk (ct:=ct) hj;have hzA:j=0->Bx ct fl n (Ac q.gl q.gr q.m) most j=[]:=fun h=>by subst h; rfl
 rcases hA:ct (uP fl j).1 with _ | _<;>rcases hB:ct (uP fl j).2 with _ | _
 ·simp only [hA,hB,Bool.false_eq_true,if_false,if_true,List.nil_append,List.append_nil,List.cons_append] at e1;have st:=yL q ns sv ct fl.length (aK fl) NA A es V tot (1+fl.length) nn (AO q.gp q.m (uP fl j)).length l true j (by omega) (by omega) (by omega) (by omega) (by omega) (by omega) hT.1 hT.2 rfl hF ihc (fun _=>by rw [zz]; exact hfy) (fun _=>by rw [zz]; exact hfn) q0 (by rw [zz]; exact hA) (by rw [zz]; exact hB);have sn:=yG q ns sv ct fl.length (aK fl) 0 (fun _=>default) es V tot (1+fl.length) nn (AO q.gp q.m (uP fl j)).length l true j (by omega) (by omega) (by omega) (by omega) (by omega) (by omega) hT.1 hT.2 rfl hF ihc (fun _=>by rw [zz]; exact hfy) (fun _=>by rw [zz]; exact hfn) q0 (by rw [zz]; exact hA) (by rw [zz]; exact hB);rw [zz] at st sn;have hu:∀ i,i<NA+1->(B4 (NA) A (⟨0,1+(j:Int),Ac q.gl q.gr q.m (uP fl j)⟩:uN)) i=Cb ((Bx ct fl n (Ac q.gl q.gr q.m) most j)++[(⟨0,1+(j:Int),Ac q.gl q.gr q.m (uP fl j)⟩:uN)]) i:=BZ h1 h2;have hn:∀ i,i<1->(IW (⟨0,1+(j:Int),Ac q.gl q.gr q.m (uP fl j)⟩:uN)) i=Cb [(⟨0,1+(j:Int),Ac q.gl q.gr q.m (uP fl j)⟩:uN)] i:=HS;refine ⟨_,_,_,_,?_,?_,?_,?_,st,fun h0=>?_⟩
  ·rw [e1,h1]; simp
  ·rw [e1];exact hu
  ·rw [e2,h3,Mz,hN,hA,hB]; rfl
  ·exact h4
  ·have hN0:NA=0:=by rw [h1,hzA h0]; rfl
   subst hN0;rw [hzA h0] at hu;exact uR.weaken sn (uI _) (.cons (uH _) (.cons (uH _) (.cons (uH _) (.cons (uH _) (.cons (uU.arr fun i hi=>congrArg uN.cells ((hn i hi).trans (hu i hi).symm)) .nil)))))
 ·simp only [hA,hB,Bool.false_eq_true,if_false,if_true,List.nil_append,List.append_nil,List.cons_append] at e1;have st:=yK q ns sv ct fl.length (aK fl) NA A es V tot (1+fl.length) nn (AO q.gp q.m (uP fl j)).length l true j (by omega) (by omega) (by omega) (by omega) (by omega) (by omega) hT.1 hT.2 rfl hF ihc (fun _=>by rw [zz]; exact hfy) (fun _=>by rw [zz]; exact hfn) q0 (by rw [zz]; exact hA) (by rw [zz]; exact hB);have sn:=yF q ns sv ct fl.length (aK fl) 0 (fun _=>default) es V tot (1+fl.length) nn (AO q.gp q.m (uP fl j)).length l true j (by omega) (by omega) (by omega) (by omega) (by omega) (by omega) hT.1 hT.2 rfl hF ihc (fun _=>by rw [zz]; exact hfy) (fun _=>by rw [zz]; exact hfn) q0 (by rw [zz]; exact hA) (by rw [zz]; exact hB);rw [zz] at st sn;have hu:∀ i,i<NA+1+1->(B4 (NA+1) (B4 (NA) A (⟨0,1+(j:Int),Ac q.gl q.gr q.m (uP fl j)⟩:uN)) (⟨1+(j:Int),1+(fl.length:Int)+((uP fl j).2:Nat),Ac q.gl q.gr q.m (uP fl j)⟩:uN)) i=Cb (((Bx ct fl n (Ac q.gl q.gr q.m) most j)++[(⟨0,1+(j:Int),Ac q.gl q.gr q.m (uP fl j)⟩:uN)])++[(⟨1+(j:Int),1+(fl.length:Int)+((uP fl j).2:Nat),Ac q.gl q.gr q.m (uP fl j)⟩:uN)]) i:=BZ (by simp [h1]) (BZ h1 h2);have hn:∀ i,i<2->(B4 1 (IW (⟨0,1+(j:Int),Ac q.gl q.gr q.m (uP fl j)⟩:uN)) (⟨1+(j:Int),1+(fl.length:Int)+((uP fl j).2:Nat),Ac q.gl q.gr q.m (uP fl j)⟩:uN)) i=Cb [(⟨0,1+(j:Int),Ac q.gl q.gr q.m (uP fl j)⟩:uN),(⟨1+(j:Int),1+(fl.length:Int)+((uP fl j).2:Nat),Ac q.gl q.gr q.m (uP fl j)⟩:uN)] i:=BZ (xs:=[(⟨0,1+(j:Int),Ac q.gl q.gr q.m (uP fl j)⟩:uN)]) rfl (HS);refine ⟨_,_,_,_,?_,?_,?_,?_,st,fun h0=>?_⟩
  ·rw [e1,h1]; simp
  ·rw [e1];rw [List.append_cons];exact hu
  ·rw [e2,h3,Mz,hN,hA,hB]; rfl
  ·exact h4
  ·have hN0:NA=0:=by rw [h1,hzA h0]; rfl
   subst hN0;rw [hzA h0] at hu;exact uR.weaken sn (uI _) (.cons (uH _) (.cons (uH _) (.cons (uH _) (.cons (uH _) (.cons (uU.arr fun i hi=>congrArg uN.cells ((hn i hi).trans (hu i hi).symm)) .nil)))))
 ·simp only [hA,hB,Bool.false_eq_true,if_false,if_true,List.nil_append,List.append_nil,List.cons_append] at e1;have st:=yJ q ns sv ct fl.length (aK fl) NA A es V tot (1+fl.length) nn (AO q.gp q.m (uP fl j)).length l true j (by omega) (by omega) (by omega) (by omega) (by omega) (by omega) hT.1 hT.2 rfl hF ihc (fun _=>by rw [zz]; exact hfy) (fun _=>by rw [zz]; exact hfn) q0 (by rw [zz]; exact hA) (by rw [zz]; exact hB);have sn:=yE q ns sv ct fl.length (aK fl) 0 (fun _=>default) es V tot (1+fl.length) nn (AO q.gp q.m (uP fl j)).length l true j (by omega) (by omega) (by omega) (by omega) (by omega) (by omega) hT.1 hT.2 rfl hF ihc (fun _=>by rw [zz]; exact hfy) (fun _=>by rw [zz]; exact hfn) q0 (by rw [zz]; exact hA) (by rw [zz]; exact hB);rw [zz] at st sn;have hu:∀ i,i<NA+1+1->(B4 (NA+1) (B4 (NA) A (⟨0,1+(j:Int),Ac q.gl q.gr q.m (uP fl j)⟩:uN)) (⟨1+(j:Int),1+(fl.length:Int)+((uP fl j).1:Nat),Ac q.gl q.gr q.m (uP fl j)⟩:uN)) i=Cb (((Bx ct fl n (Ac q.gl q.gr q.m) most j)++[(⟨0,1+(j:Int),Ac q.gl q.gr q.m (uP fl j)⟩:uN)])++[(⟨1+(j:Int),1+(fl.length:Int)+((uP fl j).1:Nat),Ac q.gl q.gr q.m (uP fl j)⟩:uN)]) i:=BZ (by simp [h1]) (BZ h1 h2);have hn:∀ i,i<2->(B4 1 (IW (⟨0,1+(j:Int),Ac q.gl q.gr q.m (uP fl j)⟩:uN)) (⟨1+(j:Int),1+(fl.length:Int)+((uP fl j).1:Nat),Ac q.gl q.gr q.m (uP fl j)⟩:uN)) i=Cb [(⟨0,1+(j:Int),Ac q.gl q.gr q.m (uP fl j)⟩:uN),(⟨1+(j:Int),1+(fl.length:Int)+((uP fl j).1:Nat),Ac q.gl q.gr q.m (uP fl j)⟩:uN)] i:=BZ (xs:=[(⟨0,1+(j:Int),Ac q.gl q.gr q.m (uP fl j)⟩:uN)]) rfl (HS);refine ⟨_,_,_,_,?_,?_,?_,?_,st,fun h0=>?_⟩
  ·rw [e1,h1]; simp
  ·rw [e1];rw [List.append_cons];exact hu
  ·rw [e2,h3,Mz,hN,hA,hB]; rfl
  ·exact h4
  ·have hN0:NA=0:=by rw [h1,hzA h0]; rfl
   subst hN0;rw [hzA h0] at hu;exact uR.weaken sn (uI _) (.cons (uH _) (.cons (uH _) (.cons (uH _) (.cons (uH _) (.cons (uU.arr fun i hi=>congrArg uN.cells ((hn i hi).trans (hu i hi).symm)) .nil)))))
 ·simp only [hA,hB,Bool.false_eq_true,if_false,if_true,List.nil_append,List.append_nil,List.cons_append] at e1;have st:=yI q ns sv ct fl.length (aK fl) NA A es V tot (1+fl.length) nn (AO q.gp q.m (uP fl j)).length l true j (by omega) (by omega) (by omega) (by omega) (by omega) (by omega) hT.1 hT.2 rfl hF ihc (fun _=>by rw [zz]; exact hfy) (fun _=>by rw [zz]; exact hfn) q0 (by rw [zz]; exact hA) (by rw [zz]; exact hB);have sn:=yD q ns sv ct fl.length (aK fl) 0 (fun _=>default) es V tot (1+fl.length) nn (AO q.gp q.m (uP fl j)).length l true j (by omega) (by omega) (by omega) (by omega) (by omega) (by omega) hT.1 hT.2 rfl hF ihc (fun _=>by rw [zz]; exact hfy) (fun _=>by rw [zz]; exact hfn) q0 (by rw [zz]; exact hA) (by rw [zz]; exact hB);rw [zz] at st sn;have hu:∀ i,i<NA+1+1+1->(B4 (NA+1+1) (B4 (NA+1) (B4 (NA) A (⟨0,1+(j:Int),Ac q.gl q.gr q.m (uP fl j)⟩:uN)) (⟨1+(j:Int),1+(fl.length:Int)+((uP fl j).1:Nat),Ac q.gl q.gr q.m (uP fl j)⟩:uN)) (⟨1+(j:Int),1+(fl.length:Int)+((uP fl j).2:Nat),Ac q.gl q.gr q.m (uP fl j)⟩:uN)) i=Cb ((((Bx ct fl n (Ac q.gl q.gr q.m) most j)++[(⟨0,1+(j:Int),Ac q.gl q.gr q.m (uP fl j)⟩:uN)])++[(⟨1+(j:Int),1+(fl.length:Int)+((uP fl j).1:Nat),Ac q.gl q.gr q.m (uP fl j)⟩:uN)])++[(⟨1+(j:Int),1+(fl.length:Int)+((uP fl j).2:Nat),Ac q.gl q.gr q.m (uP fl j)⟩:uN)]) i:=BZ (by simp [h1]) (BZ (by simp [h1]) (BZ h1 h2));have hn:∀ i,i<3->(B4 2 (B4 1 (IW (⟨0,1+(j:Int),Ac q.gl q.gr q.m (uP fl j)⟩:uN)) (⟨1+(j:Int),1+(fl.length:Int)+((uP fl j).1:Nat),Ac q.gl q.gr q.m (uP fl j)⟩:uN)) (⟨1+(j:Int),1+(fl.length:Int)+((uP fl j).2:Nat),Ac q.gl q.gr q.m (uP fl j)⟩:uN)) i=Cb [(⟨0,1+(j:Int),Ac q.gl q.gr q.m (uP fl j)⟩:uN),(⟨1+(j:Int),1+(fl.length:Int)+((uP fl j).1:Nat),Ac q.gl q.gr q.m (uP fl j)⟩:uN),(⟨1+(j:Int),1+(fl.length:Int)+((uP fl j).2:Nat),Ac q.gl q.gr q.m (uP fl j)⟩:uN)] i:=BZ (xs:=[(⟨0,1+(j:Int),Ac q.gl q.gr q.m (uP fl j)⟩:uN),(⟨1+(j:Int),1+(fl.length:Int)+((uP fl j).1:Nat),Ac q.gl q.gr q.m (uP fl j)⟩:uN)]) rfl (BZ (xs:=[(⟨0,1+(j:Int),Ac q.gl q.gr q.m (uP fl j)⟩:uN)]) rfl (HS));refine ⟨_,_,_,_,?_,?_,?_,?_,st,fun h0=>?_⟩
  ·rw [e1,h1]; simp
  ·rw [e1];rw [List.append_cons,List.append_cons];exact hu
  ·rw [e2,h3,Mz,hN,hA,hB]; rfl
  ·exact h4
  ·have hN0:NA=0:=by rw [h1,hzA h0]; rfl
   subst hN0;rw [hzA h0] at hu;exact uR.weaken sn (uI _) (.cons (uH _) (.cons (uH _) (.cons (uH _) (.cons (uH _) (.cons (uU.arr fun i hi=>congrArg uN.cells ((hn i hi).trans (hu i hi).symm)) .nil)))))
theorem Y8:∀ (k j NA:Nat) (A:Nat->uN) (es:List (EV×EV)) (tot:Int),j+k=fl.length->NA=(Bx ct fl n (Ac q.gl q.gr q.m) most j).length->(∀ i,i<NA->A i=Cb (Bx ct fl n (Ac q.gl q.gr q.m) most j) i)->es=CU ct fl j->tot=Ii q fl j->
  uM prog fF false 4 Si (bTB q ns sv fl.length j) [fE.map false true es,CK V (.ms 4 3 0 NA none) tot (1+fl.length),wO,cO fl,fE.arr false true 3 false NA fun i=>(A i).cells]
   (EX.leave 2,bTF q ns sv,[fE.map false true (CU ct fl fl.length),CK V (.ms 4 3 0 (Bx ct fl n (Ac q.gl q.gr q.m) most fl.length).length none) (Ii q fl fl.length) (1+fl.length),wO,cO fl,arO (Bx ct fl n (Ac q.gl q.gr q.m) most fl.length)])
 | 0,j,NA,A,es,tot,h,h1,h2,h3,h4=>by
  obtain rfl:j=fl.length:=by omega
  subst h1 h3 h4;have hT:0<=Ii q fl fl.length/\Ii q fl fl.length<=100000000:=by
   show (0:Int)<=0/\(0:Int)<=100000000;exact ⟨by decide,by decide⟩
  have hNA:=Fm (ct:=ct) (fl:=fl) fl.length;rw [<-E6 (n:=n) (all:=Ac q.gl q.gr q.m) (most:=most)] at hNA;exact uM.aC (uR.weaken (yM q ns sv ct fl.length (aK fl) (Bx ct fl n (Ac q.gl q.gr q.m) most fl.length).length A (CU ct fl fl.length) V (Ii q fl fl.length) (1+fl.length) 0 0 (fun _=>0) true fl.length (by omega) (by omega) (by omega) (by omega) (by omega) (by omega) hT.1 hT.2 rfl (fun h=>absurd h (by omega)) ihc (fun h=>absurd h (by omega)) (fun h=>absurd h (by omega)) (uL (by omega))) (uI _)
   (.cons (uH _) (.cons (uH _) (.cons (uH _) (.cons (uH _) (.cons (uU.arr fun i hi=>congrArg uN.cells (h2 i hi)) .nil)))))) (by simp)
 | k+1,j,NA,A,es,tot,h,h1,h2,h3,h4=>by
  obtain ⟨NA',A',es',tot',g1,g2,g3,g4,g5,_⟩:=TW hK hm hnd hmem ihc (n:=n) (most:=most) (V:=V) (show j<fl.length by omega) h1 h2 h3 h4;exact uM.uQ g5 (Y8 k (j+1) NA' A' es' tot' (by omega) g1 g2 g3 g4)
theorem YJ (h0:fl≠[]):uT prog fF false yH (bTB q ns sv fl.length 0) [fE.map false true [],CK V Av 0 (1+fl.length),wO,cO fl]
   (EX.leave 2,bTF q ns sv,[fE.map false true (CU ct fl fl.length),CK V (.ms 4 3 0 (Bx ct fl n (Ac q.gl q.gr q.m) most fl.length).length none) (Ii q fl fl.length) (1+fl.length),wO,cO fl,arO (Bx ct fl n (Ac q.gl q.gr q.m) most fl.length)]):=by
 have hl:=List.length_pos_iff.2 h0;obtain ⟨NA',A',es',tot',g1,g2,g3,g4,_,g6⟩:=TW hK hm hnd hmem ihc (ct:=ct) (n:=n) (most:=most) (V:=V) (A:=fun _=>default) (show 0<fl.length by omega) rfl (fun i hi=>absurd hi (by show ¬ i<0; omega)) rfl rfl;exact (uM.uQ (g6 rfl) (Y8 hK hm hnd hmem ihc (fl.length - 1) 1 NA' A' es' tot' (by omega) g1 g2 g3 g4)).cl (by kernel_rfl) (by kernel_rfl)
end
section
variable {q:fG}{ns:Nat}{sv:Nat->Int}{ct:Int->Bool}{fl:List (Nat×Nat)}{n:Nat}{most:Nat->Int}{V:Int}(hK:fl.length<=900)(hm:q.m<=1000)(hnd:fl.Nodup)(hmem:∀ p,p∈fl->p∈AG q q.m/\p.1<=1000/\p.2<=1000)
 (ihc:∀ x:Int,uY prog fF 65 [.int .i64 x,EV.ip [EV.ip (AD q) 0] 0,EV.ip [AW true ns sv] 0] (.bool (ct x)))
abbrev bSB (q:fG)(ns:Nat)(sv:Nat->Int)(K:Nat)(i:Int):List EV:=frame 195 [(0,EV.ip (AD q) 0),(1,EV.func (.func 65) [] [EV.ip [EV.ip (AD q) 0] 0,EV.ip [AW true ns sv] 0]),(2,EV.bool true),(3,EV.func (.func 66) [EV.ip (AD q) 0] []),(9,.ptr 2 0),(13,EV.func (.func 88) [] [.ptr 2 0]),(87,.ms 3 2 0 K none),(88,.int .i64 K),(89,.int .i64 i)]
abbrev bSF (q:fG)(ns:Nat)(sv:Nat->Int):List EV:=frame 195 [(0,EV.ip (AD q) 0),(1,EV.func (.func 65) [] [EV.ip [EV.ip (AD q) 0] 0,EV.ip [AW true ns sv] 0]),(2,EV.bool true),(3,EV.func (.func 66) [EV.ip (AD q) 0] []),(9,.ptr 2 0),(13,EV.func (.func 88) [] [.ptr 2 0])]
abbrev I5 (q:fG)(fl:List (Nat×Nat))(j:Nat):Int:=Bd (fun i=>Ac q.gl q.gr q.m (uP fl i)) j
include hK hm hnd hmem ihc
theorem TX {j:Nat}(hj:j<fl.length){NA:Nat}{A:Nat->uN}{es:List (EV×EV)}{tot:Int}(h1:NA=(Bx ct fl n (Ac q.gl q.gr q.m) most j).length)(h2:∀ i,i<NA->A i=Cb (Bx ct fl n (Ac q.gl q.gr q.m) most j) i)(h3:es=CU ct fl j)(h4:tot=I5 q fl j):
  ∃ (NA':Nat) (A':Nat->uN) (es':List (EV×EV)) (tot':Int),NA'=(Bx ct fl n (Ac q.gl q.gr q.m) most (j+1)).length/\(∀ i,i<NA'->A' i=Cb (Bx ct fl n (Ac q.gl q.gr q.m) most (j+1)) i)/\es'=CU ct fl (j+1)/\tot'=I5 q fl (j+1)/\
   uR prog fF false 4 Sj (bSB q ns sv fl.length j) [fE.map false true es,CK V (.ms 4 3 0 NA none) tot (1+fl.length),wO,cO fl,fE.arr false true 3 false NA fun i=>(A i).cells]
    (EX.normal,bSB q ns sv fl.length ((j:Int)+1),[fE.map false true es',CK V (.ms 4 3 0 NA' none) tot' (1+fl.length),wO,cO fl,fE.arr false true 3 false NA' fun i=>(A' i).cells])/\
   (j=0->uR prog fF false 4 Sj (bSB q ns sv fl.length j) [fE.map false true es,CK V Av tot (1+fl.length),wO,cO fl]
    (EX.normal,bSB q ns sv fl.length ((j:Int)+1),[fE.map false true es',CK V (.ms 4 3 0 NA' none) tot' (1+fl.length),wO,cO fl,fE.arr false true 3 false NA' fun i=>(A' i).cells])):=by
 have zz:0+((j:Nat):Int).toNat=j:=by omega
 have hp:uP fl j∈fl:=D9 hj;obtain ⟨hp1,hp2,hp3⟩:=hmem _ hp;obtain ⟨nn,l,hfy⟩:=Jz hp1;have hfn:=OS (ct:=ct) hnd hj;rw [<-h3] at hfn;have hL:=Cs (gp:=q.gp) (m:=q.m) (p:=uP fl j);have hNA:NA<=2700:=by
  have:=Fm (ct:=ct) (fl:=fl) j;rw [h1,E6]; omega
 have hN:(CD (bK ct) (uP fl) j).length=NA:=by rw [h1,E6]
 have hT:0<=tot/\tot<=100000000:=by
  have:=NN (F:=fun i=>Ac q.gl q.gr q.m (uP fl i)) (B:=2000) (k:=j) fun i _=>by
   have:=Cs (gp:=q.gp) (m:=q.m) (p:=uP fl i);show 0<=2*((AO q.gp q.m (uP fl i)).length:Int)/\2*((AO q.gp q.m (uP fl i)).length:Int)<=2000;omega
  rw [h4];show 0<=Bd (fun i=>Ac q.gl q.gr q.m (uP fl i)) j/\Bd (fun i=>Ac q.gl q.gr q.m (uP fl i)) j<=100000000;omega
 have q0:(Decidable.decide ((j:Int)<(fl.length:Int)))=true:=uK (by omega);have hF:(j:Int)<fl.length->0<=(aK fl (0+((j:Nat):Int).toNat)).left/\(aK fl (0+((j:Nat):Int).toNat)).left<=1000/\0<=(aK fl (0+((j:Nat):Int).toNat)).right/\(aK fl (0+((j:Nat):Int).toNat)).right<=1000:=fun _=>by
  rw [zz];show 0<=((uP fl j).1:Int)/\((uP fl j).1:Int)<=1000/\0<=((uP fl j).2:Int)/\((uP fl j).2:Int)<=1000;omega
 have e1:=OQ (ct:=ct) (fl:=fl) (n:=n) (all:=Ac q.gl q.gr q.m) (most:=most) j;have e2:=Mk (ct:=ct) hj;have hzA:j=0->Bx ct fl n (Ac q.gl q.gr q.m) most j=[]:=fun h=>by subst h; rfl
 rcases hA:ct (uP fl j).1 with _ | _<;>rcases hB:ct (uP fl j).2 with _ | _
 ·simp only [hA,hB,Bool.false_eq_true,if_false,if_true,List.nil_append,List.append_nil,List.cons_append] at e1;have st:=yV q ns sv ct fl.length (aK fl) NA A es V tot (1+fl.length) nn (AO q.gp q.m (uP fl j)).length l true j (by omega) (by omega) (by omega) (by omega) (by omega) (by omega) hT.1 hT.2 rfl hF ihc (fun _=>by rw [zz]; exact hfy) (fun _=>by rw [zz]; exact hfn) q0 (by rw [zz]; exact hA) (by rw [zz]; exact hB);have sn:=yQ q ns sv ct fl.length (aK fl) 0 (fun _=>default) es V tot (1+fl.length) nn (AO q.gp q.m (uP fl j)).length l true j (by omega) (by omega) (by omega) (by omega) (by omega) (by omega) hT.1 hT.2 rfl hF ihc (fun _=>by rw [zz]; exact hfy) (fun _=>by rw [zz]; exact hfn) q0 (by rw [zz]; exact hA) (by rw [zz]; exact hB);rw [zz] at st sn;have hu:∀ i,i<NA+1->(B4 (NA) A (⟨0,1+(j:Int),Ac q.gl q.gr q.m (uP fl j)⟩:uN)) i=Cb ((Bx ct fl n (Ac q.gl q.gr q.m) most j)++[(⟨0,1+(j:Int),Ac q.gl q.gr q.m (uP fl j)⟩:uN)]) i:=BZ h1 h2;have hn:∀ i,i<1->(IW (⟨0,1+(j:Int),Ac q.gl q.gr q.m (uP fl j)⟩:uN)) i=Cb [(⟨0,1+(j:Int),Ac q.gl q.gr q.m (uP fl j)⟩:uN)] i:=HS;refine ⟨_,_,_,_,?_,?_,?_,?_,st,fun h0=>?_⟩
  ·rw [e1,h1]; simp
  ·rw [e1];exact hu
  ·rw [e2,h3,Mz,hN,hA,hB]; rfl
  ·rw [h4]; rfl
  ·have hN0:NA=0:=by rw [h1,hzA h0]; rfl
   subst hN0;rw [hzA h0] at hu;exact uR.weaken sn (uI _) (.cons (uH _) (.cons (uH _) (.cons (uH _) (.cons (uH _) (.cons (uU.arr fun i hi=>congrArg uN.cells ((hn i hi).trans (hu i hi).symm)) .nil)))))
 ·simp only [hA,hB,Bool.false_eq_true,if_false,if_true,List.nil_append,List.append_nil,List.cons_append] at e1;have st:=yU q ns sv ct fl.length (aK fl) NA A es V tot (1+fl.length) nn (AO q.gp q.m (uP fl j)).length l true j (by omega) (by omega) (by omega) (by omega) (by omega) (by omega) hT.1 hT.2 rfl hF ihc (fun _=>by rw [zz]; exact hfy) (fun _=>by rw [zz]; exact hfn) q0 (by rw [zz]; exact hA) (by rw [zz]; exact hB);have sn:=yP q ns sv ct fl.length (aK fl) 0 (fun _=>default) es V tot (1+fl.length) nn (AO q.gp q.m (uP fl j)).length l true j (by omega) (by omega) (by omega) (by omega) (by omega) (by omega) hT.1 hT.2 rfl hF ihc (fun _=>by rw [zz]; exact hfy) (fun _=>by rw [zz]; exact hfn) q0 (by rw [zz]; exact hA) (by rw [zz]; exact hB);rw [zz] at st sn;have hu:∀ i,i<NA+1+1->(B4 (NA+1) (B4 (NA) A (⟨0,1+(j:Int),Ac q.gl q.gr q.m (uP fl j)⟩:uN)) (⟨1+(j:Int),1+(fl.length:Int)+((uP fl j).2:Nat),Ac q.gl q.gr q.m (uP fl j)⟩:uN)) i=Cb (((Bx ct fl n (Ac q.gl q.gr q.m) most j)++[(⟨0,1+(j:Int),Ac q.gl q.gr q.m (uP fl j)⟩:uN)])++[(⟨1+(j:Int),1+(fl.length:Int)+((uP fl j).2:Nat),Ac q.gl q.gr q.m (uP fl j)⟩:uN)]) i:=BZ (by simp [h1]) (BZ h1 h2);have hn:∀ i,i<2->(B4 1 (IW (⟨0,1+(j:Int),Ac q.gl q.gr q.m (uP fl j)⟩:uN)) (⟨1+(j:Int),1+(fl.length:Int)+((uP fl j).2:Nat),Ac q.gl q.gr q.m (uP fl j)⟩:uN)) i=Cb [(⟨0,1+(j:Int),Ac q.gl q.gr q.m (uP fl j)⟩:uN),(⟨1+(j:Int),1+(fl.length:Int)+((uP fl j).2:Nat),Ac q.gl q.gr q.m (uP fl j)⟩:uN)] i:=BZ (xs:=[(⟨0,1+(j:Int),Ac q.gl q.gr q.m (uP fl j)⟩:uN)]) rfl (HS);refine ⟨_,_,_,_,?_,?_,?_,?_,st,fun h0=>?_⟩
  ·rw [e1,h1]; simp
  ·rw [e1];rw [List.append_cons];exact hu
  ·rw [e2,h3,Mz,hN,hA,hB]; rfl
  ·rw [h4]; rfl
  ·have hN0:NA=0:=by rw [h1,hzA h0]; rfl
   subst hN0;rw [hzA h0] at hu;exact uR.weaken sn (uI _) (.cons (uH _) (.cons (uH _) (.cons (uH _) (.cons (uH _) (.cons (uU.arr fun i hi=>congrArg uN.cells ((hn i hi).trans (hu i hi).symm)) .nil)))))
 ·simp only [hA,hB,Bool.false_eq_true,if_false,if_true,List.nil_append,List.append_nil,List.cons_append] at e1;have st:=yT q ns sv ct fl.length (aK fl) NA A es V tot (1+fl.length) nn (AO q.gp q.m (uP fl j)).length l true j (by omega) (by omega) (by omega) (by omega) (by omega) (by omega) hT.1 hT.2 rfl hF ihc (fun _=>by rw [zz]; exact hfy) (fun _=>by rw [zz]; exact hfn) q0 (by rw [zz]; exact hA) (by rw [zz]; exact hB);have sn:=yO q ns sv ct fl.length (aK fl) 0 (fun _=>default) es V tot (1+fl.length) nn (AO q.gp q.m (uP fl j)).length l true j (by omega) (by omega) (by omega) (by omega) (by omega) (by omega) hT.1 hT.2 rfl hF ihc (fun _=>by rw [zz]; exact hfy) (fun _=>by rw [zz]; exact hfn) q0 (by rw [zz]; exact hA) (by rw [zz]; exact hB);rw [zz] at st sn;have hu:∀ i,i<NA+1+1->(B4 (NA+1) (B4 (NA) A (⟨0,1+(j:Int),Ac q.gl q.gr q.m (uP fl j)⟩:uN)) (⟨1+(j:Int),1+(fl.length:Int)+((uP fl j).1:Nat),Ac q.gl q.gr q.m (uP fl j)⟩:uN)) i=Cb (((Bx ct fl n (Ac q.gl q.gr q.m) most j)++[(⟨0,1+(j:Int),Ac q.gl q.gr q.m (uP fl j)⟩:uN)])++[(⟨1+(j:Int),1+(fl.length:Int)+((uP fl j).1:Nat),Ac q.gl q.gr q.m (uP fl j)⟩:uN)]) i:=BZ (by simp [h1]) (BZ h1 h2);have hn:∀ i,i<2->(B4 1 (IW (⟨0,1+(j:Int),Ac q.gl q.gr q.m (uP fl j)⟩:uN)) (⟨1+(j:Int),1+(fl.length:Int)+((uP fl j).1:Nat),Ac q.gl q.gr q.m (uP fl j)⟩:uN)) i=Cb [(⟨0,1+(j:Int),Ac q.gl q.gr q.m (uP fl j)⟩:uN),(⟨1+(j:Int),1+(fl.length:Int)+((uP fl j).1:Nat),Ac q.gl q.gr q.m (uP fl j)⟩:uN)] i:=BZ (xs:=[(⟨0,1+(j:Int),Ac q.gl q.gr q.m (uP fl j)⟩:uN)]) rfl (HS);refine ⟨_,_,_,_,?_,?_,?_,?_,st,fun h0=>?_⟩
  ·rw [e1,h1]; simp
  ·rw [e1];rw [List.append_cons];exact hu
  ·rw [e2,h3,Mz,hN,hA,hB]; rfl
  ·rw [h4]; rfl
  ·have hN0:NA=0:=by rw [h1,hzA h0]; rfl
   subst hN0;rw [hzA h0] at hu;exact uR.weaken sn (uI _) (.cons (uH _) (.cons (uH _) (.cons (uH _) (.cons (uH _) (.cons (uU.arr fun i hi=>congrArg uN.cells ((hn i hi).trans (hu i hi).symm)) .nil)))))
 ·simp only [hA,hB,Bool.false_eq_true,if_false,if_true,List.nil_append,List.append_nil,List.cons_append] at e1;have st:=yS q ns sv ct fl.length (aK fl) NA A es V tot (1+fl.length) nn (AO q.gp q.m (uP fl j)).length l true j (by omega) (by omega) (by omega) (by omega) (by omega) (by omega) hT.1 hT.2 rfl hF ihc (fun _=>by rw [zz]; exact hfy) (fun _=>by rw [zz]; exact hfn) q0 (by rw [zz]; exact hA) (by rw [zz]; exact hB);have sn:=yN q ns sv ct fl.length (aK fl) 0 (fun _=>default) es V tot (1+fl.length) nn (AO q.gp q.m (uP fl j)).length l true j (by omega) (by omega) (by omega) (by omega) (by omega) (by omega) hT.1 hT.2 rfl hF ihc (fun _=>by rw [zz]; exact hfy) (fun _=>by rw [zz]; exact hfn) q0 (by rw [zz]; exact hA) (by rw [zz]; exact hB);rw [zz] at st sn;have hu:∀ i,i<NA+1+1+1->(B4 (NA+1+1) (B4 (NA+1) (B4 (NA) A (⟨0,1+(j:Int),Ac q.gl q.gr q.m (uP fl j)⟩:uN)) (⟨1+(j:Int),1+(fl.length:Int)+((uP fl j).1:Nat),Ac q.gl q.gr q.m (uP fl j)⟩:uN)) (⟨1+(j:Int),1+(fl.length:Int)+((uP fl j).2:Nat),Ac q.gl q.gr q.m (uP fl j)⟩:uN)) i=Cb ((((Bx ct fl n (Ac q.gl q.gr q.m) most j)++[(⟨0,1+(j:Int),Ac q.gl q.gr q.m (uP fl j)⟩:uN)])++[(⟨1+(j:Int),1+(fl.length:Int)+((uP fl j).1:Nat),Ac q.gl q.gr q.m (uP fl j)⟩:uN)])++[(⟨1+(j:Int),1+(fl.length:Int)+((uP fl j).2:Nat),Ac q.gl q.gr q.m (uP fl j)⟩:uN)]) i:=BZ (by simp [h1]) (BZ (by simp [h1]) (BZ h1 h2));have hn:∀ i,i<3->(B4 2 (B4 1 (IW (⟨0,1+(j:Int),Ac q.gl q.gr q.m (uP fl j)⟩:uN)) (⟨1+(j:Int),1+(fl.length:Int)+((uP fl j).1:Nat),Ac q.gl q.gr q.m (uP fl j)⟩:uN)) (⟨1+(j:Int),1+(fl.length:Int)+((uP fl j).2:Nat),Ac q.gl q.gr q.m (uP fl j)⟩:uN)) i=Cb [(⟨0,1+(j:Int),Ac q.gl q.gr q.m (uP fl j)⟩:uN),(⟨1+(j:Int),1+(fl.length:Int)+((uP fl j).1:Nat),Ac q.gl q.gr q.m (uP fl j)⟩:uN),(⟨1+(j:Int),1+(fl.length:Int)+((uP fl j).2:Nat),Ac q.gl q.gr q.m (uP fl j)⟩:uN)] i:=BZ (xs:=[(⟨0,1+(j:Int),Ac q.gl q.gr q.m (uP fl j)⟩:uN),(⟨1+(j:Int),1+(fl.length:Int)+((uP fl j).1:Nat),Ac q.gl q.gr q.m (uP fl j)⟩:uN)]) rfl (BZ (xs:=[(⟨0,1+(j:Int),Ac q.gl q.gr q.m (uP fl j)⟩:uN)]) rfl (HS));refine ⟨_,_,_,_,?_,?_,?_,?_,st,fun h0=>?_⟩
  ·rw [e1,h1]; simp
  ·rw [e1];rw [List.append_cons,List.append_cons];exact hu
  ·rw [e2,h3,Mz,hN,hA,hB]; rfl
  ·rw [h4]; rfl
  ·have hN0:NA=0:=by rw [h1,hzA h0]; rfl
   subst hN0;rw [hzA h0] at hu;exact uR.weaken sn (uI _) (.cons (uH _) (.cons (uH _) (.cons (uH _) (.cons (uH _) (.cons (uU.arr fun i hi=>congrArg uN.cells ((hn i hi).trans (hu i hi).symm)) .nil)))))
theorem Y9:∀ (k j NA:Nat) (A:Nat->uN) (es:List (EV×EV)) (tot:Int),j+k=fl.length->NA=(Bx ct fl n (Ac q.gl q.gr q.m) most j).length->(∀ i,i<NA->A i=Cb (Bx ct fl n (Ac q.gl q.gr q.m) most j) i)->es=CU ct fl j->tot=I5 q fl j->
  uM prog fF false 4 Sj (bSB q ns sv fl.length j) [fE.map false true es,CK V (.ms 4 3 0 NA none) tot (1+fl.length),wO,cO fl,fE.arr false true 3 false NA fun i=>(A i).cells]
   (EX.leave 2,bSF q ns sv,[fE.map false true (CU ct fl fl.length),CK V (.ms 4 3 0 (Bx ct fl n (Ac q.gl q.gr q.m) most fl.length).length none) (I5 q fl fl.length) (1+fl.length),wO,cO fl,arO (Bx ct fl n (Ac q.gl q.gr q.m) most fl.length)])
 | 0,j,NA,A,es,tot,h,h1,h2,h3,h4=>by
  obtain rfl:j=fl.length:=by omega
  subst h1 h3 h4;have hT:0<=I5 q fl fl.length/\I5 q fl fl.length<=100000000:=by
   have:=NN (F:=fun i=>Ac q.gl q.gr q.m (uP fl i)) (B:=2000) (k:=fl.length) fun i _=>by
    have:=Cs (gp:=q.gp) (m:=q.m) (p:=uP fl i);show 0<=2*((AO q.gp q.m (uP fl i)).length:Int)/\2*((AO q.gp q.m (uP fl i)).length:Int)<=2000;omega
   show 0<=Bd (fun i=>Ac q.gl q.gr q.m (uP fl i)) fl.length/\Bd (fun i=>Ac q.gl q.gr q.m (uP fl i)) fl.length<=100000000;omega
  have hNA:=Fm (ct:=ct) (fl:=fl) fl.length;rw [<-E6 (n:=n) (all:=Ac q.gl q.gr q.m) (most:=most)] at hNA;exact uM.aC (uR.weaken (yW q ns sv ct fl.length (aK fl) (Bx ct fl n (Ac q.gl q.gr q.m) most fl.length).length A (CU ct fl fl.length) V (I5 q fl fl.length) (1+fl.length) 0 0 (fun _=>0) true fl.length (by omega) (by omega) (by omega) (by omega) (by omega) (by omega) hT.1 hT.2 rfl (fun h=>absurd h (by omega)) ihc (fun h=>absurd h (by omega)) (fun h=>absurd h (by omega)) (uL (by omega))) (uI _)
   (.cons (uH _) (.cons (uH _) (.cons (uH _) (.cons (uH _) (.cons (uU.arr fun i hi=>congrArg uN.cells (h2 i hi)) .nil)))))) (by simp)
 | k+1,j,NA,A,es,tot,h,h1,h2,h3,h4=>by
  obtain ⟨NA',A',es',tot',g1,g2,g3,g4,g5,_⟩:=TX hK hm hnd hmem ihc (n:=n) (most:=most) (V:=V) (show j<fl.length by omega) h1 h2 h3 h4;exact uM.uQ g5 (Y9 k (j+1) NA' A' es' tot' (by omega) g1 g2 g3 g4)
theorem YK (h0:fl≠[]):uT prog fF false yR (bSB q ns sv fl.length 0) [fE.map false true [],CK V Av 0 (1+fl.length),wO,cO fl]
   (EX.leave 2,bSF q ns sv,[fE.map false true (CU ct fl fl.length),CK V (.ms 4 3 0 (Bx ct fl n (Ac q.gl q.gr q.m) most fl.length).length none) (I5 q fl fl.length) (1+fl.length),wO,cO fl,arO (Bx ct fl n (Ac q.gl q.gr q.m) most fl.length)]):=by
 have hl:=List.length_pos_iff.2 h0;obtain ⟨NA',A',es',tot',g1,g2,g3,g4,_,g6⟩:=TX hK hm hnd hmem ihc (ct:=ct) (n:=n) (most:=most) (V:=V) (A:=fun _=>default) (show 0<fl.length by omega) rfl (fun i hi=>absurd hi (by show ¬ i<0; omega)) rfl rfl;exact (uM.uQ (g6 rfl) (Y9 hK hm hnd hmem ihc (fl.length - 1) 1 NA' A' es' tot' (by omega) g1 g2 g3 g4)).cl (by kernel_rfl) (by kernel_rfl)
end
def BR (ct:Int->Bool)(K n:Nat)(mo:Int->Int)(c:Nat):List uN:=(GH (bK ct) c).map (Cp (fun _=>(0,0)) K n (fun _=>0) fun c=>mo (c:Nat))
theorem Cz {ct:Int->Bool}{K n:Nat}{mo:Int->Int}(c:Nat):BR ct K n mo (c+1)=BR ct K n mo c++if ct (c:Nat) then [⟨1+K+c,1+K+n,mo (c:Nat)⟩] else []:=by
 rw [BR,GH,List.map_append]
 congr 1
 by_cases h:ct (c:Nat)=true
 ·rw [if_pos h,if_pos h]; rfl
 ·rw [if_neg h,if_neg h]; rfl
theorem HG {ct:Int->Bool}{K n:Nat}{mo:Int->Int}:∀ {c:Nat},(∀ c',c'<c->ct (c':Nat)=false)->BR ct K n mo c=[]
 | 0,_=>rfl
 | c+1,h=>by rw [Cz,HG fun c' h'=>h c' (by omega),h c (by omega)]; rfl
theorem Cl {ct:Int->Bool}{K n:Nat}{mo:Int->Int}:∀ (c:Nat),(BR ct K n mo c).length<=c
 | 0=>by simp [BR,GH]
 | c+1=>by
  have:=Cl (ct:=ct) (K:=K) (n:=n) (mo:=mo) c;rw [Cz,List.length_append];have:(if ct (c:Nat)=true then [(⟨1+K+c,1+K+n,mo (c:Nat)⟩:uN)] else []).length<=1:=by split<;>simp
  omega
section
variable {q:fG}{ns:Nat}{sv:Nat->Int}{ct:Int->Bool}{mo:Int->Int}{K:Nat}{AS:List uN}{t0:Int}{es:List (EV×EV)}(hn:q.n<=1000)(hnm:q.n=q.m')(hK:K<=900)(hAS:AS.length<=2700)
 (ihc:∀ x:Int,uY prog fF 59 [.int .i64 x,EV.ip [AW true ns sv] 0] (.bool (ct x)))
 (ihm:∀ x:Int,0<=x->x<q.m'->uY prog fF 61 [EV.ip (AD q) 0,.int .i64 x] (.int .i64 (mo x)))
 (hmo:∀ x,-100000000000<=mo x/\mo x<=100000000000)
abbrev bTC (q:fG)(ns:Nat)(sv:Nat->Int)(i:Int):List EV:=frame 195 [(0,EV.ip (AD q) 0),(1,EV.func (.func 59) [] [EV.ip [AW true ns sv] 0]),(2,EV.bool false),(3,EV.func (.func 61) [EV.ip (AD q) 0] []),(9,.ptr 2 0),(13,EV.func (.func 88) [] [.ptr 2 0]),(157,.int .i64 q.n),(158,.int .i64 i)]
abbrev CE (ct:Int->Bool)(mo:Int->Int)(t0:Int)(c:Nat):Int:=t0+Bd (fun c=>if ct (c:Nat) then mo (c:Nat) else 0) c
include hn hnm hK hAS ihc ihm hmo
theorem Wy (hT:∀ c,c<=q.n->-1000000000000000<=CE ct mo t0 c/\CE ct mo t0 c<=1000000000000000):∀ (k c NA:Nat) (A:Nat->uN) (tot:Int),c+k=q.n->NA=(AS++BR ct K q.n mo c).length->(∀ i,i<NA->A i=Cb (AS++BR ct K q.n mo c) i)->tot=CE ct mo t0 c->
  uM prog fF false 3 OO (bTC q ns sv c) [fE.map false true es,CK (1+(K:Int)+(q.n:Int)+1) (.ms 3 3 0 NA none) tot (1+(K:Int)),wO,fE.arr false true 3 false NA fun i=>(A i).cells] (EX.leave 6,bTF q ns sv,[fE.map false true es,CK (1+(K:Int)+(q.n:Int)+1) (.ms 3 3 0 (AS++BR ct K q.n mo q.n).length none) (CE ct mo t0 q.n) (1+(K:Int)),wO,fE.arr false true 3 false (AS++BR ct K q.n mo q.n).length fun i=>((Cb (AS++BR ct K q.n mo q.n)) i).cells])
 | 0,c,NA,A,tot,h,h1,h2,h4=>by
  obtain rfl:c=q.n:=by omega
  have hl:=Cl (ct:=ct) (K:=K) (n:=q.n) (mo:=mo) q.n;have hl2:NA<=3700:=by rw [h1,List.length_append]; omega
  subst h1 h4;exact uM.aC (uR.weaken (y6 q ns sv ct mo (AS++BR ct K q.n mo q.n).length A es (1+(K:Int)+(q.n:Int)+1) _ (1+(K:Int)) q.n (by omega) hn hnm (by omega) (by omega) (by omega) (by omega) (by omega) (hT q.n (by omega)).1 (hT q.n (by omega)).2 (hmo _).1 (hmo _).2 ihc ihm (uL (by omega))) (uI _)
   (.cons (uH _) (.cons (uH _) (.cons (uH _) (.cons (uU.arr fun i hi=>congrArg uN.cells (h2 i hi)) .nil))))) (by simp)
 | k+1,c,NA,A,tot,h,h1,h2,h4=>by
  have hl:=Cl (ct:=ct) (K:=K) (n:=q.n) (mo:=mo) c;have hl2:NA<=3700:=by rw [h1,List.length_append]; omega
  have q0:(Decidable.decide ((c:Int)<(q.n:Int)))=true:=uK (by omega);have hV1:1+(K:Int)+(q.n:Int)+1 - 1=1+(K:Int)+(q.n:Int):=by omega
  have e:=Cz (ct:=ct) (K:=K) (n:=q.n) (mo:=mo) c;have hT':=hT c (by omega);rw [<-h4] at hT';rcases hA:ct (c:Nat) with _ | _
  ·rw [hA,if_neg (by simp),List.append_nil] at e;have st:=y0 q ns sv ct mo NA A es (1+(K:Int)+(q.n:Int)+1) tot (1+(K:Int)) c (by omega) hn hnm (by omega) (by omega) (by omega) (by omega) (by omega) hT'.1 hT'.2 (hmo _).1 (hmo _).2 ihc ihm q0 hA;exact uM.uQ st (Wy hT k (c+1) NA A tot (by omega) (by rw [e]; exact h1) (by rw [e]; exact h2) (by rw [h4]; rw [CE,CE,Bd,hA,if_neg (by simp),Int.add_zero]))
  ·rw [hA,if_pos rfl] at e;have st:=yZ q ns sv ct mo NA A es (1+(K:Int)+(q.n:Int)+1) tot (1+(K:Int)) c (by omega) hn hnm (by omega) (by omega) (by omega) (by omega) (by omega) hT'.1 hT'.2 (hmo _).1 (hmo _).2 ihc ihm q0 hA;rw [hV1] at st;exact uM.uQ st (Wy hT k (c+1) _ _ _ (by omega) (by rw [e]; simp only [List.length_append,List.length_cons,List.length_nil] at h1 ⊢; omega) (by rw [e,<-List.append_assoc]; exact BZ h1 h2) (by rw [h4]; rw [CE,CE,Bd,hA,if_pos rfl,Int.add_assoc]))
theorem ZA (hz0:AS=[])(hT:∀ c,c<=q.n->-1000000000000000<=CE ct mo t0 c/\CE ct mo t0 c<=1000000000000000)(hex:∃ c,c<q.n/\ct (c:Nat)=true):∀ (k c NA:Nat) (A:Nat->uN) (tot:Int),c+k=q.n->NA=(AS++BR ct K q.n mo c).length->(∀ i,i<NA->A i=Cb (AS++BR ct K q.n mo c) i)->tot=CE ct mo t0 c->(∀ c',c'<c->ct (c':Nat)=false)->
  uM prog fF false 3 OO (bTC q ns sv c) [fE.map false true es,CK (1+(K:Int)+(q.n:Int)+1) Av tot (1+(K:Int)),wO] (EX.leave 6,bTF q ns sv,[fE.map false true es,CK (1+(K:Int)+(q.n:Int)+1) (.ms 3 3 0 (AS++BR ct K q.n mo q.n).length none) (CE ct mo t0 q.n) (1+(K:Int)),wO,fE.arr false true 3 false (AS++BR ct K q.n mo q.n).length fun i=>((Cb (AS++BR ct K q.n mo q.n)) i).cells])
 | 0,c,NA,A,tot,h,h1,h2,h4,hno=>by
  obtain ⟨c',hc,he⟩:=hex;rw [hno c' (by omega)] at he;cases he
 | k+1,c,NA,A,tot,h,h1,h2,h4,hno=>by
  have hl:=Cl (ct:=ct) (K:=K) (n:=q.n) (mo:=mo) c;have hl2:NA<=3700:=by rw [h1,List.length_append]; omega
  have q0:(Decidable.decide ((c:Int)<(q.n:Int)))=true:=uK (by omega);have hV1:1+(K:Int)+(q.n:Int)+1 - 1=1+(K:Int)+(q.n:Int):=by omega
  have e:=Cz (ct:=ct) (K:=K) (n:=q.n) (mo:=mo) c;have hT':=hT c (by omega);rw [<-h4] at hT';rcases hA:ct (c:Nat) with _ | _
  ·rw [hA,if_neg (by simp),List.append_nil] at e;have st:=Wu q ns sv ct mo 0 (fun _=>default) es (1+(K:Int)+(q.n:Int)+1) tot (1+(K:Int)) c (by omega) hn hnm (by omega) (by omega) (by omega) (by omega) (by omega) hT'.1 hT'.2 (hmo _).1 (hmo _).2 ihc ihm q0 hA;exact uM.uQ st (ZA hz0 hT hex k (c+1) NA A tot (by omega) (by rw [e]; exact h1) (by rw [e]; exact h2) (by rw [h4]; rw [CE,CE,Bd,hA,if_neg (by simp),Int.add_zero]) fun c' hc=>by
    rcases Nat.lt_or_ge c' c with h9 | h9
    ·exact hno c' h9
    ·obtain rfl:c'=c:=by omega
     exact hA)
  ·rw [hA,if_pos rfl] at e;have hN0:NA=0:=by
    rw [h1,hz0,List.nil_append];rw [HG hno]; rfl
   subst hN0;have sn:=yX q ns sv ct mo 0 (fun _=>default) es (1+(K:Int)+(q.n:Int)+1) tot (1+(K:Int)) c (by omega) hn hnm (by omega) (by omega) (by omega) (by omega) (by omega) hT'.1 hT'.2 (hmo _).1 (hmo _).2 ihc ihm q0 hA;rw [hV1] at sn;have sw:=uR.weaken sn (uI _) (s3:=[_,_,_,fE.arr false true 3 false (0+1) fun i=>(B4 0 A (⟨1+(K:Int)+(c:Int),1+(K:Int)+(q.n:Int),mo (c:Nat)⟩:uN) i).cells]) (.cons (uH _) (.cons (uH _) (.cons (uH _) (.cons (uU.arr fun i hi=>congrArg uN.cells (by
    obtain rfl:i=0:=by omega
    rfl)) .nil))))
   exact uM.uQ sw (Wy hn hnm hK hAS ihc ihm hmo hT k (c+1) _ _ _ (by omega) (by rw [e]; simp only [List.length_append,List.length_cons,List.length_nil] at h1 ⊢; omega) (by rw [e,<-List.append_assoc]; exact BZ h1 h2) (by rw [h4]; rw [CE,CE,Bd,hA,if_pos rfl,Int.add_assoc]))
theorem ZB (hz0:AS=[])(hT: -1000000000000000<=t0/\t0<=1000000000000000)(hno:∀ c,c<q.n->ct (c:Nat)=false):∀ (k c:Nat),c+k=q.n->
  uM prog fF false 3 OO (bTC q ns sv c) [fE.map false true es,CK (1+(K:Int)+(q.n:Int)+1) Av t0 (1+(K:Int)),wO] (EX.leave 6,bTF q ns sv,[fE.map false true es,CK (1+(K:Int)+(q.n:Int)+1) Av t0 (1+(K:Int)),wO])
 | 0,c,h=>by
  obtain rfl:c=q.n:=by omega
  exact uM.aC (yY q ns sv ct mo 0 (fun _=>default) es (1+(K:Int)+(q.n:Int)+1) t0 (1+(K:Int)) q.n (by omega) hn hnm (by omega) (by omega) (by omega) (by omega) (by omega) hT.1 hT.2 (hmo _).1 (hmo _).2 ihc ihm (uL (by omega))) (by simp)
 | k+1,c,h=>by
  exact uM.uQ (Wu q ns sv ct mo 0 (fun _=>default) es (1+(K:Int)+(q.n:Int)+1) t0 (1+(K:Int)) c (by omega) hn hnm (by omega) (by omega) (by omega) (by omega) (by omega) hT.1 hT.2 (hmo _).1 (hmo _).2 ihc ihm (uK (by omega)) (hno c (by omega))) (ZB hz0 hT hno k (c+1) (by omega))
theorem Wz (hT:∀ c,c<=q.n->-1000000000000000<=CE ct mo t0 c/\CE ct mo t0 c<=1000000000000000):∀ (k c NA:Nat) (A:Nat->uN) (tot:Int),c+k=q.n->NA=(AS++BR ct K q.n mo c).length->(∀ i,i<NA->A i=Cb (AS++BR ct K q.n mo c) i)->tot=CE ct mo t0 c->
  uM prog fF false 5 OO (bTC q ns sv c) [fE.map false true es,CK (1+(K:Int)+(q.n:Int)+1) (.ms 5 3 0 NA none) tot (1+(K:Int)),wO,fE.dead,fE.dead,fE.arr false true 3 false NA fun i=>(A i).cells] (EX.leave 6,bTF q ns sv,[fE.map false true es,CK (1+(K:Int)+(q.n:Int)+1) (.ms 5 3 0 (AS++BR ct K q.n mo q.n).length none) (CE ct mo t0 q.n) (1+(K:Int)),wO,fE.dead,fE.dead,fE.arr false true 3 false (AS++BR ct K q.n mo q.n).length fun i=>((Cb (AS++BR ct K q.n mo q.n)) i).cells])
 | 0,c,NA,A,tot,h,h1,h2,h4=>by
  obtain rfl:c=q.n:=by omega
  have hl:=Cl (ct:=ct) (K:=K) (n:=q.n) (mo:=mo) q.n;have hl2:NA<=3700:=by rw [h1,List.length_append]; omega
  subst h1 h4;exact uM.aC (uR.weaken (xG q ns sv ct mo (AS++BR ct K q.n mo q.n).length A es (1+(K:Int)+(q.n:Int)+1) _ (1+(K:Int)) q.n (by omega) hn hnm (by omega) (by omega) (by omega) (by omega) (by omega) (hT q.n (by omega)).1 (hT q.n (by omega)).2 (hmo _).1 (hmo _).2 ihc ihm (uL (by omega))) (uI _)
   (.cons (uH _) (.cons (uH _) (.cons (uH _) (.cons (uH _) (.cons (uH _) (.cons (uU.arr fun i hi=>congrArg uN.cells (h2 i hi)) .nil))))))) (by simp)
 | k+1,c,NA,A,tot,h,h1,h2,h4=>by
  have hl:=Cl (ct:=ct) (K:=K) (n:=q.n) (mo:=mo) c;have hl2:NA<=3700:=by rw [h1,List.length_append]; omega
  have q0:(Decidable.decide ((c:Int)<(q.n:Int)))=true:=uK (by omega);have hV1:1+(K:Int)+(q.n:Int)+1 - 1=1+(K:Int)+(q.n:Int):=by omega
  have e:=Cz (ct:=ct) (K:=K) (n:=q.n) (mo:=mo) c;have hT':=hT c (by omega);rw [<-h4] at hT';rcases hA:ct (c:Nat) with _ | _
  ·rw [hA,if_neg (by simp),List.append_nil] at e;have st:=xF q ns sv ct mo NA A es (1+(K:Int)+(q.n:Int)+1) tot (1+(K:Int)) c (by omega) hn hnm (by omega) (by omega) (by omega) (by omega) (by omega) hT'.1 hT'.2 (hmo _).1 (hmo _).2 ihc ihm q0 hA;exact uM.uQ st (Wz hT k (c+1) NA A tot (by omega) (by rw [e]; exact h1) (by rw [e]; exact h2) (by rw [h4]; rw [CE,CE,Bd,hA,if_neg (by simp),Int.add_zero]))
  ·rw [hA,if_pos rfl] at e;have st:=xE q ns sv ct mo NA A es (1+(K:Int)+(q.n:Int)+1) tot (1+(K:Int)) c (by omega) hn hnm (by omega) (by omega) (by omega) (by omega) (by omega) hT'.1 hT'.2 (hmo _).1 (hmo _).2 ihc ihm q0 hA;rw [hV1] at st;exact uM.uQ st (Wz hT k (c+1) _ _ _ (by omega) (by rw [e]; simp only [List.length_append,List.length_cons,List.length_nil] at h1 ⊢; omega) (by rw [e,<-List.append_assoc]; exact BZ h1 h2) (by rw [h4]; rw [CE,CE,Bd,hA,if_pos rfl,Int.add_assoc]))
theorem ZC (hT:∀ c,c<=q.n->-1000000000000000<=CE ct mo t0 c/\CE ct mo t0 c<=1000000000000000)(hex:∃ c,c<q.n/\ct (c:Nat)=true):∀ (k c NA:Nat) (A:Nat->uN) (tot:Int),c+k=q.n->NA=(AS++BR ct K q.n mo c).length->(∀ i,i<NA->A i=Cb (AS++BR ct K q.n mo c) i)->tot=CE ct mo t0 c->(∀ c',c'<c->ct (c':Nat)=false)->
  uM prog fF false 5 OO (bTC q ns sv c) [fE.map false true es,CK (1+(K:Int)+(q.n:Int)+1) (.ms 4 3 0 NA none) tot (1+(K:Int)),wO,fE.dead,fE.arr false true 3 false NA fun i=>(A i).cells] (EX.leave 6,bTF q ns sv,[fE.map false true es,CK (1+(K:Int)+(q.n:Int)+1) (.ms 5 3 0 (AS++BR ct K q.n mo q.n).length none) (CE ct mo t0 q.n) (1+(K:Int)),wO,fE.dead,fE.dead,fE.arr false true 3 false (AS++BR ct K q.n mo q.n).length fun i=>((Cb (AS++BR ct K q.n mo q.n)) i).cells])
 | 0,c,NA,A,tot,h,h1,h2,h4,hno=>by
  obtain ⟨c',hc,he⟩:=hex;rw [hno c' (by omega)] at he;cases he
 | k+1,c,NA,A,tot,h,h1,h2,h4,hno=>by
  have hl:=Cl (ct:=ct) (K:=K) (n:=q.n) (mo:=mo) c;have hl2:NA<=3700:=by rw [h1,List.length_append]; omega
  have q0:(Decidable.decide ((c:Int)<(q.n:Int)))=true:=uK (by omega);have hV1:1+(K:Int)+(q.n:Int)+1 - 1=1+(K:Int)+(q.n:Int):=by omega
  have e:=Cz (ct:=ct) (K:=K) (n:=q.n) (mo:=mo) c;have hT':=hT c (by omega);rw [<-h4] at hT';rcases hA:ct (c:Nat) with _ | _
  ·rw [hA,if_neg (by simp),List.append_nil] at e;have st:=xD q ns sv ct mo NA A es (1+(K:Int)+(q.n:Int)+1) tot (1+(K:Int)) c (by omega) hn hnm (by omega) (by omega) (by omega) (by omega) (by omega) hT'.1 hT'.2 (hmo _).1 (hmo _).2 ihc ihm q0 hA;exact uM.uQ st (ZC hT hex k (c+1) NA A tot (by omega) (by rw [e]; exact h1) (by rw [e]; exact h2) (by rw [h4]; rw [CE,CE,Bd,hA,if_neg (by simp),Int.add_zero]) fun c' hc=>by
    rcases Nat.lt_or_ge c' c with h9 | h9
    ·exact hno c' h9
    ·obtain rfl:c'=c:=by omega
     exact hA)
  ·rw [hA,if_pos rfl] at e
   skip
   have sn:=xC q ns sv ct mo NA A es (1+(K:Int)+(q.n:Int)+1) tot (1+(K:Int)) c (by omega) hn hnm (by omega) (by omega) (by omega) (by omega) (by omega) hT'.1 hT'.2 (hmo _).1 (hmo _).2 ihc ihm q0 hA;rw [hV1] at sn;have sw:=sn;exact uM.uQ sw (Wz hn hnm hK hAS ihc ihm hmo hT k (c+1) _ _ _ (by omega) (by rw [e]; simp only [List.length_append,List.length_cons,List.length_nil] at h1 ⊢; omega) (by rw [e,<-List.append_assoc]; exact BZ h1 h2) (by rw [h4]; rw [CE,CE,Bd,hA,if_pos rfl,Int.add_assoc]))
end
section
variable {q:fG}{ns:Nat}{sv:Nat->Int}{ct:Int->Bool}{mo:Int->Int}{K:Nat}{AS:List uN}{t0:Int}{es:List (EV×EV)}(hn:q.n<=1000)(hnm:q.n=q.m')(hK:K<=900)(hAS:AS.length<=2700)
 (ihc:∀ x:Int,uY prog fF 65 [.int .i64 x,EV.ip [EV.ip (AD q) 0] 0,EV.ip [AW true ns sv] 0] (.bool (ct x)))
 (ihm:∀ x:Int,0<=x->x<q.m'->uY prog fF 66 [EV.ip (AD q) 0,.int .i64 x] (.int .i64 (mo x)))
 (hmo:∀ x,-100000000000<=mo x/\mo x<=100000000000)
abbrev bSC (q:fG)(ns:Nat)(sv:Nat->Int)(i:Int):List EV:=frame 195 [(0,EV.ip (AD q) 0),(1,EV.func (.func 65) [] [EV.ip [EV.ip (AD q) 0] 0,EV.ip [AW true ns sv] 0]),(2,EV.bool true),(3,EV.func (.func 66) [EV.ip (AD q) 0] []),(9,.ptr 2 0),(13,EV.func (.func 88) [] [.ptr 2 0]),(157,.int .i64 q.n),(158,.int .i64 i)]
abbrev Dj (ct:Int->Bool)(mo:Int->Int)(t0:Int)(c:Nat):Int:=t0
include hn hnm hK hAS ihc ihm hmo
theorem W0 (hT:∀ c,c<=q.n->-1000000000000000<=Dj ct mo t0 c/\Dj ct mo t0 c<=1000000000000000):∀ (k c NA:Nat) (A:Nat->uN) (tot:Int),c+k=q.n->NA=(AS++BR ct K q.n mo c).length->(∀ i,i<NA->A i=Cb (AS++BR ct K q.n mo c) i)->tot=Dj ct mo t0 c->
  uM prog fF false 3 OP (bSC q ns sv c) [fE.map false true es,CK (1+(K:Int)+(q.n:Int)+1) (.ms 3 3 0 NA none) tot (1+(K:Int)),wO,fE.arr false true 3 false NA fun i=>(A i).cells] (EX.leave 6,bSF q ns sv,[fE.map false true es,CK (1+(K:Int)+(q.n:Int)+1) (.ms 3 3 0 (AS++BR ct K q.n mo q.n).length none) (Dj ct mo t0 q.n) (1+(K:Int)),wO,fE.arr false true 3 false (AS++BR ct K q.n mo q.n).length fun i=>((Cb (AS++BR ct K q.n mo q.n)) i).cells])
 | 0,c,NA,A,tot,h,h1,h2,h4=>by
  obtain rfl:c=q.n:=by omega
  have hl:=Cl (ct:=ct) (K:=K) (n:=q.n) (mo:=mo) q.n;have hl2:NA<=3700:=by rw [h1,List.length_append]; omega
  subst h1 h4;exact uM.aC (uR.weaken (xB q ns sv ct mo (AS++BR ct K q.n mo q.n).length A es (1+(K:Int)+(q.n:Int)+1) _ (1+(K:Int)) q.n (by omega) hn hnm (by omega) (by omega) (by omega) (by omega) (by omega) (hT q.n (by omega)).1 (hT q.n (by omega)).2 (hmo _).1 (hmo _).2 ihc ihm (uL (by omega))) (uI _)
   (.cons (uH _) (.cons (uH _) (.cons (uH _) (.cons (uU.arr fun i hi=>congrArg uN.cells (h2 i hi)) .nil))))) (by simp)
 | k+1,c,NA,A,tot,h,h1,h2,h4=>by
  have hl:=Cl (ct:=ct) (K:=K) (n:=q.n) (mo:=mo) c;have hl2:NA<=3700:=by rw [h1,List.length_append]; omega
  have q0:(Decidable.decide ((c:Int)<(q.n:Int)))=true:=uK (by omega);have hV1:1+(K:Int)+(q.n:Int)+1 - 1=1+(K:Int)+(q.n:Int):=by omega
  have e:=Cz (ct:=ct) (K:=K) (n:=q.n) (mo:=mo) c;have hT':=hT c (by omega);rw [<-h4] at hT';rcases hA:ct (c:Nat) with _ | _
  ·rw [hA,if_neg (by simp),List.append_nil] at e;have st:=xA q ns sv ct mo NA A es (1+(K:Int)+(q.n:Int)+1) tot (1+(K:Int)) c (by omega) hn hnm (by omega) (by omega) (by omega) (by omega) (by omega) hT'.1 hT'.2 (hmo _).1 (hmo _).2 ihc ihm q0 hA;exact uM.uQ st (W0 hT k (c+1) NA A tot (by omega) (by rw [e]; exact h1) (by rw [e]; exact h2) (by rw [h4]; skip))
  ·rw [hA,if_pos rfl] at e;have st:=y9 q ns sv ct mo NA A es (1+(K:Int)+(q.n:Int)+1) tot (1+(K:Int)) c (by omega) hn hnm (by omega) (by omega) (by omega) (by omega) (by omega) hT'.1 hT'.2 (hmo _).1 (hmo _).2 ihc ihm q0 hA;rw [hV1] at st;exact uM.uQ st (W0 hT k (c+1) _ _ _ (by omega) (by rw [e]; simp only [List.length_append,List.length_cons,List.length_nil] at h1 ⊢; omega) (by rw [e,<-List.append_assoc]; exact BZ h1 h2) (by rw [h4]; skip))
theorem ZD (hz0:AS=[])(hT:∀ c,c<=q.n->-1000000000000000<=Dj ct mo t0 c/\Dj ct mo t0 c<=1000000000000000)(hex:∃ c,c<q.n/\ct (c:Nat)=true):∀ (k c NA:Nat) (A:Nat->uN) (tot:Int),c+k=q.n->NA=(AS++BR ct K q.n mo c).length->(∀ i,i<NA->A i=Cb (AS++BR ct K q.n mo c) i)->tot=Dj ct mo t0 c->(∀ c',c'<c->ct (c':Nat)=false)->
  uM prog fF false 3 OP (bSC q ns sv c) [fE.map false true es,CK (1+(K:Int)+(q.n:Int)+1) Av tot (1+(K:Int)),wO] (EX.leave 6,bSF q ns sv,[fE.map false true es,CK (1+(K:Int)+(q.n:Int)+1) (.ms 3 3 0 (AS++BR ct K q.n mo q.n).length none) (Dj ct mo t0 q.n) (1+(K:Int)),wO,fE.arr false true 3 false (AS++BR ct K q.n mo q.n).length fun i=>((Cb (AS++BR ct K q.n mo q.n)) i).cells])
 | 0,c,NA,A,tot,h,h1,h2,h4,hno=>by
  obtain ⟨c',hc,he⟩:=hex;rw [hno c' (by omega)] at he;cases he
 | k+1,c,NA,A,tot,h,h1,h2,h4,hno=>by
  have hl:=Cl (ct:=ct) (K:=K) (n:=q.n) (mo:=mo) c;have hl2:NA<=3700:=by rw [h1,List.length_append]; omega
  have q0:(Decidable.decide ((c:Int)<(q.n:Int)))=true:=uK (by omega);have hV1:1+(K:Int)+(q.n:Int)+1 - 1=1+(K:Int)+(q.n:Int):=by omega
  have e:=Cz (ct:=ct) (K:=K) (n:=q.n) (mo:=mo) c;have hT':=hT c (by omega);rw [<-h4] at hT';rcases hA:ct (c:Nat) with _ | _
  ·rw [hA,if_neg (by simp),List.append_nil] at e;have st:=Wv q ns sv ct mo 0 (fun _=>default) es (1+(K:Int)+(q.n:Int)+1) tot (1+(K:Int)) c (by omega) hn hnm (by omega) (by omega) (by omega) (by omega) (by omega) hT'.1 hT'.2 (hmo _).1 (hmo _).2 ihc ihm q0 hA;exact uM.uQ st (ZD hz0 hT hex k (c+1) NA A tot (by omega) (by rw [e]; exact h1) (by rw [e]; exact h2) (by rw [h4]; skip) fun c' hc=>by
    rcases Nat.lt_or_ge c' c with h9 | h9
    ·exact hno c' h9
    ·obtain rfl:c'=c:=by omega
     exact hA)
  ·rw [hA,if_pos rfl] at e;have hN0:NA=0:=by
    rw [h1,hz0,List.nil_append];rw [HG hno]; rfl
   subst hN0;have sn:=y7 q ns sv ct mo 0 (fun _=>default) es (1+(K:Int)+(q.n:Int)+1) tot (1+(K:Int)) c (by omega) hn hnm (by omega) (by omega) (by omega) (by omega) (by omega) hT'.1 hT'.2 (hmo _).1 (hmo _).2 ihc ihm q0 hA;rw [hV1] at sn;have sw:=uR.weaken sn (uI _) (s3:=[_,_,_,fE.arr false true 3 false (0+1) fun i=>(B4 0 A (⟨1+(K:Int)+(c:Int),1+(K:Int)+(q.n:Int),mo (c:Nat)⟩:uN) i).cells]) (.cons (uH _) (.cons (uH _) (.cons (uH _) (.cons (uU.arr fun i hi=>congrArg uN.cells (by
    obtain rfl:i=0:=by omega
    rfl)) .nil))))
   exact uM.uQ sw (W0 hn hnm hK hAS ihc ihm hmo hT k (c+1) _ _ _ (by omega) (by rw [e]; simp only [List.length_append,List.length_cons,List.length_nil] at h1 ⊢; omega) (by rw [e,<-List.append_assoc]; exact BZ h1 h2) (by rw [h4]; skip))
theorem ZE (hz0:AS=[])(hT: -1000000000000000<=t0/\t0<=1000000000000000)(hno:∀ c,c<q.n->ct (c:Nat)=false):∀ (k c:Nat),c+k=q.n->
  uM prog fF false 3 OP (bSC q ns sv c) [fE.map false true es,CK (1+(K:Int)+(q.n:Int)+1) Av t0 (1+(K:Int)),wO] (EX.leave 6,bSF q ns sv,[fE.map false true es,CK (1+(K:Int)+(q.n:Int)+1) Av t0 (1+(K:Int)),wO])
 | 0,c,h=>by
  obtain rfl:c=q.n:=by omega
  exact uM.aC (y8 q ns sv ct mo 0 (fun _=>default) es (1+(K:Int)+(q.n:Int)+1) t0 (1+(K:Int)) q.n (by omega) hn hnm (by omega) (by omega) (by omega) (by omega) (by omega) hT.1 hT.2 (hmo _).1 (hmo _).2 ihc ihm (uL (by omega))) (by simp)
 | k+1,c,h=>by
  exact uM.uQ (Wv q ns sv ct mo 0 (fun _=>default) es (1+(K:Int)+(q.n:Int)+1) t0 (1+(K:Int)) c (by omega) hn hnm (by omega) (by omega) (by omega) (by omega) (by omega) hT.1 hT.2 (hmo _).1 (hmo _).2 ihc ihm (uK (by omega)) (hno c (by omega))) (ZE hz0 hT hno k (c+1) (by omega))
theorem W1 (hT:∀ c,c<=q.n->-1000000000000000<=Dj ct mo t0 c/\Dj ct mo t0 c<=1000000000000000):∀ (k c NA:Nat) (A:Nat->uN) (tot:Int),c+k=q.n->NA=(AS++BR ct K q.n mo c).length->(∀ i,i<NA->A i=Cb (AS++BR ct K q.n mo c) i)->tot=Dj ct mo t0 c->
  uM prog fF false 5 OP (bSC q ns sv c) [fE.map false true es,CK (1+(K:Int)+(q.n:Int)+1) (.ms 5 3 0 NA none) tot (1+(K:Int)),wO,fE.dead,fE.dead,fE.arr false true 3 false NA fun i=>(A i).cells] (EX.leave 6,bSF q ns sv,[fE.map false true es,CK (1+(K:Int)+(q.n:Int)+1) (.ms 5 3 0 (AS++BR ct K q.n mo q.n).length none) (Dj ct mo t0 q.n) (1+(K:Int)),wO,fE.dead,fE.dead,fE.arr false true 3 false (AS++BR ct K q.n mo q.n).length fun i=>((Cb (AS++BR ct K q.n mo q.n)) i).cells])
 | 0,c,NA,A,tot,h,h1,h2,h4=>by
  obtain rfl:c=q.n:=by omega
  have hl:=Cl (ct:=ct) (K:=K) (n:=q.n) (mo:=mo) q.n;have hl2:NA<=3700:=by rw [h1,List.length_append]; omega
  subst h1 h4;exact uM.aC (uR.weaken (xM q ns sv ct mo (AS++BR ct K q.n mo q.n).length A es (1+(K:Int)+(q.n:Int)+1) _ (1+(K:Int)) q.n (by omega) hn hnm (by omega) (by omega) (by omega) (by omega) (by omega) (hT q.n (by omega)).1 (hT q.n (by omega)).2 (hmo _).1 (hmo _).2 ihc ihm (uL (by omega))) (uI _)
   (.cons (uH _) (.cons (uH _) (.cons (uH _) (.cons (uH _) (.cons (uH _) (.cons (uU.arr fun i hi=>congrArg uN.cells (h2 i hi)) .nil))))))) (by simp)
 | k+1,c,NA,A,tot,h,h1,h2,h4=>by
  have hl:=Cl (ct:=ct) (K:=K) (n:=q.n) (mo:=mo) c;have hl2:NA<=3700:=by rw [h1,List.length_append]; omega
  have q0:(Decidable.decide ((c:Int)<(q.n:Int)))=true:=uK (by omega);have hV1:1+(K:Int)+(q.n:Int)+1 - 1=1+(K:Int)+(q.n:Int):=by omega
  have e:=Cz (ct:=ct) (K:=K) (n:=q.n) (mo:=mo) c;have hT':=hT c (by omega);rw [<-h4] at hT';rcases hA:ct (c:Nat) with _ | _
  ·rw [hA,if_neg (by simp),List.append_nil] at e;have st:=xK q ns sv ct mo NA A es (1+(K:Int)+(q.n:Int)+1) tot (1+(K:Int)) c (by omega) hn hnm (by omega) (by omega) (by omega) (by omega) (by omega) hT'.1 hT'.2 (hmo _).1 (hmo _).2 ihc ihm q0 hA;exact uM.uQ st (W1 hT k (c+1) NA A tot (by omega) (by rw [e]; exact h1) (by rw [e]; exact h2) (by rw [h4]; skip))
  ·rw [hA,if_pos rfl] at e;have st:=xJ q ns sv ct mo NA A es (1+(K:Int)+(q.n:Int)+1) tot (1+(K:Int)) c (by omega) hn hnm (by omega) (by omega) (by omega) (by omega) (by omega) hT'.1 hT'.2 (hmo _).1 (hmo _).2 ihc ihm q0 hA;rw [hV1] at st;exact uM.uQ st (W1 hT k (c+1) _ _ _ (by omega) (by rw [e]; simp only [List.length_append,List.length_cons,List.length_nil] at h1 ⊢; omega) (by rw [e,<-List.append_assoc]; exact BZ h1 h2) (by rw [h4]; skip))
theorem ZF (hT:∀ c,c<=q.n->-1000000000000000<=Dj ct mo t0 c/\Dj ct mo t0 c<=1000000000000000)(hex:∃ c,c<q.n/\ct (c:Nat)=true):∀ (k c NA:Nat) (A:Nat->uN) (tot:Int),c+k=q.n->NA=(AS++BR ct K q.n mo c).length->(∀ i,i<NA->A i=Cb (AS++BR ct K q.n mo c) i)->tot=Dj ct mo t0 c->(∀ c',c'<c->ct (c':Nat)=false)->
  uM prog fF false 5 OP (bSC q ns sv c) [fE.map false true es,CK (1+(K:Int)+(q.n:Int)+1) (.ms 4 3 0 NA none) tot (1+(K:Int)),wO,fE.dead,fE.arr false true 3 false NA fun i=>(A i).cells] (EX.leave 6,bSF q ns sv,[fE.map false true es,CK (1+(K:Int)+(q.n:Int)+1) (.ms 5 3 0 (AS++BR ct K q.n mo q.n).length none) (Dj ct mo t0 q.n) (1+(K:Int)),wO,fE.dead,fE.dead,fE.arr false true 3 false (AS++BR ct K q.n mo q.n).length fun i=>((Cb (AS++BR ct K q.n mo q.n)) i).cells])
 | 0,c,NA,A,tot,h,h1,h2,h4,hno=>by
  obtain ⟨c',hc,he⟩:=hex;rw [hno c' (by omega)] at he;cases he
 | k+1,c,NA,A,tot,h,h1,h2,h4,hno=>by
  have hl:=Cl (ct:=ct) (K:=K) (n:=q.n) (mo:=mo) c;have hl2:NA<=3700:=by rw [h1,List.length_append]; omega
  have q0:(Decidable.decide ((c:Int)<(q.n:Int)))=true:=uK (by omega);have hV1:1+(K:Int)+(q.n:Int)+1 - 1=1+(K:Int)+(q.n:Int):=by omega
  have e:=Cz (ct:=ct) (K:=K) (n:=q.n) (mo:=mo) c;have hT':=hT c (by omega);rw [<-h4] at hT';rcases hA:ct (c:Nat) with _ | _
  ·rw [hA,if_neg (by simp),List.append_nil] at e;have st:=xI q ns sv ct mo NA A es (1+(K:Int)+(q.n:Int)+1) tot (1+(K:Int)) c (by omega) hn hnm (by omega) (by omega) (by omega) (by omega) (by omega) hT'.1 hT'.2 (hmo _).1 (hmo _).2 ihc ihm q0 hA;exact uM.uQ st (ZF hT hex k (c+1) NA A tot (by omega) (by rw [e]; exact h1) (by rw [e]; exact h2) (by rw [h4]; skip) fun c' hc=>by
    rcases Nat.lt_or_ge c' c with h9 | h9
    ·exact hno c' h9
    ·obtain rfl:c'=c:=by omega
     exact hA)
  ·rw [hA,if_pos rfl] at e
   skip
   have sn:=xH q ns sv ct mo NA A es (1+(K:Int)+(q.n:Int)+1) tot (1+(K:Int)) c (by omega) hn hnm (by omega) (by omega) (by omega) (by omega) (by omega) hT'.1 hT'.2 (hmo _).1 (hmo _).2 ihc ihm q0 hA;rw [hV1] at sn;have sw:=sn;exact uM.uQ sw (W1 hn hnm hK hAS ihc ihm hmo hT k (c+1) _ _ _ (by omega) (by rw [e]; simp only [List.length_append,List.length_cons,List.length_nil] at h1 ⊢; omega) (by rw [e,<-List.append_assoc]; exact BZ h1 h2) (by rw [h4]; skip))
end
theorem Rf {F:Nat->Int}{B:Int}:∀ {k:Nat},(∀ j,j<k->-B<=F j/\F j<=B)->-(B*k)<=Bd F k/\Bd F k<=B*k
 | 0,_=>by simp [Bd]
 | k+1,h=>by
  have h1:=Rf (k:=k) fun j hj=>h j (by omega);have h2:=h k (by omega);rw [Bd];have:B*((k+1:Nat):Int)=B*k+B:=by rw [Int.natCast_add,Int.mul_add]; simp
  omega
abbrev Fo (ct:Int->Bool)(fl:List (Nat×Nat))(n:Nat)(all:Nat×Nat->Int)(mo:Int->Int):List uN:=Bx ct fl n all (fun c=>mo (c:Nat)) fl.length++BR ct fl.length n mo n
abbrev H9 (V:Int)(xs:List uN)(g:List (EV×EV))(tot first:Int):List EV:=[.int .i64 V,.uS (decide (0<xs.length)) 3 xs.length fun i=>(Cb xs i).cells,.im g,.int .i64 tot,.int .i64 first]
theorem W2 {f:FuncId}{args:List EV}{a c d e:EV}{r r':Nat->List EV}(h:uY prog fF f args (.ip [a,.uS false 0 0 r,c,d,e] 0)):uY prog fF f args (.ip [a,.uS false 3 0 r',c,d,e] 0):=by
 refine h.res fun F w mv hv=>?_;cases hv with
 | ip _ _ b o mv hF hk hcell hpr=>
  refine .ip _ 0 b o mv hF (by simp) (fun j hj=>hcell j (by simpa using hj)) fun j hj=>?_;have hj':j<5:=by simpa using hj
  have hh:=hpr j (by simpa using hj');rcases (by omega:j=0∨j=1∨j=2∨j=3∨j=4) with rfl | rfl | rfl | rfl | rfl<;>first | exact hh | skip
  have hh':PR F w (.uS false 0 0 r) (mv 1):=hh;show PR F w (.uS false 3 0 r') (mv 1);generalize mv 1=x at hh' ⊢;cases hh';exact .bB _ _
theorem IA {ct:Int->Bool}{K n:Nat}{mo:Int->Int}:∀ {m c:Nat},c<m->ct (c:Nat)=true->0<(([]:List uN)++BR ct K n mo m).length
 | 0,c,h,_=>absurd h (by omega)
 | m+1,c,h,he=>by
  rw [List.nil_append,Cz,List.length_append];by_cases hc:c=m
  ·subst hc; rw [he,if_pos rfl]; simp
  ·have:=IA (K:=K) (n:=n) (mo:=mo) (show c<m by omega) he;rw [List.nil_append] at this;omega
section
variable {q:fG}(hq:q.Ok)
include hq
theorem F4 {p:Nat×Nat}(hp:p∈AG q q.m):p.1<p.2/\p.2<q.n:=by
 obtain ⟨g,hg,e⟩:=Gd hp;have h:=hq.op g hg;have e1:q.gp g=(min (q.gl g) (q.gr g),max (q.gl g) (q.gr g)):=rfl;have hl:((q.gl g:Nat):Int)=(q.op g).left:=by show ((q.op g).left.toNat:Int)=_; omega
 have hr:((q.gr g:Nat):Int)=(q.op g).right:=by show ((q.op g).right.toNat:Int)=_; omega
 rw [e1] at e;subst e;show min (q.gl g) (q.gr g)<max (q.gl g) (q.gr g)/\max (q.gl g) (q.gr g)<q.n;omega
end
theorem xY {q:fG}(hq:q.Ok){ns:Nat}{sv:Nat->Int}{ct:Int->Bool}{mo:Int->Int}{fl:List (Nat×Nat)}(hfl:fl=(AG q q.m).filter (CX ct))
 (ihc:∀ x:Int,uY prog fF 59 [.int .i64 x,EV.ip [AW true ns sv] 0] (.bool (ct x)))
 (ihm:∀ x:Int,0<=x->x<q.m'->uY prog fF 61 [EV.ip (AD q) 0,.int .i64 x] (.int .i64 (mo x)))
 (hmo:∀ x,-100000000000<=mo x/\mo x<=100000000000):
  uY prog fF 60 [EV.ip (AD q) 0,EV.func (.func 59) [] [EV.ip [AW true ns sv] 0],EV.bool false,EV.func (.func 61) [EV.ip (AD q) 0] []]
   (.ip (H9 (1+(fl.length:Int)+(q.n:Int)+1) (Fo ct fl q.n (Ac q.gl q.gr q.m) mo) (CU ct fl fl.length) (CE ct mo (Ii q fl fl.length) q.n) (1+(fl.length:Int))) 0):=by
 have hn:=hq.n2;have hm:=hq.m;have hpl:=Df (q:=q) q.m;have hfl2:fl.length<=(AG q q.m).length:=by rw [hfl]; exact List.length_filter_le _ _
 have hmem:∀ p,p∈fl->p∈AG q q.m/\p.1<=1000/\p.2<=1000:=fun p hp=>by
  rw [hfl] at hp;have h1:=(List.mem_filter.1 hp).1;have:=F4 hq h1;exact ⟨h1,by omega,by omega⟩
 have hnd:fl.Nodup:=by rw [hfl]; exact (Bo _).filter _
 have hA:=YH (q:=q) (nb:=!(AG q q.m).isEmpty) (ps:=AG q q.m) (by omega) ihc;rw [<-hfl] at hA;have hAl:(Bx ct fl q.n (Ac q.gl q.gr q.m) (fun c=>mo (c:Nat)) fl.length).length<=2700:=by
  have:=Fm (ct:=ct) (fl:=fl) fl.length;rw [E6]; omega
 have hT:∀ c,c<=q.n->-1000000000000000<=CE ct mo (Ii q fl fl.length) c/\CE ct mo (Ii q fl fl.length) c<=1000000000000000:=fun c hc=>by
  have h:=Rf (F:=fun c=>if ct (c:Nat) then mo (c:Nat) else 0) (B:=100000000000) (k:=c) fun j hj=>by
   have:=hmo (j:Nat);show -100000000000<=(if ct (j:Nat) then mo (j:Nat) else 0)/\(if ct (j:Nat) then mo (j:Nat) else 0)<=100000000000;split<;>omega
  show -1000000000000000<=0+Bd (fun c=>if ct (c:Nat) then mo (c:Nat) else 0) c/\0+Bd (fun c=>if ct (c:Nat) then mo (c:Nat) else 0) c<=1000000000000000;omega
 by_cases h0:fl=[]
 ·have h4:=hA.1 h0;have hN:∀ t,CE ct mo (Ii q [] 0) t=CE ct mo 0 t:=fun _=>rfl;subst h0;have h13:=aB.eO (path:=xO) (aB.last (xP q ns sv ct (1+(q.n:Int)+1) 1) (by simp)) (by kernel_rfl);have e1:(1:Int)+(([]:List (Nat×Nat)).length:Int)=1:=rfl;by_cases hex:∃ c,c<q.n/\ct (c:Nat)=true
  ·have h29:=(ZA (K:=0) (AS:=[]) (t0:=0) (es:=[]) (by omega) hq.np.2.symm (by omega) (by simp) ihc ihm hmo rfl hT hex q.n 0 0 (fun _=>default) 0 (by omega) rfl (fun i hi=>absurd hi (by omega)) rfl (fun c hc=>absurd hc (by omega))).cl (path:=Sk) (by kernel_rfl) (by kernel_rfl);rw [show (1:Int)+((0:Nat):Int)=1 from rfl] at h29;have h:=xU q ns sv ct mo 0 (fun _=>default) 0 (fun _=>default) [] 0 0 0 _ _ _ (by omega) (by omega) h4 h13 h29;simp only [uJ] at h;have hpos:0<([]++BR ct 0 q.n mo q.n).length:=by
    obtain ⟨c,hc,he⟩:=hex;exact IA hc he
   rw [e1];have hd:decide (0<(Fo ct [] q.n (Ac q.gl q.gr q.m) mo).length)=true:=uK hpos;simp only [H9,hd];exact h
  ·have hno:∀ c,c<q.n->ct (c:Nat)=false:=fun c hc=>by
    rcases h9:ct (c:Nat) with _ | _
    ·rfl
    ·exact absurd ⟨c,hc,h9⟩ hex
   have h29:=(ZB (K:=0) (AS:=[]) (t0:=0) (es:=[]) (by omega) hq.np.2.symm (by omega) (by simp) ihc ihm hmo rfl (by omega) hno q.n 0 (by omega)).cl (path:=Sk) (by kernel_rfl) (by kernel_rfl);rw [show (1:Int)+((0:Nat):Int)=1 from rfl] at h29;have h:=xT q ns sv ct mo 0 (fun _=>default) 0 (fun _=>default) [] 0 0 0 0 (fun _=>default) 0 (by omega) (by omega) h4 h13 h29;have hz:Fo ct [] q.n (Ac q.gl q.gr q.m) mo=[]:=by
    rw [Fo,List.length_nil,HG hno]; rfl
   have ht:CE ct mo (Ii q [] ([]:List (Nat×Nat)).length) q.n=0:=by
    show 0+Bd (fun c=>if ct (c:Nat) then mo (c:Nat) else 0) q.n=0;rw [FZ fun j hj=>by rw [hno j hj,if_neg (by simp)]]; rfl
   rw [e1,hz,ht];exact W2 h
 ·have h4:=hA.2 h0;have h13:=YJ (n:=q.n) (most:=fun c=>mo (c:Nat)) (V:=1+(fl.length:Int)+(q.n:Int)+1) (by omega) (by omega) hnd hmem ihc h0;have hex:∃ c,c<q.n/\ct (c:Nat)=true:=by
   obtain ⟨p,hp⟩:=List.exists_mem_of_ne_nil _ h0;have hp1:=F4 hq (hmem p hp).1;rw [hfl] at hp;have h2:=(List.mem_filter.1 hp).2;rcases hA1:ct (p.1:Nat) with _ | _
   ·refine ⟨p.2,hp1.2,?_⟩;simp only [CX,hA1,Bool.false_or] at h2;exact h2
   ·exact ⟨p.1,by omega,hA1⟩
  have h29:=(ZC (K:=fl.length) (AS:=Bx ct fl q.n (Ac q.gl q.gr q.m) (fun c=>mo (c:Nat)) fl.length) (t0:=Ii q fl fl.length) (es:=CU ct fl fl.length) (by omega) hq.np.2.symm (by omega) hAl ihc ihm hmo hT hex q.n 0 _ (Cb (Bx ct fl q.n (Ac q.gl q.gr q.m) (fun c=>mo (c:Nat)) fl.length)) _ (by omega) (by rw [show BR ct fl.length q.n mo 0=[] from rfl,List.append_nil]) (fun i hi=>by rw [show BR ct fl.length q.n mo 0=[] from rfl,List.append_nil]) (by rfl) (fun c hc=>absurd hc (by omega))).cl (path:=Sk) (by kernel_rfl) (by kernel_rfl);have h:=xS q ns sv ct mo fl.length (aK fl) _ _ _ 0 _ 0 _ _ _ (by omega) (by omega) h4 h13 h29;simp only [uJ] at h;have hpos:0<(Fo ct fl q.n (Ac q.gl q.gr q.m) mo).length:=by
   obtain ⟨c,hc,he⟩:=hex;have:=IA (K:=fl.length) (n:=q.n) (mo:=mo) hc he;rw [Fo,List.length_append]; simp only [List.nil_append] at this; omega
  simp only [H9,uK hpos];exact h
theorem xZ {q:fG}(hq:q.Ok){ns:Nat}{sv:Nat->Int}{ct:Int->Bool}{mo:Int->Int}{fl:List (Nat×Nat)}(hfl:fl=(AG q q.m).filter (CT ct))
 (ihc:∀ x:Int,uY prog fF 65 [.int .i64 x,EV.ip [EV.ip (AD q) 0] 0,EV.ip [AW true ns sv] 0] (.bool (ct x)))
 (ihm:∀ x:Int,0<=x->x<q.m'->uY prog fF 66 [EV.ip (AD q) 0,.int .i64 x] (.int .i64 (mo x)))
 (hmo:∀ x,-100000000000<=mo x/\mo x<=100000000000):
  uY prog fF 60 [EV.ip (AD q) 0,EV.func (.func 65) [] [EV.ip [EV.ip (AD q) 0] 0,EV.ip [AW true ns sv] 0],EV.bool true,EV.func (.func 66) [EV.ip (AD q) 0] []]
   (.ip (H9 (1+(fl.length:Int)+(q.n:Int)+1) (Fo ct fl q.n (Ac q.gl q.gr q.m) mo) (CU ct fl fl.length) (Dj ct mo (I5 q fl fl.length) q.n) (1+(fl.length:Int))) 0):=by
 have hn:=hq.n2;have hm:=hq.m;have hpl:=Df (q:=q) q.m;have hfl2:fl.length<=(AG q q.m).length:=by rw [hfl]; exact List.length_filter_le _ _
 have hmem:∀ p,p∈fl->p∈AG q q.m/\p.1<=1000/\p.2<=1000:=fun p hp=>by
  rw [hfl] at hp;have h1:=(List.mem_filter.1 hp).1;have:=F4 hq h1;exact ⟨h1,by omega,by omega⟩
 have hnd:fl.Nodup:=by rw [hfl]; exact (Bo _).filter _
 have hA:=YI (q:=q) (nb:=!(AG q q.m).isEmpty) (ps:=AG q q.m) (by omega) ihc;rw [<-hfl] at hA;have hAl:(Bx ct fl q.n (Ac q.gl q.gr q.m) (fun c=>mo (c:Nat)) fl.length).length<=2700:=by
  have:=Fm (ct:=ct) (fl:=fl) fl.length;rw [E6]; omega
 have hT:∀ c,c<=q.n->-1000000000000000<=Dj ct mo (I5 q fl fl.length) c/\Dj ct mo (I5 q fl fl.length) c<=1000000000000000:=fun c hc=>by
  have h:=NN (F:=fun i=>Ac q.gl q.gr q.m (uP fl i)) (B:=2000) (k:=fl.length) fun i _=>by
   have:=Cs (gp:=q.gp) (m:=q.m) (p:=uP fl i);show 0<=2*((AO q.gp q.m (uP fl i)).length:Int)/\2*((AO q.gp q.m (uP fl i)).length:Int)<=2000;omega
  show -1000000000000000<=Bd (fun i=>Ac q.gl q.gr q.m (uP fl i)) fl.length/\Bd (fun i=>Ac q.gl q.gr q.m (uP fl i)) fl.length<=1000000000000000;omega
 by_cases h0:fl=[]
 ·have h4:=hA.1 h0;have hN:∀ t,Dj ct mo (I5 q [] 0) t=Dj ct mo 0 t:=fun _=>rfl;subst h0;have h13:=aB.eO (path:=xQ) (aB.last (xR q ns sv ct (1+(q.n:Int)+1) 1) (by simp)) (by kernel_rfl);have e1:(1:Int)+(([]:List (Nat×Nat)).length:Int)=1:=rfl;by_cases hex:∃ c,c<q.n/\ct (c:Nat)=true
  ·have h29:=(ZD (K:=0) (AS:=[]) (t0:=0) (es:=[]) (by omega) hq.np.2.symm (by omega) (by simp) ihc ihm hmo rfl hT hex q.n 0 0 (fun _=>default) 0 (by omega) rfl (fun i hi=>absurd hi (by omega)) rfl (fun c hc=>absurd hc (by omega))).cl (path:=Sl) (by kernel_rfl) (by kernel_rfl);rw [show (1:Int)+((0:Nat):Int)=1 from rfl] at h29;have h:=xX q ns sv ct mo 0 (fun _=>default) 0 (fun _=>default) [] 0 0 0 _ _ _ (by omega) (by omega) h4 h13 h29;simp only [uJ] at h;have hpos:0<([]++BR ct 0 q.n mo q.n).length:=by
    obtain ⟨c,hc,he⟩:=hex;exact IA hc he
   rw [e1];have hd:decide (0<(Fo ct [] q.n (Ac q.gl q.gr q.m) mo).length)=true:=uK hpos;simp only [H9,hd];exact h
  ·have hno:∀ c,c<q.n->ct (c:Nat)=false:=fun c hc=>by
    rcases h9:ct (c:Nat) with _ | _
    ·rfl
    ·exact absurd ⟨c,hc,h9⟩ hex
   have h29:=(ZE (K:=0) (AS:=[]) (t0:=0) (es:=[]) (by omega) hq.np.2.symm (by omega) (by simp) ihc ihm hmo rfl (by omega) hno q.n 0 (by omega)).cl (path:=Sl) (by kernel_rfl) (by kernel_rfl);rw [show (1:Int)+((0:Nat):Int)=1 from rfl] at h29;have h:=xW q ns sv ct mo 0 (fun _=>default) 0 (fun _=>default) [] 0 0 0 0 (fun _=>default) 0 (by omega) (by omega) h4 h13 h29;have hz:Fo ct [] q.n (Ac q.gl q.gr q.m) mo=[]:=by
    rw [Fo,List.length_nil,HG hno]; rfl
   have ht:Dj ct mo (I5 q [] ([]:List (Nat×Nat)).length) q.n=0:=by
    rfl
   rw [e1,hz,ht];exact W2 h
 ·have h4:=hA.2 h0;have h13:=YK (n:=q.n) (most:=fun c=>mo (c:Nat)) (V:=1+(fl.length:Int)+(q.n:Int)+1) (by omega) (by omega) hnd hmem ihc h0;have hex:∃ c,c<q.n/\ct (c:Nat)=true:=by
   obtain ⟨p,hp⟩:=List.exists_mem_of_ne_nil _ h0;have hp1:=F4 hq (hmem p hp).1;rw [hfl] at hp;have h2:=(List.mem_filter.1 hp).2;refine ⟨p.1,by omega,?_⟩;simp only [CT,uF] at h2;exact h2.1
  have h29:=(ZF (K:=fl.length) (AS:=Bx ct fl q.n (Ac q.gl q.gr q.m) (fun c=>mo (c:Nat)) fl.length) (t0:=I5 q fl fl.length) (es:=CU ct fl fl.length) (by omega) hq.np.2.symm (by omega) hAl ihc ihm hmo hT hex q.n 0 _ (Cb (Bx ct fl q.n (Ac q.gl q.gr q.m) (fun c=>mo (c:Nat)) fl.length)) _ (by omega) (by rw [show BR ct fl.length q.n mo 0=[] from rfl,List.append_nil]) (fun i hi=>by rw [show BR ct fl.length q.n mo 0=[] from rfl,List.append_nil]) (by rfl) (fun c hc=>absurd hc (by omega))).cl (path:=Sl) (by kernel_rfl) (by kernel_rfl);have h:=xV q ns sv ct mo fl.length (aK fl) _ _ _ 0 _ 0 _ _ _ (by omega) (by omega) h4 h13 h29;simp only [uJ] at h;have hpos:0<(Fo ct fl q.n (Ac q.gl q.gr q.m) mo).length:=by
   obtain ⟨c,hc,he⟩:=hex;have:=IA (K:=fl.length) (n:=q.n) (mo:=mo) hc he;rw [Fo,List.length_append]; simp only [List.nil_append] at this; omega
  simp only [H9,uK hpos];exact h
noncomputable abbrev ABP:Code:=(cB (cR (cR (AY prog 64))))
noncomputable abbrev W3:Code:=(cB (cB (cR (cR (AY prog 64)))))
noncomputable abbrev J0 (a0:fG)(a1:Int)(a2:Nat)(a3:Nat->Int)(a4:Int):=frame 56 [(0,pv (AD a0) 0),(1,EV.ms 0 1 0 a0.m (some a0.m)),(3,iv a1),(6,pt 1 0),(16,sl true 1 a2 fun i=>[iv (a3 i)]),(17,iv a2),(18,iv a4)]
noncomputable abbrev MN (a0:fG)(a1:Int)(a2:Nat)(a3:Nat->Int)(a4:Int):=frame 56 [(0,pv (AD a0) 0),(1,EV.ms 0 1 0 a0.m (some a0.m)),(3,iv (a1 - if a1<2 then a1 else 2)),(6,pt 1 0),(16,sl true 1 a2 fun i=>[iv (a3 i)]),(17,iv ↑a2),(18,iv (a4+1))]
noncomputable abbrev AIi:=cB (cR (cR (AY prog 64)))
section
variable (q:fG)(row:Nat->Int)(p:aF)(half:Int)(L:Nat)(l:Nat->Int)(ix:Int)(h0:0<=ix)(hL:L<=1000)(hh:0<=half)(hh2:half<=1000000)(hl:ix<L->0<=l ix.toNat/\l ix.toNat<q.m)(hm:q.m<=1000)
include q row p half L l ix h0 hL hh hh2 hl hm
theorem ABQ (q0:Ah ix L)(q1:((if half<2 then half else 2)==1)=true):sR 2 (cB (AIi)) (J0 q half L l ix) ([oA 1 true q.m fun i=>(AA row i),oV p.cells]) (xN,(MN q half L l ix),[oA 1 true q.m (BC (fun i=>(AA row i)) (0+(l ix.toNat).toNat) [iv 2]),oV p.cells]):=
 kR _ (.mk (dS 17473962) [] [] [] []) (kO (kz q0 (kz q1 AN))) (rI (ix+1) (rB (l ix.toNat) q.m (rI (half - if half<2 then half else 2) (rB ix L .nil)))) 458827 3 [0,1] 2
theorem ABR (q0:Ah ix L)(q1:((if half<2 then half else 2)==1)=false)(q2:(((if half<2 then half else 2)==2)==((q.op (l ix.toNat).toNat).left==p.left))=true):sR 2 (cB (AIi)) (J0 q half L l ix) ([oA 1 true q.m fun i=>(AA row i),oV p.cells]) (xN,(MN q half L l ix),[oA 1 true q.m (BC (fun i=>(AA row i)) (0+(l ix.toNat).toNat) [iv 1]),oV p.cells]):=
 kR _ (.mk (dS 4473332394) [] [] [] []) (kO (kz q0 (kz q1 (kz q2 AN)))) (rI (ix+1) (rB (l ix.toNat) q.m (rB (l ix.toNat) q.m (rI (half - if half<2 then half else 2) (rB ix L .nil))))) 458827 3 [0,1] 2
theorem ABS (q0:Ah ix L)(q1:((if half<2 then half else 2)==1)=false)(q2:(((if half<2 then half else 2)==2)==((q.op (l ix.toNat).toNat).left==p.left))=false):sR 2 (cB (AIi)) (J0 q half L l ix) ([oA 1 true q.m fun i=>(AA row i),oV p.cells]) (xN,(MN q half L l ix),[oA 1 true q.m (BC (fun i=>(AA row i)) (0+(l ix.toNat).toNat) [iv 3]),oV p.cells]):=
 kR _ (.mk (dS 4473332394) [] [] [] []) (kO (kz q0 (kz q1 (kz q2 AN)))) (rI (ix+1) (rB (l ix.toNat) q.m (rB (l ix.toNat) q.m (rI (half - if half<2 then half else 2) (rB ix L .nil))))) 458827 3 [0,1] 2
theorem ABT (q0:Cf ix L):sR 2 (cB (AIi)) (J0 q half L l ix) ([oA 1 true q.m fun i=>(AA row i),oV p.cells]) (xL 0,(frame 56 []),[oA 1 true q.m fun i=>(AA row i),oV p.cells]):=
 kR _ (.mk (dS 16) [] [] [] []) (kO (kz q0 AN)) .nil 0 3 [0,1] 2
end
theorem ABU (q:fG)(row:Nat->Int)(p:aF)(half:Int)(L:Nat)(l:Nat->Int)(j:Nat)(bb:Bool)(row':Nat->Int)(hb:bb=true)(fy:BM prog 94 (ag p.cells) (D0 q) 0 (some (j,sl true 1 L fun p=>[iv (l p)])))(ih:sL (AIi) (frame 56 [(0,pv (AD q) 0),(1,EV.ms 0 1 0 q.m (some q.m)),(3,iv half),(6,pt 1 0),(16,sl true 1 L fun i=>[iv (l i)]),(17,iv L),(18,iv 0)]) [oA 1 true q.m fun i=>(AA row i),oV p.cells] ((xL 0,frame 56 [],[oA 1 true q.m fun i=>(AA row' i),oV p.cells]):RC)):sF 64 [Ak q,EV.ms 0 1 0 q.m (some q.m),ag p.cells,iv half] [oA 1 true q.m fun i=>(AA row i)] (tu []) [oA 1 true q.m fun i=>(AA row' i)]:=
 kF [[]] (.mk [] [(5,.is 458827 3 (xL 0,(frame 56 []),[oA 1 true q.m fun i=>(AA row' i),oV p.cells]))] [] [] [some (some (j,sl true 1 L fun (p:Nat)=>[iv (l p)]))]) (kO AN) (.cons ih (.cons (fy) .nil)) 1 [0]
theorem Sm {q:fG}{p:Nat×Nat}(hp:p∈AG q q.m):∃ (n:Nat),BM prog 94 (FM p) (D0 q) 0 (some (n,.uS true 1 (AO q.gp q.m p).length fun x=>[.int .i64 ((((AO q.gp q.m p).getD x 0:Nat):Int))])):=by
 obtain ⟨n,hn,e⟩:=List.getElem_of_mem hp;have h:=Gc (f:=gmE q) (AG q q.m) 0 0 n hn (Bo _) e;have hG:eL q q.m n=AO q.gp q.m p:=by
  rw [eL,uA,uD hn,Option.getD_some,e]
 have hpos:0<(AO q.gp q.m p).length:=by
  obtain ⟨g,hg,e2⟩:=Gd hp;exact List.length_pos_of_mem (List.mem_filter.2 ⟨List.mem_range.2 hg,uK e2⟩)
 refine ⟨n,?_⟩;have e2:BS (lN q q.m n)=fun x=>[EV.int .i64 ((((AO q.gp q.m p).getD x 0:Nat):Int))]:=by rw [<-hG]; rfl
 rw [uJ,gmE,e2,cA,hG,uK hpos] at h;exact h
def Ec (q:fG)(p:Nat×Nat)(row:Nat->Int)(g:Nat):Int:=if q.gl g=p.1 then 3 - row g else 2 - (3 - row g)
def W4 (row:Nat->Int)(g:Nat)(o:Int):Nat->Int:=fun i=>if i=g then o else row i
theorem W5 {row:Nat->Int}{g n:Nat}{o:Int}:∀ i,i<n->BC (fun i=>[EV.int .i64 (row i)]) g [.int .i64 o] i=[.int .i64 (W4 row g o i)]:=fun i _=>by
 simp only [BC,W4];by_cases h:i=g
 ·subst h; simp
 ·simp [h]
abbrev YL (q:fG)(half:Int)(L:Nat)(l:Nat->Int)(ix:Int):List EV:=frame 56 [(0,EV.ip (AD q) 0),(1,EV.ms 0 1 0 q.m (some q.m)),(3,.int .i64 half),(6,EV.ptr 1 0),(16,EV.uS true 1 L fun i=>[.int .i64 (l i)]),(17,.int .i64 L),(18,.int .i64 ix)]
abbrev OT (q:fG)(row:Nat->Int):fE:=fE.arr false true 1 true q.m fun i=>[.int .i64 (row i)]
section
variable {q:fG}(hq:q.Ok){p:Nat×Nat}
include hq
theorem Pw:∀ (k i:Nat) (half:Int) (row:Nat->Int),i+k=(AO q.gp q.m p).length->0<=half->half<=1000000->
  ∃ row',sLR 2 W3 (YL q half (AO q.gp q.m p).length (fun x=>((((AO q.gp q.m p).getD x 0:Nat):Int))) i) [OT q row,fE.var false true [.int .i64 p.1,.int .i64 p.2]] (EX.leave 0,frame 56 [],[OT q row',fE.var false true [.int .i64 p.1,.int .i64 p.2]])/\
   (∀ g,g ∉ (AO q.gp q.m p).drop i->row' g=row g)/\(∀ g,g∈(AO q.gp q.m p).drop i->1<=row' g/\row' g<=3)/\BV (Ec q p row') ((AO q.gp q.m p).drop i)=min half (2*(k:Int))
 | 0,i,half,row,h,h0,h1=>by
  obtain rfl:i=(AO q.gp q.m p).length:=by omega
  have hm:=hq.m;have hL:=Cs (gp:=q.gp) (m:=q.m) (p:=p);refine ⟨row,uM.aC (ABT q row ⟨p.1,p.2⟩ half _ _ _ (by omega) (by omega) h0 h1 (fun h=>absurd h (by omega)) (by omega) (uL (by omega))) (by simp),fun _ _=>rfl,fun g hg=>?_,?_⟩
  ·rw [List.drop_length] at hg; cases hg
  ·rw [List.drop_length,BV]; omega
 | k+1,i,half,row,h,h0,h1=>by
  have hm:=hq.m;have hL:=Cs (gp:=q.gp) (m:=q.m) (p:=p);have hi:i<(AO q.gp q.m p).length:=by omega
  have q0:(decide ((i:Int)<((AO q.gp q.m p).length:Int)))=true:=uK (by omega);have hnd:(AO q.gp q.m p).Nodup:=List.nodup_range.filter _;have hg:(AO q.gp q.m p)[i]<q.m:=List.mem_range.1 (List.mem_filter.1 (List.getElem_mem hi)).1;have hd:(AO q.gp q.m p).drop i=(AO q.gp q.m p)[i] :: (AO q.gp q.m p).drop (i+1):=List.drop_eq_getElem_cons hi;have hno:(AO q.gp q.m p)[i] ∉ (AO q.gp q.m p).drop (i+1):=by
   have:=hnd.sublist (List.drop_sublist i _);rw [hd] at this;exact (List.nodup_cons.1 this).1
  have hgl:((AO q.gp q.m p).getD i 0)=(AO q.gp q.m p)[i]:=by rw [uA,uD hi]; rfl
  have hop:=hq.op _ hg;have hlg:((q.gl (AO q.gp q.m p)[i]:Nat):Int)=(q.op (AO q.gp q.m p)[i]).left:=by show ((q.op _).left.toNat:Int)=_; omega
  have go:∀ o:Int,1<=o->o<=3->Ec q p (fun _=>o) (AO q.gp q.m p)[i]=min 2 half->
    sR 2 W3 (YL q half (AO q.gp q.m p).length (fun x=>((((AO q.gp q.m p).getD x 0:Nat):Int))) i) [OT q row,fE.var false true [.int .i64 p.1,.int .i64 p.2]]
     (EX.normal,YL q (half - if half<2 then half else 2) (AO q.gp q.m p).length (fun x=>((((AO q.gp q.m p).getD x 0:Nat):Int))) ((i:Int)+1),[fE.arr false true 1 true q.m (BC (fun i=>[EV.int .i64 (row i)]) (AO q.gp q.m p)[i] [.int .i64 o]),fE.var false true [.int .i64 p.1,.int .i64 p.2]])->
    ∃ row',sLR 2 W3 (YL q half (AO q.gp q.m p).length (fun x=>((((AO q.gp q.m p).getD x 0:Nat):Int))) i) [OT q row,fE.var false true [.int .i64 p.1,.int .i64 p.2]] (EX.leave 0,frame 56 [],[OT q row',fE.var false true [.int .i64 p.1,.int .i64 p.2]])/\
     (∀ g,g ∉ (AO q.gp q.m p).drop i->row' g=row g)/\(∀ g,g∈(AO q.gp q.m p).drop i->1<=row' g/\row' g<=3)/\BV (Ec q p row') ((AO q.gp q.m p).drop i)=min half (2*((k+1:Nat):Int)):=by
   intro o o1 o3 hs st;obtain ⟨row',r1,r2,r3,r4⟩:=Pw k (i+1) (half - if half<2 then half else 2) (W4 row (AO q.gp q.m p)[i] o) (by omega) (by split<;>omega) (by split<;>omega);have hrg:row' (AO q.gp q.m p)[i]=o:=by rw [r2 _ hno,W4,if_pos rfl]
   refine ⟨row',uM.uQ (uR.weaken st (uI _) (.cons (uU.arr W5) (.cons (uH _) .nil))) r1,fun g hgn=>?_,fun g hgm=>?_,?_⟩
   ·rw [hd] at hgn;rw [r2 g fun x=>hgn (List.mem_cons_of_mem _ x),W4,if_neg fun x=>hgn (by rw [x]; exact List.mem_cons_self)]
   ·rw [hd] at hgm;rcases List.mem_cons.1 hgm with rfl | h9
    ·rw [hrg]; exact ⟨o1,o3⟩
    ·exact r3 g h9
   ·rw [hd,BV,r4];have:Ec q p row' (AO q.gp q.m p)[i]=min 2 half:=by
     rw [<-hs,Ec,Ec,hrg]
    rw [this];split<;>omega
  have hl:(i:Int)<((AO q.gp q.m p).length:Int)->0<=(fun x=>((((AO q.gp q.m p).getD x 0:Nat):Int))) ((i:Nat):Int).toNat/\(fun x=>((((AO q.gp q.m p).getD x 0:Nat):Int))) ((i:Nat):Int).toNat<q.m:=fun _=>by
   simp only [uG,hgl]; omega
  have zz:0+((((AO q.gp q.m p).getD ((i:Nat):Int).toNat 0:Nat):Int)).toNat=(AO q.gp q.m p)[i]:=by
   rw [uG,uG,hgl,uJ]
  have zz':((((AO q.gp q.m p).getD ((i:Nat):Int).toNat 0:Nat):Int)).toNat=(AO q.gp q.m p)[i]:=by
   rw [uG,uG,hgl]
  by_cases hk1:(if half<2 then half else 2)=1
  ·have st:=ABQ q row ⟨p.1,p.2⟩ half (AO q.gp q.m p).length (fun x=>((((AO q.gp q.m p).getD x 0:Nat):Int))) i (by omega) (by omega) h0 h1 hl (by omega) q0 (beq_iff_eq.2 hk1);rw [zz] at st;exact go 2 (by decide) (by decide) (by rw [Ec]; split at hk1<;>split<;>omega) st
  ·have hk1':((if half<2 then half else 2)==1)=false:=beq_eq_false_iff_ne.2 hk1;have hb:((q.op (AO q.gp q.m p)[i]).left==((p.1:Nat):Int))=decide (q.gl (AO q.gp q.m p)[i]=p.1):=by
    rw [Bool.eq_iff_iff,beq_iff_eq,decide_eq_true_iff]; omega
   have hk2:((if half<2 then half else 2)==(2:Int))=decide (¬ half<2):=by
    rw [Bool.eq_iff_iff,beq_iff_eq,decide_eq_true_iff]; split<;>omega
   rcases hq2:(((if half<2 then half else 2)==(2:Int))==((q.op (AO q.gp q.m p)[i]).left==((p.1:Nat):Int))) with _ | _
   ·have st:=ABS q row ⟨p.1,p.2⟩ half (AO q.gp q.m p).length (fun x=>((((AO q.gp q.m p).getD x 0:Nat):Int))) i (by omega) (by omega) h0 h1 hl (by omega) q0 hk1' (by rw [zz']; exact hq2);rw [zz] at st;refine go 3 (by decide) (by decide) ?_ st;rw [hb,hk2] at hq2;rw [Ec];by_cases hx:q.gl (AO q.gp q.m p)[i]=p.1<;>by_cases hy:half<2
    ·rw [if_pos hy] at hk1;rw [if_pos hx]; omega
    ·simp [hx,hy] at hq2
    ·simp [hx,hy] at hq2
    ·rw [if_neg hx]; omega
   ·have st:=ABR q row ⟨p.1,p.2⟩ half (AO q.gp q.m p).length (fun x=>((((AO q.gp q.m p).getD x 0:Nat):Int))) i (by omega) (by omega) h0 h1 hl (by omega) q0 hk1' (by rw [zz']; exact hq2);rw [zz] at st;refine go 1 (by decide) (by decide) ?_ st;rw [hb,hk2] at hq2;rw [Ec];by_cases hx:q.gl (AO q.gp q.m p)[i]=p.1<;>by_cases hy:half<2
    ·simp [hx,hy] at hq2
    ·rw [if_pos hx]; omega
    ·rw [if_pos hy] at hk1;rw [if_neg hx]; omega
    ·simp [hx,hy] at hq2
end
noncomputable abbrev E7:=frame 58 [(8,pt 0 0),(9,pt 1 0)]
abbrev Gm (a0:Int->Bool)(a1:fG)(a2:Int):=(a0 (a1.op a2.toNat).left)=false
abbrev Gn (a0:Int->Bool)(a1:fG)(a2:Int):=(a0 (a1.op a2.toNat).right)=false
abbrev Gp (a0:Int->Bool)(a1:fG)(a2:Int):=(a0 (a1.op a2.toNat).right)=true
abbrev E8 (a0:Int->Bool)(a1:fG)(a2:Int):=(a0 (a1.op a2.toNat).left)=true
abbrev Cm (a0:Int)(a1:fG):=(decide (a0<(↑a1.m:Int)))=true
noncomputable abbrev AIj:=cB (cR (cL (cR (cR (AY prog 63)))))
noncomputable abbrev Du (a0:Bool)(a1:Nat)(a2:Nat->Int)(a3:fG)(a4:Int):=frame 58 [(2,AW a0 a1 a2),(3,bv false),(8,pt 0 0),(9,pt 1 0),(21,sl a3.no 2 a3.m fun i=>(a3.op i).cells),(22,iv a3.m),(23,iv a4)]
abbrev J7:=[Aq,Aq,Aq]
abbrev Gr:=[AT,AT,AT]
abbrev VS (a0:Nat)(a1:Nat->Int)(a2:Bool)(a3:Nat)(a4:Nat->Int):=fE.var false false [MD a0 a1,AW a2 a3 a4,Aq]
noncomputable abbrev AH7:=cB (AIj)
section
variable (q:fG)(nf:Nat)(fr:Nat->Int)(bc:Bool)(nc:Nat)(cl:Nat->Int)(ct:Int->Bool)(G:Nat)(gm:Nat->Int)(ix:Int)(h0:0<=ix)(hG:G<=1000)(hm:q.m<=1000)(ihc:∀ x:Int,sP 45 [AW bc nc cl,iv x] (bv (ct x)))
include q nf fr bc nc cl ct G gm ix h0 hG hm ihc
theorem x0 (q0:Cm ix q)(q1:E8 ct q ix)(q2:Gp ct q ix):sR 2 (AH7) (Du bc nc cl q ix) ([oV J7,VS nf fr bc nc cl]) (xN,(frame 58 [(2,sl bc 1 nc fun i=>(AA cl i)),(3,bv false),(8,pt 0 0),(9,pt 1 0),(21,sl q.no 2 q.m fun i=>(q.op i).cells),(22,iv ↑q.m),(23,iv (ix+1))]),[oV Gr,fE.var false false [AE nf fr,AK bc nc cl,EV.ms 2 1 0 1 none],oA 1 false 1 fun i=>[[iv ix]].getD (0+i) []]):=
 kR _ (.mk (dS 4680698881508270) [] [some (bv (ct (AU q ix).left)),some (bv (ct (AU q ix).right))] [] []) (kO (kz q0 (kz q1 (kz q2 AN)))) (rI (ix+1) (.cons (ihc (AU q ix).right) (.cons (ihc (AU q ix).left) (rB ix q.m .nil)))) 14680844 7 [0,1,10] 2
theorem x6 (q0:Cm ix q)(q1:E8 ct q ix)(q2:Gn ct q ix):sR 2 (AH7) (Du bc nc cl q ix) ([oV J7,VS nf fr bc nc cl]) (xN,(frame 58 [(2,sl bc 1 nc fun i=>(AA cl i)),(3,bv false),(8,pt 0 0),(9,pt 1 0),(21,sl q.no 2 q.m fun i=>(q.op i).cells),(22,iv ↑q.m),(23,iv (ix+1))]),[oV Gr,fE.var false false [AE nf fr,AK bc nc cl,EV.ms 2 1 0 1 none],oA 1 false 1 fun i=>[[iv ix]].getD (0+i) []]):=
 kR _ (.mk (dS 0x10a11222021e011e2012e03ae) [] [some (bv (ct (AU q ix).left)),some (bv (ct (AU q ix).right))] [] []) (kO (kz q0 (kz q1 (kz q2 AN)))) (rI (ix+1) (.cons (ihc (AU q ix).right) (.cons (ihc (AU q ix).left) (rB ix q.m .nil)))) 14680844 7 [0,1,10] 2
theorem x7 (q0:Cm ix q)(q1:Gm ct q ix)(q2:Gp ct q ix):sR 2 (AH7) (Du bc nc cl q ix) ([oV J7,VS nf fr bc nc cl]) (xN,(frame 58 [(2,sl bc 1 nc fun i=>(AA cl i)),(3,bv false),(8,pt 0 0),(9,pt 1 0),(21,sl q.no 2 q.m fun i=>(q.op i).cells),(22,iv ↑q.m),(23,iv (ix+1))]),[oV Gr,fE.var false false [AE nf fr,AK bc nc cl,EV.ms 2 1 0 1 none],oA 1 false 1 fun i=>[[iv ix]].getD (0+i) []]):=
 kR _ (.mk (dS 0x10a11051e011e032e02ae) [] [some (bv (ct (AU q ix).left)),some (bv (ct (AU q ix).right))] [] []) (kO (kz q0 (kz q1 (kz q2 AN)))) (rI (ix+1) (.cons (ihc (AU q ix).right) (.cons (ihc (AU q ix).left) (rB ix q.m .nil)))) 14680844 7 [0,1,10] 2
theorem x8 (q0:Cm ix q)(q1:Gm ct q ix)(q2:Gn ct q ix):sR 2 (AH7) (Du bc nc cl q ix) ([oV J7,VS nf fr bc nc cl]) (xN,(frame 58 [(2,sl bc 1 nc fun i=>(AA cl i)),(3,bv false),(8,pt 0 0),(9,pt 1 0),(21,sl q.no 2 q.m fun i=>(q.op i).cells),(22,iv ↑q.m),(23,iv (ix+1))]),[oV Gr,fE.var false false [AE nf fr,AK bc nc cl,AT]]):=
 kR _ (.mk (dS 0x10a11051e011e032ea) [] [some (bv (ct (AU q ix).left)),some (bv (ct (AU q ix).right))] [] []) (kO (kz q0 (kz q1 (kz q2 AN)))) (rI (ix+1) (.cons (ihc (AU q ix).right) (.cons (ihc (AU q ix).left) (rB ix q.m .nil)))) 14680844 3 [0,1] 2
theorem x9 (q0:(decide (ix<(↑q.m:Int)))=false):sR 2 (AH7) (Du bc nc cl q ix) ([oV J7,VS nf fr bc nc cl]) (xL 0,(E7),[oV Gr,fE.var false false [AE nf fr,AK bc nc cl,AT]]):=
 kR _ (.mk (dS 16) [] [] [] []) (kO (kz q0 AN)) .nil 768 3 [0,1] 2
end
noncomputable abbrev wA:Code:=(cB (cR (cL (cR (cR (AY prog 63))))))
noncomputable abbrev IX:Code:=(cB (cB (cR (cL (cR (cR (AY prog 63)))))))
abbrev E9 (a0:Nat):=EV.ms 2 1 0 a0 none
abbrev DY (a0:Nat)(a1:Nat->Int)(a2:Bool)(a3:Nat)(a4:Nat->Int)(a5:Nat):=fE.var false false [MD a0 a1,AW a2 a3 a4,E9 a5]
section
variable (q:fG)(nf:Nat)(fr:Nat->Int)(bc:Bool)(nc:Nat)(cl:Nat->Int)(ct:Int->Bool)(G:Nat)(gm:Nat->Int)(ix:Int)(h0:0<=ix)(hG:G<=1000)(hm:q.m<=1000)(ihc:∀ x:Int,sP 45 [AW bc nc cl,iv x] (bv (ct x)))
include q nf fr bc nc cl ct G gm ix h0 hG hm ihc
theorem wB (q0:Cm ix q)(q1:E8 ct q ix)(q2:Gp ct q ix):sR 2 (AH7) (Du bc nc cl q ix) ([oV J7,DY nf fr bc nc cl G,oA 1 false G fun i=>(AA gm i)]) (xN,(frame 58 [(2,sl bc 1 nc fun i=>(AA cl i)),(3,bv false),(8,pt 0 0),(9,pt 1 0),(21,sl q.no 2 q.m fun i=>(q.op i).cells),(22,iv ↑q.m),(23,iv (ix+1))]),[oV Gr,fE.var false false [AE nf fr,AK bc nc cl,EV.ms 2 1 0 (G+1) none],oA 1 false (G+1) (Ar G (fun i=>[iv (gm (0+i))]) fun i=>[[iv ix]].getD (0+i) [])]):=
 kR _ (.mk (dS 74891182104124138) [] [some (bv (ct (AU q ix).left)),some (bv (ct (AU q ix).right))] [] []) (kO (kz q0 (kz q1 (kz q2 AN)))) (rI (ix+1) (oL (A5 G) (.cons (ihc (AU q ix).right) (.cons (ihc (AU q ix).left) (rB ix q.m .nil))))) 14680844 7 [0,1,11] 2
theorem wC (q0:Cm ix q)(q1:E8 ct q ix)(q2:Gn ct q ix):sR 2 (AH7) (Du bc nc cl q ix) ([oV J7,DY nf fr bc nc cl G,oA 1 false G fun i=>(AA gm i)]) (xN,(frame 58 [(2,sl bc 1 nc fun i=>(AA cl i)),(3,bv false),(8,pt 0 0),(9,pt 1 0),(21,sl q.no 2 q.m fun i=>(q.op i).cells),(22,iv ↑q.m),(23,iv (ix+1))]),[oV Gr,fE.var false false [AE nf fr,AK bc nc cl,EV.ms 2 1 0 (G+1) none],oA 1 false (G+1) (Ar G (fun i=>[iv (gm (0+i))]) fun i=>[[iv ix]].getD (0+i) [])]):=
 kR _ (.mk (dS 0x10a11222021e011e2012e01aea) [] [some (bv (ct (AU q ix).left)),some (bv (ct (AU q ix).right))] [] []) (kO (kz q0 (kz q1 (kz q2 AN)))) (rI (ix+1) (oL (A5 G) (.cons (ihc (AU q ix).right) (.cons (ihc (AU q ix).left) (rB ix q.m .nil))))) 14680844 7 [0,1,11] 2
theorem wD (q0:Cm ix q)(q1:Gm ct q ix)(q2:Gp ct q ix):sR 2 (AH7) (Du bc nc cl q ix) ([oV J7,DY nf fr bc nc cl G,oA 1 false G fun i=>(AA gm i)]) (xN,(frame 58 [(2,sl bc 1 nc fun i=>(AA cl i)),(3,bv false),(8,pt 0 0),(9,pt 1 0),(21,sl q.no 2 q.m fun i=>(q.op i).cells),(22,iv ↑q.m),(23,iv (ix+1))]),[oV Gr,fE.var false false [AE nf fr,AK bc nc cl,EV.ms 2 1 0 (G+1) none],oA 1 false (G+1) (Ar G (fun i=>[iv (gm (0+i))]) fun i=>[[iv ix]].getD (0+i) [])]):=
 kR _ (.mk (dS 0x10a11051e011e032eaa) [] [some (bv (ct (AU q ix).left)),some (bv (ct (AU q ix).right))] [] []) (kO (kz q0 (kz q1 (kz q2 AN)))) (rI (ix+1) (oL (A5 G) (.cons (ihc (AU q ix).right) (.cons (ihc (AU q ix).left) (rB ix q.m .nil))))) 14680844 7 [0,1,11] 2
theorem wE (q0:Cm ix q)(q1:Gm ct q ix)(q2:Gn ct q ix):sR 2 (AH7) (Du bc nc cl q ix) ([oV J7,DY nf fr bc nc cl G,oA 1 false G fun i=>(AA gm i)]) (xN,(frame 58 [(2,sl bc 1 nc fun i=>(AA cl i)),(3,bv false),(8,pt 0 0),(9,pt 1 0),(21,sl q.no 2 q.m fun i=>(q.op i).cells),(22,iv ↑q.m),(23,iv (ix+1))]),[oV Gr,fE.var false false [AE nf fr,AK bc nc cl,E9 G],oA 1 false G fun i=>(AA gm i)]):=
 kR _ (.mk (dS 0x10a11051e011e032ea) [] [some (bv (ct (AU q ix).left)),some (bv (ct (AU q ix).right))] [] []) (kO (kz q0 (kz q1 (kz q2 AN)))) (rI (ix+1) (.cons (ihc (AU q ix).right) (.cons (ihc (AU q ix).left) (rB ix q.m .nil)))) 14680844 7 [0,1,2] 2
theorem wF (q0:(decide (ix<(↑q.m:Int)))=false):sR 2 (AH7) (Du bc nc cl q ix) ([oV J7,DY nf fr bc nc cl G,oA 1 false G fun i=>(AA gm i)]) (xL 0,(E7),[oV Gr,fE.var false false [AE nf fr,AK bc nc cl,E9 G],oA 1 false G fun i=>(AA gm i)]):=
 kR _ (.mk (dS 16) [] [] [] []) (kO (kz q0 AN)) .nil 768 7 [0,1,2] 2
end
noncomputable abbrev FA (a0:Bool)(a1:Nat)(a2:Nat->Int)(a3:fG)(a4:Int):=frame 58 [(2,AW a0 a1 a2),(3,bv true),(8,pt 0 0),(9,pt 1 0),(21,sl a3.no 2 a3.m fun i=>(a3.op i).cells),(22,iv a3.m),(23,iv a4)]
section
variable (q:fG)(nf:Nat)(fr:Nat->Int)(bc:Bool)(nc:Nat)(cl:Nat->Int)(ct:Int->Bool)(G:Nat)(gm:Nat->Int)(ix:Int)(h0:0<=ix)(hG:G<=1000)(hm:q.m<=1000)(ihc:∀ x:Int,sP 45 [AW bc nc cl,iv x] (bv (ct x)))
include q nf fr bc nc cl ct G gm ix h0 hG hm ihc
theorem wG (q0:Cm ix q)(q1:E8 ct q ix)(q2:Gp ct q ix):sR 2 (AH7) (FA bc nc cl q ix) ([oV J7,VS nf fr bc nc cl]) (xN,(frame 58 [(2,sl bc 1 nc fun i=>(AA cl i)),(3,bv true),(8,pt 0 0),(9,pt 1 0),(21,sl q.no 2 q.m fun i=>(q.op i).cells),(22,iv ↑q.m),(23,iv (ix+1))]),[oV Gr,fE.var false false [AE nf fr,AK bc nc cl,EV.ms 2 1 0 1 none],oA 1 false 1 fun i=>[[iv ix]].getD (0+i) []]):=
 kR _ (.mk (dS 4680698881508270) [] [some (bv (ct (AU q ix).left)),some (bv (ct (AU q ix).right))] [] []) (kO (kz q0 (kz q1 (kz q2 AN)))) (rI (ix+1) (.cons (ihc (AU q ix).right) (.cons (ihc (AU q ix).left) (rB ix q.m .nil)))) 14680844 7 [0,1,10] 2
theorem wH (q0:Cm ix q)(q1:E8 ct q ix)(q2:Gn ct q ix):sR 2 (AH7) (FA bc nc cl q ix) ([oV J7,VS nf fr bc nc cl]) (xN,(frame 58 [(2,sl bc 1 nc fun i=>(AA cl i)),(3,bv true),(8,pt 0 0),(9,pt 1 0),(21,sl q.no 2 q.m fun i=>(q.op i).cells),(22,iv ↑q.m),(23,iv (ix+1))]),[oV Gr,fE.var false false [AE nf fr,AK bc nc cl,AT]]):=
 kR _ (.mk (dS 0x10a11222032e012e01ae) [] [some (bv (ct (AU q ix).left)),some (bv (ct (AU q ix).right))] [] []) (kO (kz q0 (kz q1 (kz q2 AN)))) (rI (ix+1) (.cons (ihc (AU q ix).right) (.cons (ihc (AU q ix).left) (rB ix q.m .nil)))) 14680844 3 [0,1] 2
theorem W6 (q0:Cm ix q)(q1:Gm ct q ix):sR 2 (AH7) (FA bc nc cl q ix) ([oV J7,VS nf fr bc nc cl]) (xN,(frame 58 [(2,sl bc 1 nc fun i=>(AA cl i)),(3,bv true),(8,pt 0 0),(9,pt 1 0),(21,sl q.no 2 q.m fun i=>(q.op i).cells),(22,iv ↑q.m),(23,iv (ix+1))]),[oV Gr,fE.var false false [AE nf fr,AK bc nc cl,AT]]):=
 kR _ (.mk (dS 4463856302) [] [some (bv (ct (AU q ix).left)),some (bv (ct (AU q ix).right))] [] []) (kO (kz q0 (kz q1 AN))) (rI (ix+1) (.cons (ihc (AU q ix).right) (.cons (ihc (AU q ix).left) (rB ix q.m .nil)))) 14680844 3 [0,1] 2
theorem wI (q0:(decide (ix<(↑q.m:Int)))=false):sR 2 (AH7) (FA bc nc cl q ix) ([oV J7,VS nf fr bc nc cl]) (xL 0,(E7),[oV Gr,fE.var false false [AE nf fr,AK bc nc cl,AT]]):=
 kR _ (.mk (dS 16) [] [] [] []) (kO (kz q0 AN)) .nil 768 3 [0,1] 2
end
noncomputable abbrev wJ:Code:=(cB (cR (cL (cR (cR (AY prog 63))))))
noncomputable abbrev IY:Code:=(cB (cB (cR (cL (cR (cR (AY prog 63)))))))
section
variable (q:fG)(nf:Nat)(fr:Nat->Int)(bc:Bool)(nc:Nat)(cl:Nat->Int)(ct:Int->Bool)(G:Nat)(gm:Nat->Int)(ix:Int)(h0:0<=ix)(hG:G<=1000)(hm:q.m<=1000)(ihc:∀ x:Int,sP 45 [AW bc nc cl,iv x] (bv (ct x)))
include q nf fr bc nc cl ct G gm ix h0 hG hm ihc
theorem wK (q0:Cm ix q)(q1:E8 ct q ix)(q2:Gp ct q ix):sR 2 (AH7) (FA bc nc cl q ix) ([oV J7,DY nf fr bc nc cl G,oA 1 false G fun i=>(AA gm i)]) (xN,(frame 58 [(2,sl bc 1 nc fun i=>(AA cl i)),(3,bv true),(8,pt 0 0),(9,pt 1 0),(21,sl q.no 2 q.m fun i=>(q.op i).cells),(22,iv ↑q.m),(23,iv (ix+1))]),[oV Gr,fE.var false false [AE nf fr,AK bc nc cl,EV.ms 2 1 0 (G+1) none],oA 1 false (G+1) (Ar G (fun i=>[iv (gm (0+i))]) fun i=>[[iv ix]].getD (0+i) [])]):=
 kR _ (.mk (dS 74891182104124138) [] [some (bv (ct (AU q ix).left)),some (bv (ct (AU q ix).right))] [] []) (kO (kz q0 (kz q1 (kz q2 AN)))) (rI (ix+1) (oL (A5 G) (.cons (ihc (AU q ix).right) (.cons (ihc (AU q ix).left) (rB ix q.m .nil))))) 14680844 7 [0,1,11] 2
theorem wL (q0:Cm ix q)(q1:E8 ct q ix)(q2:Gn ct q ix):sR 2 (AH7) (FA bc nc cl q ix) ([oV J7,DY nf fr bc nc cl G,oA 1 false G fun i=>(AA gm i)]) (xN,(frame 58 [(2,sl bc 1 nc fun i=>(AA cl i)),(3,bv true),(8,pt 0 0),(9,pt 1 0),(21,sl q.no 2 q.m fun i=>(q.op i).cells),(22,iv ↑q.m),(23,iv (ix+1))]),[oV Gr,fE.var false false [AE nf fr,AK bc nc cl,E9 G],oA 1 false G fun i=>(AA gm i)]):=
 kR _ (.mk (dS 0x10a11222032e012e01ae) [] [some (bv (ct (AU q ix).left)),some (bv (ct (AU q ix).right))] [] []) (kO (kz q0 (kz q1 (kz q2 AN)))) (rI (ix+1) (.cons (ihc (AU q ix).right) (.cons (ihc (AU q ix).left) (rB ix q.m .nil)))) 14680844 7 [0,1,2] 2
theorem W7 (q0:Cm ix q)(q1:Gm ct q ix):sR 2 (AH7) (FA bc nc cl q ix) ([oV J7,DY nf fr bc nc cl G,oA 1 false G fun i=>(AA gm i)]) (xN,(frame 58 [(2,sl bc 1 nc fun i=>(AA cl i)),(3,bv true),(8,pt 0 0),(9,pt 1 0),(21,sl q.no 2 q.m fun i=>(q.op i).cells),(22,iv ↑q.m),(23,iv (ix+1))]),[oV Gr,fE.var false false [AE nf fr,AK bc nc cl,E9 G],oA 1 false G fun i=>(AA gm i)]):=
 kR _ (.mk (dS 4463856302) [] [some (bv (ct (AU q ix).left)),some (bv (ct (AU q ix).right))] [] []) (kO (kz q0 (kz q1 AN))) (rI (ix+1) (.cons (ihc (AU q ix).right) (.cons (ihc (AU q ix).left) (rB ix q.m .nil)))) 14680844 7 [0,1,2] 2
theorem wM (q0:(decide (ix<(↑q.m:Int)))=false):sR 2 (AH7) (FA bc nc cl q ix) ([oV J7,DY nf fr bc nc cl G,oA 1 false G fun i=>(AA gm i)]) (xL 0,(E7),[oV Gr,fE.var false false [AE nf fr,AK bc nc cl,E9 G],oA 1 false G fun i=>(AA gm i)]):=
 kR _ (.mk (dS 16) [] [] [] []) (kO (kz q0 AN)) .nil 768 7 [0,1,2] 2
end
noncomputable abbrev Px (a0:Bool)(a1:Nat)(a2:Nat->Int)(a3:fG):=frame 58 [(2,AW a0 a1 a2),(3,bv true),(8,pt 0 0),(9,pt 1 0),(21,sl a3.no 2 a3.m fun i=>(a3.op i).cells),(22,iv a3.m),(23,iv 0)]
noncomputable abbrev Py (a0:Bool)(a1:Nat)(a2:Nat->Int)(a3:fG):=frame 58 [(2,AW a0 a1 a2),(3,bv false),(8,pt 0 0),(9,pt 1 0),(21,sl a3.no 2 a3.m fun i=>(a3.op i).cells),(22,iv a3.m),(23,iv 0)]
section
variable (q:fG)(nf:Nat)(fr:Nat->Int)(bc:Bool)(nc:Nat)(cl:Nat->Int)(ct:Int->Bool)(G:Nat)(gm:Nat->Int)
include q nf fr bc nc cl ct G gm
theorem wN (ih:sL (AIj) (Py bc nc cl q) [oV J7,oV [BI nf fr,AW bc nc cl,Aq]] ((xL 0,frame 58 [(8,pt 0 0),(9,pt 1 0)],[oV J7,VS nf fr bc nc cl]):RC)):sP 63 [Ak q,AE nf fr,AK bc nc cl,bv false] (ag [AE nf fr,AK bc nc cl,AT]):=
 kP [[]] (.mk [] [(8,.is 14680844 3 (xL 0,(E7),[oV Gr,fE.var false false [AE nf fr,AK bc nc cl,AT]]))] [] [] []) (kO AN) (.cons ih .nil)
theorem wP (ih:sL (AIj) (Py bc nc cl q) [oV J7,oV [BI nf fr,AW bc nc cl,Aq]] ((xL 0,frame 58 [(8,pt 0 0),(9,pt 1 0)],[oV J7,DY nf fr bc nc cl G,oA 1 false G fun i=>(AA gm i)]):RC)):sP 63 [Ak q,AE nf fr,AK bc nc cl,bv false] (ag [AE nf fr,AK bc nc cl,sl true 1 G fun i=>[iv (gm (0+i))]]):=
 kP [[]] (.mk [] [(8,.is 14680844 3 (xL 0,(E7),[oV Gr,fE.var false false [AE nf fr,AK bc nc cl,E9 G],oA 1 false G fun i=>(AA gm i)]))] [] [] []) (kO AN) (.cons ih .nil)
theorem wQ (ih:sL (AIj) (Px bc nc cl q) [oV J7,oV [BI nf fr,AW bc nc cl,Aq]] ((xL 0,frame 58 [(8,pt 0 0),(9,pt 1 0)],[oV J7,VS nf fr bc nc cl]):RC)):sP 63 [Ak q,AE nf fr,AK bc nc cl,bv true] (ag [AE nf fr,AK bc nc cl,AT]):=
 kP [[]] (.mk [] [(8,.is 14680844 3 (xL 0,(E7),[oV Gr,fE.var false false [AE nf fr,AK bc nc cl,AT]]))] [] [] []) (kO AN) (.cons ih .nil)
theorem wR (ih:sL (AIj) (Px bc nc cl q) [oV J7,oV [BI nf fr,AW bc nc cl,Aq]] ((xL 0,frame 58 [(8,pt 0 0),(9,pt 1 0)],[oV J7,DY nf fr bc nc cl G,oA 1 false G fun i=>(AA gm i)]):RC)):sP 63 [Ak q,AE nf fr,AK bc nc cl,bv true] (ag [AE nf fr,AK bc nc cl,sl true 1 G fun i=>[iv (gm (0+i))]]):=
 kP [[]] (.mk [] [(8,.is 14680844 3 (xL 0,(E7),[oV Gr,fE.var false false [AE nf fr,AK bc nc cl,E9 G],oA 1 false G fun i=>(AA gm i)]))] [] [] []) (kO AN) (.cons ih .nil)
end
end Go.Ev
