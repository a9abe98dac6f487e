/- A part of the proof. -/
import Derived.Test.YtfkknpebhlaaeaaGreatDoorXD
set_option linter.unusedSimpArgs false
set_option linter.unusedVariables false
set_option linter.unusedSectionVars false
namespace Go.Ev
open Go.Proofs.Tryz (prog)
set_option maxRecDepth 100000
set_option maxHeartbeats 0
theorem Bfs.done {V N:Nat}{A:Nat->uN}{f lev:Nat->Int}{D L:List Nat}{u:Nat}(h:Bfs V N A f lev D L)(hu:∀ v,v<V->Res N A f u v->0<=lev v):Bfs V N A f lev (D++[u]) L:=
 ⟨h.nd,h.lt,h.met,h.zero,h.par,h.le,fun w hw v hv hr=>by
  rcases List.mem_append.1 hw with hw | hw
  ·exact h.cl w hw v hv hr
  ·rw [List.mem_singleton] at hw; subst hw; exact hu v hv hr,h.sink⟩
def Xs (N:Nat)(A:Nat->uN)(f lev:Nat->Int)(u p:Nat):Prop:=∀ p':Nat,p'<p->∀ t:Nat,sTo A (BE A N u p')=t->0<Bn A f (BE A N u p')->0<=lev t
def QRep (q:Nat->Int)(off ol:Nat)(Q:List Nat):Prop:=off+Q.length<=ol/\ol<=1000/\∀ i,i<Q.length->q (off+i)=((Q.getD i 0:Nat):Int)
section
variable (V:Nat)(nn:Bool)(N:Nat)(A:Nat->uN)(f:Nat->Int)
abbrev bX (lev:Nat->Int):fE:=.arr false true 1 true V fun i=>[.int .i64 (lev i)]
abbrev lvH (lev:Nat->Int)(l:AL):AL:=[dQ N A,bE N A f,.var false true [.int .i64 V,.uS nn 3 N fun i=>(A i).cells],bX V lev]++l
abbrev N7 (lev:Nat->Int):AL:=lvH V nn N A f lev [.arr false true 1 true 1 fun (i:Nat)=>[[EV.int IntKind.i64 0]].getD i []]
abbrev HJ (ds:AL)(lev:Nat->Int)(ol:Nat)(q:Nat->Int):AL:=lvH V nn N A f lev (ds++[.arr false true 1 false ol fun i=>[.int .i64 (q i)]])
abbrev lvL:List (Nat×EV):=[(0,EV.pe 0 0 0 0),(3,.ptr 2 0),(4,EV.uS false 0 0 fun _=>[]),(5,.ms 3 1 0 V (some V))]
abbrev lvT (qe:EV):List EV:=frame 73 (lvL V++[(6,qe)])
abbrev Qk (qe:EV)(u:Nat)(p:Nat):List EV:=frame 73 (lvL V++[(6,qe),(7,.int .i64 u),(32,EV.uS (decide (0<A4 A N u)) 1 (A4 A N u) fun i=>[.int .i64 (BE A N u i)]),(33,.int .i64 (A4 A N u)),(34,.int .i64 p)])
abbrev qA:EV:=.ms 4 1 1 0 (some 0)
abbrev qQ (i off n:Nat):EV:=.ms i 1 off n none
noncomputable abbrev SZ:Code:=cB (cB (cR (cR (cR (cB (cR (cB (cB (cL (cR (cR (cR (cR (cB (cR (AY prog 91))))))))))))))))
def RR (ds:AL)(r:RC):Prop:=∃ lev,dH V N A f lev/\r=(EX.leave 0,frame 73 (lvL V),lvH V nn N A f lev ds)
def LvB (i:Nat)(ds:AL)(D:List Nat)(id:Nat)(r:RC):Prop:=∃ lev Q off ol q,Bfs V N A f lev D (D++Q)/\lev (V - 1)<0/\QRep q off ol Q/\r=(EX.leave id,lvT V (qQ i off Q.length),HJ V nn N A f ds lev ol q)
structure dJ (i m:Nat) (ds:AL) (i':Nat) (ds' dE:AL):Prop where
 sink:∀ (lev:Nat->Int) (u p off n ol:Nat) (q:Nat->Int),u<V->-1<=lev (0+u)/\lev (0+u)<=1000->n<=100->off+n<=ol->ol<=1000->p<A4 A N u->sTo A (BE A N u p)=((V - 1:Nat):Int)->Bn A f (BE A N u p)>0->lev (V - 1)<0->
  uR prog fF false m SZ (Qk V N A (qQ i off n) u p) (HJ V nn N A f ds lev ol q) (EX.leave 0,frame 73 (lvL V),lvH V nn N A f (BK lev (V - 1) (lev u+1)) dE)
 push:∀ (lev:Nat->Int) (u p off n ol:Nat) (q:Nat->Int) (t:Nat),u<V->-1<=lev (0+u)/\lev (0+u)<=1000->n<=100->off+n<=ol->ol<=1000->p<A4 A N u->t<V->t≠V - 1->sTo A (BE A N u p)=t->Bn A f (BE A N u p)>0->lev t<0->
  uR prog fF false m SZ (Qk V N A (qQ i off n) u p) (HJ V nn N A f ds lev ol q) (EX.normal,Qk V N A (qQ i' 0 (n+1)) u (p+1),HJ V nn N A f ds' (BK lev t (lev u+1)) (n+1) fun j=>if j<n then q (off+j) else t)
 skip:∀ (lev:Nat->Int) (u p off n ol:Nat) (q:Nat->Int) (t:Nat),u<V->-1<=lev (0+u)/\lev (0+u)<=1000->n<=100->off+n<=ol->ol<=1000->p<A4 A N u->t<V->sTo A (BE A N u p)=t->¬ (Bn A f (BE A N u p)>0/\lev t<0)->
  uR prog fF false m SZ (Qk V N A (qQ i off n) u p) (HJ V nn N A f ds lev ol q) (EX.normal,Qk V N A (qQ i off n) u (p+1),HJ V nn N A f ds lev ol q)
 fin:∀ (lev:Nat->Int) (u off n ol:Nat) (q:Nat->Int),u<V->-1<=lev (0+u)/\lev (0+u)<=1000->n<=100->off+n<=ol->ol<=1000->
  uR prog fF false m SZ (Qk V N A (qQ i off n) u (A4 A N u)) (HJ V nn N A f ds lev ol q) (EX.leave 2,lvT V (qQ i off n),HJ V nn N A f ds lev ol q)
end
section
variable {V:Nat}{nn:Bool}{N:Nat}{A:Nat->uN}{f:Nat->Int}(hA:Arcs V N A)(hV:V<100)(hN:N<=4096)
include hA hV hN
theorem CC (u:Nat):A4 A N u<=10000:=by have:=ND A N u; omega
theorem L2 {u p:Nat}(h:p<A4 A N u):WV N (BE A N u p):=by
 rcases I1.1 (Hp h) with ⟨i,h1,h2,_⟩ | ⟨i,h1,h2,_⟩
 ·exact .inl ⟨by omega,by omega⟩
 ·exact .inr ⟨by omega,by omega⟩
theorem LP {u p:Nat}(h:p<A4 A N u):u<V/\∃ t:Nat,t<V/\sTo A (BE A N u p)=t/\(0<Bn A f (BE A N u p)->Res N A f u t):=by
 obtain ⟨hu,t,i,hi,ht,e,_⟩:=LM hA (Hp h);exact ⟨hu,t,ht,e,fun hr=>⟨_,Hp h,hr,e⟩⟩
theorem HP {lev:Nat->Int}{t u:Nat}:uU (.arr false true 1 true V (BC (fun (i:Nat)=>[EV.int IntKind.i64 (lev i)]) (0+((t:Nat):Int).toNat) [EV.int IntKind.i64 (lev (0+(u:Int).toNat)+1)])) (bX V (BK lev t (lev u+1))):=by
 refine uU.arr fun i hi=>?_;simp only [BC,BK,uJ,uG];by_cases h:i=t
 ·subst h; rw [if_pos rfl,if_pos rfl]
 ·rw [if_neg h,if_neg h]
structure LvI (lev:Nat->Int) (D Q:List Nat) (u p:Nat):Prop where
 b:Bfs V N A f lev D (D++(u :: Q))
 s:lev (V - 1)<0
 m:Xs N A f lev u p
omit hA hV hN in
theorem LvI.skip {lev:Nat->Int}{D Q:List Nat}{u p:Nat}(h:LvI (V:=V) (N:=N) (A:=A) (f:=f) lev D Q u p){t:Nat}(ht:sTo A (BE A N u p)=t)(hs:0<Bn A f (BE A N u p)->0<=lev t):LvI (V:=V) (N:=N) (A:=A) (f:=f) lev D Q u (p+1):=
 ⟨h.b,h.s,fun p' hp t' ht' hr=>by
  rcases Nat.lt_or_ge p' p with h1 | h1
  ·exact h.m p' h1 t' ht' hr
  ·obtain rfl:p'=p:=by omega
   obtain rfl:t'=t:=by omega
   exact hs hr⟩
theorem LvI.push {lev:Nat->Int}{D Q:List Nat}{u p:Nat}(h:LvI (V:=V) (N:=N) (A:=A) (f:=f) lev D Q u p){t:Nat}(ht:sTo A (BE A N u p)=t)(htV:t<V)(hr:Res N A f u t)(hl:lev t<0)(hs:t≠V - 1):
  LvI (V:=V) (N:=N) (A:=A) (f:=f) (BK lev t (lev u+1)) D (Q++[t]) u (p+1):=by
 have hb:=WN hA h.b (u:=u) (by simp) htV hl hr hs;have hu0:=Nz h.b (v:=u) (by simp);refine ⟨by simpa using hb,by rw [Ap (Ne.symm hs)]; exact h.s,fun p' hp t' ht' hr'=>?_⟩;by_cases e:t'=t
 ·subst e; rw [Ao]; omega
 ·rw [Ap e];rcases Nat.lt_or_ge p' p with h1 | h1
  ·exact h.m p' h1 t' ht' hr'
  ·obtain rfl:p'=p:=by omega
   omega
omit hV hN in
theorem LvI.fin {lev:Nat->Int}{D Q:List Nat}{u:Nat}(h:LvI (V:=V) (N:=N) (A:=A) (f:=f) lev D Q u (A4 A N u)):Bfs V N A f lev (D++[u]) (D++[u]++Q):=by
 have:=h.b.done (u:=u) fun v hv hr=>by
  obtain ⟨x,hx,h1,h2⟩:=hr;obtain ⟨p,hp,e⟩:=RO hx;subst e;exact h.m p hp v h2 h1
 simpa using this
theorem LvI.len {lev:Nat->Int}{D Q:List Nat}{u p:Nat}(h:LvI (V:=V) (N:=N) (A:=A) (f:=f) lev D Q u p):Q.length<100:=by
 have:=LN h.b;simp at this;omega
theorem LvI.rng {lev:Nat->Int}{D Q:List Nat}{u p:Nat}(h:LvI (V:=V) (N:=N) (A:=A) (f:=f) lev D Q u p):u<V/\-1<=lev (0+u)/\lev (0+u)<=1000:=by
 have hu:u∈D++(u :: Q):=by simp
 have h0:=Nz h.b hu;obtain ⟨i,hi,e⟩:=List.getElem_of_mem hu;have h1:=h.b.le i u (by rw [uD hi,e]);have h2:=LN h.b;have h3:=h.b.lt u hu;rw [uJ];exact ⟨h3,by omega,by omega⟩
theorem QRep.push {q:Nat->Int}{off ol:Nat}{Q:List Nat}(hq:QRep q off ol Q)(hl:Q.length<100)(t:Nat):QRep (fun i=>if i<Q.length then q (off+i) else t) 0 (Q.length+1) (Q++[t]):=by
 refine ⟨by simp,by omega,fun i hi=>?_⟩;simp only [uJ];by_cases hi':i<Q.length
 ·rw [if_pos hi',hq.2.2 i hi',uA,uA,List.getElem?_append_left hi']
 ·obtain rfl:i=Q.length:=by simp at hi; omega
  rw [if_neg hi'];simp [uA]
section
variable {i m:Nat}{ds dE:AL}
theorem TF (hL:dJ V nn N A f i m ds i ds dE):∀ (k p u:Nat) (lev:Nat->Int) (D Q:List Nat) (off ol:Nat) (q:Nat->Int),p+k=A4 A N u->LvI (V:=V) (N:=N) (A:=A) (f:=f) lev D Q u p->QRep q off ol Q->
  ∃ r:RC,(RR V nn N A f dE r∨LvB V nn N A f i ds (D++[u]) 2 r)/\uM prog fF false m SZ (Qk V N A (qQ i off Q.length) u p) (HJ V nn N A f ds lev ol q) r
 | 0,p,u,lev,D,Q,off,ol,q,hk,hI,hq=>by
  obtain rfl:p=A4 A N u:=by omega
  have hl:=hI.len hA hV hN;obtain ⟨r1,r2,r3⟩:=hI.rng hA hV hN;exact ⟨_,.inr ⟨lev,Q,off,ol,q,hI.fin hA,hI.s,hq,rfl⟩,uM.aC (hL.fin lev u off Q.length ol q r1 ⟨r2,r3⟩ (by omega) hq.1 hq.2.1) (by simp)⟩
 | k+1,p,u,lev,D,Q,off,ol,q,hk,hI,hq=>by
  have hl:=hI.len hA hV hN;obtain ⟨r1,r2,r3⟩:=hI.rng hA hV hN;have hp:p<A4 A N u:=by omega
  obtain ⟨_,t,ht,e,hr⟩:=LP hA hV hN (f:=f) hp;by_cases h:Bn A f (BE A N u p)>0/\lev t<0
  ·by_cases h3:t=V - 1
   ·subst h3;exact ⟨_,.inl ⟨BK lev (V - 1) (lev u+1),N0 hA hI.b (by simp) hI.s (hr h.1),rfl⟩,uM.aC (hL.sink lev u p off Q.length ol q r1 ⟨r2,r3⟩ (by omega) hq.1 hq.2.1 hp e h.1 h.2) (by simp)⟩
   ·obtain ⟨r,hR,hS⟩:=TF hL k (p+1) u _ D (Q++[t]) 0 (Q.length+1) _ (by omega) (hI.push hA hV hN e ht (hr h.1) h.2 h3) (hq.push hA hV hN hl t);rw [show (Q++[t]).length=Q.length+1 by simp] at hS;exact ⟨r,hR,uM.uQ (hL.push lev u p off Q.length ol q t r1 ⟨r2,r3⟩ (by omega) hq.1 hq.2.1 hp ht h3 e h.1 h.2) hS⟩
  ·obtain ⟨r,hR,hS⟩:=TF hL k (p+1) u lev D Q off ol q (by omega) (hI.skip e fun h1=>by omega) hq;exact ⟨r,hR,uM.uQ (hL.skip lev u p off Q.length ol q t r1 ⟨r2,r3⟩ (by omega) hq.1 hq.2.1 hp ht e h) hS⟩
theorem Y1 {i0:Nat}{d0:AL}(hL0:dJ V nn N A f i0 m d0 i ds dE)(hL:dJ V nn N A f i m ds i ds dE):∀ (k p u:Nat) (lev:Nat->Int) (D Q:List Nat) (off ol:Nat) (q:Nat->Int),p+k=A4 A N u->LvI (V:=V) (N:=N) (A:=A) (f:=f) lev D Q u p->QRep q off ol Q->
  ∃ r:RC,(RR V nn N A f dE r∨LvB V nn N A f i ds (D++[u]) 2 r∨LvB V nn N A f i0 d0 (D++[u]) 2 r)/\uM prog fF false m SZ (Qk V N A (qQ i0 off Q.length) u p) (HJ V nn N A f d0 lev ol q) r
 | 0,p,u,lev,D,Q,off,ol,q,hk,hI,hq=>by
  obtain rfl:p=A4 A N u:=by omega
  have hl:=hI.len hA hV hN;obtain ⟨r1,r2,r3⟩:=hI.rng hA hV hN;exact ⟨_,.inr (.inr ⟨lev,Q,off,ol,q,hI.fin hA,hI.s,hq,rfl⟩),uM.aC (hL0.fin lev u off Q.length ol q r1 ⟨r2,r3⟩ (by omega) hq.1 hq.2.1) (by simp)⟩
 | k+1,p,u,lev,D,Q,off,ol,q,hk,hI,hq=>by
  have hl:=hI.len hA hV hN;obtain ⟨r1,r2,r3⟩:=hI.rng hA hV hN;have hp:p<A4 A N u:=by omega
  obtain ⟨_,t,ht,e,hr⟩:=LP hA hV hN (f:=f) hp;by_cases h:Bn A f (BE A N u p)>0/\lev t<0
  ·by_cases h3:t=V - 1
   ·subst h3;exact ⟨_,.inl ⟨BK lev (V - 1) (lev u+1),N0 hA hI.b (by simp) hI.s (hr h.1),rfl⟩,uM.aC (hL0.sink lev u p off Q.length ol q r1 ⟨r2,r3⟩ (by omega) hq.1 hq.2.1 hp e h.1 h.2) (by simp)⟩
   ·obtain ⟨r,hR,hS⟩:=TF hA hV hN hL k (p+1) u _ D (Q++[t]) 0 (Q.length+1) _ (by omega) (hI.push hA hV hN e ht (hr h.1) h.2 h3) (hq.push hA hV hN hl t);rw [show (Q++[t]).length=Q.length+1 by simp] at hS;exact ⟨r,hR.imp id .inl,uM.uQ (hL0.push lev u p off Q.length ol q t r1 ⟨r2,r3⟩ (by omega) hq.1 hq.2.1 hp ht h3 e h.1 h.2) hS⟩
  ·obtain ⟨r,hR,hS⟩:=Y1 hL0 hL k (p+1) u lev D Q off ol q (by omega) (hI.skip e fun h1=>by omega) hq;exact ⟨r,hR,uM.uQ (hL0.skip lev u p off Q.length ol q t r1 ⟨r2,r3⟩ (by omega) hq.1 hq.2.1 hp ht e h) hS⟩
end
theorem Sa {n off t:Nat}{q:Nat->Int}:uU (.arr false true 1 false (n+1) (Ar n (fun (i:Nat)=>[EV.int IntKind.i64 (q (off+i))]) fun (i:Nat)=>[[EV.int IntKind.i64 (t:Int)]].getD (0+i) [])) (.arr false true 1 false (n+1) fun i=>[.int .i64 (if i<n then q (off+i) else (t:Int))]):=by
 refine uU.arr fun i hi=>?_;simp only [Ar];split
 ·rfl
 ·obtain rfl:i=n:=by omega
  simp
theorem lvB:dJ V nn N A f 5 5 [.dead] 5 [.dead] [.dead]:=by
 have v2:=hA.v2;have hs:=fun (u p:Nat) (hp:p<A4 A N u)=>I2 (V:=V) (nn:=nn) (A:=A) (f:=f) (L2 hA hV hN hp) hN;refine ⟨fun lev u p off n ol q r1 r2 r3 r4 r5 hp e h1 h2=>?_,fun lev u p off n ol q t r1 r2 r3 r4 r5 hp ht h3 e h1 h2=>?_,fun lev u p off n ol q t r1 r2 r3 r4 r5 hp ht e h=>?_,fun lev u off n ol q r1 r2 r3 r4 r5=>?_⟩
 ·have h:=hs u p hp;rw [e] at h;exact uR.weaken (Zt V nn N A f lev u _ (A4 A N u) (BE A N u) ((V - 1:Nat):Int) _ p off n ol q v2 hV hN (by omega) (CC hA hV hN u) r1 (by omega) (by omega) r2.1 r2.2 r3 r4 r5 (fun _=>h) (by simp; omega) (by simpa using h1) (by simpa using h2) (by rw [beq_iff_eq]; omega)) (uI _) (.cons (uH _) (.cons (uH _) (.cons (uH _) (.cons (HP hA hV hN) (.cons (uH _) .nil)))))
 ·have h:=hs u p hp;rw [e] at h;exact uR.weaken (Zu V nn N A f lev u _ (A4 A N u) (BE A N u) (t:Int) _ p off n ol q v2 hV hN (by omega) (CC hA hV hN u) r1 (by omega) (by omega) r2.1 r2.2 r3 r4 r5 (fun _=>h) (by simp; omega) (by simpa using h1) (by simpa using h2) (by rw [beq_eq_false_iff_ne]; omega)) (uI _) (.cons (uH _) (.cons (uH _) (.cons (uH _) (.cons (HP hA hV hN) (.cons (uH _) (.cons (Sa hA hV hN) .nil))))))
 ·have hh:=hs u p hp;rw [e] at hh;by_cases h1:Bn A f (BE A N u p)>0
  ·exact Zv V nn N A f lev u _ (A4 A N u) (BE A N u) (t:Int) _ p off n ol q v2 hV hN (by omega) (CC hA hV hN u) r1 (by omega) (by omega) r2.1 r2.2 r3 r4 r5 (fun _=>hh) (by simp; omega) (by simpa using h1) (uL (fun x=>h ⟨h1,by simpa using x⟩))
  ·exact Zw V nn N A f lev u _ (A4 A N u) (BE A N u) (t:Int) _ p off n ol q v2 hV hN (by omega) (CC hA hV hN u) r1 (by omega) (by omega) r2.1 r2.2 r3 r4 r5 (fun _=>hh) (by simp; omega) (by simpa using h1)
 ·exact Zx V nn N A f lev u _ (A4 A N u) (BE A N u) 0 0 _ off n ol q v2 hV hN (by omega) (CC hA hV hN u) r1 (by omega) (by omega) r2.1 r2.2 r3 r4 r5 (fun h=>by omega) (by simp)
theorem lvC:dJ V nn N A f 6 6 [.dead,.dead] 6 [.dead,.dead] [.dead,.dead]:=by
 have v2:=hA.v2;have hs:=fun (u p:Nat) (hp:p<A4 A N u)=>I2 (V:=V) (nn:=nn) (A:=A) (f:=f) (L2 hA hV hN hp) hN;refine ⟨fun lev u p off n ol q r1 r2 r3 r4 r5 hp e h1 h2=>?_,fun lev u p off n ol q t r1 r2 r3 r4 r5 hp ht h3 e h1 h2=>?_,fun lev u p off n ol q t r1 r2 r3 r4 r5 hp ht e h=>?_,fun lev u off n ol q r1 r2 r3 r4 r5=>?_⟩
 ·have h:=hs u p hp;rw [e] at h;exact uR.weaken (Zy V nn N A f lev u _ (A4 A N u) (BE A N u) ((V - 1:Nat):Int) _ p off n ol q v2 hV hN (by omega) (CC hA hV hN u) r1 (by omega) (by omega) r2.1 r2.2 r3 r4 r5 (fun _=>h) (by simp; omega) (by simpa using h1) (by simpa using h2) (by rw [beq_iff_eq]; omega)) (uI _) (.cons (uH _) (.cons (uH _) (.cons (uH _) (.cons (HP hA hV hN) (.cons (uH _) (.cons (uH _) .nil))))))
 ·have h:=hs u p hp;rw [e] at h;exact uR.weaken (Zz V nn N A f lev u _ (A4 A N u) (BE A N u) (t:Int) _ p off n ol q v2 hV hN (by omega) (CC hA hV hN u) r1 (by omega) (by omega) r2.1 r2.2 r3 r4 r5 (fun _=>h) (by simp; omega) (by simpa using h1) (by simpa using h2) (by rw [beq_eq_false_iff_ne]; omega)) (uI _) (.cons (uH _) (.cons (uH _) (.cons (uH _) (.cons (HP hA hV hN) (.cons (uH _) (.cons (uH _) (.cons (Sa hA hV hN) .nil)))))))
 ·have hh:=hs u p hp;rw [e] at hh;by_cases h1:Bn A f (BE A N u p)>0
  ·exact Z0 V nn N A f lev u _ (A4 A N u) (BE A N u) (t:Int) _ p off n ol q v2 hV hN (by omega) (CC hA hV hN u) r1 (by omega) (by omega) r2.1 r2.2 r3 r4 r5 (fun _=>hh) (by simp; omega) (by simpa using h1) (uL (fun x=>h ⟨h1,by simpa using x⟩))
  ·exact Z1 V nn N A f lev u _ (A4 A N u) (BE A N u) (t:Int) _ p off n ol q v2 hV hN (by omega) (CC hA hV hN u) r1 (by omega) (by omega) r2.1 r2.2 r3 r4 r5 (fun _=>hh) (by simp; omega) (by simpa using h1)
 ·exact Z2 V nn N A f lev u _ (A4 A N u) (BE A N u) 0 0 _ off n ol q v2 hV hN (by omega) (CC hA hV hN u) r1 (by omega) (by omega) r2.1 r2.2 r3 r4 r5 (fun h=>by omega) (by simp)
theorem lvD:dJ V nn N A f 5 6 [.dead] 6 [.dead,.dead] [.dead,.dead]:=by
 have v2:=hA.v2;have hs:=fun (u p:Nat) (hp:p<A4 A N u)=>I2 (V:=V) (nn:=nn) (A:=A) (f:=f) (L2 hA hV hN hp) hN;refine ⟨fun lev u p off n ol q r1 r2 r3 r4 r5 hp e h1 h2=>?_,fun lev u p off n ol q t r1 r2 r3 r4 r5 hp ht h3 e h1 h2=>?_,fun lev u p off n ol q t r1 r2 r3 r4 r5 hp ht e h=>?_,fun lev u off n ol q r1 r2 r3 r4 r5=>?_⟩
 ·have h:=hs u p hp;rw [e] at h;exact uR.weaken (Z3 V nn N A f lev u _ (A4 A N u) (BE A N u) ((V - 1:Nat):Int) _ p off n ol q v2 hV hN (by omega) (CC hA hV hN u) r1 (by omega) (by omega) r2.1 r2.2 r3 r4 r5 (fun _=>h) (by simp; omega) (by simpa using h1) (by simpa using h2) (by rw [beq_iff_eq]; omega)) (uI _) (.cons (uH _) (.cons (uH _) (.cons (uH _) (.cons (HP hA hV hN) (.cons (uH _) (.cons (uH _) .nil))))))
 ·have h:=hs u p hp;rw [e] at h;exact uR.weaken (Z4 V nn N A f lev u _ (A4 A N u) (BE A N u) (t:Int) _ p off n ol q v2 hV hN (by omega) (CC hA hV hN u) r1 (by omega) (by omega) r2.1 r2.2 r3 r4 r5 (fun _=>h) (by simp; omega) (by simpa using h1) (by simpa using h2) (by rw [beq_eq_false_iff_ne]; omega)) (uI _) (.cons (uH _) (.cons (uH _) (.cons (uH _) (.cons (HP hA hV hN) (.cons (uH _) (.cons (uH _) (.cons (Sa hA hV hN) .nil)))))))
 ·have hh:=hs u p hp;rw [e] at hh;by_cases h1:Bn A f (BE A N u p)>0
  ·exact Z5 V nn N A f lev u _ (A4 A N u) (BE A N u) (t:Int) _ p off n ol q v2 hV hN (by omega) (CC hA hV hN u) r1 (by omega) (by omega) r2.1 r2.2 r3 r4 r5 (fun _=>hh) (by simp; omega) (by simpa using h1) (uL (fun x=>h ⟨h1,by simpa using x⟩))
  ·exact Z6 V nn N A f lev u _ (A4 A N u) (BE A N u) (t:Int) _ p off n ol q v2 hV hN (by omega) (CC hA hV hN u) r1 (by omega) (by omega) r2.1 r2.2 r3 r4 r5 (fun _=>hh) (by simp; omega) (by simpa using h1)
 ·exact Z7 V nn N A f lev u _ (A4 A N u) (BE A N u) 0 0 _ off n ol q v2 hV hN (by omega) (CC hA hV hN u) r1 (by omega) (by omega) r2.1 r2.2 r3 r4 r5 (fun h=>by omega) (by simp)
theorem WY:∀ (k p u:Nat) (lev:Nat->Int) (D:List Nat),p+k=A4 A N u->LvI (V:=V) (N:=N) (A:=A) (f:=f) lev D [] u p->
  ∃ r:RC,(RR V nn N A f [.dead] r∨LvB V nn N A f 5 [.dead] (D++[u]) 2 r∨(Bfs V N A f lev (D++[u]) (D++[u])/\lev (V - 1)<0/\r=(EX.leave 2,lvT V qA,N7 V nn N A f lev)))/\uM prog fF false 5 SZ (Qk V N A qA u p) (N7 V nn N A f lev) r
 | 0,p,u,lev,D,hk,hI=>by
  obtain rfl:p=A4 A N u:=by omega
  have v2:=hA.v2;obtain ⟨r1,r2,r3⟩:=hI.rng hA hV hN;refine ⟨_,.inr (.inr ⟨by simpa using hI.fin hA,hI.s,rfl⟩),uM.aC (Zs V nn N A f lev u _ (A4 A N u) (BE A N u) 0 0 _ v2 hV hN (by omega) (CC hA hV hN u) r1 (by omega) (by omega) r2 r3 (fun h=>by omega) (by simp)) (by simp)⟩
 | k+1,p,u,lev,D,hk,hI=>by
  have v2:=hA.v2;obtain ⟨r1,r2,r3⟩:=hI.rng hA hV hN;have hp:p<A4 A N u:=by omega
  obtain ⟨_,t,ht,e,hr⟩:=LP hA hV hN (f:=f) hp;have hs:=I2 (V:=V) (nn:=nn) (A:=A) (f:=f) (L2 hA hV hN hp) hN;rw [e] at hs;by_cases h1:Bn A f (BE A N u p)>0
  ·by_cases h2:lev t<0
   ·by_cases h3:t=V - 1
    ·subst h3;refine ⟨_,.inl ⟨BK lev (V - 1) (lev u+1),N0 hA hI.b (by simp) hI.s (hr h1),rfl⟩,uM.aC (uR.weaken (Zo V nn N A f lev u _ (A4 A N u) (BE A N u) ((V - 1:Nat):Int) _ p v2 hV hN (by omega) (CC hA hV hN u) r1 (by omega) (by omega) r2 r3 (fun _=>hs) (by simp; omega) (by simpa using h1) (by simpa using h2) (by rw [beq_iff_eq]; omega)) (uI _) ?_) (by simp)⟩;exact .cons (uH _) (.cons (uH _) (.cons (uH _) (.cons (HP hA hV hN) (.cons (uH _) .nil))))
    ·have hI':=hI.push hA hV hN e ht (hr h1) h2 h3;have hq':QRep (fun _=>(t:Int)) 0 1 [t]:=by
      refine ⟨by simp,by omega,fun i hi=>?_⟩;obtain rfl:i=0:=by simpa using hi
      rfl
     obtain ⟨r,hR,hS⟩:=TF hA hV hN (lvB hA hV hN) k (p+1) u _ D [t] 0 1 _ (by omega) hI' hq';refine ⟨r,hR.imp id .inl,uM.uQ (uR.weaken (Zp V nn N A f lev u _ (A4 A N u) (BE A N u) (t:Int) _ p v2 hV hN (by omega) (CC hA hV hN u) r1 (by omega) (by omega) r2 r3 (fun _=>hs) (by simp; omega) (by simpa using h1) (by simpa using h2) (by rw [beq_eq_false_iff_ne]; omega)) (uI _) ?_) hS⟩;refine .cons (uH _) (.cons (uH _) (.cons (uH _) (.cons (HP hA hV hN) (.cons uU.dead (.cons (uU.arr fun i hi=>?_) .nil)))));obtain rfl:i=0:=by omega
     rfl
   ·obtain ⟨r,hR,hS⟩:=WY k (p+1) u lev D (by omega) (hI.skip e fun _=>by omega);exact ⟨r,hR,uM.uQ (Zq V nn N A f lev u _ (A4 A N u) (BE A N u) (t:Int) _ p v2 hV hN (by omega) (CC hA hV hN u) r1 (by omega) (by omega) r2 r3 (fun _=>hs) (by simp; omega) (by simpa using h1) (by simpa using h2)) hS⟩
  ·obtain ⟨r,hR,hS⟩:=WY k (p+1) u lev D (by omega) (hI.skip e fun h=>absurd h h1);exact ⟨r,hR,uM.uQ (Zr V nn N A f lev u _ (A4 A N u) (BE A N u) (t:Int) _ p v2 hV hN (by omega) (CC hA hV hN u) r1 (by omega) (by omega) r2 r3 (fun _=>hs) (by simp; omega) (by simpa using h1)) hS⟩
end
abbrev L3 (a0:Nat):=true && decide (1<=(↑a0:Int)) && decide ((↑a0:Int)<=(↑a0:Int))
noncomputable abbrev AIJ:=cB (AI5)
abbrev JW (a0:Nat):=decide ((↑a0:Int)>0)
section
variable (V:Nat)(nn:Bool)(N:Nat)(A:Nat->uN)(f:Nat->Int)(lev:Nat->Int)(off:Nat)(n:Nat)(ol:Nat)(q:Nat->Int)(lev':Nat->Int)(off':Nat)(n':Nat)(ol':Nat)(q':Nat->Int)(hV:2<=V)(hV2:V<100)(hN:N<=4096)(hf:∀ u,A4 A N u<=10000)(hn:n<=100)(ho:off+n<=ol)(ho2:ol<=1000)(hq:0<n->0<=q (off+0)/\q (off+0)<V)
include V nn N A f lev off n ol q lev' off' n' ol' q' hV hV2 hN hf hn ho ho2 hq
theorem Xt (ih:0<n->sL (cB (cR (cR (cR (cB (cR (cB (cB (cL (cR (cR (cR (cR (cB (cR (AY prog 91)))))))))))))))) (frame 73 (lvL V++[(6,qQ 5 (off+1) (n - 1)),(7,iv (q (off+0))),(32,sl (decide (0<A4 A N (0+(q (off+0)).toNat))) 1 (A4 A N (0+(q (off+0)).toNat)) fun i=>[iv (BE A N (0+(q (off+0)).toNat) i)]),(33,iv (A4 A N (0+(q (off+0)).toNat))),(34,iv 0)])) (HJ V nn N A f [.dead] lev ol q) ((xL 0,frame 73 (lvL V),lvH V nn N A f lev' [.dead,.dead]):RC))(q0:(JW n)=true):sR 5 (AIJ) (lvT V (qQ 5 off n)) (HJ V nn N A f [.dead] lev ol q) (xL 0,(C5 V),[Ai A N,oA 2 true N fun i=>(Ag A i f),oV [iv ↑V,AF nn N A],oA 1 true V fun i=>(AA lev' i),oD]):=
 aM pF nF _ (.mk (dS 17476267) [(13,.is 30064771321 47 (xL 0,(C5 V),[Ai A N,oA 2 true N fun i=>(Ag A i f),oV [iv ↑V,AF nn N A],oA 1 true V fun i=>(AA lev' i),oD,oD]))] [] [] []) (kO (kz q0 AN)) (.cons (ih (by simp_all)) (oI (decide (0+(q (off+0)).toNat=512)=false) (oI (decide (0+(q (off+0)).toNat<513)) (oI (dG (q (off+0)) 512) (oJ (L3 n) (oM (dG 0 n) .nil)))))) 57 15 [0,1,2,3,4] 5
theorem Xu (ih:0<n->sL (cB (cR (cR (cR (cB (cR (cB (cB (cL (cR (cR (cR (cR (cB (cR (AY prog 91)))))))))))))))) (frame 73 (lvL V++[(6,qQ 5 (off+1) (n - 1)),(7,iv (q (off+0))),(32,sl (decide (0<A4 A N (0+(q (off+0)).toNat))) 1 (A4 A N (0+(q (off+0)).toNat)) fun i=>[iv (BE A N (0+(q (off+0)).toNat) i)]),(33,iv (A4 A N (0+(q (off+0)).toNat))),(34,iv 0)])) (HJ V nn N A f [.dead] lev ol q) ((xL 0,frame 73 (lvL V),lvH V nn N A f lev' [.dead,.dead]):RC))(q0:(JW n)=false):sR 5 (AIJ) (lvT V (qQ 5 off n)) (HJ V nn N A f [.dead] lev ol q) (xL 0,(C5 V),[Ai A N,oA 2 true N fun i=>(Ag A i f),oV [iv ↑V,AF nn N A],oA 1 true V fun i=>(AA lev i),oD]):=
 aM pF nF _ (.mk (dS 16) [] [] [] []) (kO (kz q0 AN)) .nil 57 15 [0,1,2,3,4] 5
theorem Xv (ih:0<n->sL (cB (cR (cR (cR (cB (cR (cB (cB (cL (cR (cR (cR (cR (cB (cR (AY prog 91)))))))))))))))) (frame 73 (lvL V++[(6,qQ 5 (off+1) (n - 1)),(7,iv (q (off+0))),(32,sl (decide (0<A4 A N (0+(q (off+0)).toNat))) 1 (A4 A N (0+(q (off+0)).toNat)) fun i=>[iv (BE A N (0+(q (off+0)).toNat) i)]),(33,iv (A4 A N (0+(q (off+0)).toNat))),(34,iv 0)])) (HJ V nn N A f [.dead] lev ol q) ((xL 2,lvT V (qQ 6 off' n'),HJ V nn N A f [.dead,.dead] lev' ol' q'):RC))(q0:(JW n)=true):sR 5 (AIJ) (lvT V (qQ 5 off n)) (HJ V nn N A f [.dead] lev ol q) (xN,(FW V off' n'),[Ai A N,oA 2 true N fun i=>(Ag A i f),oV [iv ↑V,AF nn N A],oA 1 true V fun i=>(AA lev' i),oD,oA 1 false ol' fun i=>(AA q' i)]):=
 aM pF nF _ (.mk (dS 17476267) [(13,.is 30064771321 47 (xL 2,(PH V off' n'),[Ai A N,oA 2 true N fun i=>(Ag A i f),oV [iv ↑V,AF nn N A],oA 1 true V fun i=>(AA lev' i),oD,oD,oA 1 false ol' fun i=>(AA q' i)]))] [] [] []) (kO (kz q0 AN)) (.cons (ih (by simp_all)) (oI (decide (0+(q (off+0)).toNat=512)=false) (oI (decide (0+(q (off+0)).toNat<513)) (oI (dG (q (off+0)) 512) (oJ (L3 n) (oM (dG 0 n) .nil)))))) 121 47 [0,1,2,3,4,6] 5
theorem Xw (ih:0<n->sL (cB (cR (cR (cR (cB (cR (cB (cB (cL (cR (cR (cR (cR (cB (cR (AY prog 91)))))))))))))))) (frame 73 (lvL V++[(6,qQ 5 (off+1) (n - 1)),(7,iv (q (off+0))),(32,sl (decide (0<A4 A N (0+(q (off+0)).toNat))) 1 (A4 A N (0+(q (off+0)).toNat)) fun i=>[iv (BE A N (0+(q (off+0)).toNat) i)]),(33,iv (A4 A N (0+(q (off+0)).toNat))),(34,iv 0)])) (HJ V nn N A f [.dead] lev ol q) ((xL 2,lvT V (qQ 5 off' n'),HJ V nn N A f [.dead] lev' ol' q'):RC))(q0:(JW n)=true):sR 5 (AIJ) (lvT V (qQ 5 off n)) (HJ V nn N A f [.dead] lev ol q) (xN,(FW V off' n'),[Ai A N,oA 2 true N fun i=>(Ag A i f),oV [iv ↑V,AF nn N A],oA 1 true V fun i=>(AA lev' i),oD,oA 1 false ol' fun i=>(AA q' i)]):=
 aM pF nF _ (.mk (dS 17476267) [(13,.is 30064771321 47 (xL 2,(FW V off' n'),[Ai A N,oA 2 true N fun i=>(Ag A i f),oV [iv ↑V,AF nn N A],oA 1 true V fun i=>(AA lev' i),oD,oA 1 false ol' fun i=>(AA q' i)]))] [] [] []) (kO (kz q0 AN)) (.cons (ih (by simp_all)) (oI (decide (0+(q (off+0)).toNat=512)=false) (oI (decide (0+(q (off+0)).toNat<513)) (oI (dG (q (off+0)) 512) (oJ (L3 n) (oM (dG 0 n) .nil)))))) 121 47 [0,1,2,3,4,5] 5
end
noncomputable abbrev L4 (a0:Nat)(a1:Nat->uN)(a2:Nat):=frame 73 (lvL a0++[(6,qA),(7,iv 0),(32,sl (decide (0<A4 a1 a2 0)) 1 (A4 a1 a2 0) fun i=>[iv (BE a1 a2 0 i)]),(33,iv (A4 a1 a2 0)),(34,iv 0)])
section
variable (V:Nat)(nn:Bool)(N:Nat)(A:Nat->uN)(f:Nat->Int)(lev:Nat->Int)(lev':Nat->Int)(off':Nat)(n':Nat)(ol':Nat)(q':Nat->Int)(hV:2<=V)(hV2:V<100)(hN:N<=4096)(hf:∀ u,A4 A N u<=10000)
include V nn N A f lev lev' off' n' ol' q' hV hV2 hN hf
theorem Xx (ih:sL (AIo) (L4 V A N) (N7 V nn N A f lev) ((xL 0,frame 73 (lvL V),lvH V nn N A f lev' [.dead]):RC)):sR 5 (AIJ) (lvT V (.ms 4 1 0 1 (some 1))) (N7 V nn N A f lev) (xL 0,(C5 V),[Ai A N,oA 2 true N fun i=>(Ag A i f),oV [iv ↑V,AF nn N A],oA 1 true V fun i=>(AA lev' i),oD]):=
 aM pF nF [[]] (.mk [] [(13,.is 30064771321 31 (xL 0,(C5 V),[Ai A N,oA 2 true N fun i=>(Ag A i f),oV [iv ↑V,AF nn N A],oA 1 true V fun i=>(AA lev' i),oD]))] [] [] []) (kO AN) (.cons ih .nil) 57 15 [0,1,2,3,4] 5
theorem Xy (ih:sL (AIo) (L4 V A N) (N7 V nn N A f lev) ((xL 2,lvT V (qQ 5 off' n'),HJ V nn N A f [.dead] lev' ol' q'):RC)):sR 5 (AIJ) (lvT V (.ms 4 1 0 1 (some 1))) (N7 V nn N A f lev) (xN,(FW V off' n'),[Ai A N,oA 2 true N fun i=>(Ag A i f),oV [iv ↑V,AF nn N A],oA 1 true V fun i=>(AA lev' i),oD,oA 1 false ol' fun i=>(AA q' i)]):=
 aM pF nF [[]] (.mk [] [(13,.is 30064771321 31 (xL 2,(FW V off' n'),[Ai A N,oA 2 true N fun i=>(Ag A i f),oV [iv ↑V,AF nn N A],oA 1 true V fun i=>(AA lev' i),oD,oA 1 false ol' fun i=>(AA q' i)]))] [] [] []) (kO AN) (.cons ih .nil) 121 47 [0,1,2,3,4,5] 5
theorem Xz (ih:sL (AIo) (L4 V A N) (N7 V nn N A f lev) ((xL 2,lvT V qA,N7 V nn N A f lev'):RC)):sR 5 (AIJ) (lvT V (.ms 4 1 0 1 (some 1))) (N7 V nn N A f lev) (xN,(Lz V),[Ai A N,oA 2 true N fun i=>(Ag A i f),oV [iv ↑V,AF nn N A],oA 1 true V fun i=>(AA lev' i),oA 1 true 1 fun i=>[[iv 0]].getD i []]):=
 aM pF nF [[]] (.mk [] [(13,.is 30064771321 31 (xL 2,(Lz V),[Ai A N,oA 2 true N fun i=>(Ag A i f),oV [iv ↑V,AF nn N A],oA 1 true V fun i=>(AA lev' i),oA 1 true 1 fun i=>[[iv 0]].getD i []]))] [] [] []) (kO AN) (.cons ih .nil) 121 31 [0,1,2,3,4] 5
end
section
variable (V:Nat)(nn:Bool)(N:Nat)(A:Nat->uN)(f:Nat->Int)(lev:Nat->Int)(hV:2<=V)(hV2:V<100)(hN:N<=4096)(hf:∀ u,A4 A N u<=10000)
include V nn N A f lev hV hV2 hN hf
theorem X0:sR 5 (AIJ) (lvT V qA) (N7 V nn N A f lev) (xL 0,(C5 V),[Ai A N,oA 2 true N fun i=>(Ag A i f),oV [iv ↑V,AF nn N A],oA 1 true V fun i=>(AA lev i),oD]):=
 aM pF nF [[]] (.mk [] [] [] [] []) (kO AN) .nil 57 15 [0,1,2,3,4] 5
theorem AAI (ih1:sL (cL (cB (cR (AY prog 91)))) (frame 73 [(0,EV.pe 0 0 0 0),(3,pt 2 0),(4,sl false 0 0 fun _=>[])]) [dQ N A,bE N A f,oV [iv V,AF nn N A]] ((xN,frame 73 [(0,EV.pe 0 0 0 0),(3,pt 2 0),(4,sl false 0 0 fun _=>[]),(5,.ms 3 1 0 V (some V))],[dQ N A,bE N A f,oV [iv V,AF nn N A],oA 1 true V fun _=>[iv (-1)]]):RC))(ih4:sL (AI5) (lvT V (.ms 4 1 0 1 (some 1))) ((lvH V nn N A f (fun _=>0) []).take 3++[oA 1 true V (BC (fun i=>[iv (-1)]) 0 [iv 0]),oA 1 true 1 fun i=>[[iv 0]].getD i []]) ((xL 0,frame 73 (lvL V),lvH V nn N A f lev [.dead]):RC)):sF 91 [EV.pe 0 0 0 0,ag [iv ↑V,AF nn N A]] (EH N A f) (EV.ms 2 1 0 V (some V)) [Ai A N,oA 2 true N fun i=>(Ag A i f),oA 1 true V fun i=>(AA lev i)]:=
 kFm pF nF [[]] (.mk (dS 26) [(4,.is 25 7 (xN,(C5 V),[Ai A N,oA 2 true N fun i=>(Ag A i f),oV [iv ↑V,AF nn N A],oA 1 true V fun i=>[iv (-1)]])),(8,.is 121 31 (xL 0,(C5 V),[Ai A N,oA 2 true N fun i=>(Ag A i f),oV [iv ↑V,AF nn N A],oA 1 true V fun i=>(AA lev i),oD]))] [] [] []) (kO AN) (.cons ih4 (rB 0 V (.cons ih1 .nil))) 7 [0,1,3]
end
noncomputable abbrev AAJ:Code:=cB (cB (cL (cR (cR (cR (cR (cB (cR (AY prog 91)))))))))
section
variable {V:Nat}{nn:Bool}{N:Nat}{A:Nat->uN}{f:Nat->Int}(hA:Arcs V N A)(hV:V<100)(hN:N<=4096)
include hA hV hN
theorem WZ:∀ (k:Nat) (lev:Nat->Int) (D Q:List Nat) (off ol:Nat) (q:Nat->Int),D.length+k=V+1->Bfs V N A f lev D (D++Q)->lev (V - 1)<0->QRep q off ol Q->
  ∃ r,RR V nn N A f [.dead] r/\uM prog fF false 5 AAJ (lvT V (qQ 5 off Q.length)) (HJ V nn N A f [.dead] lev ol q) r
 | 0,lev,D,Q,off,ol,q,hk,hb,hs,hq=>by
  have:=LN hb;simp at this;omega
 | k+1,lev,D,Q,off,ol,q,hk,hb,hs,hq=>by
  have v2:=hA.v2;have hlen:=LN hb;rw [List.length_append] at hlen;have hf:=CC hA hV hN;cases Q with
  | nil=>
   rw [List.append_nil] at hb;exact ⟨_,⟨lev,TD hb fun v hv=>hv,rfl⟩,uM.aC (Xu V nn N A f lev off 0 ol q lev 0 0 0 q v2 hV hN hf (by omega) hq.1 hq.2.1 (fun h=>by omega) (fun h=>by omega) (by simp)) (by simp)⟩
  | cons u Q=>
   have hu:u<V:=hb.lt u (by simp);have hq0:q (off+0)=(u:Int):=hq.2.2 0 (by simp);have hx:0+(q (off+0)).toNat=u:=by rw [hq0]; simp
   have hq':QRep q (off+1) ol Q:=⟨by have:=hq.1; simp at this; omega,hq.2.1,fun i hi=>by
    have:=hq.2.2 (i+1) (by simp; omega);rw [show off+1+i=off+(i+1) by omega,this];simp [uA]⟩
   have hI:LvI (V:=V) (N:=N) (A:=A) (f:=f) lev D Q u 0:=⟨hb,hs,fun p' h=>by omega⟩
   have hqu:0<(u :: Q).length->0<=q (off+0)/\q (off+0)<V:=fun _=>by rw [hq0]; omega
   have hql:=hq.1;simp only [List.length_cons] at hlen hql;obtain ⟨r,hR,hS⟩:=Y1 hA hV hN (lvD hA hV hN) (lvC hA hV hN) (A4 A N u) 0 u lev D Q (off+1) ol q (by omega) hI hq';have hC:=uM.cl (path:=cB (cR (cR (cR (cB (cR (cB (cB (cL (cR (cR (cR (cR (cB (cR (AY prog 91)))))))))))))))) hS rfl (by kernel_rfl);rcases hR with ⟨lev',hl,rfl⟩ | ⟨lev',Q',off',ol',qq',h1,h2,h3,rfl⟩ | ⟨lev',Q',off',ol',qq',h1,h2,h3,rfl⟩
   ·refine ⟨_,⟨lev',hl,rfl⟩,uM.aC (Xt V nn N A f lev off (u :: Q).length ol q lev' 0 0 0 q v2 hV hN hf (by simp; omega) (by simp; omega) hq.2.1 hqu (fun _=>?_) (by simp)) (by simp)⟩;rw [hx,hq0];exact hC
   ·obtain ⟨r2,g1,g2⟩:=WZ k lev' (D++[u]) Q' off' ol' qq' (by simp; omega) h1 h2 h3;refine ⟨r2,g1,uM.uQ (Xv V nn N A f lev off (u :: Q).length ol q lev' off' Q'.length ol' qq' v2 hV hN hf (by simp; omega) (by simp; omega) hq.2.1 hqu (fun _=>?_) (by simp)) g2⟩;rw [hx,hq0];exact hC
   ·obtain ⟨r2,g1,g2⟩:=WZ k lev' (D++[u]) Q' off' ol' qq' (by simp; omega) h1 h2 h3;refine ⟨r2,g1,uM.uQ (Xw V nn N A f lev off (u :: Q).length ol q lev' off' Q'.length ol' qq' v2 hV hN hf (by simp; omega) (by simp; omega) hq.2.1 hqu (fun _=>?_) (by simp)) g2⟩;rw [hx,hq0];exact hC
theorem Sb:∃ lev,dH V N A f lev/\aA prog fF 91 [.pe 0 0 0 0,.agg (Mw V nn N A)] [dQ N A,bE N A f] (.ms 2 1 0 V (some V)) [dQ N A,bE N A f,bX V lev]:=by
 have v2:=hA.v2;have hf:=CC hA hV hN;have hb:=UZ hA (f:=f);have hs:BK (fun _=>(-1:Int)) 0 0 (V - 1)<0:=by rw [Ap (by omega)]; omega
 have fin:∀ r,RR V nn N A f [.dead] r->uM prog fF false 5 AAJ (lvT V (.ms 4 1 0 1 (some 1))) (N7 V nn N A f (BK (fun _=>-1) 0 0)) r->∃ lev,dH V N A f lev/\aA prog fF 91 [.pe 0 0 0 0,.agg (Mw V nn N A)] [dQ N A,bE N A f] (.ms 2 1 0 V (some V)) [dQ N A,bE N A f,bX V lev]:=by
  rintro r ⟨lev,hl,rfl⟩ hS
  refine ⟨lev,hl,AAI V nn N A f lev v2 hV hN hf (ADO V nn N A f v2 hV hN) ?_⟩;refine uM.cl (uM.le (uI _) (.cons (uH _) (.cons (uH _) (.cons (uH _) (.cons (uU.arr fun i hi=>?_) (.cons (uH _) .nil))))) hS) rfl (by kernel_rfl);simp only [BC,BK];split<;>rfl
 obtain ⟨r,hR,hS⟩:=WY hA hV hN (nn:=nn) (f:=f) (A4 A N 0) 0 0 (BK (fun _=>-1) 0 0) [] (by omega) ⟨by simpa using hb,hs,fun p' h=>by omega⟩;have hC:=uM.cl (path:=cB (cR (cR (cR (cB (cR (cB (cB (cL (cR (cR (cR (cR (cB (cR (AY prog 91)))))))))))))))) hS rfl (by kernel_rfl);rcases hR with ⟨lev',hl,rfl⟩ | ⟨lev',Q',off',ol',qq',h1,h2,h3,rfl⟩ | ⟨h1,h2,rfl⟩
 ·exact fin _ ⟨lev',hl,rfl⟩ (uM.aC (Xx V nn N A f _ lev' 0 0 0 (fun _=>0) v2 hV hN hf hC) (by simp))
 ·obtain ⟨r2,g1,g2⟩:=WZ hA hV hN (nn:=nn) V lev' [0] Q' off' ol' qq' (by simp; omega) (by simpa using h1) h2 h3;exact fin r2 g1 (uM.uQ (Xy V nn N A f _ lev' off' Q'.length ol' qq' v2 hV hN hf hC) g2)
 ·refine fin _ ⟨_,TD (by simpa using h1) fun v hv=>hv,rfl⟩ (uM.uQ (Xz V nn N A f _ _ 0 0 0 (fun _=>0) v2 hV hN hf hC) (uM.aC (X0 V nn N A f _ v2 hV hN hf) (by simp)))
end
noncomputable abbrev PK (a0:Nat)(a1:Int)(a2:Int):=frame 83 [(0,iv ↑a0),(1,iv a1),(2,pt 0 0),(3,pt 1 0),(4,pt 3 0),(5,pt 6 0),(6,pt 7 0),(7,pt 9 0),(10,iv a2)]
abbrev AEc (a0:Nat):=[iv ((a0:Int) - 1)]
abbrev AEM:=fE.var false false [.pe 4 0 0 0]
abbrev AEO (a0:Nat):=fE.var false false [.ms 8 1 0 a0 (some a0)]
abbrev AEN (a0:Nat):=fE.var false false [.ms 2 1 0 a0 (some a0)]
abbrev AEP (a0:Nat->uN)(a1:Nat):=fE.flat false 513 (Mx a0 a1) [(512,.ms 5 2 0 a1 (some a1))]
abbrev AHz:=fE.var false false [fc (92) [] [pt 0 0,pt 1 0,pt 3 0,pt 6 0,pt 7 0,pt 9 0]]
abbrev Jb (a0:Nat->uN)(a1:Nat):=fE.flat false 513 (fun i=>sl (decide (0<A4 a0 a1 i)) 1 (A4 a0 a1 i) fun i_1=>[iv (BE a0 a1 i i_1)]) [(512,EV.ms 5 2 0 a1 (some a1))]
noncomputable abbrev FY (a0:Nat)(a1:Int):=frame 83 [(0,iv a0),(1,iv a1),(2,pt 0 0),(3,pt 1 0),(4,pt 3 0),(5,pt 6 0),(6,pt 7 0),(7,pt 9 0),(10,iv 0)]
noncomputable abbrev AIO:=cB (cL (cR (cR (AY prog 92))))
abbrev AEd (a0:Nat):=[iv ((↑a0:Int) - 1)]
abbrev JY:=fE.var false false [EV.pe 4 0 0 0]
noncomputable abbrev Hu (a0:Nat)(a1:Int):=frame 83 [(0,iv ↑a0),(1,iv a1),(2,pt 0 0),(3,pt 1 0),(4,pt 3 0),(5,pt 6 0),(6,pt 7 0),(7,pt 9 0),(10,iv 0)]
abbrev Ja (a0:Nat):=fE.var false false [EV.ms 2 1 0 a0 (some a0)]
abbrev JZ (a0:Nat):=fE.var false false [EV.ms 8 1 0 a0 (some a0)]
abbrev AEe (a0:Nat):=AEd a0
abbrev AEf (a0:Nat):=AEc a0
abbrev AEJ (a0:Nat):=AEe a0
abbrev AEK (a0:Nat):=AEf a0
section
variable (V:Nat)(nn:Bool)(N:Nat)(A:Nat->uN)(lev:Nat->Int)(f:Nat->Int)(us:Nat->Int)(v:Nat)(amt:Int)(to:Int)(room:Int)(got:Int)(f':Nat->Int)(us':Nat->Int)(hV:2<=V)(hV2:V<100)(hN:N<=4096)(hf:∀ u,A4 A N u<=10000)(hv:v<V)(h0:0<=us (0+(v:Int).toNat))(h1:us (0+(v:Int).toNat)<=100000)(ht:0<=to)(ht2:to<V)(hl: -1<=lev (0+(v:Int).toNat))(hl2:lev (0+(v:Int).toNat)<=1000)(h2:0<=us' (0+(v:Int).toNat))(h3:us' (0+(v:Int).toNat)<=100000)(ihs:us (0+(v:Int).toNat)<A4 A N (0+(v:Int).toNat)->sF 93 [.pe 0 0 0 0,ag (Mw V nn N A),iv (BE A N (0+(v:Int).toNat) (us (0+(v:Int).toNat)).toNat)] (EH N A f) (AH0 to room) (EH N A f))(ihr:us (0+(v:Int).toNat)<A4 A N (0+(v:Int).toNat)->room≠0->lev (0+to.toNat)=lev (0+(v:Int).toNat)+1->sF 92 [iv to,iv (if room<amt then room else amt),pt 0 0,pt 1 0,pt 3 0,pt 6 0,pt 7 0,pt 9 0] [oV (AEK V),AEN V,oA 1 true V fun i=>(AA us i),AEM,AEP A N,bE N A f,oV [iv V,AF nn N A],AEO V,bX V lev,AHz] (iv got) [oV (AEK V),AEN V,oA 1 true V fun i=>(AA us' i),AEM,AEP A N,bE N A f',oV [iv V,AF nn N A],AEO V,bX V lev,AHz])(ihp:0<got->sF 94 [.pe 0 0 0 0,iv (BE A N (0+(v:Int).toNat) (us (0+(v:Int).toNat)).toNat),iv got] (EH N A f') (tu []) [dQ N A,bE N A (F3 f' (BE A N (0+(v:Int).toNat) (us (0+(v:Int).toNat)).toNat) got)])
include V nn N A lev f us v amt to room got f' us' hV hV2 hN hf hv h0 h1 ht ht2 hl hl2 h2 h3 ihs ihr ihp
theorem AAK (q0:(decide (us (0+(↑v:Int).toNat)<(↑(A4 A N (0+(↑v:Int).toNat)):Int)))=true)(q1:(room==0)=true):sC (cB (AIO)) (FY v amt) ([oV (AEK V),AEN V,oA 1 true V fun i=>(AA us i),AEM,AEP A N,bE N A f,oV [iv V,AF nn N A],AEO V,bX V lev,AHz]) (xN,(Hu v amt),[oV (AEJ V),Ja V,oA 1 true V (BC (fun i=>(AA us i)) (0+(↑v:Int).toNat) [iv (us (0+(↑v:Int).toNat)+1)]),JY,Jb A N,oA 2 true N fun i=>(Ag A i f),oV [iv ↑V,AF nn N A],JZ V,oA 1 true V fun i=>(AA lev i),AHz]):=
 kCm pF nF _ (.mk (dS 0x1aaab0aabaa1111111111101aeaa) [] [] [some (AH4 to room A N f)] []) (kO (kz q0 (kz q1 AN))) (rB (↑v:Int) V (rI (us (0+(↑v:Int).toNat)+1) (rB (↑v:Int) V (.cons (ihs (by simp_all)) (rB (us (0+(↑v:Int).toNat)) (A4 A N (0+(↑v:Int).toNat)) (rB (↑v:Int) V (oI (decide (0+(↑v:Int).toNat=512)=false) (oJ (decide (0+(↑v:Int).toNat<513)) (rB (↑v:Int) 512 (oI (decide (0+(↑v:Int).toNat=512)=false) (oJ (decide (0+(↑v:Int).toNat<513)) (rB (↑v:Int) 512 (rB (↑v:Int) V .nil))))))))))))) 1279 1023 10
theorem AAL (q0:(decide (us (0+(↑v:Int).toNat)<(↑(A4 A N (0+(↑v:Int).toNat)):Int)))=true)(q1:(room==0)=false)(q2:(lev (0+to.toNat) != lev (0+(↑v:Int).toNat)+1)=true):sC (cB (AIO)) (FY v amt) ([oV (AEK V),AEN V,oA 1 true V fun i=>(AA us i),AEM,AEP A N,bE N A f,oV [iv V,AF nn N A],AEO V,bX V lev,AHz]) (xN,(Hu v amt),[oV (AEJ V),Ja V,oA 1 true V (BC (fun i=>(AA us i)) (0+(↑v:Int).toNat) [iv (us (0+(↑v:Int).toNat)+1)]),JY,Jb A N,oA 2 true N fun i=>(Ag A i f),oV [iv ↑V,AF nn N A],JZ V,oA 1 true V fun i=>(AA lev i),AHz]):=
 kCm pF nF _ (.mk (dS 0x1aaab0aabaa111a1111a11a112aaa) [] [] [some (AH4 to room A N f)] []) (kO (kz q0 (kz q1 (kz q2 AN)))) (rB (↑v:Int) V (rI (us (0+(↑v:Int).toNat)+1) (rB (↑v:Int) V (rI (lev (0+(↑v:Int).toNat)+1) (rB (↑v:Int) V (rB to V (.cons (ihs (by simp_all)) (rB (us (0+(↑v:Int).toNat)) (A4 A N (0+(↑v:Int).toNat)) (rB (↑v:Int) V (oI (decide (0+(↑v:Int).toNat=512)=false) (oJ (decide (0+(↑v:Int).toNat<513)) (rB (↑v:Int) 512 (oI (decide (0+(↑v:Int).toNat=512)=false) (oJ (decide (0+(↑v:Int).toNat<513)) (rB (↑v:Int) 512 (rB (↑v:Int) V .nil)))))))))))))))) 1279 1023 10
theorem AAM (q0:(decide (us (0+(↑v:Int).toNat)<(↑(A4 A N (0+(↑v:Int).toNat)):Int)))=true)(q1:(room==0)=false)(q2:(lev (0+to.toNat) != lev (0+(↑v:Int).toNat)+1)=false)(q3:CH got):sC (cB (AIO)) (FY v amt) ([oV (AEK V),AEN V,oA 1 true V fun i=>(AA us i),AEM,AEP A N,bE N A f,oV [iv V,AF nn N A],AEO V,bX V lev,AHz]) (EX.ret,(PK v amt got),[oV (AEJ V),Ja V,oA 1 true V fun i=>(AA us' i),JY,Jb A N,oA 2 true N fun i=>[iv ((A i).cap - F3 f' (BE A N (0+(↑v:Int).toNat) (us (0+(↑v:Int).toNat)).toNat) got i),iv (F3 f' (BE A N (0+(↑v:Int).toNat) (us (0+(↑v:Int).toNat)).toNat) got i)],oV [iv ↑V,AF nn N A],JZ V,oA 1 true V fun i=>(AA lev i),AHz]):=
 kCm pF nF _ (.mk (dS 0x1aaab0aabaa111a1111a11a1123) [] [] [some (AH4 to room A N f),some ((iv got,[oV (AEJ V),Ja V,oA 1 true V fun i=>(AA us' i),JY,Jb A N,oA 2 true N fun i=>(Ag A i f'),oV [iv ↑V,AF nn N A],JZ V,oA 1 true V fun i=>(AA lev i),AHz])),some ((tu [],[Ai A N,oA 2 true N fun i=>[iv ((A i).cap - F3 f' (BE A N (0+(↑v:Int).toNat) (us (0+(↑v:Int).toNat)).toNat) got i),iv (F3 f' (BE A N (0+(↑v:Int).toNat) (us (0+(↑v:Int).toNat)).toNat) got i)]]))] []) (kO (kz q0 (kz q1 (kz q2 (kz q3 AN))))) (.cons (ihp (by simp_all)) (.cons (ihr (by simp_all) (by simp_all) (by simp_all)) (rI (lev (0+(↑v:Int).toNat)+1) (rB (↑v:Int) V (rB to V (.cons (ihs (by simp_all)) (rB (us (0+(↑v:Int).toNat)) (A4 A N (0+(↑v:Int).toNat)) (rB (↑v:Int) V (oI (decide (0+(↑v:Int).toNat=512)=false) (oJ (decide (0+(↑v:Int).toNat<513)) (rB (↑v:Int) 512 (oI (decide (0+(↑v:Int).toNat=512)=false) (oJ (decide (0+(↑v:Int).toNat<513)) (rB (↑v:Int) 512 (rB (↑v:Int) V .nil))))))))))))))) 1279 1023 10
theorem AAN (q0:(decide (us (0+(↑v:Int).toNat)<(↑(A4 A N (0+(↑v:Int).toNat)):Int)))=true)(q1:(room==0)=false)(q2:(lev (0+to.toNat) != lev (0+(↑v:Int).toNat)+1)=false)(q3:FV got):sC (cB (AIO)) (FY v amt) ([oV (AEK V),AEN V,oA 1 true V fun i=>(AA us i),AEM,AEP A N,bE N A f,oV [iv V,AF nn N A],AEO V,bX V lev,AHz]) (xN,(Hu v amt),[oV (AEJ V),Ja V,oA 1 true V (BC (fun i=>(AA us' i)) (0+(↑v:Int).toNat) [iv (us' (0+(↑v:Int).toNat)+1)]),JY,Jb A N,oA 2 true N fun i=>(Ag A i f'),oV [iv ↑V,AF nn N A],JZ V,oA 1 true V fun i=>(AA lev i),AHz]):=
 kCm pF nF _ (.mk (dS 0x1aaab0aabaa111a1111a11a1123aaa) [] [] [some (AH4 to room A N f),some ((iv got,[oV (AEJ V),Ja V,oA 1 true V fun i=>(AA us' i),JY,Jb A N,oA 2 true N fun i=>(Ag A i f'),oV [iv ↑V,AF nn N A],JZ V,oA 1 true V fun i=>(AA lev i),AHz]))] []) (kO (kz q0 (kz q1 (kz q2 (kz q3 AN))))) (rB (↑v:Int) V (rI (us' (0+(↑v:Int).toNat)+1) (rB (↑v:Int) V (.cons (ihr (by simp_all) (by simp_all) (by simp_all)) (rI (lev (0+(↑v:Int).toNat)+1) (rB (↑v:Int) V (rB to V (.cons (ihs (by simp_all)) (rB (us (0+(↑v:Int).toNat)) (A4 A N (0+(↑v:Int).toNat)) (rB (↑v:Int) V (oI (decide (0+(↑v:Int).toNat=512)=false) (oJ (decide (0+(↑v:Int).toNat<513)) (rB (↑v:Int) 512 (oI (decide (0+(↑v:Int).toNat=512)=false) (oJ (decide (0+(↑v:Int).toNat<513)) (rB (↑v:Int) 512 (rB (↑v:Int) V .nil))))))))))))))))) 1279 1023 10
theorem AAO (q0:(decide (us (0+(↑v:Int).toNat)<(↑(A4 A N (0+(↑v:Int).toNat)):Int)))=false):sC (cB (AIO)) (FY v amt) ([oV (AEK V),AEN V,oA 1 true V fun i=>(AA us i),AEM,AEP A N,bE N A f,oV [iv V,AF nn N A],AEO V,bX V lev,AHz]) (xL 0,(Hu v amt),[oV (AEJ V),Ja V,oA 1 true V fun i=>(AA us i),JY,Jb A N,oA 2 true N fun i=>(Ag A i f),oV [iv ↑V,AF nn N A],JZ V,oA 1 true V fun i=>(AA lev i),AHz]):=
 kCm pF nF _ (.mk (dS 1747632) [] [] [] []) (kO (kz q0 AN)) (oI (decide (0+(↑v:Int).toNat=512)=false) (oJ (decide (0+(↑v:Int).toNat<513)) (rB (↑v:Int) 512 (rB (↑v:Int) V .nil)))) 1279 1023 10
end
abbrev L6 (a0:Nat)(a1:Int):=[iv ↑a0,iv a1,pt 0 0,pt 1 0,pt 3 0,pt 6 0,pt 7 0,pt 9 0]
theorem AAP (V:Nat)(nn:Bool)(N:Nat)(A:Nat->uN)(lev:Nat->Int)(f:Nat->Int)(us:Nat->Int)(v:Nat)(amt:Int)(hV:2<=V)(hV2:V<100)(hN:N<=4096)(hf:∀ u,A4 A N u<=10000)(hv:v<V)(hs:(v:Int)=V - 1):sF 92 (L6 v amt) [oV (AEK V),AEN V,oA 1 true V fun i=>(AA us i),AEM,AEP A N,bE N A f,oV [iv V,AF nn N A],AEO V,bX V lev,AHz] (iv amt) [oV (AEJ V),Ja V,oA 1 true V fun i=>(AA us i),JY,Jb A N,oA 2 true N fun i=>(Ag A i f),oV [iv ↑V,AF nn N A],JZ V,oA 1 true V fun i=>(AA lev i),AHz]:=
 kFm pF nF [[]] (.mk (dS 26) [] [] [] []) (kO AN) (oI ((↑v:Int)==(↑V:Int) - 1) .nil) 1023 [0,1,2,3,4,5,6,7,8,9]
section
variable (V:Nat)(nn:Bool)(N:Nat)(A:Nat->uN)(lev:Nat->Int)(f:Nat->Int)(us:Nat->Int)(v:Nat)(amt:Int)(got:Int)(f':Nat->Int)(us':Nat->Int)(hV:2<=V)(hV2:V<100)(hN:N<=4096)(hf:∀ u,A4 A N u<=10000)(hv:v<V)(hs:(v:Int)≠V - 1)
include V nn N A lev f us v amt got f' us' hV hV2 hN hf hv hs
theorem AAQ (ih:sL (AIO) (FY v amt) [oV (AEK V),AEN V,oA 1 true V fun i=>(AA us i),AEM,AEP A N,bE N A f,oV [iv V,AF nn N A],AEO V,bX V lev,AHz] ((xL 0,frame 83 [(0,iv v),(1,iv amt),(2,pt 0 0),(3,pt 1 0),(4,pt 3 0),(5,pt 6 0),(6,pt 7 0),(7,pt 9 0),(10,iv 0)],[oV (AEK V),AEN V,oA 1 true V fun i=>(AA us' i),AEM,AEP A N,bE N A f',oV [iv V,AF nn N A],AEO V,bX V lev,AHz]):RC)):sF 92 (L6 v amt) [oV (AEK V),AEN V,oA 1 true V fun i=>(AA us i),AEM,AEP A N,bE N A f,oV [iv V,AF nn N A],AEO V,bX V lev,AHz] (iv 0) [oV (AEJ V),Ja V,oA 1 true V fun i=>(AA us' i),JY,Jb A N,oA 2 true N fun i=>(Ag A i f'),oV [iv ↑V,AF nn N A],JZ V,oA 1 true V fun i=>(AA lev i),AHz]:=
 kFm pF nF [[]] (.mk (dS 27) [(9,.is 1279 1023 (xL 0,(Hu v amt),[oV (AEJ V),Ja V,oA 1 true V fun i=>(AA us' i),JY,Jb A N,oA 2 true N fun i=>(Ag A i f'),oV [iv ↑V,AF nn N A],JZ V,oA 1 true V fun i=>(AA lev i),AHz]))] [] [] []) (kO AN) (.cons ih (oI (((↑v:Int)==(↑V:Int) - 1)=false) .nil)) 1023 [0,1,2,3,4,5,6,7,8,9]
theorem AAR (ih:sL (AIO) (FY v amt) [oV (AEK V),AEN V,oA 1 true V fun i=>(AA us i),AEM,AEP A N,bE N A f,oV [iv V,AF nn N A],AEO V,bX V lev,AHz] ((EX.ret,frame 83 [(0,iv v),(1,iv amt),(2,pt 0 0),(3,pt 1 0),(4,pt 3 0),(5,pt 6 0),(6,pt 7 0),(7,pt 9 0),(10,iv got)],[oV (AEK V),AEN V,oA 1 true V fun i=>(AA us' i),AEM,AEP A N,bE N A f',oV [iv V,AF nn N A],AEO V,bX V lev,AHz]):RC)):sF 92 (L6 v amt) [oV (AEK V),AEN V,oA 1 true V fun i=>(AA us i),AEM,AEP A N,bE N A f,oV [iv V,AF nn N A],AEO V,bX V lev,AHz] (iv got) [oV (AEJ V),Ja V,oA 1 true V fun i=>(AA us' i),JY,Jb A N,oA 2 true N fun i=>(Ag A i f'),oV [iv ↑V,AF nn N A],JZ V,oA 1 true V fun i=>(AA lev i),AHz]:=
 kFm pF nF [[]] (.mk (dS 27) [(9,.is 1279 1023 (EX.ret,(PK v amt got),[oV (AEJ V),Ja V,oA 1 true V fun i=>(AA us' i),JY,Jb A N,oA 2 true N fun i=>(Ag A i f'),oV [iv ↑V,AF nn N A],JZ V,oA 1 true V fun i=>(AA lev i),AHz]))] [] [] []) (kO AN) (.cons ih (oI (((↑v:Int)==(↑V:Int) - 1)=false) .nil)) 1023 [0,1,2,3,4,5,6,7,8,9]
end
section
variable (V:Nat)(nn:Bool)(N:Nat)(A:Nat->uN)(lev:Nat->Int)
abbrev AAS:List EV:=[.ptr 0 0,.ptr 1 0,.ptr 3 0,.ptr 6 0,.ptr 7 0,.ptr 9 0]
abbrev adH (us f:Nat->Int):AL:=[fE.var false true [.int .i64 ((V:Int) - 1)],fE.var false false [.ms 2 1 0 V (some V)],fE.arr false true 1 true V fun i=>[.int .i64 (us i)],fE.var false false [.pe 4 0 0 0],fE.flat false 513 (Mx A N) [(512,.ms 5 2 0 N (some N))],bE N A f,fE.var false true [.int .i64 V,EV.uS nn 3 N fun i=>(A i).cells],fE.var false false [.ms 8 1 0 V (some V)],bX V lev,fE.var false false [EV.func (.func 92) [] AAS]]
abbrev adT (v:Nat)(amt got:Int):List EV:=frame 83 [(0,.int .i64 v),(1,.int .i64 amt),(2,.ptr 0 0),(3,.ptr 1 0),(4,.ptr 3 0),(5,.ptr 6 0),(6,.ptr 7 0),(7,.ptr 9 0),(10,.int .i64 got)]
abbrev TG (v:Nat)(amt:Int)(f us:Nat->Int)(got:Int)(f' us':Nat->Int):Prop:=aA prog fF 92 ([.int .i64 v,.int .i64 amt]++AAS) (adH V nn N A lev us f) (.int .i64 got) (adH V nn N A lev us' f')
noncomputable abbrev adC:Code:=cB (cB (cL (cR (cR (AY prog 92)))))
end
theorem RS {V v:Nat}{us:Nat->Int}:uU (.arr false true 1 true V (BC (fun (i:Nat)=>[EV.int IntKind.i64 (us i)]) (0+(v:Int).toNat) [EV.int IntKind.i64 (us (0+(v:Int).toNat)+1)])) (.arr false true 1 true V fun i=>[.int .i64 (BK us v (us v+1) i)]):=by
 refine uU.arr fun i hi=>?_;simp only [BC,BK,uJ,uG];by_cases h:i=v
 ·subst h; rw [if_pos rfl,if_pos rfl]
 ·rw [if_neg h,if_neg h]
section
variable {V:Nat}{nn:Bool}{N:Nat}{A:Nat->uN}{lev:Nat->Int}(hA:Arcs V N A)(hV:V<100)(hN:N<=4096)(hL:∀ v,v<V->-1<=lev v/\lev v<V)
include hA hV hN hL
theorem N8 (v:Nat)(amt:Int)(hv:v<V)(hs:v≠V - 1)(h0:0<=lev v)(ha:0<amt)(ha2:amt<=1073741824)
  (ih:∀ (f us:Nat->Int) (t:Nat) (a:Int),lev t=lev v+1->t<V->Em N A f->G9 V N A us->0<a->a<=1073741824->∃ got f' us',dB V N A lev f us t a got f' us'/\TG V nn N A lev t a f us got f' us'):
  ∀ (j:Nat) (f us:Nat->Int),us v+j=A4 A N v->Em N A f->G9 V N A us->∃ got f' us',dB V N A lev f us v amt got f' us'/\
   ∃ r:RC,(r=(EX.leave 0,adT v amt 0,adH V nn N A lev us' f')/\got=0∨r=(EX.ret,adT v amt got,adH V nn N A lev us' f'))/\aB prog fF false adC (adT v amt 0) (adH V nn N A lev us f) r
 | 0,f,us,hj,hc,hu=>by
  have v2:=hA.v2;have hf:=CC hA hV hN;have hl:=hL v hv;have huv:=hu v hv;have ha:=hf v;refine ⟨0,f,us,WQ hA hc hu (by omega) hv hs (by omega),_,.inl ⟨rfl,rfl⟩,aB.last (AAO V nn N A lev f us v amt 0 0 0 f us v2 hV hN hf hv (by rw [uJ]; exact huv.1) (by rw [uJ,uG]; omega) (by omega) (by omega) (by rw [uJ]; exact hl.1) (by rw [uJ,uG]; omega) (by rw [uJ]; exact huv.1) (by rw [uJ,uG]; omega) ?_ ?_ (fun h=>absurd h (by omega)) ?_) (by simp)⟩
  ·intro h; rw [uJ,uG] at h; omega
  ·intro h; rw [uJ,uG] at h; omega
  ·rw [uJ,uG]; exact uL (by omega)
 | j+1,f,us,hj,hc,hu=>by
  have v2:=hA.v2;have hf:=CC hA hV hN;have hl:=hL v hv;have huv:=hu v hv;have haj:=hf v;have hew:0+(v:Int).toNat=v:=by simp
  have hp:(us v).toNat<A4 A N v:=by omega
  obtain ⟨_,t,ht,e,hr⟩:=LP hA hV hN (f:=f) hp;have hst:=I2 (V:=V) (nn:=nn) (A:=A) (f:=f) (L2 hA hV hN hp) hN;rw [e] at hst;have hroom:0<=Bn A f (BE A N v (us v).toNat)/\Bn A f (BE A N v (us v).toNat)<=1073741824:=by
   obtain ⟨_,t',i,hi,_,_,_,h⟩:=LM hA (Hp hp);have h1:=hc i hi;have h2:=hA.cap i hi;rcases h with ⟨_,_,_,h⟩ | ⟨_,_,_,h⟩<;>rw [h]<;>omega
  have hu1:G9 V N A (BK us v (us v+1)):=fun w hw=>by
   by_cases hwv:w=v
   ·subst hwv; rw [Ao]; omega
   ·rw [Ap hwv]; exact hu w hw
  have e5:BK us v (us v+1) v+(j:Int)=A4 A N v:=by rw [Ao]; omega
  have b1:(0:Int)<=us (0+(v:Int).toNat):=by rw [hew]; exact huv.1
  have b2:us (0+(v:Int).toNat)<=100000:=by rw [hew]; omega
  have b3: -1<=lev (0+(v:Int).toNat):=by rw [hew]; exact hl.1
  have b4:lev (0+(v:Int).toNat)<=1000:=by rw [hew]; omega
  have q0:(Decidable.decide (us (0+(v:Int).toNat)<(A4 A N (0+(v:Int).toNat):Int)))=true:=by rw [hew]; exact uK (by omega)
  have skip:(Bn A f (BE A N v (us v).toNat)=0∨lev t≠lev v+1)->∃ got f' us',dB V N A lev f us v amt got f' us'/\
   ∃ r:RC,(r=(EX.leave 0,adT v amt 0,adH V nn N A lev us' f')/\got=0∨r=(EX.ret,adT v amt got,adH V nn N A lev us' f'))/\aB prog fF false adC (adT v amt 0) (adH V nn N A lev us f) r:=by
   intro hb;obtain ⟨got,f',us',h1,r,h2,h3⟩:=N8 v amt hv hs h0 ha ha2 ih j f (BK us v (us v+1)) e5 hc hu1;refine ⟨got,f',us',WR hA hv (by omega) (hb.imp id fun h=>by rw [e]; simpa using h) hu h1,r,h2,?_⟩;refine aB.step ?_ h3;refine aE.weaken (uI _) (eW.refl _) ?_ (uI _) (.cons (uH _) (.cons (uH _) (.cons RS (.cons (uH _) (.cons (uH _) (.cons (uH _) (.cons (uH _) (.cons (uH _) (.cons (uH _) (.cons (uH _) .nil))))))))));by_cases hb0:Bn A f (BE A N v (us v).toNat)=0
   ·refine AAK V nn N A lev f us v amt t (Bn A f (BE A N v (us v).toNat)) 0 f us v2 hV hN hf hv b1 b2 (by omega) (by omega) b3 b4 b1 b2 (fun _=>?_) (fun _ h=>absurd hb0 h) (fun h=>absurd h (by omega)) q0 (by simpa using hb0);rw [hew]; exact hst
   ·have hbl:lev t≠lev v+1:=hb.resolve_left hb0;have hbl':lev (0+(t:Int).toNat)≠lev (0+(v:Int).toNat)+1:=by rw [hew,uJ,uG]; exact hbl
    refine AAL V nn N A lev f us v amt t (Bn A f (BE A N v (us v).toNat)) 0 f us v2 hV hN hf hv b1 b2 (by omega) (by omega) b3 b4 b1 b2 (fun _=>?_) (fun _ _ h=>absurd h hbl') (fun h=>absurd h (by omega)) q0 (by simpa using hb0) (by simpa using hbl');rw [hew]; exact hst
  by_cases hb0:Bn A f (BE A N v (us v).toNat)=0
  ·exact skip (.inl hb0)
  ·by_cases hbl:lev t=lev v+1
   ·have hbl':lev (0+(t:Int).toNat)=lev (0+(v:Int).toNat)+1:=by rw [hew,uJ,uG]; exact hbl
    have hmn:(if Bn A f (BE A N v (us v).toNat)<amt then Bn A f (BE A N v (us v).toNat) else amt)=if amt<Bn A f (BE A N v (us v).toNat) then amt else Bn A f (BE A N v (us v).toNat):=by
     split<;>split<;>omega
    obtain ⟨got,f1,us1,h1,h2⟩:=ih f us t (if amt<Bn A f (BE A N v (us v).toNat) then amt else Bn A f (BE A N v (us v).toNat)) hbl ht hc hu (by split<;>omega) (by split<;>omega);have e1:us1 v=us v:=h1.low v hv (by omega);have hr1:TG V nn N A lev t (if Bn A f (BE A N v (us v).toNat)<amt then Bn A f (BE A N v (us v).toNat) else amt) f us got f1 us1:=by rw [hmn]; exact h2
    have b5:(0:Int)<=us1 (0+(v:Int).toNat):=by rw [hew,e1]; exact huv.1
    have b6:us1 (0+(v:Int).toNat)<=100000:=by rw [hew,e1]; omega
    by_cases hg:0<got
    ·have hpush:=WT (p:=0) hA hv hs (Hp hp) e hbl hg h1;have hcf1:=h1.cap;have hps:aA prog fF 94 [.pe 0 0 0 0,.int .i64 (BE A N v (us v).toNat),.int .i64 got] [dQ N A,bE N A f1] (.tuple []) [dQ N A,bE N A (F3 f1 (BE A N v (us v).toNat) got)]:=by
      refine WW (L2 hA hV hN hp) hN (fun i hi=>⟨(hcf1 i hi).1,(hcf1 i hi).2,(hA.cap i hi).2⟩) ⟨by omega,?_⟩;have hsame:Bn A f1 (BE A N v (us v).toNat)=Bn A f (BE A N v (us v).toNat):=by
       obtain ⟨_,t',i,hi,ht',et,_,h⟩:=LM hA (Hp hp);obtain rfl:t'=t:=by omega
       have:=h1.same i hi (by
        rcases h with ⟨_,q1,q2,_⟩ | ⟨_,q1,q2,_⟩
        ·left; rw [q1]; simp; omega
        ·right; rw [q1]; simp; omega)
       rcases h with ⟨_,_,_,h⟩ | ⟨_,_,_,h⟩<;>rw [h,h,this]
      have hg2:=h1.got0.2;rw [hsame];split at hg2<;>omega
     have hB:=AAM V nn N A lev f us v amt t (Bn A f (BE A N v (us v).toNat)) got f1 us1 v2 hV hN hf hv b1 b2 (by omega) (by omega) b3 b4 b5 b6 (fun _=>by rw [hew]; exact hst) (fun _ _ _=>hr1) (fun _=>by rw [hew]; exact hps) q0 (by simpa using hb0) (by simpa using hbl') (uK hg);rw [hew] at hB;exact ⟨got,_,us1,hpush,_,.inr rfl,aB.last hB (by simp)⟩
    ·have hg0:=h1.got0.1;obtain rfl:got=0:=by omega
     obtain ⟨rfl,_⟩:=h1.dead rfl;have hu2:G9 V N A (BK us1 v (us1 v+1)):=fun w hw=>by
      by_cases hwv:w=v
      ·subst hwv; rw [Ao,e1]; omega
      ·rw [Ap hwv]; exact h1.usd w hw
     obtain ⟨got,f',us',g1,r,g2,g3⟩:=N8 v amt hv hs h0 ha ha2 ih j f1 (BK us1 v (us1 v+1)) (by rw [Ao,e1]; omega) hc hu2;refine ⟨got,f',us',WS hA hv (by omega) huv.1 e hbl h1 g1,r,g2,aB.step ?_ g3⟩;refine aE.weaken (uI _) (eW.refl _) ?_ (uI _) (.cons (uH _) (.cons (uH _) (.cons RS (.cons (uH _) (.cons (uH _) (.cons (uH _) (.cons (uH _) (.cons (uH _) (.cons (uH _) (.cons (uH _) .nil))))))))));refine AAN V nn N A lev f1 us v amt t (Bn A f1 (BE A N v (us v).toNat)) 0 f1 us1 v2 hV hN hf hv b1 b2 (by omega) (by omega) b3 b4 b5 b6 (fun _=>?_) (fun _ _ _=>hr1) (fun h=>absurd h (by omega)) q0 (by simpa using hb0) (by simpa using hbl') (by simp);rw [hew]; exact hst
   ·exact skip (.inr hbl)
theorem Ql:∀ (k:Nat) (f us:Nat->Int) (v:Nat) (amt:Int),lev v+k=V->0<=lev v->v<V->Em N A f->G9 V N A us->0<amt->amt<=1073741824->
  ∃ got f' us',dB V N A lev f us v amt got f' us'/\TG V nn N A lev v amt f us got f' us'
 | 0,f,us,v,amt,hk,h0,hv,hc,hu,ha,ha2=>by have:=hL v hv; omega
 | k+1,f,us,v,amt,hk,h0,hv,hc,hu,ha,ha2=>by
  have v2:=hA.v2;have hf:=CC hA hV hN;by_cases hs:v=V - 1
  ·subst hs;exact ⟨amt,f,us,WO hA hc hu ha,AAP V nn N A lev f us (V - 1) amt v2 hV hN hf hv (by omega)⟩
  ·have huv:=hu v hv;obtain ⟨got,f',us',h1,r,h2,h3⟩:=N8 (nn:=nn) hA hV hN hL v amt hv hs h0 ha ha2 (fun f us t a hl ht hc hu ha ha2=>Ql k f us t a (by omega) (by omega) ht hc hu ha ha2) ((A4 A N v:Int) - us v).toNat f us (by omega) hc hu;have hC:=aB.eO (path:=cB (cL (cR (cR (AY prog 92))))) h3 (by kernel_rfl);refine ⟨got,f',us',h1,?_⟩;rcases h2 with ⟨rfl,rfl⟩ | rfl
   ·exact AAQ V nn N A lev f us v amt 0 f' us' v2 hV hN hf hv (by omega) hC
   ·exact AAR V nn N A lev f us v amt got f' us' v2 hV hN hf hv (by omega) hC
end
abbrev GU (a0:Nat->uN)(a1:Nat):=[iv ((a0 a1).cap - 0),iv 0]
theorem AAT (V:Int)(nn:Bool)(N:Nat)(A:Nat->uN)(hN:N<=2048)(hA:SW N A):sF 90 [ag [iv V,AF nn N A]] [] (EV.pe 0 0 0 0) [Ai A N,oA 2 true N fun i=>(GU A i)]:=
 kFm pF nF [[]] (.mk (dS 26) [(8,.is 57356 7 (xL 0,(frame 64 [(3,EV.pe 2 0 0 0)]),[oV [iv V,AF nn N A],oA 2 true N fun i=>(GU A i),Ai A N]))] [] [] []) (kO AN) (oT (sL (cB (cR (cL (cR (cR (AY prog 90)))))) (frame 64 [(2,EV.aH),(3,EV.pe 2 0 0 0),(13,sl nn 3 N fun i=>(A i).cells),(14,iv ↑N),(15,iv 0)]) [oV [iv V,sl nn 3 N fun i=>(A i).cells],oA 2 true (↑N:Int).toNat fun i=>[iv 0,iv 0],fE.flat false 513 (fun i=>sl false 0 0 fun i=>[]) [(512,EV.ms 1 2 0 (↑N:Int).toNat (some (↑N:Int).toNat))]] (xL 0,(frame 64 [(3,EV.pe 2 0 0 0)]),[oV [iv V,sl nn 3 N fun i=>(A i).cells],oA 2 true N fun i=>[iv ((A i).cap - 0),iv 0],fE.flat false 513 (fun i=>sl (decide (0<A4 A N i)) 1 (A4 A N i) fun i_1=>[iv (BE A N i i_1)]) [(512,EV.ms 1 2 0 N (some N))]])) (Xp hN hA) (oS (decide (0<=(↑N:Int)) && decide ((↑N:Int)<=(↑N:Int)) && decide ((↑N:Int)*16<=70368744177664) && decide ((↑N:Int)<4611686018427387904)) .nil)) 3 [2,1]
noncomputable abbrev PL:=frame 78 [(1,pt 0 0),(2,sl false 0 0 fun _=>[]),(3,iv 0),(4,sl false 0 0 fun _=>[]),(5,iv 0)]
noncomputable abbrev L7:=frame 78 [(1,pt 0 0),(2,sl false 0 0 fun i=>[]),(3,iv 0),(4,sl false 0 0 fun i=>[]),(5,iv 0),(7,pt 1 0)]
abbrev BU:=fE.var false false [EV.pe 2 0 0 0]
abbrev Ct (a0:Nat->uN)(a1:Nat):=fE.flat false 513 (fun i=>sl (decide (0<A4 a0 a1 i)) 1 (A4 a0 a1 i) fun i_1=>[iv (BE a0 a1 i i_1)]) [(512,EV.ms 3 2 0 a1 (some a1))]
theorem ADP (V:Nat)(nn:Bool)(N:Nat)(A:Nat->uN)(hnl:sF 90 [ag (Mw V nn N A)] [] (.pe 0 0 0 0) [dQ N A,bE N A (fun _=>0)]):sL (cL (cR (cR (AY prog 62)))) (PL) [oV [iv V,AF nn N A]] (xN,(L7),[oV [iv ↑V,AF nn N A],BU,Ct A N,oA 2 true N fun i=>(GU A i)]):=
 kLm pF nF0 [] (.mk [] [] [] [some ((EV.pe 0 0 0 0,[Ai A N,oA 2 true N fun i=>(GU A i)]))] []) bY.nil (.cons hnl .nil) 190 15 [0,4,1,2]
abbrev Jd:=fE.var false false [.undef]
noncomputable abbrev Je (a0:Int):=frame 78 [(1,pt 0 0),(2,sl false 0 0 fun _=>[]),(3,iv a0),(4,sl false 0 0 fun _=>[]),(5,iv 0),(7,pt 1 0),(8,pt 4 0),(9,pt 5 0)]
abbrev Dm (a0:Nat->uN)(a1:Nat):=fE.flat false 513 (Mx a0 a1) [(512,.ms 3 2 0 a1 (some a1))]
abbrev CO (a0:Nat):=fE.var false false [EV.ms 6 1 0 a0 (some a0)]
noncomputable abbrev AIW:=cR (cR (cR (cR (cR (AY prog 62)))))
noncomputable abbrev EL (a0:Int):=frame 78 [(1,pt 0 0),(2,sl false 0 0 fun i=>[]),(3,iv a0),(4,sl false 0 0 fun i=>[]),(5,iv 0),(7,pt 1 0),(8,pt 4 0),(9,pt 5 0)]
noncomputable abbrev AIX:=cB (cB (cL (AIW)))
theorem ADQ (V:Nat)(nn:Bool)(N:Nat)(A:Nat->uN)(f:Nat->Int)(lev:Nat->Int)(v:Int)(hlv:sF 91 [.pe 0 0 0 0,ag (Mw V nn N A)] (EH N A f) (.ms 2 1 0 V (some V)) [dQ N A,bE N A f,bX V lev]):sL (cL (cB (AIX))) (Je v) [oV [iv V,AF nn N A],BU,Dm A N,bE N A f,oV (AEK V),Jd] (xN,(EL v),[oV [iv ↑V,AF nn N A],BU,Ct A N,oA 2 true N fun i=>(Ag A i f),oV (AEJ V),CO V,oA 1 true V fun i=>(AA lev i)]):=
 kLm pF nF0 [] (.mk [] [] [] [some ((EV.ms 2 1 0 V (some V),[Ai A N,oA 2 true N fun i=>(Ag A i f),oA 1 true V fun i=>(AA lev i)]))] []) bY.nil (.cons hlv .nil) 958 127 [0,1,2,3,4,5,6]
abbrev C6 (a0:Nat):=fE.var false false [.ms 6 1 0 a0 (some a0)]
abbrev AIg:=fE.var false false [fc (92) [] [pt 4 0,pt 8 0,pt 1 0,pt 0 0,pt 5 0,pt 9 0]]
abbrev DP (a0:Nat):=EV.ms 7 1 0 a0 (some a0)
noncomputable abbrev PM (a0:Int):=frame 78 [(1,pt 0 0),(2,sl false 0 0 fun _=>[]),(3,iv a0),(4,sl false 0 0 fun _=>[]),(5,iv 0),(7,pt 1 0),(8,pt 4 0),(9,pt 5 0),(10,pt 8 0),(11,pt 9 0)]
section
variable (V:Nat)(nn:Bool)(N:Nat)(A:Nat->uN)(f:Nat->Int)(lev:Nat->Int)(v:Int)(us:Nat->Int)(got:Int)(f':Nat->Int)(us':Nat->Int)(hV:2<=V)(hV2:V<100)(hN:N<=2048)(h0:0<=v+got)(h1:v+got<=9000000000000000)(iha:TG V nn N A lev 0 1073741824 f us got f' us')
include V nn N A f lev v us got f' us' hV hV2 hN h0 h1 iha
theorem AAU (q0:(got==0)=true):sC (cB (cB (cR (cR (cR (cR (cR (cB (AIX))))))))) (PM v) ([oV [iv V,AF nn N A],BU,Dm A N,bE N A f,oV (AEK V),C6 V,bX V lev,oA 1 true V fun i=>(AA us i),fE.var false false [.ms 7 1 0 V (some V)],AIg]) (xL 2,(EL v),[oV [iv ↑V,AF nn N A],BU,Ct A N,oA 2 true N fun i=>(Ag A i f'),oV (AEJ V),CO V,oA 1 true V fun i=>(AA lev i),oA 1 true V fun i=>(AA us' i),fE.var false false [DP V],AIg]):=
 kCm pF nF _ (.mk (dS 16) [] [] [some ((iv got,[oV (AEJ V),Ja V,oA 1 true V fun i=>(AA us' i),JY,Jb A N,oA 2 true N fun i=>(Ag A i f'),oV [iv ↑V,AF nn N A],JZ V,oA 1 true V fun i=>(AA lev i),AHz]))] []) (kO (kz q0 AN)) (.cons iha .nil) 958 1023 10
theorem Y2 (q0:(got==0)=false):sC (cB (cB (cR (cR (cR (cR (cR (cB (AIX))))))))) (PM v) ([oV [iv V,AF nn N A],BU,Dm A N,bE N A f,oV (AEK V),C6 V,bX V lev,oA 1 true V fun i=>(AA us i),fE.var false false [.ms 7 1 0 V (some V)],AIg]) (xN,(frame 78 [(1,pt 0 0),(2,sl false 0 0 fun i=>[]),(3,iv (v+got)),(4,sl false 0 0 fun i=>[]),(5,iv 0),(7,pt 1 0),(8,pt 4 0),(9,pt 5 0),(10,pt 8 0),(11,pt 9 0)]),[oV [iv ↑V,AF nn N A],BU,Ct A N,oA 2 true N fun i=>(Ag A i f'),oV (AEJ V),CO V,oA 1 true V fun i=>(AA lev i),oA 1 true V fun i=>(AA us' i),fE.var false false [DP V],AIg]):=
 kCm pF nF _ (.mk (dS 266) [] [] [some ((iv got,[oV (AEJ V),Ja V,oA 1 true V fun i=>(AA us' i),JY,Jb A N,oA 2 true N fun i=>(Ag A i f'),oV [iv ↑V,AF nn N A],JZ V,oA 1 true V fun i=>(AA lev i),AHz]))] []) (kO (kz q0 AN)) (rI (v+got) (.cons iha .nil)) 4030 1023 10
end
section
variable (V:Nat)(nn:Bool)(N:Nat)(A:Nat->uN)(f:Nat->Int)(lev:Nat->Int)(v:Int)(v':Int)(f':Nat->Int)(us':Nat->Int)(hV:2<=V)(hV2:V<100)(hN:N<=2048)(ih7:sL (cL (cB (AIX))) (Je v) [oV [iv V,AF nn N A],BU,Dm A N,bE N A f,oV (AEK V),Jd] ((xN,frame 78 [(1,pt 0 0),(2,sl false 0 0 fun _=>[]),(3,iv v),(4,sl false 0 0 fun _=>[]),(5,iv 0),(7,pt 1 0),(8,pt 4 0),(9,pt 5 0)],[oV [iv V,AF nn N A],BU,Dm A N,bE N A f,oV (AEK V),C6 V,bX V lev]):RC))(ih12:¬ lev (0+((V:Int) - 1).toNat)<0->sL (cB (cR (cR (cR (cR (cR (cB (cB (cB (cL (cR (cR (cR (cR (cR (AY prog 62)))))))))))))))) (frame 78 [(1,pt 0 0),(2,sl false 0 0 fun _=>[]),(3,iv v),(4,sl false 0 0 fun _=>[]),(5,iv 0),(7,pt 1 0),(8,pt 4 0),(9,pt 5 0),(10,pt 8 0),(11,pt 9 0)]) [oV [iv V,sl nn 3 N fun i=>(A i).cells],fE.var false false [EV.pe 2 0 0 0],fE.flat false 513 (Mx A N) [(512,.ms 3 2 0 N (some N))],bE N A f,oV [iv ((V:Int) - 1)],fE.var false false [.ms 6 1 0 V (some V)],bX V lev,oA 1 true V fun i=>[iv ((fun _=>0) i)],fE.var false false [.ms 7 1 0 V (some V)],fE.var false false [fc (92) [] [pt 4 0,pt 8 0,pt 1 0,pt 0 0,pt 5 0,pt 9 0]]] ((xL 2,frame 78 [(1,pt 0 0),(2,sl false 0 0 fun _=>[]),(3,iv v'),(4,sl false 0 0 fun _=>[]),(5,iv 0),(7,pt 1 0),(8,pt 4 0),(9,pt 5 0)],[oV [iv V,sl nn 3 N fun i=>(A i).cells],fE.var false false [EV.pe 2 0 0 0],fE.flat false 513 (Mx A N) [(512,.ms 3 2 0 N (some N))],bE N A f',oV [iv ((V:Int) - 1)],fE.var false false [.ms 6 1 0 V (some V)],bX V lev,oA 1 true V fun i=>[iv (us' i)],fE.var false false [.ms 7 1 0 V (some V)],fE.var false false [fc (92) [] [pt 4 0,pt 8 0,pt 1 0,pt 0 0,pt 5 0,pt 9 0]]]):RC))
include V nn N A f lev v v' f' us' hV hV2 hN ih7 ih12
theorem AAV (q0:(decide (lev (0+((↑V:Int) - 1).toNat)<0))=true):sR 6 (AIX) (Je v) ([oV [iv V,AF nn N A],BU,Dm A N,bE N A f,oV (AEK V),Jd]) (xL 0,(EL v),[oV [iv ↑V,AF nn N A],BU,Ct A N,oA 2 true N fun i=>(Ag A i f),oV (AEJ V),CO V,oA 1 true V fun i=>(AA lev i)]):=
 aM pF nF _ (.mk (dS 416) [(2,.is 958 63 (xN,(EL v),[oV [iv ↑V,AF nn N A],BU,Ct A N,oA 2 true N fun i=>(Ag A i f),oV (AEJ V),CO V,oA 1 true V fun i=>(AA lev i)]))] [] [] []) (kO (kz q0 AN)) (rB ((↑V:Int) - 1) V (.cons ih7 .nil)) 958 127 [0,1,2,3,4,5,6] 6
theorem AAW (q0:(decide (lev (0+((↑V:Int) - 1).toNat)<0))=false):sR 6 (AIX) (Je v) ([oV [iv V,AF nn N A],BU,Dm A N,bE N A f,oV (AEK V),Jd]) (xN,(EL v'),[oV [iv ↑V,AF nn N A],BU,Ct A N,oA 2 true N fun i=>(Ag A i f'),oV (AEJ V),CO V,oA 1 true V fun i=>(AA lev i)]):=
 aM pF nF _ (.mk (dS 6666) [(2,.is 958 63 (xN,(EL v),[oV [iv ↑V,AF nn N A],BU,Ct A N,oA 2 true N fun i=>(Ag A i f),oV (AEJ V),CO V,oA 1 true V fun i=>(AA lev i)])),(12,.is 4030 1023 (xL 2,(EL v'),[oV [iv ↑V,AF nn N A],BU,Ct A N,oA 2 true N fun i=>(Ag A i f'),oV (AEJ V),CO V,oA 1 true V fun i=>(AA lev i),oA 1 true V fun i=>(AA us' i),fE.var false false [DP V],AIg]))] [] [] []) (kO (kz q0 AN)) (.cons (ih12 (by simp_all)) (oS (PF V) (rB ((↑V:Int) - 1) V (.cons ih7 .nil)))) 958 127 [0,1,2,3,4,5,6] 6
end
noncomputable abbrev PN (a0:Nat)(a1:Int):=frame 78 [(2,EV.ms 7 1 0 a0 none),(3,iv a1),(4,sl false 0 0 fun i=>[]),(5,iv 0),(9,pt 5 0)]
noncomputable abbrev PO (a0:Nat)(a1:Int)(a2:Nat)(a3:Int):=frame 78 [(2,.ms 7 1 0 a0 none),(3,iv a1),(4,sl false 0 0 fun _=>[]),(5,iv 0),(9,pt 5 0),(49,.ms 3 2 0 a2 (some a2)),(50,iv a2),(51,iv a3)]
noncomputable abbrev PQ (a0:Int):=frame 78 [(2,sl false 0 0 fun i=>[]),(3,iv a0),(4,sl false 0 0 fun i=>[]),(5,iv 0),(9,pt 5 0)]
noncomputable abbrev PS (a0:Int)(a1:Nat)(a2:Int):=frame 78 [(2,sl false 0 0 fun _=>[]),(3,iv a0),(4,sl false 0 0 fun _=>[]),(5,iv 0),(9,pt 5 0),(49,.ms 3 2 0 a1 (some a1)),(50,iv a1),(51,iv a2)]
noncomputable abbrev AIY:=cB (cR (cL (cR (AIW))))
section
variable (V:Nat)(N:Nat)(A:Nat->uN)(f:Nat->Int)(lev:Nat->Int)(v:Int)(n:Nat)(w:Nat->Int)(i:Int)(hV:2<=V)(hV2:V<100)(hN:N<=2048)(h0:0<=i)(hn:n<=4000)
include V N A f lev v n w i hV hV2 hN h0 hn
theorem AAX (q0:BF i N):sR 7 (cB (AIY)) (PS v N i) ([oD,oD,oD,bE N A f,oD,C6 V,bX V lev]) (xN,(frame 78 [(2,EV.ms 7 1 0 1 none),(3,iv v),(4,sl false 0 0 fun i=>[]),(5,iv 0),(9,pt 5 0),(49,EV.ms 3 2 0 N (some N)),(50,iv ↑N),(51,iv (i+1))]),[oD,oD,oD,oA 2 true N fun i=>(Ag A i f),oD,CO V,oA 1 true V fun i=>(AA lev i),oA 1 false 1 fun i_1=>[[iv (f (0+i.toNat))]].getD (0+i_1) []]):=
 aM pF nF _ (.mk (dS 17433262) [] [] [] []) (kO (kz q0 AN)) (rI (i+1) (rB i N .nil)) 3940649673949756 232 [0,1,2,3,4,5,6,9] 7
theorem AAY (q0:DM i N):sR 7 (cB (AIY)) (PS v N i) ([oD,oD,oD,bE N A f,oD,C6 V,bX V lev]) (xL 4,(PQ v),[oD,oD,oD,oA 2 true N fun i=>(Ag A i f),oD,CO V,oA 1 true V fun i=>(AA lev i)]):=
 aM pF nF _ (.mk (dS 16) [] [] [] []) (kO (kz q0 AN)) .nil 572 104 [0,1,2,3,4,5,6] 7
theorem AAZ (q0:BF i N):sR 7 (cB (AIY)) (PO n v N i) ([oD,oD,oD,bE N A f,oD,C6 V,bX V lev,oA 1 false n fun i=>[iv (w i)]]) (xN,(frame 78 [(2,EV.ms 7 1 0 (n+1) none),(3,iv v),(4,sl false 0 0 fun i=>[]),(5,iv 0),(9,pt 5 0),(49,EV.ms 3 2 0 N (some N)),(50,iv ↑N),(51,iv (i+1))]),[oD,oD,oD,oA 2 true N fun i=>(Ag A i f),oD,CO V,oA 1 true V fun i=>(AA lev i),oA 1 false (n+1) (Ar n (fun i=>[iv (w (0+i))]) fun i_1=>[[iv (f (0+i.toNat))]].getD (0+i_1) [])]):=
 aM pF nF _ (.mk (dS 68266) [] [] [] []) (kO (kz q0 AN)) (rI (i+1) (oL (A5 n) (rB i N .nil))) 3940649673949756 232 [0,1,2,3,4,5,6,10] 7
theorem AAa (q0:DM i N):sR 7 (cB (AIY)) (PO n v N i) ([oD,oD,oD,bE N A f,oD,C6 V,bX V lev,oA 1 false n fun i=>[iv (w i)]]) (xL 4,(PN n v),[oD,oD,oD,oA 2 true N fun i=>(Ag A i f),oD,CO V,oA 1 true V fun i=>(AA lev i),oA 1 false n fun i=>[iv (w i)]]):=
 aM pF nF _ (.mk (dS 16) [] [] [] []) (kO (kz q0 AN)) .nil 572 232 [0,1,2,3,4,5,6,7] 7
end
noncomputable abbrev L8 (a0:Nat)(a1:Int)(a2:Nat)(a3:Nat)(a4:Int):=frame 78 [(2,.ms 7 1 0 a0 none),(3,iv a1),(4,.ms 8 1 0 a2 none),(5,iv 0),(61,.ms 6 1 0 a3 (some a3)),(62,iv a3),(63,iv a4)]
noncomputable abbrev Un (a0:Nat)(a1:Int)(a2:Nat)(a3:Int):=frame 78 [(2,.ms 7 1 0 a0 none),(3,iv a1),(4,sl false 0 0 fun _=>[]),(5,iv 0),(61,.ms 6 1 0 a2 (some a2)),(62,iv a2),(63,iv a3)]
noncomputable abbrev L9 (a0:Int)(a1:Nat)(a2:Nat)(a3:Int):=frame 78 [(2,sl false 0 0 fun _=>[]),(3,iv a0),(4,.ms 7 1 0 a1 none),(5,iv 0),(61,.ms 6 1 0 a2 (some a2)),(62,iv a2),(63,iv a3)]
noncomputable abbrev Uo (a0:Int)(a1:Nat)(a2:Int):=frame 78 [(2,sl false 0 0 fun _=>[]),(3,iv a0),(4,sl false 0 0 fun _=>[]),(5,iv 0),(61,.ms 6 1 0 a1 (some a1)),(62,iv a1),(63,iv a2)]
noncomputable abbrev AIK:=cB (cB (cR (cL (cR (cR (AIW))))))
section
variable (V:Nat)(N:Nat)(A:Nat->uN)(f:Nat->Int)(lev:Nat->Int)(v:Int)(n:Nat)(w:Nat->Int)(i:Int)(k:Nat)(s:Nat->Int)(hV:2<=V)(hV2:V<100)(hN:N<=2048)(h0:0<=i)(hn:n<=4000)(hk:k<=4000)
include V N A f lev v n w i k s hV hV2 hN h0 hn hk
theorem Z8 (q0:BF i V)(q1:(decide (lev (0+i.toNat)>=0))=true):sR 7 (AIK) (Uo v V i) ([oD,oD,oD,oD,oD,oD,bX V lev]) (xN,(frame 78 [(2,sl false 0 0 fun i=>[]),(3,iv v),(4,EV.ms 7 1 0 1 none),(5,iv 0),(61,EV.ms 6 1 0 V (some V)),(62,iv ↑V),(63,iv (i+1))]),[oD,oD,oD,oD,oD,oD,oA 1 true V fun i=>(AA lev i),oA 1 false 1 fun i_1=>[[iv i]].getD (0+i_1) []]):=
 aM pF nF _ (.mk (dS 278987438) [] [] [] []) (kO (kz q0 (kz q1 AN))) (rI (i+1) (rB i V .nil)) 16140901064495857724 192 [0,1,2,3,4,5,6,8] 7
theorem Z9 (q0:BF i V)(q1:(decide (lev (0+i.toNat)>=0))=true):sR 7 (AIK) (L9 v k V i) ([oD,oD,oD,oD,oD,oD,bX V lev,oA 1 false k fun i=>[iv (s i)]]) (xN,(frame 78 [(2,sl false 0 0 fun i=>[]),(3,iv v),(4,EV.ms 7 1 0 (k+1) none),(5,iv 0),(61,EV.ms 6 1 0 V (some V)),(62,iv ↑V),(63,iv (i+1))]),[oD,oD,oD,oD,oD,oD,oA 1 true V fun i=>(AA lev i),oA 1 false (k+1) (Ar k (fun i=>[iv (s (0+i))]) fun i_1=>[[iv i]].getD (0+i_1) [])]):=
 aM pF nF _ (.mk (dS 1089962) [] [] [] []) (kO (kz q0 (kz q1 AN))) (rI (i+1) (oL (A5 k) (rB i V .nil))) 16140901064495857724 192 [0,1,2,3,4,5,6,9] 7
theorem zA (q0:BF i V)(q1:(decide (lev (0+i.toNat)>=0))=false):sR 7 (AIK) (L9 v k V i) ([oD,oD,oD,oD,oD,oD,bX V lev,oA 1 false k fun i=>[iv (s i)]]) (xN,(frame 78 [(2,sl false 0 0 fun i=>[]),(3,iv v),(4,EV.ms 7 1 0 k none),(5,iv 0),(61,EV.ms 6 1 0 V (some V)),(62,iv ↑V),(63,iv (i+1))]),[oD,oD,oD,oD,oD,oD,oA 1 true V fun i=>(AA lev i),oA 1 false k fun i=>[iv (s i)]]):=
 aM pF nF _ (.mk (dS 68122) [] [] [] []) (kO (kz q0 (kz q1 AN))) (rI (i+1) (rB i V .nil)) 16140901064495857724 192 [0,1,2,3,4,5,6,7] 7
theorem zB (q0:DM i V):sR 7 (AIK) (L9 v k V i) ([oD,oD,oD,oD,oD,oD,bX V lev,oA 1 false k fun i=>[iv (s i)]]) (xL 6,(frame 78 [(2,sl false 0 0 fun i=>[]),(3,iv v),(4,EV.ms 7 1 0 k none),(5,iv 0)]),[oD,oD,oD,oD,oD,oD,oA 1 true V fun i=>(AA lev i),oA 1 false k fun i=>[iv (s i)]]):=
 aM pF nF _ (.mk (dS 16) [] [] [] []) (kO (kz q0 AN)) .nil 60 192 [0,1,2,3,4,5,6,7] 7
theorem zC (q0:BF i V)(q1:(decide (lev (0+i.toNat)>=0))=true):sR 8 (AIK) (Un n v V i) ([oD,oD,oD,oD,oD,oD,bX V lev,oA 1 false n fun i=>[iv (w i)]]) (xN,(frame 78 [(2,EV.ms 7 1 0 n none),(3,iv v),(4,EV.ms 8 1 0 1 none),(5,iv 0),(61,EV.ms 6 1 0 V (some V)),(62,iv ↑V),(63,iv (i+1))]),[oD,oD,oD,oD,oD,oD,oA 1 true V fun i=>(AA lev i),oA 1 false n fun i=>[iv (w i)],oA 1 false 1 fun i_1=>[[iv i]].getD (0+i_1) []]):=
 aM pF nF _ (.mk (dS 278987438) [] [] [] []) (kO (kz q0 (kz q1 AN))) (rI (i+1) (rB i V .nil)) 16140901064495857724 448 [0,1,2,3,4,5,6,7,9] 8
theorem zD (q0:BF i V)(q1:(decide (lev (0+i.toNat)>=0))=true):sR 8 (AIK) (L8 n v k V i) ([oD,oD,oD,oD,oD,oD,bX V lev,oA 1 false n fun i=>[iv (w i)],oA 1 false k fun i=>[iv (s i)]]) (xN,(frame 78 [(2,EV.ms 7 1 0 n none),(3,iv v),(4,EV.ms 8 1 0 (k+1) none),(5,iv 0),(61,EV.ms 6 1 0 V (some V)),(62,iv ↑V),(63,iv (i+1))]),[oD,oD,oD,oD,oD,oD,oA 1 true V fun i=>(AA lev i),oA 1 false n fun i=>[iv (w i)],oA 1 false (k+1) (Ar k (fun i=>[iv (s (0+i))]) fun i_1=>[[iv i]].getD (0+i_1) [])]):=
 aM pF nF _ (.mk (dS 1089962) [] [] [] []) (kO (kz q0 (kz q1 AN))) (rI (i+1) (oL (A5 k) (rB i V .nil))) 16140901064495857724 448 [0,1,2,3,4,5,6,7,10] 8
theorem zE (q0:BF i V)(q1:(decide (lev (0+i.toNat)>=0))=false):sR 8 (AIK) (L8 n v k V i) ([oD,oD,oD,oD,oD,oD,bX V lev,oA 1 false n fun i=>[iv (w i)],oA 1 false k fun i=>[iv (s i)]]) (xN,(frame 78 [(2,EV.ms 7 1 0 n none),(3,iv v),(4,EV.ms 8 1 0 k none),(5,iv 0),(61,EV.ms 6 1 0 V (some V)),(62,iv ↑V),(63,iv (i+1))]),[oD,oD,oD,oD,oD,oD,oA 1 true V fun i=>(AA lev i),oA 1 false n fun i=>[iv (w i)],oA 1 false k fun i=>[iv (s i)]]):=
 aM pF nF _ (.mk (dS 68122) [] [] [] []) (kO (kz q0 (kz q1 AN))) (rI (i+1) (rB i V .nil)) 16140901064495857724 448 [0,1,2,3,4,5,6,7,8] 8
theorem zF (q0:DM i V):sR 8 (AIK) (L8 n v k V i) ([oD,oD,oD,oD,oD,oD,bX V lev,oA 1 false n fun i=>[iv (w i)],oA 1 false k fun i=>[iv (s i)]]) (xL 6,(frame 78 [(2,EV.ms 7 1 0 n none),(3,iv v),(4,EV.ms 8 1 0 k none),(5,iv 0)]),[oD,oD,oD,oD,oD,oD,oA 1 true V fun i=>(AA lev i),oA 1 false n fun i=>[iv (w i)],oA 1 false k fun i=>[iv (s i)]]):=
 aM pF nF _ (.mk (dS 16) [] [] [] []) (kO (kz q0 AN)) .nil 60 448 [0,1,2,3,4,5,6,7,8] 8
end
noncomputable abbrev PT (a0:Int)(a1:Nat):=frame 78 [(2,sl false 0 0 fun _=>[]),(3,iv a0),(4,sl false 0 0 fun _=>[]),(5,iv 0),(9,pt 5 0),(49,.ms 3 2 0 a1 (some a1)),(50,iv a1),(51,iv 0)]
abbrev cG:=[Aq]
section
variable (V:Nat)(nn:Bool)(N:Nat)(A:Nat->uN)(f:Nat->Int)(lev:Nat->Int)(v:Int)(n:Nat)(w:Nat->Int)(k:Nat)(s:Nat->Int)(hV:2<=V)(hV2:V<100)(hN:N<=2048)(ihc:sP 89 [ag (Mw V nn N A)] (iv 0))(ih4:sL (cL (cR (cR (AY prog 62)))) (PL) [oV [iv V,AF nn N A]] ((xN,frame 78 [(1,pt 0 0),(2,sl false 0 0 fun _=>[]),(3,iv 0),(4,sl false 0 0 fun _=>[]),(5,iv 0),(7,pt 1 0)],[oV [iv V,AF nn N A],BU,Dm A N,bE N A (fun _=>0)]):RC))(ih7:sL (cB (cL (AIW))) (frame 78 [(1,pt 0 0),(2,sl false 0 0 fun _=>[]),(3,iv 0),(4,sl false 0 0 fun _=>[]),(5,iv 0),(7,pt 1 0),(8,pt 4 0),(9,pt 5 0)]) [oV [iv V,AF nn N A],BU,Dm A N,bE N A (fun _=>0),oV (AEK V),oV cG] ((xL 0,frame 78 [(1,pt 0 0),(2,sl false 0 0 fun _=>[]),(3,iv v),(4,sl false 0 0 fun _=>[]),(5,iv 0),(7,pt 1 0),(8,pt 4 0),(9,pt 5 0)],[oV [iv V,AF nn N A],BU,Dm A N,bE N A f,oV (AEK V),C6 V,bX V lev]):RC))
include V nn N A f lev v n w k s hV hV2 hN ihc ih4 ih7
theorem zG (ih16:sL (AIY) (PT v N) [oD,oD,oD,bE N A f,oD,C6 V,bX V lev] ((xL 4,frame 78 [(2,sl false 0 0 fun _=>[]),(3,iv v),(4,sl false 0 0 fun _=>[]),(5,iv 0),(9,pt 5 0)],[oD,oD,oD,bE N A f,oD,C6 V,bX V lev]):RC))(ih21:sL (cB (cR (cL (cR (cR (AIW)))))) (frame 78 [(2,sl false 0 0 fun _=>[]),(3,iv v),(4,sl false 0 0 fun _=>[]),(5,iv 0),(61,.ms 6 1 0 V (some V)),(62,iv V),(63,iv 0)]) [oD,oD,oD,oD,oD,oD,bX V lev] ((xL 6,frame 78 [(2,sl false 0 0 fun _=>[]),(3,iv v),(4,.ms 7 1 0 k none),(5,iv 0)],[oD,oD,oD,oD,oD,oD,bX V lev,oA 1 false k fun i=>[iv (s i)]]):RC)):sP 62 [ag [iv ↑V,AF nn N A]] (tu [AT,iv v,sl true 1 k fun i=>[iv (s (0+i))],iv 0]):=
 kPm pF nF [[]] (.mk (dS 65966) [(10,.is 62 1 (xN,(L7),[oV [iv ↑V,AF nn N A],BU,Ct A N,oA 2 true N fun i=>(GU A i)])),(6,.is 958 63 (xL 0,(EL v),[oV [iv ↑V,AF nn N A],BU,Ct A N,oA 2 true N fun i=>(Ag A i f),oV (AEJ V),CO V,oA 1 true V fun i=>(AA lev i)])),(4,.is 3940649673949756 104 (xL 4,(PQ v),[oD,oD,oD,oA 2 true N fun i=>(Ag A i f),oD,CO V,oA 1 true V fun i=>(AA lev i)])),(4,.is 16140901064495857724 64 (xL 6,(frame 78 [(2,sl false 0 0 fun i=>[]),(3,iv v),(4,EV.ms 7 1 0 k none),(5,iv 0)]),[oD,oD,oD,oD,oD,oD,oA 1 true V fun i=>(AA lev i),oA 1 false k fun i=>[iv (s i)]]))] [some (iv 0)] [] []) (kO AN) (.cons ih21 (.cons ih16 (.cons ih7 (rI ((↑V:Int) - 1) (.cons ih4 (.cons ihc .nil))))))
theorem zH (ih16:sL (AIY) (PT v N) [oD,oD,oD,bE N A f,oD,C6 V,bX V lev] ((xL 4,frame 78 [(2,.ms 7 1 0 n none),(3,iv v),(4,sl false 0 0 fun _=>[]),(5,iv 0),(9,pt 5 0)],[oD,oD,oD,bE N A f,oD,C6 V,bX V lev,oA 1 false n fun i=>[iv (w i)]]):RC))(ih21:sL (cB (cR (cL (cR (cR (AIW)))))) (frame 78 [(2,.ms 7 1 0 n none),(3,iv v),(4,sl false 0 0 fun _=>[]),(5,iv 0),(61,.ms 6 1 0 V (some V)),(62,iv V),(63,iv 0)]) [oD,oD,oD,oD,oD,oD,bX V lev,oA 1 false n fun i=>[iv (w i)]] ((xL 6,frame 78 [(2,.ms 7 1 0 n none),(3,iv v),(4,.ms 8 1 0 k none),(5,iv 0)],[oD,oD,oD,oD,oD,oD,bX V lev,oA 1 false n fun i=>[iv (w i)],oA 1 false k fun i=>[iv (s i)]]):RC)):sP 62 [ag [iv ↑V,AF nn N A]] (tu [sl true 1 n fun i=>[iv (w (0+i))],iv v,sl true 1 k fun i=>[iv (s (0+i))],iv 0]):=
 kPm pF nF [[]] (.mk (dS 65966) [(10,.is 62 1 (xN,(L7),[oV [iv ↑V,AF nn N A],BU,Ct A N,oA 2 true N fun i=>(GU A i)])),(6,.is 958 63 (xL 0,(EL v),[oV [iv ↑V,AF nn N A],BU,Ct A N,oA 2 true N fun i=>(Ag A i f),oV (AEJ V),CO V,oA 1 true V fun i=>(AA lev i)])),(4,.is 3940649673949756 104 (xL 4,(PN n v),[oD,oD,oD,oA 2 true N fun i=>(Ag A i f),oD,CO V,oA 1 true V fun i=>(AA lev i),oA 1 false n fun i=>[iv (w i)]])),(4,.is 16140901064495857724 192 (xL 6,(frame 78 [(2,EV.ms 7 1 0 n none),(3,iv v),(4,EV.ms 8 1 0 k none),(5,iv 0)]),[oD,oD,oD,oD,oD,oD,oA 1 true V fun i=>(AA lev i),oA 1 false n fun i=>[iv (w i)],oA 1 false k fun i=>[iv (s i)]]))] [some (iv 0)] [] []) (kO AN) (.cons ih21 (.cons ih16 (.cons ih7 (rI ((↑V:Int) - 1) (.cons ih4 (.cons ihc .nil))))))
end
section
variable (V:Nat)(nn:Bool)(N:Nat)(A:Nat->uN)
abbrev mxH (f:Nat->Int)(l:AL):AL:=[fE.var false true [.int .i64 V,EV.uS nn 3 N fun i=>(A i).cells],fE.var false false [EV.pe 2 0 0 0],fE.flat false 513 (Mx A N) [(512,.ms 3 2 0 N (some N))],bE N A f,fE.var false true [.int .i64 ((V:Int) - 1)]]++l
abbrev mxL (v:Int):List (Nat×EV):=[(1,.ptr 0 0),(2,EV.uS false 0 0 fun _=>[]),(3,.int .i64 v),(4,EV.uS false 0 0 fun _=>[]),(5,.int .i64 0),(7,.ptr 1 0),(8,.ptr 4 0),(9,.ptr 5 0)]
abbrev mxT (v:Int):List EV:=frame 78 (mxL v)
abbrev AAb (v:Int):List EV:=frame 78 (mxL v++[(10,.ptr 8 0),(11,.ptr 9 0)])
abbrev X1 (lev us f:Nat->Int):AL:=mxH V nn N A f [fE.var false false [.ms 6 1 0 V (some V)],bX V lev,fE.arr false true 1 true V fun i=>[.int .i64 (us i)],fE.var false false [.ms 7 1 0 V (some V)],fE.var false false [.func (.func 92) [] [.ptr 4 0,.ptr 8 0,.ptr 1 0,.ptr 0 0,.ptr 5 0,.ptr 9 0]]]
structure cW (f:Nat->Int) (v:Int):Prop where
 cap:Em N A f
 cons:∀ w,0<w->w<V - 1->CV A f N w=0
 val:CV A f N 0=v
structure BestOk (f lev:Nat->Int) (v:Int):Prop where
 fl:cW V N A f v
 lv:dH V N A f lev
 s:lev (V - 1)<0
end
section
variable {V:Nat}{nn:Bool}{N:Nat}{A:Nat->uN}(hA:Arcs V N A)(hV:V<100)(hN:N<=2048)
include hA hV hN
theorem cW.le {f:Nat->Int}{v:Int}(h:cW V N A f v):v<=1073741824*N:=by
 rw [<-h.val]; exact PB hA h.cap N (Nat.le_refl _)
theorem cW.adv {lev f us:Nat->Int}{v:Int}(h:cW V N A f v){got:Int}{f' us':Nat->Int}(g:dB V N A lev f us 0 1073741824 got f' us'):cW V N A f' (v+got):=by
 have v2:=hA.v2;refine ⟨g.cap,fun w h1 h2=>?_,?_⟩
 ·rw [g.net w (by omega),h.cons w h1 h2,if_neg (by omega),if_neg (by omega)]; simp
 ·rw [g.net 0 (by omega),h.val,if_pos rfl,if_neg (by omega)]; omega
noncomputable abbrev AAc:Code:=cB (cB (cR (cR (cR (cR (cR (cB (cB (cB (cL (cR (cR (cR (cR (cR (AY prog 62))))))))))))))))
theorem AAd {lev:Nat->Int}(hL:∀ v,v<V->-1<=lev v/\lev v<V)(h0:lev 0=0):∀ (k:Nat) (f us:Nat->Int) (v:Int),cW V N A f v->G9 V N A us->0<=v->v+k=1073741824*N->
  ∃ f' us' v',cW V N A f' v'/\v<=v'/\aB prog fF false AAc (AAb v) (X1 V nn N A lev us f) (EX.leave 2,mxT v',X1 V nn N A lev us' f'):=by
 intro k;induction k using Nat.strongRecOn with
 | ind k ih=>
  intro f us v hf hu hv hk;have v2:=hA.v2;obtain ⟨got,f',us',g1,g2⟩:=Ql (nn:=nn) hA hV (by omega) hL V f us 0 1073741824 (by omega) (by omega) (by omega) hf.cap hu (by omega) (by omega);have hf':=hf.adv hA hV hN g1;have hle:=hf'.le hA hV hN;have hg:=g1.got0.1;by_cases hg0:got=0
  ·exact ⟨f',us',v,by rw [hg0,Int.add_zero] at hf'; exact hf',by omega,aB.last (AAU V nn N A f lev v us got f' us' v2 hV hN (by omega) (by omega) g2 (by simpa using hg0)) (by simp)⟩
  ·obtain ⟨f2,us2,v',h1,h2,h3⟩:=ih (k - got.toNat) (by omega) f' us' (v+got) hf' g1.usd (by omega) (by omega);exact ⟨f2,us2,v',h1,by omega,aB.step (Y2 V nn N A f lev v us got f' us' v2 hV hN (by omega) (by omega) g2 (by simpa using hg0)) h3⟩
theorem Wa {lev f:Nat->Int}{v:Int}(hl:dH V N A f lev)(hs:0<=lev (V - 1))(hf:cW V N A f v)(hv:0<=v):
  ∃ f' us' v',cW V N A f' v'/\v<v'/\aB prog fF false AAc (AAb v) (X1 V nn N A lev (fun _=>0) f) (EX.leave 2,mxT v',X1 V nn N A lev us' f'):=by
 have v2:=hA.v2;have h0:=hl.zero;have hu:G9 V N A (fun _=>0):=fun w hw=>⟨Int.le_refl 0,by simp⟩
 obtain ⟨got,f',us',g1,g2⟩:=Ql (nn:=nn) hA hV (by omega) hl.lo V f (fun _=>0) 0 1073741824 (by omega) (by omega) (by omega) hf.cap hu (by omega) (by omega);have hf':=hf.adv hA hV hN g1;have hle:=hf'.le hA hV hN;have hg:=g1.got0.1;have hg0:got≠0:=fun e=>by
  obtain ⟨_,h⟩:=g1.dead e;exact (h fun w hw hws p hp=>by have hp':(p:Int)<0:=hp; omega).2 (Ub hl hs (by omega))
 obtain ⟨f2,us2,v',h1,h2,h3⟩:=AAd (nn:=nn) hA hV hN hl.lo h0 (1073741824*(N:Int) - (v+got)).toNat f' us' (v+got) hf' g1.usd (by omega) (by omega);exact ⟨f2,us2,v',h1,by omega,aB.step (Y2 V nn N A f lev v (fun _=>0) got f' us' v2 hV hN (by omega) (by omega) g2 (by simpa using hg0)) h3⟩
noncomputable abbrev ADR:Code:=cB (cB (cL (cR (cR (cR (cR (cR (AY prog 62))))))))
theorem zI:∀ (k:Nat) (f:Nat->Int) (v:Int),cW V N A f v->0<=v->v+k=1073741824*N->
  ∃ f' lev v',BestOk V N A f' lev v'/\uM prog fF false 6 ADR (mxT v) (mxH V nn N A f [fE.var false false [.undef]]) (EX.leave 0,mxT v',mxH V nn N A f' [fE.var false false [.ms 6 1 0 V (some V)],bX V lev]):=by
 intro k;induction k using Nat.strongRecOn with
 | ind k ih=>
  intro f v hf hv hk;have v2:=hA.v2;obtain ⟨lev,hl,hls⟩:=Sb (nn:=nn) (f:=f) hA hV (by omega);have h7:=ADQ V nn N A f lev v hls;have ei:0+((V:Int) - 1).toNat=V - 1:=by omega
  by_cases hs:lev (V - 1)<0
  ·have hs':lev (0+((V:Int) - 1).toNat)<0:=by rw [ei]; exact hs
   exact ⟨f,lev,v,⟨hf,hl,hs⟩,uM.aC (AAV V nn N A f lev v 0 f f v2 hV hN h7 (fun h=>absurd hs' h) (by simpa using hs')) (by simp)⟩
  ·have hs':¬ lev (0+((V:Int) - 1).toNat)<0:=by rw [ei]; exact hs
   obtain ⟨f',us',v',h1,h2,h3⟩:=Wa (nn:=nn) hA hV hN hl (by omega) hf hv;have hle:=h1.le hA hV hN;have hC:=aB.eO (path:=cB (cR (cR (cR (cR (cR (cB (cB (cB (cL (cR (cR (cR (cR (cR (AY prog 62)))))))))))))))) h3 (by kernel_rfl);obtain ⟨f2,lev2,v2',g1,g2⟩:=ih (1073741824*(N:Int) - v').toNat (by omega) f' v' h1 (by omega) (by omega);refine ⟨f2,lev2,v2',g1,uM.uQ (uR.weaken (AAW V nn N A f lev v v' f' us' v2 hV hN h7 (fun _=>hC) (by simpa using hs')) (uI _) (s3:=mxH V nn N A f' [fE.var false false [.undef],.dead]) (.cons (uH _) (.cons (uH _) (.cons (uH _) (.cons (uH _) (.cons (uH _) (.cons (uU.var (.cons bL.undef .nil)) (.cons uU.dead .nil)))))))) ?_⟩;exact uM.aX [0,1,2,3,4,5] (by decide) rfl (uI _) (.cons (uH _) (.cons (uH _) (.cons (uH _) (.cons (uH _) (.cons (uH _) (.cons (uH _) .nil)))))) g2
theorem Wb (f lev:Nat->Int)(v:Int)(h2:2<=V):∀ (j i:Nat) (w:Nat->Int),i+j=N->0<i->(∀ p,p<i->w p=f p)->
  uM prog fF false 7 (cB (cB (cR (cL (cR (cR (cR (cR (cR (cR (AY prog 62))))))))))) (frame 78 [(2,.ms 7 1 0 i none),(3,.int .i64 v),(4,EV.uS false 0 0 fun _=>[]),(5,.int .i64 0),(9,.ptr 5 0),(49,.ms 3 2 0 N (some N)),(50,.int .i64 N),(51,.int .i64 i)])
   [.dead,.dead,.dead,bE N A f,.dead,fE.var false false [.ms 6 1 0 V (some V)],bX V lev,fE.arr false true 1 false i fun i=>[.int .i64 (w i)]]
   (EX.leave 4,frame 78 [(2,.ms 7 1 0 N none),(3,.int .i64 v),(4,EV.uS false 0 0 fun _=>[]),(5,.int .i64 0),(9,.ptr 5 0)],[.dead,.dead,.dead,bE N A f,.dead,fE.var false false [.ms 6 1 0 V (some V)],bX V lev,fE.arr false true 1 false N fun i=>[.int .i64 (f i)]])
 | 0,i,w,hi,h0,hw=>by
  obtain rfl:i=N:=by omega
  exact uM.aC (uR.weaken (AAa V i A f lev v i w i h2 hV hN (by omega) (by omega) (by simp)) (uI _) (.cons (uH _) (.cons (uH _) (.cons (uH _) (.cons (uH _) (.cons (uH _) (.cons (uH _) (.cons (uH _) (.cons (uU.arr fun p hp=>congrArg (fun x=>[EV.int .i64 x]) (hw p hp)) .nil))))))))) (by simp)
 | j+1,i,w,hi,h0,hw=>by
  refine uM.uQ (uR.weaken (AAZ V N A f lev v i w i h2 hV hN (by omega) (by omega) (uK (by omega))) (uI _) (.cons (uH _) (.cons (uH _) (.cons (uH _) (.cons (uH _) (.cons (uH _) (.cons (uH _) (.cons (uH _) (.cons (uU.arr fun p hp=>?_) .nil))))))))) (Wb f lev v h2 j (i+1) f (by omega) (by omega) fun p hp=>rfl);simp only [Ar,uJ];split
  ·rename_i h; rw [hw p h]
  ·obtain rfl:p=i:=by omega
   simp
theorem Qm (lev:Nat->Int)(v:Int)(h2:2<=V):∀ (j i k:Nat) (s:Nat->Int),i+j=V->k<=i->∃ (k':Nat) (s':Nat->Int),k'<=V/\
  uM prog fF false 7 (cB (cB (cR (cL (cR (cR (cR (cR (cR (cR (cR (AY prog 62)))))))))))) (frame 78 [(2,EV.uS false 0 0 fun _=>[]),(3,.int .i64 v),(4,.ms 7 1 0 k none),(5,.int .i64 0),(61,.ms 6 1 0 V (some V)),(62,.int .i64 V),(63,.int .i64 i)]) [fE.dead,fE.dead,fE.dead,fE.dead,fE.dead,fE.dead,bX V lev,fE.arr false true 1 false k fun i=>[.int .i64 (s i)]] (EX.leave 6,frame 78 [(2,EV.uS false 0 0 fun _=>[]),(3,.int .i64 v),(4,.ms 7 1 0 k' none),(5,.int .i64 0)],[fE.dead,fE.dead,fE.dead,fE.dead,fE.dead,fE.dead,bX V lev,fE.arr false true 1 false k' fun i=>[.int .i64 (s' i)]])
 | 0,i,k,s,hi,hk=>by
  obtain rfl:i=V:=by omega
  exact ⟨k,s,hk,uM.aC (zB i 0 (fun _=>default) (fun _=>0) lev v 0 (fun _=>0) i k s h2 hV (by omega) (by omega) (by omega) (by omega) (by simp)) (by simp)⟩
 | j+1,i,k,s,hi,hk=>by
  by_cases hl:lev i>=0
  ·obtain ⟨k',s',h1,h3⟩:=Qm lev v h2 j (i+1) (k+1) (fun p=>if p<k then s p else i) (by omega) (by omega);refine ⟨k',s',h1,uM.uQ (uR.weaken (Z9 V 0 (fun _=>default) (fun _=>0) lev v 0 (fun _=>0) i k s h2 hV (by omega) (by omega) (by omega) (by omega) (uK (by omega)) (by simpa using hl)) (uI _) (.cons (uH _) (.cons (uH _) (.cons (uH _) (.cons (uH _) (.cons (uH _) (.cons (uH _) (.cons (uH _) (.cons (uU.arr fun p hp=>?_) .nil))))))))) h3⟩;simp only [Ar,uJ];split
   ·rfl
   ·obtain rfl:p=k:=by omega
    simp
  ·obtain ⟨k',s',h1,h3⟩:=Qm lev v h2 j (i+1) k s (by omega) (by omega);exact ⟨k',s',h1,uM.uQ (zA V 0 (fun _=>default) (fun _=>0) lev v 0 (fun _=>0) i k s h2 hV (by omega) (by omega) (by omega) (by omega) (uK (by omega)) (by simpa using hl)) h3⟩
theorem X2 (lev:Nat->Int)(v:Int)(h2:2<=V)(h0:lev 0=0):∃ (k':Nat) (s':Nat->Int),k'<=V/\uT prog fF false (cB (cR (cL (cR (cR (cR (cR (cR (cR (cR (AY prog 62))))))))))) (frame 78 [(2,EV.uS false 0 0 fun _=>[]),(3,.int .i64 v),(4,EV.uS false 0 0 fun _=>[]),(5,.int .i64 0),(61,.ms 6 1 0 V (some V)),(62,.int .i64 V),(63,.int .i64 0)]) [fE.dead,fE.dead,fE.dead,fE.dead,fE.dead,fE.dead,bX V lev] (EX.leave 6,frame 78 [(2,EV.uS false 0 0 fun _=>[]),(3,.int .i64 v),(4,.ms 7 1 0 k' none),(5,.int .i64 0)],[fE.dead,fE.dead,fE.dead,fE.dead,fE.dead,fE.dead,bX V lev,fE.arr false true 1 false k' fun i=>[.int .i64 (s' i)]]):=by
 obtain ⟨k',s',h1,h3⟩:=Qm hA hV hN lev v h2 (V - 1) 1 1 (fun _=>0) (by omega) (by omega);refine ⟨k',s',h1,uM.cl (uM.uQ (uR.weaken (Z8 V 0 (fun _=>default) (fun _=>0) lev v 0 (fun _=>0) 0 0 (fun _=>0) h2 hV (by omega) (by omega) (by omega) (by omega) (uK (by omega)) (by simp [h0])) (uI _) (.cons (uH _) (.cons (uH _) (.cons (uH _) (.cons (uH _) (.cons (uH _) (.cons (uH _) (.cons (uH _) (.cons (uU.arr fun p hp=>?_) .nil))))))))) h3) rfl (by kernel_rfl)⟩;obtain rfl:p=0:=by omega
 rfl
theorem Qn (lev:Nat->Int)(v:Int)(h2:2<=V)(n:Nat)(hn:n<=4000)(w:Nat->Int):∀ (j i k:Nat) (s:Nat->Int),i+j=V->k<=i->∃ (k':Nat) (s':Nat->Int),k'<=V/\
  uM prog fF false 8 (cB (cB (cR (cL (cR (cR (cR (cR (cR (cR (cR (AY prog 62)))))))))))) (frame 78 [(2,.ms 7 1 0 n none),(3,.int .i64 v),(4,.ms 8 1 0 k none),(5,.int .i64 0),(61,.ms 6 1 0 V (some V)),(62,.int .i64 V),(63,.int .i64 i)]) [fE.dead,fE.dead,fE.dead,fE.dead,fE.dead,fE.dead,bX V lev,fE.arr false true 1 false n fun i=>[.int .i64 (w i)],fE.arr false true 1 false k fun i=>[.int .i64 (s i)]] (EX.leave 6,frame 78 [(2,.ms 7 1 0 n none),(3,.int .i64 v),(4,.ms 8 1 0 k' none),(5,.int .i64 0)],[fE.dead,fE.dead,fE.dead,fE.dead,fE.dead,fE.dead,bX V lev,fE.arr false true 1 false n fun i=>[.int .i64 (w i)],fE.arr false true 1 false k' fun i=>[.int .i64 (s' i)]])
 | 0,i,k,s,hi,hk=>by
  obtain rfl:i=V:=by omega
  exact ⟨k,s,hk,uM.aC (zF i 0 (fun _=>default) (fun _=>0) lev v n w i k s h2 hV (by omega) (by omega) hn (by omega) (by simp)) (by simp)⟩
 | j+1,i,k,s,hi,hk=>by
  by_cases hl:lev i>=0
  ·obtain ⟨k',s',h1,h3⟩:=Qn lev v h2 n hn w j (i+1) (k+1) (fun p=>if p<k then s p else i) (by omega) (by omega);refine ⟨k',s',h1,uM.uQ (uR.weaken (zD V 0 (fun _=>default) (fun _=>0) lev v n w i k s h2 hV (by omega) (by omega) hn (by omega) (uK (by omega)) (by simpa using hl)) (uI _) (.cons (uH _) (.cons (uH _) (.cons (uH _) (.cons (uH _) (.cons (uH _) (.cons (uH _) (.cons (uH _) (.cons (uH _) (.cons (uU.arr fun p hp=>?_) .nil)))))))))) h3⟩;simp only [Ar,uJ];split
   ·rfl
   ·obtain rfl:p=k:=by omega
    simp
  ·obtain ⟨k',s',h1,h3⟩:=Qn lev v h2 n hn w j (i+1) k s (by omega) (by omega);exact ⟨k',s',h1,uM.uQ (zE V 0 (fun _=>default) (fun _=>0) lev v n w i k s h2 hV (by omega) (by omega) hn (by omega) (uK (by omega)) (by simpa using hl)) h3⟩
theorem X3 (lev:Nat->Int)(v:Int)(h2:2<=V)(h0:lev 0=0)(n:Nat)(hn:n<=4000)(w:Nat->Int):∃ (k':Nat) (s':Nat->Int),k'<=V/\uT prog fF false (cB (cR (cL (cR (cR (cR (cR (cR (cR (cR (AY prog 62))))))))))) (frame 78 [(2,.ms 7 1 0 n none),(3,.int .i64 v),(4,EV.uS false 0 0 fun _=>[]),(5,.int .i64 0),(61,.ms 6 1 0 V (some V)),(62,.int .i64 V),(63,.int .i64 0)]) [fE.dead,fE.dead,fE.dead,fE.dead,fE.dead,fE.dead,bX V lev,fE.arr false true 1 false n fun i=>[.int .i64 (w i)]] (EX.leave 6,frame 78 [(2,.ms 7 1 0 n none),(3,.int .i64 v),(4,.ms 8 1 0 k' none),(5,.int .i64 0)],[fE.dead,fE.dead,fE.dead,fE.dead,fE.dead,fE.dead,bX V lev,fE.arr false true 1 false n fun i=>[.int .i64 (w i)],fE.arr false true 1 false k' fun i=>[.int .i64 (s' i)]]):=by
 obtain ⟨k',s',h1,h3⟩:=Qn hA hV hN lev v h2 n hn w (V - 1) 1 1 (fun _=>0) (by omega) (by omega);refine ⟨k',s',h1,uM.cl (uM.uQ (uR.weaken (zC V 0 (fun _=>default) (fun _=>0) lev v n w 0 0 (fun _=>0) h2 hV (by omega) (by omega) hn (by omega) (uK (by omega)) (by simp [h0])) (uI _) (.cons (uH _) (.cons (uH _) (.cons (uH _) (.cons (uH _) (.cons (uH _) (.cons (uH _) (.cons (uH _) (.cons (uH _) (.cons (uU.arr fun p hp=>?_) .nil)))))))))) h3) rfl (by kernel_rfl)⟩;obtain rfl:p=0:=by omega
 rfl
theorem X4:∃ (f lev:Nat->Int) (v:Int) (k:Nat) (s:Nat->Int),BestOk V N A f lev v/\k<=V/\
  uY prog fF 62 [.agg (Mw V nn N A)] (.tuple [.uS (decide (0<N)) 1 N fun i=>[.int .i64 (f i)],.int .i64 v,.uS true 1 k fun i=>[.int .i64 (s i)],.int .i64 0]):=by
 have v2:=hA.v2;have hok:SW N A:=fun i hi=>by
  have h1:=hA.src i hi;have h2:=hA.dst i hi;have h3:=hA.ne i hi;exact ⟨(A i).src.toNat,(A i).dst.toNat,by omega,by omega,by omega,by omega,by omega⟩
 have h4:=ADP V nn N A (AAT V nn N A hN hok);have hz:∀ k w,CV A (fun _=>0) k w=0:=fun k w=>by
  induction k with
  | zero=>rfl
  | succ k ih=>rw [CV,ih]; simp
 obtain ⟨f,lev,v,hB,hS⟩:=zI (nn:=nn) hA hV hN (1073741824*N) (fun _=>0) 0 ⟨fun i hi=>⟨Int.le_refl _,(hA.cap i hi).1⟩,fun w _ _=>hz _ _,hz _ _⟩ (by omega) (by omega)
 ·have h7:uT prog fF false (cB (cL (cR (cR (cR (cR (cR (AY prog 62)))))))) (mxT 0) (mxH V nn N A (fun _=>0) [fE.var false true [EV.uS false 0 0 fun _=>[]]]) (EX.leave 0,mxT v,mxH V nn N A f [fE.var false false [.ms 6 1 0 V (some V)],bX V lev]):=by
   refine uM.cl (uM.le (uI _) (.cons (uH _) (.cons (uH _) (.cons (uH _) (.cons (uH _) (.cons (uH _) (.cons ?_ .nil)))))) hS) rfl (by kernel_rfl);exact uU.trans uU.varf (uU.var (.cons bL.undef .nil))
  have hc:=WX (nn:=nn) hA (by omega) (by omega);rcases Nat.eq_zero_or_pos N with hz | hz
  ·obtain ⟨k,s,hk,h21⟩:=X2 hA hV hN lev v v2 hB.lv.zero;refine ⟨f,lev,v,k,s,hB,hk,?_⟩;have h16:=AAY V N A f lev v 0 (fun _=>0) 0 v2 hV hN (by omega) (by omega) (uL (by omega));have hm:=zG V nn N A f lev v 0 (fun _=>0) k s v2 hV hN hc h4 h7 (uM.cl (uM.aC h16 (by simp)) rfl (by kernel_rfl)) h21;subst hz;simp only [uJ] at hm;refine hm.res fun F w mv h=>?_;cases h with
   | tuple cs mcs hl h=>
    refine .tuple _ _ (by simpa using hl) fun i h1 h2=>?_;rcases (by simpa using h1:i<4) |> fun h=>(by omega:i=0∨i=1∨i=2∨i=3) with rfl | rfl | rfl | rfl
    ·have:=h 0 (by simp) h2;simp only [List.getElem_cons_zero] at this ⊢;generalize mcs[0]=mv at this ⊢;cases this;exact .bB _ _
    ·exact h 1 (by simp) h2
    ·exact h 2 (by simp) h2
    ·exact h 3 (by simp) h2
  ·obtain ⟨k,s,hk,h21⟩:=X3 hA hV hN lev v v2 hB.lv.zero N (by omega) f;refine ⟨f,lev,v,k,s,hB,hk,?_⟩;have h16:=uM.uQ (uR.weaken (AAX V N A f lev v 0 (fun _=>0) 0 v2 hV hN (by omega) (by omega) (uK (by omega))) (uI _) (.cons (uH _) (.cons (uH _) (.cons (uH _) (.cons (uH _) (.cons (uH _) (.cons (uH _) (.cons (uH _) (.cons (uU.arr (row':=fun i=>[.int .i64 (f i)]) fun p hp=>by
    obtain rfl:p=0:=by omega
    rfl) .nil))))))))) (Wb hA hV hN f lev v v2 (N - 1) 1 f (by omega) (by omega) fun p hp=>rfl)
   have hm:=zH V nn N A f lev v N f k s v2 hV hN hc h4 h7 (uM.cl h16 rfl (by kernel_rfl)) h21;rw [uK hz];simp only [uJ] at hm;exact hm
end
theorem TH {n k:Nat}(hn:n<8)(hk:k<9):uY prog fF 34 [.int .i64 n,.int .i64 k] (.bool true):=by
 have key:(List.range 8).all (fun n=>(List.range 9).all fun k=>Qb (.bool true) (EY (LG prog fF [] pures news 40) prog fF 100000 34 [.int .i64 (n:Int),.int .i64 (k:Int)] ()))=true:=by kernel_rfl
 exact Eg (T:=[]) trivial (pures:=pures) (news:=news) (n:=40) (fuel:=100000) C1 (by kernel_rfl) (List.all_eq_true.1 (List.all_eq_true.1 key n (List.mem_range.2 hn)) k (List.mem_range.2 hk))
theorem Rel.frzMs {K:KM}{σ:AL}{w:World}(hR:Rel K σ w){r esz len l:Nat}{cap:Option Nat}{ex:Bool}{row:Nat->List EV}(hr:σ[r]? =some (.arr false true esz ex len row)):
  ∃ K',Ext K σ w K' (σ.set r .dead) w/\Rel K' (σ.set r .dead) w/\∀ mv,VR K' w (.ms r esz 0 l cap) mv->VR K' w (.uS true esz l row) mv:=by
 obtain ⟨e1,r1⟩:=hR.freeze hr rfl;have hr1:(σ.set r (Bu (.arr false true esz ex len row)))[r]? =some (.arr true true esz ex len row):=by
  rw [List.getElem?_set_self (List.getElem?_eq_some_iff.1 hr).1]; rfl
 have hlook:FO (fun x=>(σ.set r (Bu (.arr false true esz ex len row)))[x]?) (K.cT (K.vP r)) w:=fun x o ho=>r1.obj x o ho;have hval:∀ mv,VR (K.cT (K.vP r)) w (.ms r esz 0 l cap) mv->VR (K.cT (K.vP r)) w (.uS true esz l row) mv:=by
  intro mv hv;have hp:Bh (fun x=>(σ.set r (Bu (.arr false true esz ex len row)))[x]?) (0+1) (.ms r esz 0 l cap)=some (.uS true esz l fun i=>row (0+i),[r]):=by
   simp only [Bh];rw [hr1];simp
  have:=Iq hlook (fun _ h=>h) (0+1) _ _ _ mv hp hv (fun x hx=>by
   obtain rfl:=List.mem_singleton.1 hx;exact .inr rfl)
  have e:(fun i=>row (0+i))=row:=by funext i; rw [uJ]
  rw [e] at this;exact .pure _ _ this
 obtain ⟨e2,r2⟩:=r1.swap hr1 (o':=.dead) (fun _=>trivial) (fun h=>by cases h) (fun h=>by cases h);rw [List.set_set] at e2 r2;exact ⟨_,e1.trans e2,r2,hval⟩
theorem aU.set {K:KM}{w:World}{t:List EV}{mt:Array Value}(h:aU K w t mt){j:Nat}{v v':EV}(hj:t[j]? =some v)(hv:∀ mv,VR K w v mv->VR K w v' mv):aU K w (t.set j v') mt:=by
 refine ⟨by rw [List.length_set]; exact h.1,fun i h1 h2=>?_⟩;rw [List.length_set] at h1;rw [List.getElem_set];split
 ·rename_i e; subst e;have:=h.2 j h1 h2;rw [(List.getElem?_eq_some_iff.1 hj).2] at this;exact hv _ this
 ·exact h.2 i h1 h2
section
variable {P:Program}{G:Nat->Option (List EV)}{rnd:Bool}{c:Code}
theorem aJ.post {K:KM}{σ:AL}{w:World}{ds:List Deferred}{t1 t2:List EV}{s1 s2:AL}{ex:EX}(hp:∀ K w mt,Rel K s1 w->aU K w t1 mt->∃ K',Ext K s1 w K' s2 w/\Rel K' s2 w/\aU K' w t2 mt){e:Exit}{a':Act}{w':World}(hq:aJ K σ w ds (ex,t1,s1) e a' w'):aJ K σ w ds (ex,t2,s2) e a' w':=by
 have main:(∃ K' bs,Ext K σ w K' s1 w'/\Rel K' s1 w'/\aU K' w' t1 a'.tmps/\Marks K' s1 w w' ds a'.defers bs)->∃ K' bs,Ext K σ w K' s2 w'/\Rel K' s2 w'/\aU K' w' t2 a'.tmps/\Marks K' s2 w w' ds a'.defers bs:=by
  rintro ⟨K',bs,h1,h2,h3,h4⟩
  obtain ⟨K2,g1,g2,g3⟩:=hp K' w' a'.tmps h2 h3;exact ⟨K2,[]++bs,h1.trans g1,g2,g3,Marks.trans h1.size g1 h4 Marks.none⟩
 cases e with
 | outgrown=>exact hq.elim
 | normal=>exact ⟨hq.1,main hq.2⟩
 | exit i=>exact ⟨hq.1,main hq.2⟩
 | goto l=>exact ⟨hq.1,main hq.2⟩
 | ret=>exact ⟨hq.1,main hq.2⟩
 | panic c=>exact ⟨hq.1,main hq.2⟩
theorem aE.post {t t1 t2:List EV}{σ s1 s2:AL}{ex:EX}(h:aE P G rnd c t σ (ex,t1,s1))(hp:∀ K w mt,Rel K s1 w->aU K w t1 mt->∃ K',Ext K s1 w K' s2 w/\Rel K' s2 w/\aU K' w t2 mt):aE P G rnd c t σ (ex,t2,s2):=
 fun ro K w a hro hR hG hv=>wpIn_mono (h ro K w a hro hR hG hv) fun e a' w' hq=>hq.post hp
theorem uT.post {t t1 t2:List EV}{σ s1 s2:AL}{ex:EX}(h:uT P G rnd c t σ (ex,t1,s1))(hp:∀ K w mt,Rel K s1 w->aU K w t1 mt->∃ K',Ext K s1 w K' s2 w/\Rel K' s2 w/\aU K' w t2 mt):uT P G rnd c t σ (ex,t2,s2):=
 ⟨h.1.post hp,fun b hb ro K w a hro hR hG hv=>Hh (h.2 b hb ro K w a hro hR hG hv) fun e a' w' hq=>hq.post hp⟩
theorem X5 {t1:List EV}{s1:AL}{r esz len l j:Nat}{cap:Option Nat}{ex:Bool}{row:Nat->List EV}(hr:s1[r]? =some (.arr false true esz ex len row))(hj:t1[j]? =some (.ms r esz 0 l cap)):
  ∀ K w mt,Rel K s1 w->aU K w t1 mt->∃ K',Ext K s1 w K' (s1.set r .dead) w/\Rel K' (s1.set r .dead) w/\aU K' w (t1.set j (.uS true esz l row)) mt:=by
 intro K w mt hR hv;obtain ⟨K',e,r',hval⟩:=hR.frzMs (l:=l) (cap:=cap) hr;exact ⟨K',e,r',(hv.ext e hR).set hj hval⟩
theorem NF {t1:List EV}{s1:AL}{r q esz len l j:Nat}{cap:Option Nat}{ex pf:Bool}{row:Nat->List EV}{cells:List EV}(hr:s1[r]? =some (.arr false true esz ex len row))(hq:s1[q]? =some (.var false pf cells))(hrq:r≠q)(hj:cells[j]? =some (.ms r esz 0 l cap)):
  ∀ K w mt,Rel K s1 w->aU K w t1 mt->∃ K',Ext K s1 w K' ((s1.set r .dead).set q (.var false false (cells.set j (.uS true esz l row)))) w/\Rel K' ((s1.set r .dead).set q (.var false false (cells.set j (.uS true esz l row)))) w/\aU K' w t1 mt:=by
 intro K w mt hR hv;obtain ⟨K',e,r',hval⟩:=hR.frzMs (l:=l) (cap:=cap) hr;have hq':(s1.set r .dead)[q]? =some (.var false pf cells):=by rw [List.getElem?_set_ne hrq]; exact hq
 obtain ⟨e2,r2⟩:=r'.swap hq' (o':=.var false false (cells.set j (.uS true esz l row))) (fun ho=>by
  obtain ⟨ha,h0,cc,e',h1,h2,h3,h4,h5,h6,h7⟩:=ho;refine ⟨ha,h0,cc,e',h1,by rw [List.length_set]; exact h2,h3,h4,(fun h=>by cases h),fun i a b=>?_,(fun h=>by cases h)⟩;rw [List.length_set] at a;rw [List.getElem_set];split
  ·rename_i e; subst e;have:=h6 j a b;rw [(List.getElem?_eq_some_iff.1 hj).2] at this;exact hval _ this
  ·exact h6 i a b) (fun _=>rfl) (fun _=>rfl)
 exact ⟨K',e.trans e2,r2,(hv.ext e hR).ext e2 r'⟩
end
def BV {α:Type}(φ:α->Int):List α->Int
 | []=>0
 | x :: l=>φ x+BV φ l
theorem EZ {α:Type}{φ:α->Int}:∀ (l l':List α),BV φ (l++l')=BV φ l+BV φ l'
 | [],l'=>by simp [BV]
 | x :: l,l'=>by rw [List.cons_append,BV,BV,EZ l l']; omega
theorem DI {α:Type}{φ ψ:α->Int}:∀ {l:List α},(∀ x,x∈l->φ x=ψ x)->BV φ l=BV ψ l
 | [],_=>rfl
 | x :: l,h=>by rw [BV,BV,h x List.mem_cons_self,DI fun y hy=>h y (List.mem_cons_of_mem _ hy)]
theorem Qo {α:Type}{φ ψ:α->Int}:∀ {l:List α},(∀ x,x∈l->φ x<=ψ x)->BV φ l<=BV ψ l
 | [],_=>Int.le_refl _
 | x :: l,h=>by
  have h1:=h x List.mem_cons_self;have h2:=Qo fun y hy=>h y (List.mem_cons_of_mem _ hy);rw [BV,BV]; omega
theorem RT {α:Type}{φ ψ:α->Int}:∀ (l:List α),BV (fun x=>φ x+ψ x) l=BV φ l+BV ψ l
 | []=>rfl
 | x :: l=>by rw [BV,BV,BV,RT l]; omega
theorem Jf {α:Type}{φ:α->Int}:∀ {l:List α},(∀ x,x∈l->φ x=0)->BV φ l=0
 | [],_=>rfl
 | x :: l,h=>by rw [BV,h x List.mem_cons_self,Jf fun y hy=>h y (List.mem_cons_of_mem _ hy)]; rfl
theorem N9 {α:Type}{φ:α->Int}{c:Int}:∀ {l:List α},(∀ x,x∈l->φ x=c)->BV φ l=c*l.length
 | [],_=>by simp [BV]
 | x :: l,h=>by
  rw [BV,h x List.mem_cons_self,N9 fun y hy=>h y (List.mem_cons_of_mem _ hy),List.length_cons,Int.natCast_add,Int.mul_add];omega
theorem HQ {α:Type}{φ:α->Int}{c:α->Bool}:∀ (l:List α),BV φ (l.filter c)=BV (fun x=>if c x then φ x else 0) l
 | []=>rfl
 | x :: l=>by
  rw [List.filter_cons,BV];split
  ·rw [BV,HQ l]
  ·rw [HQ l]; omega
section
variable {V N:Nat}{A:Nat->uN}(hA:Arcs V N A)
include hA
theorem MaxOk.pre {f g:Nat->Int}{lev:Nat->Int}(hl:dH V N A f lev)(hc:Em N A f)(hn:∀ w,0<w->w<V - 1->CV A f N w=0)(hs:lev (V - 1)<0)(hg:Em N A g):
  ((∀ w,0<w->w<V - 1->CV A g N w<=0)->- CV A g N (V - 1)<=CV A f N 0)/\((∀ w,0<w->w<V - 1->0<=CV A g N w)->CV A g N 0<=CV A f N 0):=by
 have v2:=hA.v2;have h0:decide (0<=lev 0)=true:=by rw [hl.zero]; rfl
 have hle:=SY (X:=fun v=>decide (0<=lev v)) hc hg (PA hA hl hc hs) N (Nat.le_refl _);have e1:CV A f N 0=N5 (fun v=>decide (0<=lev v)) A f N:=by
  rw [<-HA hA N (Nat.le_refl _),IQ h0 V (by omega)];intro w h1 h2 h3;have h3:=of_decide_eq_true h3;exact hn w h1 (by
   rcases Nat.lt_or_ge w (V - 1) with h | h
   ·exact h
   ·obtain rfl:w=V - 1:=by omega
    omega)
 rw [e1];refine ⟨fun hp=>?_,fun hp=>?_⟩
 ·
  have e2:=N4 (X:=fun v=>decide (0<=lev v)) (φ:=CV A g N) V;have e3:EW (fun _=>true) (CV A g N) V=0:=by
   rw [HA hA N (Nat.le_refl _)];exact N6 N
  rw [HA hA N (Nat.le_refl _)] at e2;have e4:EW (fun v=>!decide (0<=lev v)) (CV A g N) V<=CV A g N (V - 1):=by
   obtain ⟨k,rfl⟩:∃ k,V=k+1:=⟨V - 1,by omega⟩
   rw [EW];have:(!decide (0<=lev k))=true:=by
    have hs':lev k<0:=hs;simp; omega
   rw [if_pos this];have:=Md (X:=fun v=>!decide (0<=lev v)) (φ:=CV A g N) k fun w hw hx=>hp w (by
    rcases Nat.eq_zero_or_pos w with h | h
    ·subst h; rw [h0] at hx; cases hx
    ·exact h) (by omega)
   simp only [Nat.add_sub_cancel];omega
  omega
 ·have e2:CV A g N 0<=EW (fun v=>decide (0<=lev v)) (CV A g N) V:=by
   refine LO h0 V (by omega) fun w h1 h2 h3=>?_;have h3:=of_decide_eq_true h3;exact hp w h1 (by
    rcases Nat.lt_or_ge w (V - 1) with h | h
    ·exact h
    ·obtain rfl:w=V - 1:=by omega
     omega)
  rw [HA hA N (Nat.le_refl _)] at e2;omega
end
def Bd (F:Nat->Int):Nat->Int
 | 0=>0
 | k+1=>Bd F k+F k
theorem D8 {F G:Nat->Int}:∀ {k:Nat},(∀ j,j<k->F j=G j)->Bd F k=Bd G k
 | 0,_=>rfl
 | k+1,h=>by rw [Bd,Bd,D8 (k:=k) fun j hj=>h j (by omega),h k (by omega)]
theorem LQ {F G:Nat->Int}:∀ {k:Nat},(∀ j,j<k->F j<=G j)->Bd F k<=Bd G k
 | 0,_=>Int.le_refl _
 | k+1,h=>by
  have:=LQ (k:=k) fun j hj=>h j (by omega);have:=h k (by omega);rw [Bd,Bd]; omega
theorem OA {F:Nat->Int}:∀ k:Nat,Bd (fun j=>- F j) k= - Bd F k
 | 0=>rfl
 | k+1=>by rw [Bd,Bd,OA k]; omega
theorem FZ {F:Nat->Int}:∀ {k:Nat},(∀ j,j<k->F j=0)->Bd F k=0
 | 0,_=>rfl
 | k+1,h=>by rw [Bd,FZ (k:=k) fun j hj=>h j (by omega),h k (by omega)]; rfl
theorem OB {F:Nat->Int}{i:Nat}:∀ k:Nat,Bd (fun j=>if j=i then F j else 0) k=if i<k then F i else 0
 | 0=>by simp [Bd]
 | k+1=>by
  rw [Bd,OB k];by_cases h:k=i
  ·subst h; rw [if_neg (by omega),if_pos rfl,if_pos (by omega)]; omega
  ·rw [if_neg h];by_cases h2:i<k
   ·rw [if_pos h2,if_pos (by omega)]; omega
   ·rw [if_neg h2,if_neg (by omega)]; rfl
theorem Ke {F G:Nat->Int}:∀ {k:Nat},(∀ j,j<k->F j<=G j)->Bd G k<=Bd F k->∀ j,j<k->F j=G j
 | 0,_,_,j,h=>by omega
 | k+1,h,hs,j,hj=>by
  have h1:=LQ (k:=k) fun j hj=>h j (by omega);have h2:=h k (by omega);rw [Bd,Bd] at hs;rcases Nat.lt_or_ge j k with hk | hk
  ·exact Ke (k:=k) (fun j hj=>h j (by omega)) (by omega) j hk
  ·obtain rfl:j=k:=by omega
   omega
theorem PU {α:Type}{φ:α->Int}{d:α}:∀ (l:List α),BV φ l=Bd (fun j=>φ (l.getD j d)) l.length
 | l=>by
  have:∀ k,k<=l.length->BV φ (l.take k)=Bd (fun j=>φ (l.getD j d)) k:=by
   intro k;induction k with
   | zero=>intro _; simp [BV,Bd]
   | succ k ih=>
    intro hk;rw [List.take_add_one,EZ,ih (by omega),Bd,uD (by omega),uA,uD (by omega)];simp [BV]
  have h:=this l.length (Nat.le_refl _)
  rwa [List.take_length] at h
inductive Tag where
 | src (j:Nat)
 | toA (j:Nat)
 | toB (j:Nat)
 | out (c:Nat)
 deriving DecidableEq,Inhabited
section
variable (ct:Nat->Bool)(pr:Nat->Nat×Nat)
def Ih (j:Nat):List Tag:=.src j :: ((if ct (pr j).1 then [.toA j] else [])++if ct (pr j).2 then [.toB j] else [])
def CD:Nat->List Tag
 | 0=>[]
 | j+1=>CD j++Ih ct pr j
def GH:Nat->List Tag
 | 0=>[]
 | c+1=>GH c++if ct c then [.out c] else []
def Cp (K n:Nat)(half most:Nat->Int):Tag->uN
 | .src j=>⟨0,1+j,half j⟩
 | .toA j=>⟨1+j,1+K+(pr j).1,half j⟩
 | .toB j=>⟨1+j,1+K+(pr j).2,half j⟩
 | .out c=>⟨1+K+c,1+K+n,most c⟩
def tags (K n:Nat):List Tag:=CD ct pr K++GH ct n
end
section
variable {ct:Nat->Bool}{pr:Nat->Nat×Nat}
theorem Hw {φ:Tag->Int}:∀ k,BV φ (CD ct pr k)=Bd (fun j=>φ (.src j)+((if ct (pr j).1 then φ (.toA j) else 0)+if ct (pr j).2 then φ (.toB j) else 0)) k
 | 0=>rfl
 | k+1=>by
  rw [CD,EZ,Hw k,Bd,Ih,BV,EZ];split<;>split<;>simp [BV]
theorem Hx {φ:Tag->Int}:∀ k,BV φ (GH ct k)=Bd (fun c=>if ct c then φ (.out c) else 0) k
 | 0=>rfl
 | k+1=>by
  rw [GH,EZ,Hx k,Bd];split<;>simp [BV]
theorem Dn {t:Tag}:∀ {k:Nat},t∈CD ct pr k↔∃ j,j<k/\(t=.src j∨(t=.toA j/\ct (pr j).1=true)∨(t=.toB j/\ct (pr j).2=true))
 | 0=>by simp [CD]
 | k+1=>by
  rw [CD,List.mem_append,Dn (k:=k),Ih,List.mem_cons,List.mem_append];constructor
  ·rintro (⟨j,h1,h2⟩ | h | h | h)
   ·exact ⟨j,by omega,h2⟩
   ·exact ⟨k,by omega,.inl h⟩
   ·split at h
    ·exact ⟨k,by omega,.inr (.inl ⟨by simpa using h,by assumption⟩)⟩
    ·cases h
   ·split at h
    ·exact ⟨k,by omega,.inr (.inr ⟨by simpa using h,by assumption⟩)⟩
    ·cases h
  ·rintro ⟨j,h1,h2⟩
   rcases Nat.lt_or_ge j k with h | h
   ·exact .inl ⟨j,h,h2⟩
   ·obtain rfl:j=k:=by omega
    right;rcases h2 with h2 | ⟨h2,h3⟩ | ⟨h2,h3⟩
    ·exact .inl h2
    ·exact .inr (.inl (by rw [if_pos h3]; simp [h2]))
    ·exact .inr (.inr (by rw [if_pos h3]; simp [h2]))
theorem Fa {t:Tag}:∀ {k:Nat},t∈GH ct k↔∃ c,c<k/\t=.out c/\ct c=true
 | 0=>by simp [GH]
 | k+1=>by
  rw [GH,List.mem_append,Fa (k:=k)];constructor
  ·rintro (⟨c,h1,h2⟩ | h)
   ·exact ⟨c,by omega,h2⟩
   ·split at h
    ·exact ⟨k,by omega,by simpa using h,by assumption⟩
    ·cases h
  ·rintro ⟨c,h1,h2,h3⟩
   rcases Nat.lt_or_ge c k with h | h
   ·exact .inl ⟨c,h,h2,h3⟩
   ·obtain rfl:c=k:=by omega
    exact .inr (by rw [if_pos h3]; simp [h2])
theorem Me:∀ k,(CD ct pr k).Nodup
 | 0=>by simp [CD]
 | k+1=>by
  rw [CD,List.nodup_append];refine ⟨Me k,?_,fun a ha b hb=>?_⟩
  ·rw [Ih]; split<;>split<;>simp
  ·obtain ⟨j,hj,h⟩:=Dn.1 ha
   rintro rfl
   have hb':a=.src k∨a=.toA k∨a=.toB k:=by
    rw [Ih] at hb;split at hb<;>split at hb<;>simp at hb<;>first | exact hb | exact hb.imp id .inl | exact hb.imp id .inr | exact .inl hb
   rcases h with rfl | ⟨rfl,_⟩ | ⟨rfl,_⟩<;>rcases hb' with h | h | h<;>first | (cases h; done) | (injection h; omega)
theorem Mf:∀ k,(GH ct k).Nodup
 | 0=>by simp [GH]
 | k+1=>by
  rw [GH,List.nodup_append];refine ⟨Mf k,by split<;>simp,fun a ha b hb=>?_⟩;obtain ⟨j,hj,rfl,_⟩:=Fa.1 ha;split at hb
  ·rintro rfl; simp at hb; omega
  ·cases hb
theorem Kf (K n:Nat):(tags ct pr K n).Nodup:=by
 rw [tags,List.nodup_append];refine ⟨Me K,Mf n,fun a ha b hb=>?_⟩;obtain ⟨j,hj,h⟩:=Dn.1 ha;obtain ⟨c,hc,rfl,_⟩:=Fa.1 hb;rcases h with rfl | ⟨rfl,_⟩ | ⟨rfl,_⟩<;>simp
def ind (a:Int)(w:Nat):Int:=if a=w then 1 else 0
theorem Jg {a:Int}{w:Nat}(h:a=w):ind a w=1:=if_pos h
theorem C2 {a:Int}{w:Nat}(h:¬ a=w):ind a w=0:=if_neg h
def nv (A:Tag->uN)(T:List Tag)(φ:Tag->Int)(w:Nat):Int:=BV (fun t=>φ t*(ind (A t).src w - ind (A t).dst w)) T
theorem PV {A:Tag->uN}{T:List Tag}{φ:Tag->Int}{f:Nat->Int}{B:Nat->uN}{w:Nat}(hB:∀ i,i<T.length->B i=A (T.getD i default))(hf:∀ i,i<T.length->f i=φ (T.getD i default)):CV B f T.length w=nv A T φ w:=by
 rw [nv,PU (d:=default)];have:∀ k,k<=T.length->CV B f k w=Bd (fun j=>φ (T.getD j default)*(ind (A (T.getD j default)).src w - ind (A (T.getD j default)).dst w)) k:=by
  intro k;induction k with
  | zero=>intro _; rfl
  | succ k ih=>intro hk; rw [CV,ih (by omega),Bd,hB k (by omega),hf k (by omega)]; rfl
 exact this _ (Nat.le_refl _)
theorem PW {T:List Tag}(hT:T.Nodup)(f:Nat->Int):∃ φ:Tag->Int,∀ i,i<T.length->f i=φ (T.getD i default):=by
 refine ⟨fun t=>f (T.idxOf t),fun i hi=>?_⟩;simp only [uA,uD hi,Option.getD_some];rw [List.Nodup.idxOf_getElem hT i hi]
variable {K n:Nat}{half most:Nat->Int}(hp:∀ j,j<K->(pr j).1<n/\(pr j).2<n)
include hp
theorem TI {φ:Tag->Int}:nv (Cp pr K n half most) (tags ct pr K n) φ 0=Bd (fun j=>φ (.src j)) K:=by
 rw [nv,tags,EZ,Hw,Hx,FZ (k:=n),Int.add_zero]
 ·refine D8 fun j hj=>?_;simp only [Cp];rw [Jg (show (0:Int)=((0:Nat):Int) from rfl),C2 (show ¬ ((1:Int)+j=((0:Nat):Int)) by omega),C2 (show ¬ ((1:Int)+K+((pr j).1:Nat)=((0:Nat):Int)) by omega),C2 (show ¬ ((1:Int)+K+((pr j).2:Nat)=((0:Nat):Int)) by omega)];split<;>split<;>omega
 ·intro c hc;simp only [Cp];rw [C2 (show ¬ ((1:Int)+K+c=((0:Nat):Int)) by omega),C2 (show ¬ ((1:Int)+K+n=((0:Nat):Int)) by omega)];split<;>omega
theorem NH {φ:Tag->Int}{i:Nat}(hi:i<K):nv (Cp pr K n half most) (tags ct pr K n) φ (1+i)=(if ct (pr i).1 then φ (.toA i) else 0)+(if ct (pr i).2 then φ (.toB i) else 0) - φ (.src i):=by
 rw [nv,tags,EZ,Hw,Hx,FZ (k:=n),Int.add_zero]
 ·have:∀ j,j<K->(φ (.src j)*(ind (Cp pr K n half most (.src j)).src (1+i) - ind (Cp pr K n half most (.src j)).dst (1+i))+
    ((if ct (pr j).1=true then φ (.toA j)*(ind (Cp pr K n half most (.toA j)).src (1+i) - ind (Cp pr K n half most (.toA j)).dst (1+i)) else 0)+
    if ct (pr j).2=true then φ (.toB j)*(ind (Cp pr K n half most (.toB j)).src (1+i) - ind (Cp pr K n half most (.toB j)).dst (1+i)) else 0))=
    if j=i then ((if ct (pr j).1 then φ (.toA j) else 0)+(if ct (pr j).2 then φ (.toB j) else 0) - φ (.src j)) else 0:=by
   intro j hj;simp only [Cp];rw [C2 (show ¬ (0:Int)=((1+i:Nat):Int) by omega),C2 (show ¬ (1:Int)+K+((pr j).1:Nat)=((1+i:Nat):Int) by omega),C2 (show ¬ (1:Int)+K+((pr j).2:Nat)=((1+i:Nat):Int) by omega)];by_cases h:j=i
   ·subst h;rw [Jg (show (1:Int)+j=((1+j:Nat):Int) by omega),if_pos rfl];split<;>split<;>omega
   ·rw [C2 (show ¬ (1:Int)+j=((1+i:Nat):Int) by omega),if_neg h];split<;>split<;>omega
  rw [D8 this,OB,if_pos hi]
 ·intro c hc;simp only [Cp];rw [C2 (show ¬ ((1:Int)+K+c=((1+i:Nat):Int)) by omega),C2 (show ¬ ((1:Int)+K+n=((1+i:Nat):Int)) by omega)];split<;>omega
def inC (ct:Nat->Bool)(pr:Nat->Nat×Nat)(K:Nat)(φ:Tag->Int)(c:Nat):Int:=Bd (fun j=>(if ct (pr j).1/\(pr j).1=c then φ (.toA j) else 0)+if ct (pr j).2/\(pr j).2=c then φ (.toB j) else 0) K
theorem NI {φ:Tag->Int}{c:Nat}(hc:c<n):nv (Cp pr K n half most) (tags ct pr K n) φ (1+K+c)=(if ct c then φ (.out c) else 0) - inC ct pr K φ c:=by
 rw [nv,tags,EZ,Hw,Hx,Int.sub_eq_add_neg,Int.add_comm,inC,<-OA]
 congr 1
 ·have:∀ x,x<n->(if ct x=true then φ (.out x)*(ind (Cp pr K n half most (.out x)).src (1+K+c) - ind (Cp pr K n half most (.out x)).dst (1+K+c)) else 0)=if x=c then (if ct x=true then φ (.out x) else 0) else 0:=by
   intro x hx;simp only [Cp];rw [C2 (show ¬ (1:Int)+K+n=((1+K+c:Nat):Int) by omega)];by_cases h:x=c
   ·subst h;rw [Jg (show (1:Int)+K+x=((1+K+x:Nat):Int) by omega),if_pos rfl];split<;>omega
   ·rw [C2 (show ¬ (1:Int)+K+x=((1+K+c:Nat):Int) by omega),if_neg h];split<;>omega
  rw [D8 this,OB,if_pos hc]
 ·refine D8 fun j hj=>?_;simp only [Cp];rw [C2 (show ¬ (0:Int)=((1+K+c:Nat):Int) by omega),C2 (show ¬ (1:Int)+j=((1+K+c:Nat):Int) by omega)];have e1:ind ((1:Int)+K+((pr j).1:Nat)) (1+K+c)=if (pr j).1=c then 1 else 0:=by
   by_cases h:(pr j).1=c
   ·rw [Jg (by omega),if_pos h]
   ·rw [C2 (by omega),if_neg h]
  have e2:ind ((1:Int)+K+((pr j).2:Nat)) (1+K+c)=if (pr j).2=c then 1 else 0:=by
   by_cases h:(pr j).2=c
   ·rw [Jg (by omega),if_pos h]
   ·rw [C2 (by omega),if_neg h]
  have k1:(if ct (pr j).1=true then φ (.toA j)*(0 - if (pr j).1=c then 1 else 0) else 0)= -(if ct (pr j).1=true/\(pr j).1=c then φ (.toA j) else 0):=by
   by_cases h3:(pr j).1=c<;>simp [h3]; split<;>rfl
  have k2:(if ct (pr j).2=true then φ (.toB j)*(0 - if (pr j).2=c then 1 else 0) else 0)= -(if ct (pr j).2=true/\(pr j).2=c then φ (.toB j) else 0):=by
   by_cases h3:(pr j).2=c<;>simp [h3]; split<;>rfl
  rw [e1,e2,k1,k2];omega
theorem TJ {φ:Tag->Int}:nv (Cp pr K n half most) (tags ct pr K n) φ (1+K+n)= - Bd (fun c=>if ct c then φ (.out c) else 0) n:=by
 rw [nv,tags,EZ,Hw,Hx,FZ (k:=K),Int.zero_add,<-OA]
 ·refine D8 fun c hc=>?_;simp only [Cp];rw [C2 (show ¬ ((1:Int)+K+c=((1+K+n:Nat):Int)) by omega),Jg (show ((1:Int)+K+n=((1+K+n:Nat):Int)) by omega)];split<;>omega
 ·intro j hj;have:=hp j hj;simp only [Cp];rw [C2 (show ¬ (0:Int)=((1+K+n:Nat):Int) by omega),C2 (show ¬ (1:Int)+j=((1+K+n:Nat):Int) by omega),C2 (show ¬ (1:Int)+K+((pr j).1:Nat)=((1+K+n:Nat):Int) by omega),C2 (show ¬ (1:Int)+K+((pr j).2:Nat)=((1+K+n:Nat):Int) by omega)];split<;>split<;>omega
theorem Ur (hn:∀ j,j<K->(pr j).1≠(pr j).2)(hh:∀ j,j<K->0<=half j/\half j<=1073741824)(hm:∀ c,c<n->ct c=true->0<=most c/\most c<=1073741824):
  Arcs (1+K+n+1) (tags ct pr K n).length fun i=>Cp pr K n half most ((tags ct pr K n).getD i default):=by
 have key:∀ i,i<(tags ct pr K n).length->(∃ j,j<K/\((tags ct pr K n).getD i default=.src j∨(tags ct pr K n).getD i default=.toA j∨(tags ct pr K n).getD i default=.toB j))∨∃ c,c<n/\(tags ct pr K n).getD i default=.out c/\ct c=true:=by
  intro i hi;have hm:(tags ct pr K n).getD i default∈tags ct pr K n:=by rw [uA,uD hi]; exact List.getElem_mem _
  rcases List.mem_append.1 hm with h | h
  ·obtain ⟨j,h1,h2⟩:=Dn.1 h;exact .inl ⟨j,h1,Or.imp id (Or.imp And.left And.left) h2⟩
  ·obtain ⟨c,h1,h2,h3⟩:=Fa.1 h;exact .inr ⟨c,h1,h2,h3⟩
 refine ⟨by omega,fun i hi=>?_,fun i hi=>?_,fun i hi=>?_,fun i hi=>?_⟩
 all_goals
  rcases key i hi with ⟨j,hj,h | h | h⟩ | ⟨c,hc,h,h'⟩
  all_goals
   rw [h];simp only [Cp]
   first
    | (have:=hp j hj; have:=hh j hj; omega)
    | (have:=hm c hc h'; omega)
end
theorem Wc {φ:Nat->Int}:∀ V:Nat,2<=V->(∀ w,0<w->w<V - 1->φ w=0)->EW (fun _=>true) φ V=φ 0+φ (V - 1)
 | V+1,h,hz=>by
  rw [EW,IQ (X:=fun _=>true) rfl V (by omega) fun w h1 h2 _=>hz w h1 (by omega)];simp
theorem Wd {V N:Nat}{A:Nat->uN}(hA:Arcs V N A){f:Nat->Int}(hn:∀ w,0<w->w<V - 1->CV A f N w=0):CV A f N 0= - CV A f N (V - 1):=by
 have h:=Wc V hA.v2 hn;rw [HA hA N (Nat.le_refl _),N6] at h;omega
theorem Us {α:Type}[DecidableEq α]{l:List α}(h:l.Nodup){j:Nat}(hj:j<l.length){d:α}:l.idxOf (l.getD j d)=j:=by
 rw [uA,uD hj,Option.getD_some,List.Nodup.idxOf_getElem h j hj]
theorem D9 {α:Type}{l:List α}{j:Nat}(hj:j<l.length){d:α}:l.getD j d∈l:=by
 rw [uA,uD hj]; exact List.getElem_mem _
def Cx (all hf:Nat×Nat->Int)(c:Nat)(p:Nat×Nat):Int:=(if p.1=c then hf p else 0)+if p.2=c then all p - hf p else 0
def hwP (ps:List (Nat×Nat))(all hf:Nat×Nat->Int)(c:Nat):Int:=BV (Cx all hf c) ps
abbrev uP (fl:List (Nat×Nat)):Nat->Nat×Nat:=fun j=>fl.getD j (0,0)
abbrev HB (ct:Nat->Bool)(fl:List (Nat×Nat))(n:Nat)(all:Nat×Nat->Int)(most:Nat->Int):Nat->uN:=fun i=>Cp (uP fl) fl.length n (fun j=>all (uP fl j)) most ((tags ct (uP fl) fl.length n).getD i default)
abbrev GA (ct:Nat->Bool)(fl:List (Nat×Nat))(n:Nat):Nat:=(tags ct (uP fl) fl.length n).length
abbrev KL (fl:List (Nat×Nat))(n:Nat):Nat:=1+fl.length+n+1
structure RaceG (n own:Nat) (ps:List (Nat×Nat)) (all:Nat×Nat->Int):Prop where
 own:own<n
 nd:ps.Nodup
 lt:∀ p,p∈ps->p.1<p.2/\p.2<n
 all:∀ p,p∈ps->0<=all p/\all p<=100000
section
variable {n own:Nat}{ps:List (Nat×Nat)}{all:Nat×Nat->Int}(hR:RaceG n own ps all){ct:Nat->Bool}{most:Nat->Int}{met:Nat×Nat->Bool}
include hR
theorem Ib {j:Nat}(hj:j<(ps.filter met).length):(uP (ps.filter met) j).1<(uP (ps.filter met) j).2/\(uP (ps.filter met) j).2<n/\uP (ps.filter met) j∈ps/\met (uP (ps.filter met) j)=true:=by
 have hm:=D9 (d:=((0:Nat),(0:Nat))) hj;have h:=List.mem_filter.1 hm;have:=hR.lt _ h.1;exact ⟨this.1,this.2,h.1,h.2⟩
theorem HC (hm:∀ c,c<n->ct c=true->0<=most c/\most c<=1073741824):Arcs (KL (ps.filter met) n) (GA ct (ps.filter met) n) (HB ct (ps.filter met) n all most):=by
 refine Ur (fun j hj=>?_) (fun j hj=>?_) (fun j hj=>?_) hm
 ·obtain ⟨h1,h2,_⟩:=Ib hR hj; omega
 ·obtain ⟨h1,h2,_⟩:=Ib hR hj; omega
 ·obtain ⟨_,_,h,_⟩:=Ib hR hj;have:=hR.all _ h;exact ⟨this.1,by omega⟩
theorem OC {hf:Nat×Nat->Int}{c:Nat}:Bd (fun j=>Cx all hf c (uP (ps.filter met) j)) (ps.filter met).length=BV (fun p=>if met p then Cx all hf c p else 0) ps:=by
 rw [<-HQ,<-PU (φ:=Cx all hf c) (d:=(0,0)) (ps.filter met)]
section
variable {φ:Tag->Int}{f:Nat->Int}(hf:∀ i,i<GA ct (ps.filter met) n->f i=φ ((tags ct (uP (ps.filter met)) (ps.filter met).length n).getD i default))
 (hc:Em (GA ct (ps.filter met) n) (HB ct (ps.filter met) n all most) f)
include hf
theorem We (w:Nat):CV (HB ct (ps.filter met) n all most) f (GA ct (ps.filter met) n) w=nv (Cp (uP (ps.filter met)) (ps.filter met).length n (fun j=>all (uP (ps.filter met) j)) most) (tags ct (uP (ps.filter met)) (ps.filter met).length n) φ w:=
 PV (fun _ _=>rfl) hf
include hc
theorem Qp {t:Tag}(ht:t∈tags ct (uP (ps.filter met)) (ps.filter met).length n):0<=φ t/\φ t<=(Cp (uP (ps.filter met)) (ps.filter met).length n (fun j=>all (uP (ps.filter met) j)) most t).cap:=by
 obtain ⟨i,hi,e⟩:=List.getElem_of_mem ht;have h1:=hf i hi;have h2:=hc i hi;rw [h1] at h2;simp only [HB,uA,uD hi,Option.getD_some,e] at h2;exact h2
theorem TK {j:Nat}(hj:j<(ps.filter met).length):0<=φ (.src j)/\φ (.src j)<=all (uP (ps.filter met) j):=
 Qp hR hf hc (t:=.src j) (List.mem_append_left _ (Dn.2 ⟨j,hj,.inl rfl⟩))
theorem TL {j:Nat}(hj:j<(ps.filter met).length)(h:ct (uP (ps.filter met) j).1=true):0<=φ (.toA j)/\φ (.toA j)<=all (uP (ps.filter met) j):=
 Qp hR hf hc (t:=.toA j) (List.mem_append_left _ (Dn.2 ⟨j,hj,.inr (.inl ⟨rfl,h⟩)⟩))
theorem TM {j:Nat}(hj:j<(ps.filter met).length)(h:ct (uP (ps.filter met) j).2=true):0<=φ (.toB j)/\φ (.toB j)<=all (uP (ps.filter met) j):=
 Qp hR hf hc (t:=.toB j) (List.mem_append_left _ (Dn.2 ⟨j,hj,.inr (.inr ⟨rfl,h⟩)⟩))
theorem TN {c:Nat}(hj:c<n)(h:ct c=true):0<=φ (.out c)/\φ (.out c)<=most c:=
 Qp hR hf hc (t:=.out c) (List.mem_append_right _ (Fa.2 ⟨c,hj,rfl,h⟩))
end
def GB (fl:List (Nat×Nat))(all hf:Nat×Nat->Int)(most:Nat->Int):Tag->Int
 | .src j=>all (uP fl j)
 | .toA j=>hf (uP fl j)
 | .toB j=>all (uP fl j) - hf (uP fl j)
 | .out c=>most c
abbrev Wf (ct:Nat->Bool)(fl:List (Nat×Nat))(n:Nat)(all hf:Nat×Nat->Int)(most:Nat->Int):Nat->Int:=fun i=>GB fl all hf most ((tags ct (uP fl) fl.length n).getD i default)
theorem PX {hf:Nat×Nat->Int}(hh:∀ p,p∈ps->0<=hf p/\hf p<=all p)(hm:∀ c,c<n->ct c=true->0<=most c):Em (GA ct (ps.filter met) n) (HB ct (ps.filter met) n all most) (Wf ct (ps.filter met) n all hf most):=by
 intro i hi;have ht:=D9 (d:=(default:Tag)) hi;simp only [HB,Wf];generalize (tags ct (uP (ps.filter met)) (ps.filter met).length n).getD i default=t at ht ⊢;rcases List.mem_append.1 ht with h | h
 ·obtain ⟨j,hj,h⟩:=Dn.1 h;obtain ⟨_,_,hp,_⟩:=Ib hR hj;have h1:=hR.all _ hp;have h2:=hh _ hp;rcases h with rfl | ⟨rfl,_⟩ | ⟨rfl,_⟩<;>simp only [GB,Cp]<;>omega
 ·obtain ⟨c,hj,rfl,h2⟩:=Fa.1 h;have:=hm c hj h2;simp only [GB,Cp]; omega
theorem Jh {hf:Nat×Nat->Int}(w:Nat):CV (HB ct (ps.filter met) n all most) (Wf ct (ps.filter met) n all hf most) (GA ct (ps.filter met) n) w=nv (Cp (uP (ps.filter met)) (ps.filter met).length n (fun j=>all (uP (ps.filter met) j)) most) (tags ct (uP (ps.filter met)) (ps.filter met).length n) (GB (ps.filter met) all hf most) w:=
 PV (fun _ _=>rfl) fun _ _=>rfl
theorem RU {hf:Nat×Nat->Int}{c:Nat}(h:ct c=true):inC ct (uP (ps.filter met)) (ps.filter met).length (GB (ps.filter met) all hf most) c=BV (fun p=>if met p then Cx all hf c p else 0) ps:=by
 rw [<-OC hR,inC];refine D8 fun j hj=>?_;simp only [GB,Cx]
 congr 1
 ·by_cases h1:(uP (ps.filter met) j).1=c
  ·rw [if_pos ⟨by rw [h1]; exact h,h1⟩,if_pos h1]
  ·rw [if_neg (fun x=>h1 x.2),if_neg h1]
 ·by_cases h1:(uP (ps.filter met) j).2=c
  ·rw [if_pos ⟨by rw [h1]; exact h,h1⟩,if_pos h1]
  ·rw [if_neg (fun x=>h1 x.2),if_neg h1]
theorem TO {φ:Tag->Int}{c:Nat}(h:ct c=false){K:Nat}{pr:Nat->Nat×Nat}:inC ct pr K φ c=0:=by
 refine FZ fun j hj=>?_;rw [if_neg,if_neg]
 ·rfl
 ·rintro ⟨h1,h2⟩; rw [h2,h] at h1; cases h1
 ·rintro ⟨h1,h2⟩; rw [h2,h] at h1; cases h1
theorem LR {hf:Nat×Nat->Int}(hh:∀ p,p∈ps->0<=hf p/\hf p<=all p){c:Nat}{p:Nat×Nat}(hp:p∈ps):0<=Cx all hf c p:=by
 have:=hh p hp;unfold Cx;split<;>split<;>omega
theorem Mg {K w:Nat}(h1:0<w)(h2:w<1+K+n+1 - 1):(∃ j,j<K/\w=1+j)∨∃ c,c<n/\w=1+K+c:=by
 by_cases h:w<1+K
 ·exact .inl ⟨w - 1,by omega,by omega⟩
 ·exact .inr ⟨w - (1+K),by omega,by omega⟩
def hfT (ct:Nat->Bool)(own:Nat)(all fB:Nat×Nat->Int)(p:Nat×Nat):Int:=if ct p.1 || ct p.2 then (if ct p.2 then (if ct p.1 then all p - fB p else 0) else all p) else if p.1=own then 0 else all p
theorem RV (ho:ct own=false){V:Nat}(hV:V=KL (ps.filter fun p=>ct p.1 || ct p.2) n)(hm:∀ c,c<n->ct c=true->0<=most c/\most c<=1073741824){f:Nat->Int}{value:Int}
  (hM:MaxOk V (GA ct (ps.filter fun p=>ct p.1 || ct p.2) n) (HB ct (ps.filter fun p=>ct p.1 || ct p.2) n all most) f value)
  (hv:Bd (fun c=>if ct c then most c else 0) n<=value) {fB:Nat×Nat->Int}
  (hB:∀ j,j<(ps.filter fun p=>ct p.1 || ct p.2).length->ct (uP (ps.filter fun p=>ct p.1 || ct p.2) j).1=true->ct (uP (ps.filter fun p=>ct p.1 || ct p.2) j).2=true->
   ∀ i,i<GA ct (ps.filter fun p=>ct p.1 || ct p.2) n->(tags ct (uP (ps.filter fun p=>ct p.1 || ct p.2)) (ps.filter fun p=>ct p.1 || ct p.2).length n).getD i default=.toB j->fB (uP (ps.filter fun p=>ct p.1 || ct p.2) j)=f i):
  (∀ p,p∈ps->0<=hfT ct own all fB p/\hfT ct own all fB p<=all p)/\hwP ps all (hfT ct own all fB) own=0/\∀ c,c<n->ct c=true->most c<=hwP ps all (hfT ct own all fB) c:=by
 subst hV;have hA:=HC hR (all:=all) (met:=fun p=>ct p.1 || ct p.2) hm;obtain ⟨φ,hφ⟩:=PW (Kf (ct:=ct) (pr:=uP (ps.filter fun p=>ct p.1 || ct p.2)) (ps.filter fun p=>ct p.1 || ct p.2).length n) f;have hlt:∀ j,j<(ps.filter fun p=>ct p.1 || ct p.2).length->(uP (ps.filter fun p=>ct p.1 || ct p.2) j).1<n/\(uP (ps.filter fun p=>ct p.1 || ct p.2) j).2<n:=fun j hj=>by
  obtain ⟨h1,h2,_⟩:=Ib hR hj; omega
 have hnet:=We hR hφ (most:=most) (all:=all);have hends:=Wd hA hM.cons;have hpair:∀ j,j<(ps.filter fun p=>ct p.1 || ct p.2).length->(if ct (uP (ps.filter fun p=>ct p.1 || ct p.2) j).1 then φ (.toA j) else 0)+(if ct (uP (ps.filter fun p=>ct p.1 || ct p.2) j).2 then φ (.toB j) else 0)=φ (.src j):=fun j hj=>by
  have:=hM.cons (1+j) (by omega) (by simp only [KL]; omega);rw [hnet,NH hlt hj] at this;omega
 have hclub:∀ c,c<n->(if ct c then φ (.out c) else 0)=inC ct (uP (ps.filter fun p=>ct p.1 || ct p.2)) (ps.filter fun p=>ct p.1 || ct p.2).length φ c:=fun c hc=>by
  have:=hM.cons (1+(ps.filter fun p=>ct p.1 || ct p.2).length+c) (by omega) (by simp only [KL]; omega);rw [hnet,NI hlt hc] at this;omega
 have htight:∀ c,c<n->(if ct c then φ (.out c) else 0)=if ct c then most c else 0:=by
  refine Ke (fun c hc=>?_) ?_
  ·split
   ·exact (TN hR hφ hM.cap hc (by assumption)).2
   ·exact Int.le_refl _
  ·have e:KL (ps.filter fun p=>ct p.1 || ct p.2) n - 1=1+(ps.filter fun p=>ct p.1 || ct p.2).length+n:=by simp [KL]
   rw [hM.val,e,hnet,TJ hlt] at hends;omega
 have hfB:∀ j,j<(ps.filter fun p=>ct p.1 || ct p.2).length->ct (uP (ps.filter fun p=>ct p.1 || ct p.2) j).1=true->ct (uP (ps.filter fun p=>ct p.1 || ct p.2) j).2=true->fB (uP (ps.filter fun p=>ct p.1 || ct p.2) j)=φ (.toB j):=fun j hj h1 h2=>by
  have hmem:Tag.toB j∈tags ct (uP (ps.filter fun p=>ct p.1 || ct p.2)) (ps.filter fun p=>ct p.1 || ct p.2).length n:=List.mem_append_left (GH ct n) (Dn.2 ⟨j,hj,.inr (.inr ⟨rfl,h2⟩)⟩);obtain ⟨i,hi,e⟩:=List.getElem_of_mem hmem;have e':(tags ct (uP (ps.filter fun p=>ct p.1 || ct p.2)) (ps.filter fun p=>ct p.1 || ct p.2).length n).getD i default=.toB j:=by rw [uA,uD hi,Option.getD_some,e]
  rw [hB j hj h1 h2 i hi e',hφ i hi,e']
 have hrange:∀ p,p∈ps->0<=hfT ct own all fB p/\hfT ct own all fB p<=all p:=by
  intro p hp;have ha:=hR.all p hp;unfold hfT;split
  ·split
   ·split
    ·rename_i h0 h2 h1;have hmem:p∈ps.filter fun p=>ct p.1 || ct p.2:=List.mem_filter.2 ⟨hp,h0⟩
     obtain ⟨j,hj,e⟩:=List.getElem_of_mem hmem;have e':uP (ps.filter fun p=>ct p.1 || ct p.2) j=p:=by simp only [uP,uA,uD hj,Option.getD_some,e]
     have:=hfB j hj (by rw [e']; exact h1) (by rw [e']; exact h2);have hc:=TM hR hφ hM.cap hj (by rw [e']; exact h2);rw [e'] at this hc;omega
    ·omega
   ·omega
  ·split<;>omega
 refine ⟨hrange,?_,fun c hc hct=>?_⟩
 ·have:∀ p,p∈ps->Cx all (hfT ct own all fB) own p=0:=by
   intro p hp;have hl:=hR.lt p hp;unfold Cx;by_cases h1:p.1=own
   ·rw [if_pos h1,if_neg (by omega),hfT,h1,ho];cases ct p.2<;>simp
   ·rw [if_neg h1];by_cases h2:p.2=own
    ·rw [if_pos h2,hfT,h2,ho,if_neg h1];cases ct p.1<;>simp
    ·rw [if_neg h2]; rfl
  exact Jf this
 ·have h1:=htight c hc;rw [hclub c hc,if_pos hct] at h1;rw [<-h1];have h2:inC ct (uP (ps.filter fun p=>ct p.1 || ct p.2)) (ps.filter fun p=>ct p.1 || ct p.2).length φ c<=Bd (fun j=>Cx all (hfT ct own all fB) c (uP (ps.filter fun p=>ct p.1 || ct p.2) j)) (ps.filter fun p=>ct p.1 || ct p.2).length:=by
   refine LQ fun j hj=>?_;obtain ⟨l1,l2,l3,l4⟩:=Ib hR hj;have hp:=hpair j hj;have hs:=TK hR hφ hM.cap hj;have hb:=hfB j hj;have hcA:=TL hR hφ hM.cap hj;have hcB:=TM hR hφ hM.cap hj;have l4':(ct (uP (ps.filter fun p=>ct p.1 || ct p.2) j).1 || ct (uP (ps.filter fun p=>ct p.1 || ct p.2) j).2)=true:=l4;unfold Cx hfT;rw [if_pos l4'];generalize uP (ps.filter fun p=>ct p.1 || ct p.2) j=p at*;by_cases e1:p.1=c
   ·have e2:¬ p.2=c:=by omega
    rw [if_pos ⟨by rw [e1]; exact hct,e1⟩,if_neg (fun x=>e2 x.2),if_pos e1,if_neg e2];have c1:ct p.1=true:=by rw [e1]; exact hct
    rw [if_pos c1] at hp;cases c2:ct p.2
    ·rw [if_neg (by simp)];have:=hcA c1; omega
    ·rw [if_pos rfl,if_pos c1];rw [c2,if_pos rfl] at hp;have:=hb c1 c2;omega
   ·rw [if_neg (fun x=>e1 x.2),if_neg e1];by_cases e2:p.2=c
    ·have c2:ct p.2=true:=by rw [e2]; exact hct
     rw [if_pos ⟨c2,e2⟩,if_pos e2,if_pos c2];cases c1:ct p.1
     ·rw [if_neg (by simp)];have:=hcB c2; omega
     ·rw [if_pos rfl];have:=hb c1 c2;omega
    ·rw [if_neg (fun x=>e2 x.2),if_neg e2];omega
  rw [OC hR] at h2;refine Int.le_trans h2 (Qo fun p hp=>?_);split
  ·exact Int.le_refl _
  ·exact LR hR hrange hp
theorem RW (ho:ct own=false){V:Nat}(hV:V=KL (ps.filter fun p=>ct p.1 || ct p.2) n)(hm:∀ c,c<n->ct c=true->0<=most c/\most c<=1073741824){f lev:Nat->Int}
  (hl:dH V (GA ct (ps.filter fun p=>ct p.1 || ct p.2) n) (HB ct (ps.filter fun p=>ct p.1 || ct p.2) n all most) f lev)
  (hc:Em (GA ct (ps.filter fun p=>ct p.1 || ct p.2) n) (HB ct (ps.filter fun p=>ct p.1 || ct p.2) n all most) f)
  (hn:∀ w,0<w->w<V - 1->CV (HB ct (ps.filter fun p=>ct p.1 || ct p.2) n all most) f (GA ct (ps.filter fun p=>ct p.1 || ct p.2) n) w=0) (hs:lev (V - 1)<0)
  {hf:Nat×Nat->Int} (hh:∀ p,p∈ps->0<=hf p/\hf p<=all p) (hw:∀ c,c<n->ct c=true->most c<=hwP ps all hf c):
  Bd (fun c=>if ct c then most c else 0) n<=CV (HB ct (ps.filter fun p=>ct p.1 || ct p.2) n all most) f (GA ct (ps.filter fun p=>ct p.1 || ct p.2) n) 0:=by
 subst hV;have hA:=HC hR (all:=all) (met:=fun p=>ct p.1 || ct p.2) hm;have hlt:∀ j,j<(ps.filter fun p=>ct p.1 || ct p.2).length->(uP (ps.filter fun p=>ct p.1 || ct p.2) j).1<n/\(uP (ps.filter fun p=>ct p.1 || ct p.2) j).2<n:=fun j hj=>by
  obtain ⟨h1,h2,_⟩:=Ib hR hj; omega
 have hg:=PX hR (ct:=ct) (most:=most) (met:=fun p=>ct p.1 || ct p.2) hh fun c hc h=>(hm c hc h).1;have h1:=(MaxOk.pre hA hl hc hn hs hg).1 (fun w h1 h2=>?_)
 ·have e:KL (ps.filter fun p=>ct p.1 || ct p.2) n - 1=1+(ps.filter fun p=>ct p.1 || ct p.2).length+n:=by simp [KL]
  rw [e,Jh hR,TJ hlt] at h1;simp only [GB] at h1;omega
 ·rw [Jh hR];rcases Mg hR h1 h2 with ⟨j,hj,rfl⟩ | ⟨c,hj,rfl⟩
  ·rw [NH hlt hj];obtain ⟨_,_,l3,_⟩:=Ib hR hj;have:=hh _ l3;have:=hR.all _ l3;simp only [GB];split<;>split<;>omega
  ·rw [NI hlt hj];cases hct:ct c
   ·rw [TO hR hct,if_neg (by simp)]; omega
   ·rw [RU hR hct,if_pos rfl];simp only [GB];have h3:=hw c hj hct;have:BV (fun p=>if (ct p.1 || ct p.2)=true then Cx all hf c p else 0) ps=hwP ps all hf c:=by
     refine DI fun p hp=>?_;split
     ·rfl
     ·rename_i h;unfold Cx;rw [if_neg,if_neg]
      ·rfl
      ·intro e; rw [e,hct] at h; simp at h
      ·intro e; rw [e,hct] at h; simp at h
    omega
def hfS (ct:Nat->Bool)(own:Nat)(all fA:Nat×Nat->Int)(p:Nat×Nat):Int:=if ct p.1 && ct p.2 then fA p else if p.2=own∨(p.1≠own/\ct p.1=true) then 0 else all p
theorem RX (ho:ct own=false){V:Nat}(hV:V=KL (ps.filter fun p=>ct p.1 && ct p.2) n)(hm:∀ c,c<n->ct c=true->0<=most c/\most c<=1073741824){f:Nat->Int}{value:Int}
  (hM:MaxOk V (GA ct (ps.filter fun p=>ct p.1 && ct p.2) n) (HB ct (ps.filter fun p=>ct p.1 && ct p.2) n all most) f value)
  (hv:Bd (fun j=>all (uP (ps.filter fun p=>ct p.1 && ct p.2) j)) (ps.filter fun p=>ct p.1 && ct p.2).length<=value) {fA:Nat×Nat->Int}
  (hB:∀ j,j<(ps.filter fun p=>ct p.1 && ct p.2).length->
   ∀ i,i<GA ct (ps.filter fun p=>ct p.1 && ct p.2) n->(tags ct (uP (ps.filter fun p=>ct p.1 && ct p.2)) (ps.filter fun p=>ct p.1 && ct p.2).length n).getD i default=.toA j->fA (uP (ps.filter fun p=>ct p.1 && ct p.2) j)=f i):
  (∀ p,p∈ps->0<=hfS ct own all fA p/\hfS ct own all fA p<=all p)/\hwP ps all (hfS ct own all fA) own=BV (fun p=>if p.1=own∨p.2=own then all p else 0) ps/\∀ c,c<n->ct c=true->hwP ps all (hfS ct own all fA) c<=most c:=by
 subst hV;have hA:=HC hR (all:=all) (met:=fun p=>ct p.1 && ct p.2) hm;obtain ⟨φ,hφ⟩:=PW (Kf (ct:=ct) (pr:=uP (ps.filter fun p=>ct p.1 && ct p.2)) (ps.filter fun p=>ct p.1 && ct p.2).length n) f;have hlt:∀ j,j<(ps.filter fun p=>ct p.1 && ct p.2).length->(uP (ps.filter fun p=>ct p.1 && ct p.2) j).1<n/\(uP (ps.filter fun p=>ct p.1 && ct p.2) j).2<n:=fun j hj=>by
  obtain ⟨h1,h2,_⟩:=Ib hR hj; omega
 have hct:∀ j,j<(ps.filter fun p=>ct p.1 && ct p.2).length->ct (uP (ps.filter fun p=>ct p.1 && ct p.2) j).1=true/\ct (uP (ps.filter fun p=>ct p.1 && ct p.2) j).2=true:=fun j hj=>by
  obtain ⟨_,_,_,h4⟩:=Ib hR hj;simpa using h4
 have hnet:=We hR hφ (most:=most) (all:=all);have htight:∀ j,j<(ps.filter fun p=>ct p.1 && ct p.2).length->φ (.src j)=all (uP (ps.filter fun p=>ct p.1 && ct p.2) j):=by
  refine Ke (fun j hj=>(TK hR hφ hM.cap hj).2) ?_;have:=hM.val;rw [hnet,TI hlt] at this;omega
 have hpair:∀ j,j<(ps.filter fun p=>ct p.1 && ct p.2).length->φ (.toA j)+φ (.toB j)=all (uP (ps.filter fun p=>ct p.1 && ct p.2) j):=fun j hj=>by
  have:=hM.cons (1+j) (by omega) (by simp only [KL]; omega);obtain ⟨h1,h2⟩:=hct j hj;rw [hnet,NH hlt hj,if_pos h1,if_pos h2,htight j hj] at this;omega
 have hclub:∀ c,c<n->(if ct c then φ (.out c) else 0)=inC ct (uP (ps.filter fun p=>ct p.1 && ct p.2)) (ps.filter fun p=>ct p.1 && ct p.2).length φ c:=fun c hc=>by
  have:=hM.cons (1+(ps.filter fun p=>ct p.1 && ct p.2).length+c) (by omega) (by simp only [KL]; omega);rw [hnet,NI hlt hc] at this;omega
 have hfA:∀ j,j<(ps.filter fun p=>ct p.1 && ct p.2).length->fA (uP (ps.filter fun p=>ct p.1 && ct p.2) j)=φ (.toA j):=fun j hj=>by
  have hmem:Tag.toA j∈tags ct (uP (ps.filter fun p=>ct p.1 && ct p.2)) (ps.filter fun p=>ct p.1 && ct p.2).length n:=List.mem_append_left (GH ct n) (Dn.2 ⟨j,hj,.inr (.inl ⟨rfl,(hct j hj).1⟩)⟩);obtain ⟨i,hi,e⟩:=List.getElem_of_mem hmem;have e':(tags ct (uP (ps.filter fun p=>ct p.1 && ct p.2)) (ps.filter fun p=>ct p.1 && ct p.2).length n).getD i default=.toA j:=by rw [uA,uD hi,Option.getD_some,e]
  rw [hB j hj i hi e',hφ i hi,e']
 have hidx:∀ p,p∈ps->(ct p.1 && ct p.2)=true->∃ j,j<(ps.filter fun p=>ct p.1 && ct p.2).length/\uP (ps.filter fun p=>ct p.1 && ct p.2) j=p:=fun p hp h0=>by
  have hmem:p∈ps.filter fun p=>ct p.1 && ct p.2:=List.mem_filter.2 ⟨hp,h0⟩;obtain ⟨j,hj,e⟩:=List.getElem_of_mem hmem;exact ⟨j,hj,by simp only [uP,uA,uD hj,Option.getD_some,e]⟩
 have hrange:∀ p,p∈ps->0<=hfS ct own all fA p/\hfS ct own all fA p<=all p:=by
  intro p hp;have ha:=hR.all p hp;unfold hfS;split
  ·rename_i h0;obtain ⟨j,hj,e'⟩:=hidx p hp h0;have:=hfA j hj;have hc:=TL hR hφ hM.cap hj (hct j hj).1;rw [e'] at this hc;omega
  ·split<;>omega
 refine ⟨hrange,DI fun p hp=>?_,fun c hc hctc=>?_⟩
 ·have hl:=hR.lt p hp;unfold Cx;by_cases h1:p.1=own
  ·rw [if_pos h1,if_neg (by omega),if_pos (.inl h1),hfS,h1,ho,if_neg (by simp),if_neg]
   ·omega
   ·rintro (h | ⟨h,_⟩)
    ·omega
    ·exact h rfl
  ·rw [if_neg h1];by_cases h2:p.2=own
   ·rw [if_pos h2,if_pos (.inr h2),hfS,h2,ho,if_neg (by simp),if_pos (.inl rfl)]; omega
   ·rw [if_neg h2,if_neg (by rintro (h | h); exact h1 h; exact h2 h)]; rfl
 ·have h1:=hclub c hc;rw [if_pos hctc] at h1;have h0:=(TN hR hφ hM.cap hc hctc).2;have h2:inC ct (uP (ps.filter fun p=>ct p.1 && ct p.2)) (ps.filter fun p=>ct p.1 && ct p.2).length φ c=Bd (fun j=>Cx all (hfS ct own all fA) c (uP (ps.filter fun p=>ct p.1 && ct p.2) j)) (ps.filter fun p=>ct p.1 && ct p.2).length:=by
   refine D8 fun j hj=>?_;have hp:=hpair j hj;have hb:=hfA j hj;obtain ⟨c1,c2⟩:=hct j hj;generalize uP (ps.filter fun p=>ct p.1 && ct p.2) j=p at*;have hS:hfS ct own all fA p=fA p:=by unfold hfS; rw [c1,c2]; rfl
   unfold Cx;rw [hS]
   congr 1
   ·by_cases e:p.1=c
    ·rw [if_pos ⟨c1,e⟩,if_pos e,hb]
    ·rw [if_neg (fun x=>e x.2),if_neg e]
   ·by_cases e:p.2=c
    ·rw [if_pos ⟨c2,e⟩,if_pos e]; omega
    ·rw [if_neg (fun x=>e x.2),if_neg e]
  rw [OC hR] at h2;have h3:hwP ps all (hfS ct own all fA) c=BV (fun p=>if (ct p.1 && ct p.2)=true then Cx all (hfS ct own all fA) c p else 0) ps:=by
   refine DI fun p hp=>?_;have hl:=hR.lt p hp;split
   ·rfl
   ·rename_i h;unfold Cx;by_cases e1:p.1=c
    ·have c1:ct p.1=true:=by rw [e1]; exact hctc
     have no:p.1≠own:=fun e=>by rw [e,ho] at c1; cases c1
     have hS:hfS ct own all fA p=0:=by unfold hfS; rw [if_neg h,if_pos (.inr ⟨no,c1⟩)]
     rw [if_pos e1,if_neg (by omega),hS]; rfl
    ·rw [if_neg e1];by_cases e2:p.2=c
     ·have c2:ct p.2=true:=by rw [e2]; exact hctc
      have no:p.2≠own:=fun e=>by rw [e,ho] at c2; cases c2
      have hS:hfS ct own all fA p=all p:=by
       unfold hfS; rw [if_neg h,if_neg]
       rintro (x | ⟨_,x⟩)
       ·exact no x
       ·rw [x,c2] at h; exact h rfl
      rw [if_pos e2,hS]; omega
     ·rw [if_neg e2]; rfl
  omega
theorem RY (ho:ct own=false){V:Nat}(hV:V=KL (ps.filter fun p=>ct p.1 && ct p.2) n)(hm:∀ c,c<n->ct c=true->0<=most c/\most c<=1073741824){f lev:Nat->Int}
  (hl:dH V (GA ct (ps.filter fun p=>ct p.1 && ct p.2) n) (HB ct (ps.filter fun p=>ct p.1 && ct p.2) n all most) f lev)
  (hc:Em (GA ct (ps.filter fun p=>ct p.1 && ct p.2) n) (HB ct (ps.filter fun p=>ct p.1 && ct p.2) n all most) f)
  (hn:∀ w,0<w->w<V - 1->CV (HB ct (ps.filter fun p=>ct p.1 && ct p.2) n all most) f (GA ct (ps.filter fun p=>ct p.1 && ct p.2) n) w=0) (hs:lev (V - 1)<0)
  {hf:Nat×Nat->Int} (hh:∀ p,p∈ps->0<=hf p/\hf p<=all p) (hw:∀ c,c<n->ct c=true->hwP ps all hf c<=most c):
  Bd (fun j=>all (uP (ps.filter fun p=>ct p.1 && ct p.2) j)) (ps.filter fun p=>ct p.1 && ct p.2).length<=CV (HB ct (ps.filter fun p=>ct p.1 && ct p.2) n all most) f (GA ct (ps.filter fun p=>ct p.1 && ct p.2) n) 0:=by
 subst hV;have hA:=HC hR (all:=all) (met:=fun p=>ct p.1 && ct p.2) hm;have hlt:∀ j,j<(ps.filter fun p=>ct p.1 && ct p.2).length->(uP (ps.filter fun p=>ct p.1 && ct p.2) j).1<n/\(uP (ps.filter fun p=>ct p.1 && ct p.2) j).2<n:=fun j hj=>by
  obtain ⟨h1,h2,_⟩:=Ib hR hj; omega
 have hg:=PX hR (ct:=ct) (most:=most) (met:=fun p=>ct p.1 && ct p.2) hh fun c hc h=>(hm c hc h).1;have h1:=(MaxOk.pre hA hl hc hn hs hg).2 (fun w h1 h2=>?_)
 ·rw [Jh hR,TI hlt] at h1;simpa only [GB] using h1
 ·rw [Jh hR];rcases Mg hR h1 h2 with ⟨j,hj,rfl⟩ | ⟨c,hj,rfl⟩
  ·rw [NH hlt hj];obtain ⟨_,_,l3,l4⟩:=Ib hR hj;have l4':ct (uP (ps.filter fun p=>ct p.1 && ct p.2) j).1=true/\ct (uP (ps.filter fun p=>ct p.1 && ct p.2) j).2=true:=by simpa using l4
   rw [if_pos l4'.1,if_pos l4'.2];simp only [GB];omega
  ·rw [NI hlt hj];cases hct:ct c
   ·rw [TO hR hct,if_neg (by simp)]; omega
   ·rw [RU hR hct,if_pos rfl];simp only [GB];have h3:=hw c hj hct;have:BV (fun p=>if (ct p.1 && ct p.2)=true then Cx all hf c p else 0) ps<=hwP ps all hf c:=by
     refine Qo fun p hp=>?_;split
     ·exact Int.le_refl _
     ·exact LR hR hh hp
    omega
end
theorem PY {α β:Type}{G:α->β->Int}{l2:List β}:∀ (l1:List α),BV (fun a=>BV (fun b=>G a b) l2) l1=BV (fun b=>BV (fun a=>G a b) l1) l2
 | []=>by simp only [BV]; rw [Jf]; intros; rfl
 | x :: l=>by simp only [BV]; rw [PY l,RT]
theorem OD {F:Nat->Int}:∀ m,BV F (List.range m)=Bd F m
 | 0=>rfl
 | m+1=>by rw [List.range_succ,EZ,OD m,Bd]; simp [BV]
theorem Mh {α:Type}[DecidableEq α]{c:Int}{a:α}:∀ {l:List α},l.Nodup->a∈l->BV (fun p=>if a=p then c else 0) l=c
 | [],_,h=>by cases h
 | x :: l,hn,h=>by
  rw [List.nodup_cons] at hn;rw [BV];by_cases hx:a=x
  ·subst hx;have hz:BV (fun p=>if a=p then c else 0) l=0:=Jf fun y hy=>if_neg fun (e:a=y)=>hn.1 (by rw [e]; exact hy);rw [if_pos rfl,hz]; omega
  ·rw [if_neg hx,Mh hn.2 (by rcases List.mem_cons.1 h with h | h; exact absurd h hx; exact h)]; omega
def AO (gp:Nat->Nat×Nat)(m:Nat)(p:Nat×Nat):List Nat:=(List.range m).filter fun g=>decide (gp g=p)
theorem PZ {F:Nat->Int}{gp:Nat->Nat×Nat}{m:Nat}{ps:List (Nat×Nat)}(hn:ps.Nodup)(hp:∀ g,g<m->gp g∈ps):BV (fun p=>BV F (AO gp m p)) ps=Bd F m:=by
 have e:∀ p,BV F (AO gp m p)=BV (fun g=>if gp g=p then F g else 0) (List.range m):=fun p=>by
  rw [AO,HQ];refine DI fun g _=>?_;by_cases h:gp g=p<;>simp [h]
 simp only [e];rw [PY,<-OD];exact DI fun g hg=>Mh hn (hp g (List.mem_range.1 hg))
structure Games (m n:Nat) (gl gr:Nat->Nat) (ps:List (Nat×Nat)):Prop where
 nd:ps.Nodup
 lt:∀ p,p∈ps->p.1<p.2/\p.2<n
 lr:∀ g,g<m->gl g<n/\gr g<n/\gl g≠gr g
 mem:∀ g,g<m->(min (gl g) (gr g),max (gl g) (gr g))∈ps
 few:m<=1000
abbrev My (gl gr:Nat->Nat)(g:Nat):Nat×Nat:=(min (gl g) (gr g),max (gl g) (gr g))
def Ac (gl gr:Nat->Nat)(m:Nat)(p:Nat×Nat):Int:=2*((AO (My gl gr) m p).length:Int)
def FN (gl gr:Nat->Nat)(m:Nat)(x:Nat->Int)(c:Nat):Int:=Bd (fun g=>(if gl g=c then x g else 0)+if gr g=c then 2 - x g else 0) m
def hfX (gl gr:Nat->Nat)(m:Nat)(x:Nat->Int)(p:Nat×Nat):Int:=BV (fun g=>if gl g=p.1 then x g else 2 - x g) (AO (My gl gr) m p)
def Sc (m:Nat)(x:Nat->Int):Prop:=∀ g,g<m->0<=x g/\x g<=2
section
variable {m n:Nat}{gl gr:Nat->Nat}{ps:List (Nat×Nat)}(hG:Games m n gl gr ps)
include hG
theorem Pa {g:Nat}{p:Nat×Nat}:g∈AO (My gl gr) m p↔g<m/\My gl gr g=p:=by
 rw [AO,List.mem_filter,List.mem_range,decide_eq_true_iff]
theorem AAe {own:Nat}(ho:own<n):RaceG n own ps (Ac gl gr m):=by
 refine ⟨ho,hG.nd,hG.lt,fun p hp=>?_⟩;have:(AO (My gl gr) m p).length<=m:=by
  have:=List.length_filter_le (fun g=>decide (My gl gr g=p)) (List.range m)
  rwa [List.length_range] at this
 have:=hG.few;unfold Ac;omega
theorem OE {x:Nat->Int}(c:Nat):FN gl gr m x c=hwP ps (Ac gl gr m) (hfX gl gr m x) c:=by
 rw [FN,<-PZ hG.nd hG.mem,hwP];refine DI fun p hp=>?_;have hl:=hG.lt p hp;have key:∀ l:List Nat,(∀ g,g∈l->gl g≠gr g/\My gl gr g=p)->BV (fun g=>(if gl g=c then x g else 0)+if gr g=c then 2 - x g else 0) l=(if p.1=c then BV (fun g=>if gl g=p.1 then x g else 2 - x g) l else 0)+if p.2=c then 2*(l.length:Int) - BV (fun g=>if gl g=p.1 then x g else 2 - x g) l else 0:=by
  intro l;induction l with
  | nil=>intro _; simp [BV]
  | cons g l ih=>
   intro h;obtain ⟨h1,h2⟩:=h g List.mem_cons_self;have h3:=ih fun g hg=>h g (List.mem_cons_of_mem _ hg);simp only [BV];rw [h3];have e1:min (gl g) (gr g)=p.1:=congrArg Prod.fst h2;have e2:max (gl g) (gr g)=p.2:=congrArg Prod.snd h2;rw [List.length_cons];rcases Nat.lt_or_ge (gl g) (gr g) with hlt | hge
   ·have a1:gl g=p.1:=by omega
    have a2:gr g=p.2:=by omega
    rw [a2,if_pos a1,a1];split<;>split<;>omega
   ·have a1:gl g=p.2:=by omega
    have a2:gr g=p.1:=by omega
    rw [a2,if_neg (show ¬ gl g=p.1 by omega),a1];split<;>split<;>omega
 have:=key (AO (My gl gr) m p) fun g hg=>by
  obtain ⟨h1,h2⟩:=(Pa hG).1 hg;exact ⟨(hG.lr g h1).2.2,h2⟩
 rw [this,Cx,hfX,Ac]
theorem Pb {x:Nat->Int}(hx:Sc m x)(p:Nat×Nat):0<=hfX gl gr m x p/\hfX gl gr m x p<=Ac gl gr m p:=by
 have key:∀ l:List Nat,(∀ g,g∈l->0<=x g/\x g<=2)->0<=BV (fun g=>if gl g=p.1 then x g else 2 - x g) l/\BV (fun g=>if gl g=p.1 then x g else 2 - x g) l<=2*(l.length:Int):=by
  intro l;induction l with
  | nil=>intro _; simp [BV]
  | cons g l ih=>
   intro h;have h1:=h g List.mem_cons_self;have h3:=ih fun g hg=>h g (List.mem_cons_of_mem _ hg);simp only [BV,List.length_cons];split<;>omega
 exact key _ fun g hg=>hx g ((Pa hG).1 hg).1
end
def CL:Nat->List Nat->List (List Nat)
 | 0,_=>[[]]
 | _+1,[]=>[]
 | k+1,x :: l=>(CL k l).map (x :: ·)++CL (k+1) l
theorem DQ {s:List Nat}:∀ {k:Nat} {l:List Nat},s∈CL k l↔s.Sublist l/\s.length=k
 | 0,l=>by
  simp only [CL,List.mem_singleton];exact ⟨fun h=>by subst h; simp,fun h=>List.length_eq_zero_iff.1 h.2⟩
 | k+1,[]=>by
  simp only [CL,List.not_mem_nil,false_iff]
  rintro ⟨h1,h2⟩
  rw [List.sublist_nil.1 h1] at h2;simp at h2
 | k+1,x :: l=>by
  rw [CL,List.mem_append,DQ (k:=k+1) (l:=l),List.mem_map];constructor
  ·rintro (⟨t,h1,rfl⟩ | ⟨h1,h2⟩)
   ·obtain ⟨h2,h3⟩:=DQ.1 h1;exact ⟨h2.cons_cons x,by simp [h3]⟩
   ·exact ⟨h1.cons x,h2⟩
  ·rintro ⟨h1,h2⟩
   cases h1 with
   | cons _ h=>exact .inr ⟨h,h2⟩
   | cons_cons _ h=>
    rename_i t;exact .inl ⟨t,DQ.2 ⟨h,by simpa using h2⟩,rfl⟩
theorem Wg {P:Nat->Bool}{l:List Nat}{k:Nat}(h:k<=(l.filter P).length):∃ s,s∈CL k l/\∀ x,x∈s->P x=true:=by
 refine ⟨(l.filter P).take k,DQ.2 ⟨(List.take_sublist _ _).trans List.filter_sublist,by simp; omega⟩,fun x hx=>?_⟩;exact (List.mem_filter.1 (List.mem_of_mem_take hx)).2
theorem Qq {P:Nat->Bool}:∀ {l:List Nat} {k:Nat},(l.filter P).length<=k->k<=l.length->∃ s,s∈CL k l/\∀ x,x∈l->P x=true->x∈s
 | [],k,_,h=>by
  obtain rfl:k=0:=by simpa using h
  exact ⟨[],by simp [CL],fun x hx=>by cases hx⟩
 | x :: l,k,h1,h2=>by
  rw [List.filter_cons] at h1;rw [List.length_cons] at h2;by_cases hP:P x=true
  ·rw [if_pos hP,List.length_cons] at h1;obtain ⟨s,h3,h4⟩:=Qq (P:=P) (l:=l) (k:=k - 1) (by omega) (by omega);obtain ⟨h5,h6⟩:=DQ.1 h3;refine ⟨x :: s,DQ.2 ⟨h5.cons_cons x,by simp; omega⟩,fun y hy hp=>?_⟩;rcases List.mem_cons.1 hy with rfl | hy
   ·simp
   ·exact List.mem_cons_of_mem _ (h4 y hy hp)
  ·rw [if_neg hP] at h1;rcases Nat.lt_or_ge l.length k with hk | hk
   ·refine ⟨x :: l,DQ.2 ⟨List.Sublist.refl _,by simp; omega⟩,fun y hy _=>hy⟩
   ·obtain ⟨s,h3,h4⟩:=Qq (P:=P) (l:=l) (k:=k) h1 hk;obtain ⟨h5,h6⟩:=DQ.1 h3;refine ⟨s,DQ.2 ⟨h5.cons x,h6⟩,fun y hy hp=>?_⟩;rcases List.mem_cons.1 hy with rfl | hy
    ·exact absurd hp hP
    ·exact h4 y hy hp
def AH (n own:Nat):List Nat:=(List.range n).filter fun i=>decide (i≠own)
theorem Cy {n own i:Nat}:i∈AH n own↔i<n/\i≠own:=by rw [AH,List.mem_filter,List.mem_range,decide_eq_true_iff]
theorem OF {n own:Nat}(h:own<n):(AH n own).length+1=n:=by
 have:∀ k,((List.range k).filter fun i=>decide (i≠own)).length+(if own<k then 1 else 0)=k:=by
  intro k;induction k with
  | zero=>simp
  | succ k ih=>
   rw [List.range_succ,List.filter_append,List.length_append];have e1:([k].filter fun i=>decide (i≠own)).length=if k=own then 0 else 1:=by by_cases e:k=own<;>simp [e]
   rw [e1];split<;>split<;>split at ih<;>omega
 have:=this n;rw [if_pos h] at this;exact this
def DR (n own:Nat)(fin:Nat->Int):Nat:=((AH n own).filter fun i=>decide (fin own<=fin i)).length
def HD (n own:Nat)(fin:Nat->Int):Nat:=((AH n own).filter fun i=>decide (fin own<fin i)).length
theorem Ut {P:Nat->Bool}{l s:List Nat}(h:s.Sublist l)(hP:∀ x,x∈s->P x=true):s.length<=(l.filter P).length:=by
 have:=(h.filter P).length_le
 rwa [List.filter_eq_self.2 hP] at this
theorem HY {α:Type}[DecidableEq α]:∀ {l1 l2:List α},l1.Nodup->(∀ x,x∈l1->x∈l2)->l1.length<=l2.length
 | [],_,_,_=>by simp
 | x :: l1,l2,hn,h=>by
  rw [List.nodup_cons] at hn;have hx:=h x List.mem_cons_self;have hl:=List.length_erase_of_mem hx;have hp:0<l2.length:=List.length_pos_of_mem hx;have:=HY (l2:=l2.erase x) hn.2 fun y hy=>by
   have hne:y≠x:=fun e=>hn.1 (e▸hy);exact (List.mem_erase_of_ne hne).2 (h y (List.mem_cons_of_mem _ hy))
  rw [List.length_cons];omega
theorem Sd {P:Nat->Bool}{l s:List Nat}(hn:l.Nodup)(h:s.Sublist l)(hP:∀ x,x∈l->P x=true->x∈s):(l.filter P).length<=s.length:=by
 refine HY (hn.filter P) fun x hx=>?_;obtain ⟨h1,h2⟩:=List.mem_filter.1 hx;exact hP x h1 h2
theorem Qr (n own:Nat):(AH n own).Nodup:=(List.nodup_range).filter _
def NJ (d:Int)(uV:Nat->Int)(own:Nat)(needs:Nat->Int)(i:Nat):Prop:=0<=needs i/\needs i<=1073741824/\uV own<=uV i+d*needs i/\∀ h,0<=h->uV own<=uV i+d*h->needs i<=h
def NK (d:Int)(uV:Nat->Int)(high:Int)(takes:Nat->Int)(i:Nat):Prop:=takes i<=1073741824/\∀ h,h<=takes i↔uV i+d*h<=high
def Ic (d:Int)(uV:Nat->Int)(gl gr:Nat->Nat)(m:Nat)(x:Nat->Int)(c:Nat):Int:=uV c+d*FN gl gr m x c
section
variable {m n own:Nat}{gl gr:Nat->Nat}{ps:List (Nat×Nat)}(hG:Games m n gl gr ps)(ho:own<n){d:Int}(hd:0<d){uV:Nat->Int}
include hG ho hd
theorem IS {x:Nat->Int}(hx:Sc m x)(c:Nat):0<=FN gl gr m x c:=by
 have:=LQ (F:=fun _=>0) (G:=fun g=>(if gl g=c then x g else 0)+if gr g=c then 2 - x g else 0) (k:=m) fun g hg=>by
  have:=hx g hg;split<;>split<;>omega
 rw [FZ fun _ _=>rfl] at this;exact this
theorem RZ {needs:Nat->Int}(hN:∀ i,i<n->NJ d uV own needs i){s:List Nat}{k:Nat}(hs:s∈CL k (AH n own)){x:Nat->Int}
  (h0:FN gl gr m x own=0) (h1:∀ c,c∈s->needs c<=FN gl gr m x c):k<=DR n own (Ic d uV gl gr m x):=by
 obtain ⟨h2,rfl⟩:=DQ.1 hs;refine Ut h2 fun c hc=>uK ?_;obtain ⟨hcn,_⟩:=Cy.1 (h2.subset hc);obtain ⟨_,_,g1,_⟩:=hN c hcn;have g2:=h1 c hc;have g3:=Int.mul_le_mul_of_nonneg_left g2 (Int.le_of_lt hd);simp only [Ic,h0];omega
theorem Ra {needs:Nat->Int}(hN:∀ i,i<n->NJ d uV own needs i){k:Nat}{x:Nat->Int}(hx:Sc m x)(h:k<=DR n own (Ic d uV gl gr m x)):
  ∃ s,s∈CL k (AH n own)/\∀ c,c∈s->needs c<=FN gl gr m x c:=by
 obtain ⟨s,h1,h2⟩:=Wg h;refine ⟨s,h1,fun c hc=>?_⟩;have h3:=of_decide_eq_true (h2 c hc);obtain ⟨hcn,_⟩:=Cy.1 ((DQ.1 h1).1.subset hc);obtain ⟨_,_,_,g1⟩:=hN c hcn;refine g1 _ (IS hG ho hd hx c) ?_;have:=Int.mul_nonneg (Int.le_of_lt hd) (IS hG ho hd hx own);simp only [Ic] at h3;omega
def Hy (gl gr:Nat->Nat)(m own:Nat):Int:=Bd (fun g=>(if gl g=own then 2 else 0)+if gr g=own then 2 else 0) m
theorem Uu {x:Nat->Int}(hx:Sc m x)(c:Nat):FN gl gr m x c<=Hy gl gr m c:=by
 refine LQ fun g hg=>?_;have:=hx g hg;split<;>split<;>omega
theorem Rb {takes:Nat->Int}{high:Int}(hH:high=uV own+d*Hy gl gr m own)(hT:∀ i,i<n->NK d uV high takes i){s:List Nat}{k:Nat}(hs:s∈CL k (AH n own)){x:Nat->Int}
  (h0:FN gl gr m x own=Hy gl gr m own) (h1:∀ c,c<n->c≠own->c ∉ s->FN gl gr m x c<=takes c):HD n own (Ic d uV gl gr m x)<=k:=by
 obtain ⟨h2,rfl⟩:=DQ.1 hs;refine Sd (Qr n own) h2 fun c hc hP=>?_;obtain ⟨hcn,hco⟩:=Cy.1 hc;by_cases hcs:c∈s
 ·exact hcs
 ·have h3:=of_decide_eq_true hP;have:=((hT c hcn).2 _).1 (h1 c hcn hco hcs);simp only [Ic,h0] at h3;omega
theorem Rc {takes:Nat->Int}{high:Int}(hH:high=uV own+d*Hy gl gr m own)(hT:∀ i,i<n->NK d uV high takes i){k:Nat}(hk:k+1<=n){x:Nat->Int}(hx:Sc m x)(h:HD n own (Ic d uV gl gr m x)<=k):
  ∃ s,s∈CL k (AH n own)/\∀ c,c<n->c≠own->c ∉ s->FN gl gr m x c<=takes c:=by
 obtain ⟨s,h1,h2⟩:=Qq h (by have:=OF ho; omega);refine ⟨s,h1,fun c hc hco hcs=>?_⟩;refine ((hT c hc).2 _).2 ?_;have h3:¬ Ic d uV gl gr m x own<Ic d uV gl gr m x c:=fun e=>hcs (h2 c (Cy.2 ⟨hc,hco⟩) (uK e));have:=Int.mul_le_mul_of_nonneg_left (Uu hG ho hd hx own) (Int.le_of_lt hd);simp only [Ic] at h3;omega
end
section
variable (q:fG)(hn:2<=q.n)(hn2:q.n<=8)(hp:1<=q.place)(hp2:q.place<=q.n)(hd:0<=q.draw)(hd2:q.draw<=999)(ih1:sP 34 [iv ((q.n:Int) - 1),iv q.place] (bv true))(ih2:sP 34 [iv ((q.n:Int) - 1),iv (q.place - 1)] (bv true))
include q hn hn2 hp hp2 hd hd2 ih1 ih2
theorem ADS (q0:(decide (q.draw>0))=true)(q1:(q.aI==2*q.draw)=true):sP 17 (Au q) (bv true):=
 kP _ (.mk (dS 0x1a00000a001111104ae) [] [some (bv true),some (bv true)] [] []) (kO (kz q0 (kz q1 AN))) (.cons ih2 (rI (q.place - 1) (.cons ih1 (rI (2*q.draw) (rI ((↑q.n:Int) - 1) .nil)))))
theorem ADT (q0:(decide (q.draw>0))=true)(q1:(q.aI==2*q.draw)=false):sP 17 (Au q) (bv false):=
 kP _ (.mk (dS 0x1a00000a0011111) [] [] [] []) (kO (kz q0 (kz q1 AN))) (rI (2*q.draw) (rI ((↑q.n:Int) - 1) .nil))
theorem ADU (q0:(decide (q.draw>0))=false):sP 17 (Au q) (bv false):=
 kP _ (.mk (dS 6979321856) [] [] [] []) (kO (kz q0 AN)) (rI ((↑q.n:Int) - 1) .nil)
end
theorem bs (q:fG):sP 20 (Au q) (bv (decide ((↑q.m:Int)<=8))):=
 kP [] (.mk [] [] [] [] []) bY.nil .nil
noncomputable abbrev Hz (a0:Int)(a1:Int)(a2:Nat->Int)(a3:fG)(a4:Nat)(a5:Int):=frame 40 [(2,pt 0 0),(4,iv a0),(5,iv a1),(6,iv (a2 a3.uO.toNat)),(14,AW true a4 a2),(15,iv a4),(16,iv a5)]
noncomputable abbrev AIZ:=cB (cR (cL (cR (cR (AY prog 40)))))
section
variable (q:fG)(n:Nat)(p:Nat->Int)(a:Int)(b:Int)(i:Int)(h0:0<=i)(hn:n<=1000)(ha:0<=a)(ha2:a<=1000)(hb:0<=b)(hb2:b<=1000)
include q n p a b i h0 hn ha ha2 hb hb2
theorem AAf (q0:BF i n)(q1:(i != q.uO)=true)(q2:(decide (p i.toNat>=p q.uO.toNat))=true)(q3:(decide (p i.toNat>p q.uO.toNat))=true):sC (cB (AIZ)) (Hz a b p q n i) ([oV q.cells]) (xN,(frame 40 [(2,pt 0 0),(4,iv (a+1)),(5,iv (b+1)),(6,iv (p q.uO.toNat)),(14,sl true 1 n fun i=>[iv (p i)]),(15,iv ↑n),(16,iv (i+1))]),[oV q.cells]):=
 kC _ (.mk (dS 18283962213290) [] [] [] []) (kO (kz q0 (kz q1 (kz q2 (kz q3 AN))))) (rI (i+1) (rI (a+1) (rI (b+1) (rB i n .nil)))) 114804 1 1
theorem AAg (q0:BF i n)(q1:(i != q.uO)=true)(q2:(decide (p i.toNat>=p q.uO.toNat))=true)(q3:(decide (p i.toNat>p q.uO.toNat))=false):sC (cB (AIZ)) (Hz a b p q n i) ([oV q.cells]) (xN,(frame 40 [(2,pt 0 0),(4,iv a),(5,iv (b+1)),(6,iv (p q.uO.toNat)),(14,sl true 1 n fun i=>[iv (p i)]),(15,iv ↑n),(16,iv (i+1))]),[oV q.cells]):=
 kC _ (.mk (dS 1142747638330) [] [] [] []) (kO (kz q0 (kz q1 (kz q2 (kz q3 AN))))) (rI (i+1) (rI (b+1) (rB i n .nil))) 114804 1 1
theorem AAh (q0:BF i n)(q1:(i != q.uO)=true)(q2:(decide (p i.toNat>=p q.uO.toNat))=false):sC (cB (AIZ)) (Hz a b p q n i) ([oV q.cells]) (xN,(frame 40 [(2,pt 0 0),(4,iv a),(5,iv b),(6,iv (p q.uO.toNat)),(14,sl true 1 n fun i=>[iv (p i)]),(15,iv ↑n),(16,iv (i+1))]),[oV q.cells]):=
 kC _ (.mk (dS 4463857962) [] [] [] []) (kO (kz q0 (kz q1 (kz q2 AN)))) (rI (i+1) (rB i n .nil)) 114804 1 1
theorem AAi (q0:BF i n)(q1:(i != q.uO)=false):sC (cB (AIZ)) (Hz a b p q n i) ([oV q.cells]) (xN,(frame 40 [(2,pt 0 0),(4,iv a),(5,iv b),(6,iv (p q.uO.toNat)),(14,sl true 1 n fun i=>[iv (p i)]),(15,iv ↑n),(16,iv (i+1))]),[oV q.cells]):=
 kC _ (.mk (dS 1142747627950) [] [] [] []) (kO (kz q0 (kz q1 AN))) (rI (i+1) (rB i n .nil)) 114804 1 1
theorem AAj (q0:DM i n):sC (cB (AIZ)) (Hz a b p q n i) ([oV q.cells]) (xL 0,(frame 40 [(2,pt 0 0),(4,iv a),(5,iv b)]),[oV q.cells]):=
 kC _ (.mk (dS 16) [] [] [] []) (kO (kz q0 AN)) .nil 52 1 1
end
abbrev Uz (a0:Nat)(a1:Nat->Int):=sl true 1 a0 fun i=>[iv (a1 i)]
abbrev Pc (a0:Nat)(a1:Nat->Int):=Uz a0 a1
abbrev AE (a0:Nat)(a1:Nat->Int):=Pc a0 a1
theorem abW (q:fG)(n:Nat)(p:Nat->Int)(a:Int)(b:Int)(hc:0<=q.uO)(hc2:q.uO<n)(hn:n<=1000)(ih:sL (AIZ) (frame 40 [(2,pt 0 0),(4,iv 0),(5,iv 0),(6,iv (p q.uO.toNat)),(14,AW true n p),(15,iv n),(16,iv 0)]) [oV q.cells] ((xL 0,frame 40 [(2,pt 0 0),(4,iv a),(5,iv b)],[oV q.cells]):RC)):sP 40 [ag q.cells,AE n p] (AH0 a b):=
 kP [] (.mk (dS 26) [(8,.is 114804 1 (xL 0,(frame 40 [(2,pt 0 0),(4,iv a),(5,iv b)]),[oV q.cells]))] [] [] []) bY.nil (.cons ih (rB q.uO n .nil))
abbrev AIp (a0:Nat->Int):=Ar 0 (fun i=>[]) fun i=>[iv (a0 i)]
theorem AAk (n:Nat)(p:Nat->Int)(hn:0<n)(hn2:n<=1000):sF 25 [AE n p] [] (EV.ms 0 1 0 (0+n) none) [oA 1 false (0+n) (AIp p)]:=
 kFm pF nF [[]] (.mk (dS 1055467) [] [] [] []) (kO AN) (oI (decide (0+n<=0)=false) (oJ (decide ((0+n)*8<=70368744177664) && decide (0+n<4611686018427387904)) .nil)) 1 [1]
theorem Wh (n:Nat)(p:Nat->Int)(hn2:n<=1000)(q0:(decide (0+n<=0))=true):sF 25 [EV.ms 0 1 0 n (some n)] [oA 1 true n fun i=>[iv (p i)]] (EV.ms 1 1 0 (0+n) (some 0)) [oA 1 true n fun i=>[iv (p i)],oA 1 true 0 (Aw 0 n (fun i=>[].getD i []) fun i=>[iv (p (0+i))])]:=
 kFm pF nF _ (.mk (dS 1055456) [] [] [] []) (kO (kz q0 AN)) (oJ (decide ((0+n)*8<=70368744177664) && decide (0+n<4611686018427387904)) .nil) 3 [0,1]
theorem Wi (n:Nat)(p:Nat->Int)(hn2:n<=1000)(q0:(decide (0+n<=0))=false):sF 25 [EV.ms 0 1 0 n (some n)] [oA 1 true n fun i=>[iv (p i)]] (EV.ms 1 1 0 (0+n) none) [oA 1 true n fun i=>[iv (p i)],oA 1 false (0+n) (Ar 0 (fun i=>[]) fun i=>[iv (p (0+i))])]:=
 kFm pF nF _ (.mk (dS 1055456) [] [] [] []) (kO (kz q0 AN)) (oJ (decide ((0+n)*8<=70368744177664) && decide (0+n<4611686018427387904)) .nil) 3 [0,2]
noncomputable abbrev Er (a0:Nat):=frame 55 [(1,EV.ms 0 1 0 a0 none),(4,pt 1 0),(8,pt 2 0)]
noncomputable abbrev AIq:=cT2 (cR (cT2 (cR (cB (cR (cR (cR (AY prog 26))))))))
section
variable (q:fG)(n:Nat)(p:Nat->Int)(g:Int)(x:Int)(hg:0<=g)(hg2:g<q.m)(hl:0<=(q.op g.toNat).left)(hl2:(q.op g.toNat).left<n)(hr:0<=(q.op g.toNat).right)(hr2:(q.op g.toNat).right<n)(hne:(q.op g.toNat).left≠(q.op g.toNat).right)(hw:0<=q.aI)(hw2:q.aI<=999)(hd:0<=q.draw)(hd2:q.draw<=999)(hb: -100000000<=p (0+(q.op g.toNat).left.toNat))(hb2:p (0+(q.op g.toNat).left.toNat)<=100000000)(hb3: -100000000<=p (0+(q.op g.toNat).right.toNat))(hb4:p (0+(q.op g.toNat).right.toNat)<=100000000)
include q n p g x hg hg2 hl hl2 hr hr2 hne hw hw2 hd hd2 hb hb2 hb3 hb4
theorem AAl (hx:x=1):sF 26 [ag q.cells,EV.ms 0 1 0 n none,iv g,iv x] [oA 1 false n fun i=>[iv (p i)]] (tu []) [oA 1 false n (BC (fun i=>[iv (p i)]) (0+(AU q g).left.toNat) [iv (p (0+(AU q g).left.toNat)+q.aI)])]:=
 kFm pF nF [[]] (.mk (dS 1747626) [] [] [] []) (kO AN) (rB (q.op g.toNat).left n (rI (p (0+(q.op g.toNat).left.toNat)+q.aI) (rB (q.op g.toNat).left n (oI (x==1) (rB g q.m .nil))))) 1 [0]
theorem AAm (hx:x=3):sF 26 [ag q.cells,EV.ms 0 1 0 n none,iv g,iv x] [oA 1 false n fun i=>[iv (p i)]] (tu []) [oA 1 false n (BC (fun i=>[iv (p i)]) (0+(AU q g).right.toNat) [iv (p (0+(AU q g).right.toNat)+q.aI)])]:=
 kFm pF nF [[]] (.mk (dS 28027562) [] [] [] []) (kO AN) (rB (q.op g.toNat).right n (rI (p (0+(q.op g.toNat).right.toNat)+q.aI) (rB (q.op g.toNat).right n (oI (x==3) (oI ((x==1)=false) (rB g q.m .nil)))))) 1 [0]
theorem pl3:sL (cL (AIq)) (Er n) [oA 1 false n fun i=>[iv (p i)],oV q.cells,oV (AU q g).cells] (xN,(Er n),[oA 1 false n (BC (fun i=>[iv (p i)]) (0+(AU q g).left.toNat) [iv (p (0+(AU q g).left.toNat)+q.draw)]),oV q.cells,oV (AU q g).cells]):=
 kLm pF nF [] (.mk (dS 6826) [] [] [] []) bY.nil (rB (q.op g.toNat).left n (rI (p (0+(q.op g.toNat).left.toNat)+q.draw) (rB (q.op g.toNat).left n .nil))) 274 7 [0,1,2]
theorem pl4:sL (cR (AIq)) (Er n) [oA 1 false n fun i=>[iv (p i)],oV q.cells,oV (AU q g).cells] (xN,(Er n),[oA 1 false n (BC (fun i=>[iv (p i)]) (0+(AU q g).right.toNat) [iv (p (0+(AU q g).right.toNat)+q.draw)]),oV q.cells,oV (AU q g).cells]):=
 kLm pF nF [] (.mk (dS 6826) [] [] [] []) bY.nil (rB (q.op g.toNat).right n (rI (p (0+(q.op g.toNat).right.toNat)+q.draw) (rB (q.op g.toNat).right n .nil))) 274 7 [0,1,2]
end
theorem AAn (q:fG)(n:Nat)(p:Nat->Int)(g:Int)(x:Int)(p1:Nat->Int)(p2:Nat->Int)(hg:0<=g)(hg2:g<q.m)(hl:0<=(q.op g.toNat).left)(hl2:(q.op g.toNat).left<n)(hr:0<=(q.op g.toNat).right)(hr2:(q.op g.toNat).right<n)(hne:(q.op g.toNat).left≠(q.op g.toNat).right)(hw:0<=q.aI)(hw2:q.aI<=999)(hd:0<=q.draw)(hd2:q.draw<=999)(hb: -100000000<=p (0+(q.op g.toNat).left.toNat))(hb2:p (0+(q.op g.toNat).left.toNat)<=100000000)(hb3: -100000000<=p (0+(q.op g.toNat).right.toNat))(hb4:p (0+(q.op g.toNat).right.toNat)<=100000000)(hx1:x≠1)(hx3:x≠3)(ih3:sL (cL (AIq)) (Er n) [oA 1 false n fun i=>[iv (p i)],oV q.cells,oV (AU q g).cells] ((xN,frame 55 [(1,EV.ms 0 1 0 n none),(4,pt 1 0),(8,pt 2 0)],[oA 1 false n fun i=>(AA p1 i),oV q.cells,oV (AU q g).cells]):RC))(ih4:sL (cR (AIq)) (Er n) [oA 1 false n fun i=>(AA p1 i),oV q.cells,oV (AU q g).cells] ((xN,frame 55 [(1,EV.ms 0 1 0 n none),(4,pt 1 0),(8,pt 2 0)],[oA 1 false n fun i=>(AA p2 i),oV q.cells,oV (AU q g).cells]):RC)):sF 26 [ag q.cells,EV.ms 0 1 0 n none,iv g,iv x] [oA 1 false n fun i=>[iv (p i)]] (tu []) [oA 1 false n fun i=>(AA p2 i)]:=
 kFm pF nF [[]] (.mk (dS 6843) [(14,.is 274 7 (xN,(Er n),[oA 1 false n fun i=>(AA p1 i),oV q.cells,oV (AU q g).cells])),(0,.is 274 7 (xN,(Er n),[oA 1 false n fun i=>(AA p2 i),oV q.cells,oV (AU q g).cells]))] [] [] []) (kO AN) (.cons ih4 (.cons ih3 (oI ((x==3)=false) (oI ((x==1)=false) (rB g q.m .nil))))) 1 [0]
structure fG.Ok (q:fG):Prop where
 aI:0<=q.draw/\q.draw<=q.aI/\q.aI<=999
 n2:2<=q.n/\q.n<=8
 np:q.np=true/\q.m'=q.n
 m:q.m<=552
 uV:∀ i,i<q.n->-99999<=q.uV i/\q.uV i<=99999
 op:∀ g,g<q.m->0<=(q.op g).left/\(q.op g).left<q.n/\0<=(q.op g).right/\(q.op g).right<q.n/\(q.op g).left≠(q.op g).right
 uO:0<=q.uO/\q.uO<q.n
 place:1<=q.place/\q.place<=q.n
theorem Es (i own:Nat):AH (i+1) own=AH i own++if i≠own then [i] else []:=by
 rw [AH,List.range_succ,List.filter_append,<-AH];by_cases h:i=own<;>simp [h]
theorem Fb (i own:Nat)(p:Nat->Int):DR (i+1) own p=DR i own p+if i≠own/\p own<=p i then 1 else 0:=by
 unfold DR;rw [Es,List.filter_append,List.length_append]
 congr 1
 by_cases h:i=own
 ·simp [h]
 ·rw [if_pos h];by_cases h2:p own<=p i<;>simp [h,h2]
theorem H2 (i own:Nat)(p:Nat->Int):HD (i+1) own p=HD i own p+if i≠own/\p own<p i then 1 else 0:=by
 unfold HD;rw [Es,List.filter_append,List.length_append]
 congr 1
 by_cases h:i=own
 ·simp [h]
 ·rw [if_pos h];by_cases h2:p own<p i<;>simp [h,h2]
theorem least_le (i own:Nat)(p:Nat->Int):DR i own p<=i:=by
 induction i with
 | zero=>simp [DR,AH]
 | succ i ih=>rw [Fb]; split<;>omega
theorem TP (i own:Nat)(p:Nat->Int):HD i own p<=DR i own p:=by
 induction i with
 | zero=>simp [DR,HD,AH]
 | succ i ih=>
  rw [Fb,H2];split
  ·rw [if_pos (by omega)]; omega
  ·split<;>omega
theorem Pd {q:fG}{n:Nat}{p:Nat->Int}{own:Nat}(hc:q.uO=own)(ho:own<n)(hn:n<=100):
  uY prog fF 40 [.agg q.cells,AW true n p] (.tuple [.int .i64 (HD n own p),.int .i64 (DR n own p)]):=by
 have key:∀ k i:Nat,i+k=n->aB prog fF false (cB (cB (cR (cL (cR (cR (AY prog 40))))))) (frame 40 [(2,.ptr 0 0),(4,.int .i64 (HD i own p)),(5,.int .i64 (DR i own p)),(6,.int .i64 (p q.uO.toNat)),(14,AW true n p),(15,.int .i64 n),(16,.int .i64 i)]) [fE.var false true q.cells]
   (EX.leave 0,frame 40 [(2,.ptr 0 0),(4,.int .i64 (HD n own p)),(5,.int .i64 (DR n own p))],[fE.var false true q.cells]):=by
  intro k;induction k with
  | zero=>
   intro i h;obtain rfl:i=n:=by omega
   have h1:=least_le i own p;have h2:=TP i own p;exact aB.last (AAj q i p _ _ i (by omega) (by omega) (by omega) (by omega) (by omega) (by omega) (by simp)) (by simp)
  | succ k ih=>
   intro i h;have h1:=least_le i own p;have h2:=TP i own p;have ih:=ih (i+1) (by omega);have ec:p q.uO.toNat=p own:=by rw [hc]; simp
   by_cases hio:i=own
   ·rw [Fb,H2,if_neg (by simp [hio]),if_neg (by simp [hio])] at ih;exact aB.step (AAi q n p _ _ i (by omega) (by omega) (by omega) (by omega) (by omega) (by omega) (uK (by omega)) (by simp [hc,hio])) ih
   ·have hne:(((i:Int) != q.uO))=true:=by rw [hc,bne_iff_ne]; omega
    by_cases hl:p own<=p i
    ·by_cases hm:p own<p i
     ·rw [Fb,H2,if_pos ⟨hio,hm⟩,if_pos ⟨hio,hl⟩] at ih;exact aB.step (AAf q n p _ _ i (by omega) (by omega) (by omega) (by omega) (by omega) (by omega) (uK (by omega)) hne (by rw [ec]; simpa using hl) (by rw [ec]; simpa using hm)) ih
     ·rw [Fb,H2,if_neg (fun h=>hm h.2),if_pos ⟨hio,hl⟩] at ih;exact aB.step (AAg q n p _ _ i (by omega) (by omega) (by omega) (by omega) (by omega) (by omega) (uK (by omega)) hne (by rw [ec]; simpa using hl) (by rw [ec]; simpa using hm)) ih
    ·rw [Fb,H2,if_neg (fun h=>hl (by omega)),if_neg (fun h=>hl h.2)] at ih;exact aB.step (AAh q n p _ _ i (by omega) (by omega) (by omega) (by omega) (by omega) (by omega) (uK (by omega)) hne (by rw [ec]; simpa using hl)) ih
 exact abW q n p _ _ (by omega) (by omega) (by omega) (aB.eO (key n 0 (by omega)) (by kernel_rfl))
def Mi (q:fG)(x:Int):Int:=if x=1 then q.aI else if x=3 then 0 else q.draw
def Mj (q:fG)(x:Int):Int:=if x=3 then q.aI else if x=1 then 0 else q.draw
def I3 (q:fG)(p:Nat->Int)(g:Nat)(x:Int):Nat->Int:=fun c=>p c+(if (q.op g).left=c then Mi q x else 0)+if (q.op g).right=c then Mj q x else 0
theorem Wj {q:fG}{n:Nat}{p:Nat->Int}{g:Nat}{x:Int}(hw:0<=q.draw/\q.draw<=q.aI/\q.aI<=999)(hg:g<q.m)
  (ho:0<=(q.op g).left/\(q.op g).left<n/\0<=(q.op g).right/\(q.op g).right<n/\(q.op g).left≠(q.op g).right) (hp:∀ i,i<n->-1000000<=p i/\p i<=1000000):
  aA prog fF 26 [.agg q.cells,.ms 0 1 0 n none,.int .i64 g,.int .i64 x] [.arr false true 1 false n fun i=>[.int .i64 (p i)]] (.tuple []) [.arr false true 1 false n fun i=>[.int .i64 (I3 q p g x i)]]:=by
 obtain ⟨o1,o2,o3,o4,o5⟩:=ho;obtain ⟨l,hl⟩:∃ l:Nat,(q.op g).left=l:=⟨(q.op g).left.toNat,by omega⟩
 obtain ⟨r,hr⟩:∃ r:Nat,(q.op g).right=r:=⟨(q.op g).right.toNat,by omega⟩
 have e1:(q.op (g:Int).toNat).left=l:=by simpa using hl
 have e2:(q.op (g:Int).toNat).right=r:=by simpa using hr
 have hpl:=hp l (by omega);have hpr:=hp r (by omega);have c1:∀ z:Int,z=l->-100000000<=p (0+z.toNat)/\p (0+z.toNat)<=100000000:=fun z h=>by rw [h,uJ,uG]; omega
 have c2:∀ z:Int,z=r->-100000000<=p (0+z.toNat)/\p (0+z.toNat)<=100000000:=fun z h=>by rw [h,uJ,uG]; omega
 by_cases h1:x=1
 ·refine (AAl q n p g x (by omega) (by omega) (by rw [e1]; omega) (by rw [e1]; omega) (by rw [e2]; omega) (by rw [e2]; omega) (by rw [e1,e2]; omega) (by omega) (by omega) (by omega) (by omega) (c1 _ e1).1 (c1 _ e1).2 (c2 _ e2).1 (c2 _ e2).2 h1).res (.cons (uU.arr fun i hi=>?_) .nil);simp only [BC,I3,Mi,Mj,e1,hl,hr,uJ,uG];subst h1;by_cases hi':i=l
  ·subst hi'; simp
  ·rw [if_neg hi'];simp;omega
 ·by_cases h3:x=3
  ·refine (AAm q n p g x (by omega) (by omega) (by rw [e1]; omega) (by rw [e1]; omega) (by rw [e2]; omega) (by rw [e2]; omega) (by rw [e1,e2]; omega) (by omega) (by omega) (by omega) (by omega) (c1 _ e1).1 (c1 _ e1).2 (c2 _ e2).1 (c2 _ e2).2 h3).res (.cons (uU.arr fun i hi=>?_) .nil);simp only [BC,I3,Mi,Mj,e2,hl,hr,uJ,uG];subst h3;by_cases hi':i=r
   ·subst hi'; simp
   ·rw [if_neg hi'];simp;omega
  ·let p1:Nat->Int:=BK p l (p l+q.draw)
   let p2:Nat->Int:=BK p1 r (p1 r+q.draw)
   have hp1:p1 r=p r:=Ap (by omega);have c3:∀ z:Int,z=l->-100000000<=p1 (0+z.toNat)/\p1 (0+z.toNat)<=100000000:=fun z h=>by rw [h,uJ,uG]; simp only [p1,Ao]; omega
   have c4:∀ z:Int,z=r->-100000000<=p1 (0+z.toNat)/\p1 (0+z.toNat)<=100000000:=fun z h=>by rw [h,uJ,uG,hp1]; omega
   have i3:=uT.weaken (uI _) (eW.refl _) (pl3 q n p g x (by omega) (by omega) (by rw [e1]; omega) (by rw [e1]; omega) (by rw [e2]; omega) (by rw [e2]; omega) (by rw [e1,e2]; omega) (by omega) (by omega) (by omega) (by omega) (c1 _ e1).1 (c1 _ e1).2 (c2 _ e2).1 (c2 _ e2).2) (uI _)
    (.cons (uU.arr (row':=fun i=>[.int .i64 (p1 i)]) fun i hi=>by
     simp only [BC,e1,hl,uJ,uG,p1,BK];by_cases hi':i=l
     ·subst hi'; rw [if_pos rfl,if_pos rfl]
     ·rw [if_neg hi',if_neg hi']) (.cons (uH _) (.cons (uH _) .nil)))
   have i4:=uT.weaken (uI _) (eW.refl _) (pl4 q n p1 g x (by omega) (by omega) (by rw [e1]; omega) (by rw [e1]; omega) (by rw [e2]; omega) (by rw [e2]; omega) (by rw [e1,e2]; omega) (by omega) (by omega) (by omega) (by omega) (c3 _ e1).1 (c3 _ e1).2 (c4 _ e2).1 (c4 _ e2).2) (uI _)
    (.cons (uU.arr (row':=fun i=>[.int .i64 (p2 i)]) fun i hi=>by
     simp only [BC,e2,hr,uJ,uG,p2];by_cases hi':i=r
     ·subst hi'; rw [if_pos rfl,Ao]
     ·rw [if_neg hi',Ap hi']) (.cons (uH _) (.cons (uH _) .nil)))
   refine (AAn q n p g x p1 p2 (by omega) (by omega) (by rw [e1]; omega) (by rw [e1]; omega) (by rw [e2]; omega) (by rw [e2]; omega) (by rw [e1,e2]; omega) (by omega) (by omega) (by omega) (by omega) (c1 _ e1).1 (c1 _ e1).2 (c2 _ e2).1 (c2 _ e2).2 h1 h3 i3 i4).res (.cons (uU.arr fun i hi=>?_) .nil);show [EV.int .i64 (p2 i)]=[EV.int .i64 (I3 q p g x i)]
   simp only [I3,Mi,Mj,hl,hr,if_neg h1,if_neg h3];by_cases hir:i=r
   ·subst hir;simp only [p2,Ao,hp1];rw [if_neg (show ¬ (l:Int)=i by omega)];simp
   ·simp only [p2,Ap hir];by_cases hil:i=l
    ·subst hil;simp only [p1,Ao];rw [if_neg (show ¬ (r:Int)=i by omega)];simp
    ·simp only [p1,Ap hil];rw [if_neg (show ¬ (l:Int)=i by omega),if_neg (show ¬ (r:Int)=i by omega)];simp
def fG.flow (q:fG):Bool:=decide (q.draw>0) && (q.aI==2*q.draw)
theorem Se {q:fG}(h:q.Ok):uY prog fF 17 [.agg q.cells] (.bool q.flow):=by
 obtain ⟨n1,n2⟩:=h.n2;obtain ⟨p1,p2⟩:=h.place;obtain ⟨w1,w2,w3⟩:=h.aI;obtain ⟨pl,hpl⟩:∃ k:Nat,q.place=k:=⟨q.place.toNat,by omega⟩
 have a:=TH (n:=q.n - 1) (k:=pl) (by omega) (by omega);have b:=TH (n:=q.n - 1) (k:=pl - 1) (by omega) (by omega);rw [show ((q.n - 1:Nat):Int)=(q.n:Int) - 1 by omega] at a b;rw [show ((pl - 1:Nat):Int)=q.place - 1 by omega] at b;rw [<-hpl] at a;have hd:q.draw<=999:=by omega
 unfold fG.flow;cases h1:decide (q.draw>0)
 ·exact ADU q n1 n2 p1 p2 w1 hd a b h1
 ·cases h2:(q.aI==2*q.draw)
  ·exact ADT q n1 n2 p1 p2 w1 hd a b h1 h2
  ·exact ADS q n1 n2 p1 p2 w1 hd a b h1 h2
def nS (f:FuncId):Bool:=[25,26,39].contains f
def nS0 (f:FuncId):Bool:=nS f || f==0
def pS (f:FuncId):Bool:=pures f || nS f
abbrev DS (a0:fG):=fE.var false false [.ms 3 1 0 a0.m (some a0.m)]
abbrev Pe (a0:fG):=fE.var false false [EV.ms 3 1 0 a0.m (some a0.m)]
abbrev H3 (a0:Bool)(a1:Nat)(a2:Nat->Int):=sl a0 1 a1 fun i=>[iv (a2 i)]
abbrev fC:=fE.var false false [fc (39) [] [pt 0 0,pt 1 0,pt 2 0,pt 4 0]]
abbrev AIA (a0:Bool)(a1:Nat)(a2:Nat->Int)(a3:Bool)(a4:Nat)(a5:Nat->Int)(a6:fG)(a7:Nat->Int):=[fE.var false false [iv 0,H3 a0 a1 a2,H3 a3 a4 a5,AT],oV a6.cells,Pe a6,oA 1 true a6.m fun i=>[iv (a7 i)],fC]
abbrev AJf (a0:Bool)(a1:Nat)(a2:Nat->Int)(a3:Bool)(a4:Nat)(a5:Nat->Int)(a6:fG)(a7:Nat->Int):=[fE.var false false [iv 0,AW a0 a1 a2,AW a3 a4 a5,Aq],oV a6.cells,DS a6,oA 1 true a6.m fun i=>[iv (a7 i)],fC]
abbrev AH1 (a0:Bool)(a1:Nat)(a2:Nat->Int)(a3:Bool)(a4:Nat)(a5:Nat->Int)(a6:fG)(a7:Nat->Int):=AJf a0 a1 a2 a3 a4 a5 a6 a7
theorem Y3 (q:fG)(n:Nat)(p:Nat->Int)(i:Int)(o:Nat->Int)(rb:Bool)(rn:Nat)(rv:Nat->Int)(mb:Bool)(mn:Nat)(mv:Nat->Int)(hn:0<n)(hn2:n<=100)(hm:q.m<=8)(h0:0<=i)(hi:i<=q.m)(h1:rb=true)(h2:mb=true):sF 39 [iv i,AE n p,pt 0 0,pt 1 0,pt 2 0,pt 4 0] (AH1 rb rn rv mb mn mv q o) (tu []) (AIA rb rn rv mb mn mv q o):=
 kFm pS nS [[]] (.mk (dS 1747626) [] [] [] []) (kO AN) (oI (!!mb) (oI (!!rb) (oI (!!rb) (oI (!!rb) (oI (!!rb) .nil))))) 31 [0,1,2,3,4]
noncomputable abbrev MB (a0:Int)(a1:Nat)(a2:Nat->Int)(a3:Int):=frame 75 [(0,iv a0),(1,AW true a1 a2),(2,pt 0 0),(3,pt 1 0),(4,pt 2 0),(5,pt 4 0),(8,iv a3)]
noncomputable abbrev AIa:=cB (cR (cL (cT1 (cR (cL (cR (AY prog 39)))))))
abbrev MC (a0:fG):=Pe a0
abbrev C8 (a0:Bool)(a1:Nat)(a2:Nat->Int)(a3:Bool)(a4:Nat)(a5:Nat->Int):=fE.var false false [iv 0,H3 a0 a1 a2,H3 a3 a4 a5,AT]
abbrev Bj (a0:fG):=MC a0
theorem sw5 (q:fG)(n:Nat)(p:Nat->Int)(i:Int)(o:Nat->Int)(rb:Bool)(rn:Nat)(rv:Nat->Int)(mb:Bool)(mn:Nat)(mv:Nat->Int)(x:Int)(hn:0<n)(hn2:n<=100)(hm:q.m<=8)(h0:0<=i)(hi:i<=q.m):sL (cL (cB (cL (cR (cB (AIa)))))) (MB i n p x) (AH1 rb rn rv mb mn mv q o) (xN,(frame 75 [(0,iv i),(1,sl true 1 n fun i=>[iv (p i)]),(2,pt 0 0),(3,pt 1 0),(4,pt 2 0),(5,pt 4 0),(8,iv x),(9,EV.ms 5 1 0 (0+n) none)]),[C8 rb rn rv mb mn mv,oV q.cells,Bj q,oA 1 true q.m fun i=>[iv (o i)],fC,oA 1 false (0+n) (AIp p)]):=
 kLm pS nS0 [] (.mk [] [] [] [some ((EV.ms 0 1 0 (0+n) none,[oA 1 false (0+n) (AIp p)]))] []) bY.nil (.cons (AAk n p hn (by omega)) .nil) 831 63 [0,1,2,3,4,5]
abbrev H4 (a0:Bool)(a1:Nat)(a2:Nat->Int)(a3:Bool)(a4:Nat)(a5:Nat->Int):=fE.var false false [iv 0,AW a0 a1 a2,AW a3 a4 a5,Aq]
section
variable (q:fG)(n:Nat)(p:Nat->Int)(i:Int)(o:Nat->Int)(rb:Bool)(rn:Nat)(rv:Nat->Int)(mb:Bool)(mn:Nat)(mv:Nat->Int)(x:Int)(p1:Nat->Int)(hn:0<n)(hn2:n<=100)(hm:q.m<=8)(h0:0<=i)(hi:i<=q.m)
include q n p i o rb rn rv mb mn mv x p1 hn hn2 hm h0 hi
theorem sw6 (ihp:sF 26 [ag q.cells,.ms 0 1 0 n none,iv i,iv x] [oA 1 false n fun i=>[iv (p i)]] (tu []) [oA 1 false n fun i=>(AA p1 i)]):sL (cL (cR (cB (cL (cR (cB (AIa))))))) (frame 75 [(0,iv i),(1,AW true n p),(2,pt 0 0),(3,pt 1 0),(4,pt 2 0),(5,pt 4 0),(8,iv x),(9,.ms 5 1 0 n none)]) [H4 rb rn rv mb mn mv,oV q.cells,DS q,oA 1 true q.m fun i=>[iv (o i)],fC,oA 1 false n fun i=>[iv (p i)]] (xN,(frame 75 [(0,iv i),(1,sl true 1 n fun i=>[iv (p i)]),(2,pt 0 0),(3,pt 1 0),(4,pt 2 0),(5,pt 4 0),(8,iv x),(9,EV.ms 5 1 0 n none)]),[C8 rb rn rv mb mn mv,oV q.cells,Bj q,oA 1 true q.m fun i=>[iv (o i)],fC,oA 1 false n fun i=>(AA p1 i)]):=
 kLm pS nS [] (.mk [] [] [] [some ((tu [],[oA 1 false n fun i=>(AA p1 i)]))] []) bY.nil (.cons ihp .nil) 831 63 [0,1,2,3,4,5]
theorem sw7 (hi2:i<q.m):sL (cL (cR (cR (cB (cL (cR (cB (AIa)))))))) (frame 75 [(0,iv i),(1,AW true n p),(2,pt 0 0),(3,pt 1 0),(4,pt 2 0),(5,pt 4 0),(8,iv x),(9,AW true n p1)]) [H4 rb rn rv mb mn mv,oV q.cells,DS q,oA 1 true q.m fun i=>[iv (o i)],fC,oD] (xN,(frame 75 [(0,iv i),(1,sl true 1 n fun i=>[iv (p i)]),(2,pt 0 0),(3,pt 1 0),(4,pt 2 0),(5,pt 4 0),(8,iv x),(9,sl true 1 n fun i=>(AA p1 i))]),[C8 rb rn rv mb mn mv,oV q.cells,Bj q,oA 1 true q.m (BC (fun i=>[iv (o i)]) (0+i.toNat) [iv x]),fC,oD]):=
 kLm pS nS [] (.mk (dS 26) [] [] [] []) bY.nil (rB i q.m .nil) 831 31 [0,1,2,3,4,5]
end
noncomputable abbrev AAo:Code:=(cB (cR (cL (cT1 (cR (cL (cR (AY prog 39))))))))
noncomputable abbrev AAp:Code:=(cB (cB (cR (cL (cT1 (cR (cL (cR (AY prog 39)))))))))
abbrev MD (a0:Nat)(a1:Nat->Int):=AW true a0 a1
abbrev U1 (a0:Nat)(a1:Nat->Int):=MD a0 a1
abbrev BI (a0:Nat)(a1:Nat->Int):=U1 a0 a1
section
variable (q:fG)(n:Nat)(p:Nat->Int)(i:Int)(o:Nat->Int)(rb:Bool)(rn:Nat)(rv:Nat->Int)(mb:Bool)(mn:Nat)(mv:Nat->Int)(x:Int)(p1:Nat->Int)(o1:Nat->Int)(rb':Bool)(rn':Nat)(rv':Nat->Int)(mb':Bool)(mn':Nat)(mv':Nat->Int)(o':Nat->Int)(hn:0<n)(hn2:n<=100)(hm:q.m<=8)(h0:0<=i)(hi:i<=q.m)(hx:1<=x)(hx2:x<=4)(ih5:x<=3->sL (cL (cB (cL (cR (cB (cB (cR (cL (cT1 (cR (cL (cR (AY prog 39))))))))))))) (frame 75 [(0,iv i),(1,AW true n p),(2,pt 0 0),(3,pt 1 0),(4,pt 2 0),(5,pt 4 0),(8,iv x)]) [fE.var false false [iv 0,AW rb rn rv,AW mb mn mv,sl false 0 0 fun _=>[]],oV q.cells,fE.var false false [.ms 3 1 0 q.m (some q.m)],oA 1 true q.m fun i=>[iv (o i)],fE.var false false [fc (39) [] [pt 0 0,pt 1 0,pt 2 0,pt 4 0]]] ((xN,frame 75 [(0,iv i),(1,AW true n p),(2,pt 0 0),(3,pt 1 0),(4,pt 2 0),(5,pt 4 0),(8,iv x),(9,.ms 5 1 0 n none)],[fE.var false false [iv 0,AW rb rn rv,AW mb mn mv,sl false 0 0 fun _=>[]],oV q.cells,fE.var false false [.ms 3 1 0 q.m (some q.m)],oA 1 true q.m fun i=>[iv (o i)],fE.var false false [fc (39) [] [pt 0 0,pt 1 0,pt 2 0,pt 4 0]],oA 1 false n fun i=>[iv (p i)]]):RC))(ih6:x<=3->sL (cL (cR (cB (cL (cR (cB (cB (cR (cL (cT1 (cR (cL (cR (AY prog 39)))))))))))))) (frame 75 [(0,iv i),(1,AW true n p),(2,pt 0 0),(3,pt 1 0),(4,pt 2 0),(5,pt 4 0),(8,iv x),(9,.ms 5 1 0 n none)]) [fE.var false false [iv 0,AW rb rn rv,AW mb mn mv,sl false 0 0 fun _=>[]],oV q.cells,fE.var false false [.ms 3 1 0 q.m (some q.m)],oA 1 true q.m fun i=>[iv (o i)],fE.var false false [fc (39) [] [pt 0 0,pt 1 0,pt 2 0,pt 4 0]],oA 1 false n fun i=>[iv (p i)]] ((xN,frame 75 [(0,iv i),(1,AW true n p),(2,pt 0 0),(3,pt 1 0),(4,pt 2 0),(5,pt 4 0),(8,iv x),(9,AW true n p1)],[fE.var false false [iv 0,AW rb rn rv,AW mb mn mv,sl false 0 0 fun _=>[]],oV q.cells,fE.var false false [.ms 3 1 0 q.m (some q.m)],oA 1 true q.m fun i=>[iv (o i)],fE.var false false [fc (39) [] [pt 0 0,pt 1 0,pt 2 0,pt 4 0]],oD]):RC))(ih7:x<=3->sL (cL (cR (cR (cB (cL (cR (cB (cB (cR (cL (cT1 (cR (cL (cR (AY prog 39))))))))))))))) (frame 75 [(0,iv i),(1,AW true n p),(2,pt 0 0),(3,pt 1 0),(4,pt 2 0),(5,pt 4 0),(8,iv x),(9,AW true n p1)]) [fE.var false false [iv 0,AW rb rn rv,AW mb mn mv,sl false 0 0 fun _=>[]],oV q.cells,fE.var false false [.ms 3 1 0 q.m (some q.m)],oA 1 true q.m fun i=>[iv (o i)],fE.var false false [fc (39) [] [pt 0 0,pt 1 0,pt 2 0,pt 4 0]],oD] ((xN,frame 75 [(0,iv i),(1,AW true n p),(2,pt 0 0),(3,pt 1 0),(4,pt 2 0),(5,pt 4 0),(8,iv x),(9,AW true n p1)],[fE.var false false [iv 0,AW rb rn rv,AW mb mn mv,sl false 0 0 fun _=>[]],oV q.cells,fE.var false false [.ms 3 1 0 q.m (some q.m)],oA 1 true q.m fun i=>[iv (o1 i)],fE.var false false [fc (39) [] [pt 0 0,pt 1 0,pt 2 0,pt 4 0]],oD]):RC))(ihw:x<=3->sF 39 [iv (i+1),BI n p1,pt 0 0,pt 1 0,pt 2 0,pt 4 0] [H4 rb rn rv mb mn mv,oV q.cells,DS q,oA 1 true q.m fun i=>(AA o1 i),fC] (tu []) [H4 rb' rn' rv' mb' mn' mv',oV q.cells,DS q,oA 1 true q.m fun i=>(AA o' i),fC])
include q n p i o rb rn rv mb mn mv x p1 o1 rb' rn' rv' mb' mn' mv' o' hn hn2 hm h0 hi hx hx2 ih5 ih6 ih7 ihw
theorem AAq (q0:(decide (x<=3))=true):sC (cB (AIa)) (MB i n p x) ((AH1 rb rn rv mb mn mv q o)) (xN,(frame 75 [(0,iv i),(1,sl true 1 n fun i=>[iv (p i)]),(2,pt 0 0),(3,pt 1 0),(4,pt 2 0),(5,pt 4 0),(8,iv (x+1))]),[C8 rb' rn' rv' mb' mn' mv',oV q.cells,Bj q,oA 1 true q.m fun i=>(AA o' i),fC]):=
 kCm pS nS _ (.mk (dS 4266) [(8,.is 319 31 (xN,(frame 75 [(0,iv i),(1,sl true 1 n fun i=>[iv (p i)]),(2,pt 0 0),(3,pt 1 0),(4,pt 2 0),(5,pt 4 0),(8,iv x),(9,EV.ms 5 1 0 n none)]),[C8 rb rn rv mb mn mv,oV q.cells,Bj q,oA 1 true q.m fun i=>[iv (o i)],fC,oA 1 false n fun i=>[iv (p i)]])),(1,.is 831 63 (xN,(frame 75 [(0,iv i),(1,sl true 1 n fun i=>[iv (p i)]),(2,pt 0 0),(3,pt 1 0),(4,pt 2 0),(5,pt 4 0),(8,iv x),(9,sl true 1 n fun i=>(AA p1 i))]),[C8 rb rn rv mb mn mv,oV q.cells,Bj q,oA 1 true q.m fun i=>[iv (o i)],fC,oD])),(1,.is 831 31 (xN,(frame 75 [(0,iv i),(1,sl true 1 n fun i=>[iv (p i)]),(2,pt 0 0),(3,pt 1 0),(4,pt 2 0),(5,pt 4 0),(8,iv x),(9,sl true 1 n fun i=>(AA p1 i))]),[C8 rb rn rv mb mn mv,oV q.cells,Bj q,oA 1 true q.m fun i=>(AA o1 i),fC,oD]))] [] [some ((tu [],[C8 rb' rn' rv' mb' mn' mv',oV q.cells,Bj q,oA 1 true q.m fun i=>(AA o' i),fC]))] []) (kO (kz q0 AN)) (rI (x+1) (.cons (ihw (by simp_all)) (rI (i+1) (.cons (ih7 (by simp_all)) (.cons (ih6 (by simp_all)) (.cons (ih5 (by simp_all)) .nil)))))) 319 31 5
theorem AAr (q0:(decide (x<=3))=false):sC (cB (AIa)) (MB i n p x) ((AH1 rb rn rv mb mn mv q o)) (xL 0,(frame 75 []),(AIA rb rn rv mb mn mv q o)):=
 kCm pS nS _ (.mk (dS 16) [] [] [] []) (kO (kz q0 AN)) .nil 0 31 5
end
section
variable (q:fG)(n:Nat)(p:Nat->Int)(i:Int)(o:Nat->Int)(rb:Bool)(rn:Nat)(rv:Nat->Int)(mb:Bool)(mn:Nat)(mv:Nat->Int)(rb':Bool)(rn':Nat)(rv':Nat->Int)(mb':Bool)(mn':Nat)(mv':Nat->Int)(o':Nat->Int)(hn:0<n)(hn2:n<=100)(hm:q.m<=8)(h0:0<=i)(hi:i<=q.m)(hi2:i<q.m)(h1:(rb && mb)=false)(ih:sL (AIa) (frame 75 [(0,iv i),(1,AW true n p),(2,pt 0 0),(3,pt 1 0),(4,pt 2 0),(5,pt 4 0),(8,iv 1)]) (AH1 rb rn rv mb mn mv q o) ((xL 0,frame 75 [],[H4 rb' rn' rv' mb' mn' mv',oV q.cells,DS q,oA 1 true q.m fun i=>(AA o' i),fC]):RC))
include q n p i o rb rn rv mb mn mv rb' rn' rv' mb' mn' mv' o' hn hn2 hm h0 hi hi2 h1 ih
theorem AAs (q0:(!!rb)=true)(q1:(!!mb)=false):sF 39 [iv i,AE n p,pt 0 0,pt 1 0,pt 2 0,pt 4 0] (AH1 rb rn rv mb mn mv q o) (tu []) [C8 rb' rn' rv' mb' mn' mv',oV q.cells,Bj q,oA 1 true q.m fun i=>(AA o' i),fC]:=
 kFm pS nS _ (.mk (dS 16777242) [(13,.is 319 31 (xL 0,(frame 75 []),[C8 rb' rn' rv' mb' mn' mv',oV q.cells,Bj q,oA 1 true q.m fun i=>(AA o' i),fC]))] [] [] []) (kO (kz q0 (kz q1 AN))) (.cons ih (oI (BN i q) .nil)) 31 [0,1,2,3,4]
theorem AAt (q0:(!!rb)=false):sF 39 [iv i,AE n p,pt 0 0,pt 1 0,pt 2 0,pt 4 0] (AH1 rb rn rv mb mn mv q o) (tu []) [C8 rb' rn' rv' mb' mn' mv',oV q.cells,Bj q,oA 1 true q.m fun i=>(AA o' i),fC]:=
 kFm pS nS _ (.mk (dS 4294967726) [(13,.is 319 31 (xL 0,(frame 75 []),[C8 rb' rn' rv' mb' mn' mv',oV q.cells,Bj q,oA 1 true q.m fun i=>(AA o' i),fC]))] [] [] []) (kO (kz q0 AN)) (.cons ih (oI (BN i q) .nil)) 31 [0,1,2,3,4]
end
noncomputable abbrev B6 (a0:Int):=frame 75 [(2,pt 0 0),(3,pt 1 0),(4,pt 2 0),(5,pt 4 0),(11,iv a0)]
noncomputable abbrev AIr:=cR (AY prog 39)
noncomputable abbrev AIs:=cT1 (cR (cR (cR (cR (AIr)))))
abbrev Pf (a0:Bool)(a1:Nat)(a2:Nat->Int):=H3 a0 a1 a2
abbrev AK (a0:Bool)(a1:Nat)(a2:Nat->Int):=Pf a0 a1 a2
section
variable (q:fG)(n:Nat)(p:Nat->Int)(i:Int)(o:Nat->Int)(rb:Bool)(rn:Nat)(rv:Nat->Int)(mb:Bool)(mn:Nat)(mv:Nat->Int)(b:Int)(hn:0<n)(hn2:n<=100)(hm:q.m<=8)(h0:0<=i)
include q n p i o rb rn rv mb mn mv b hn hn2 hm h0
theorem AAu (hz:q.m=0)(ihc:sF 25 [.ms 0 1 0 q.m (some q.m)] [oA 1 true q.m fun i=>[iv (o i)]] (EV.ms 1 1 0 (0+q.m) (some 0)) [oA 1 true q.m fun i=>[iv (o i)],oA 1 true 0 (Aw 0 q.m (fun i=>[].getD i []) fun i=>[iv (o (0+i))])]):sL (cT1 (cR (cL (cR (cR (AIr)))))) (B6 b) (AH1 rb rn rv mb mn mv q o) (xN,(B6 b),[fE.var false false [iv 0,EV.ms 5 1 0 (0+q.m) (some 0),AK mb mn mv,AT],oV q.cells,Bj q,oA 1 true q.m fun i=>[iv (o i)],fC,oA 1 true 0 (Aw 0 q.m (fun i=>[].getD i []) fun i=>[iv (o (0+i))])]):=
 kLm pS nS0 [] (.mk [] [] [] [some ((EV.ms 1 1 0 (0+q.m) (some 0),[oA 1 true q.m fun i=>[iv (o i)],oA 1 true 0 (Aw 0 q.m (fun i=>[].getD i []) fun i=>[iv (o (0+i))])]))] []) bY.nil (.cons ihc .nil) 2108 63 [0,1,2,3,4,5]
theorem AAv (hz:0<q.m)(ihc:sF 25 [.ms 0 1 0 q.m (some q.m)] [oA 1 true q.m fun i=>[iv (o i)]] (EV.ms 1 1 0 (0+q.m) none) [oA 1 true q.m fun i=>[iv (o i)],oA 1 false (0+q.m) (Ar 0 (fun i=>[]) fun i=>[iv (o (0+i))])]):sL (cT1 (cR (cL (cR (cR (AIr)))))) (B6 b) (AH1 rb rn rv mb mn mv q o) (xN,(B6 b),[fE.var false false [iv 0,EV.ms 5 1 0 (0+q.m) none,AK mb mn mv,AT],oV q.cells,Bj q,oA 1 true q.m fun i=>[iv (o i)],fC,oA 1 false (0+q.m) (Ar 0 (fun i=>[]) fun i=>[iv (o (0+i))])]):=
 kLm pS nS0 [] (.mk [] [] [] [some ((EV.ms 1 1 0 (0+q.m) none,[oA 1 true q.m fun i=>[iv (o i)],oA 1 false (0+q.m) (Ar 0 (fun i=>[]) fun i=>[iv (o (0+i))])]))] []) bY.nil (.cons ihc .nil) 2108 63 [0,1,2,3,4,5]
theorem AAw (hz:q.m=0)(ihc:sF 25 [.ms 0 1 0 q.m (some q.m)] [oA 1 true q.m fun i=>[iv (o i)]] (EV.ms 1 1 0 (0+q.m) (some 0)) [oA 1 true q.m fun i=>[iv (o i)],oA 1 true 0 (Aw 0 q.m (fun i=>[].getD i []) fun i=>[iv (o (0+i))])]):sL (AIs) (B6 b) (AH1 rb rn rv mb mn mv q o) (xN,(B6 b),[fE.var false false [iv 0,AK rb rn rv,EV.ms 5 1 0 (0+q.m) (some 0),AT],oV q.cells,Bj q,oA 1 true q.m fun i=>[iv (o i)],fC,oA 1 true 0 (Aw 0 q.m (fun i=>[].getD i []) fun i=>[iv (o (0+i))])]):=
 kLm pS nS0 [] (.mk [] [] [] [some ((EV.ms 1 1 0 (0+q.m) (some 0),[oA 1 true q.m fun i=>[iv (o i)],oA 1 true 0 (Aw 0 q.m (fun i=>[].getD i []) fun i=>[iv (o (0+i))])]))] []) bY.nil (.cons ihc .nil) 2108 63 [0,1,2,3,4,5]
theorem AAx (hz:0<q.m)(ihc:sF 25 [.ms 0 1 0 q.m (some q.m)] [oA 1 true q.m fun i=>[iv (o i)]] (EV.ms 1 1 0 (0+q.m) none) [oA 1 true q.m fun i=>[iv (o i)],oA 1 false (0+q.m) (Ar 0 (fun i=>[]) fun i=>[iv (o (0+i))])]):sL (AIs) (B6 b) (AH1 rb rn rv mb mn mv q o) (xN,(B6 b),[fE.var false false [iv 0,AK rb rn rv,EV.ms 5 1 0 (0+q.m) none,AT],oV q.cells,Bj q,oA 1 true q.m fun i=>[iv (o i)],fC,oA 1 false (0+q.m) (Ar 0 (fun i=>[]) fun i=>[iv (o (0+i))])]):=
 kLm pS nS0 [] (.mk [] [] [] [some ((EV.ms 1 1 0 (0+q.m) none,[oA 1 true q.m fun i=>[iv (o i)],oA 1 false (0+q.m) (Ar 0 (fun i=>[]) fun i=>[iv (o (0+i))])]))] []) bY.nil (.cons ihc .nil) 2108 63 [0,1,2,3,4,5]
end
abbrev Et (a0:fG)(a1:Nat->Int):=sl true 1 a0.m fun i=>[iv (a1 i)]
abbrev U2 (a0:fG)(a1:Nat->Int):=AW true a0.m a1
abbrev Dq (a0:Int)(a1:fG):=decide (a0<a1.place)
abbrev Dp (a0:Int)(a1:fG):=decide (a0>=a1.place)
abbrev U3 (a0:fG)(a1:Nat->Int):=U2 a0 a1
abbrev AJL (a0:fG)(a1:Nat->Int):=[fE.var false false [iv 0,Et a0 a1,Et a0 a1,AT],oV a0.cells,MC a0,oA 1 true a0.m fun i=>[iv (a1 i)],fC]
abbrev Bs (a0:fG)(a1:Nat->Int):=U3 a0 a1
abbrev AIb (a0:Bool)(a1:Nat)(a2:Nat->Int)(a3:fG)(a4:Nat->Int):=[fE.var false false [iv 0,Pf a0 a1 a2,Et a3 a4,AT],oV a3.cells,MC a3,oA 1 true a3.m fun i=>[iv (a4 i)],fC]
section
variable (q:fG)(n:Nat)(p:Nat->Int)(i:Int)(o:Nat->Int)(rb:Bool)(rn:Nat)(rv:Nat->Int)(mb:Bool)(mn:Nat)(mv:Nat->Int)(a:Int)(b:Int)(hn:0<n)(hn2:n<=100)(hm:q.m<=8)(h0:0<=i)(hi:(q.m:Int)<=i)(h1:(rb && mb)=false)(iha:sP 40 [ag q.cells,BI n p] (AH0 a b))(ih11:sL (cT1 (cR (cL (cR (cR (AIr)))))) (B6 b) (AH1 rb rn rv mb mn mv q o) ((xN,frame 75 [(2,pt 0 0),(3,pt 1 0),(4,pt 2 0),(5,pt 4 0),(11,iv b)],[fE.var false false [iv 0,Bs q o,AW mb mn mv,Aq],oV q.cells,DS q,oA 1 true q.m fun i=>[iv (o i)],fC]):RC))(ih13a:sL (AIs) (B6 b) (AH1 rb rn rv mb mn mv q o) ((xN,frame 75 [(2,pt 0 0),(3,pt 1 0),(4,pt 2 0),(5,pt 4 0),(11,iv b)],[fE.var false false [iv 0,AW rb rn rv,Bs q o,Aq],oV q.cells,DS q,oA 1 true q.m fun i=>[iv (o i)],fC]):RC))(ih13b:sL (AIs) (B6 b) [fE.var false false [iv 0,Bs q o,AW mb mn mv,Aq],oV q.cells,DS q,oA 1 true q.m fun i=>[iv (o i)],fC] ((xN,frame 75 [(2,pt 0 0),(3,pt 1 0),(4,pt 2 0),(5,pt 4 0),(11,iv b)],[fE.var false false [iv 0,Bs q o,Bs q o,Aq],oV q.cells,DS q,oA 1 true q.m fun i=>[iv (o i)],fC]):RC))
include q n p i o rb rn rv mb mn mv a b hn hn2 hm h0 hi h1 iha ih11 ih13a ih13b
theorem AAy (q0:(!!rb)=true)(q1:(!!mb)=false)(q2:(Dq a q)=true)(q3:(Dp b q)=true):sF 39 [iv i,AE n p,pt 0 0,pt 1 0,pt 2 0,pt 4 0] (AH1 rb rn rv mb mn mv q o) (tu []) (AIb rb rn rv q o):=
 kFm pS nS _ (.mk (dS 0x100001b2222b3333a) [(20,.is 2108 31 (xN,(B6 b),(AIb rb rn rv q o)))] [some (AH0 a b)] [] []) (kO (kz q0 (kz q1 (kz q2 (kz q3 AN))))) (.cons ih13a (oI (!mb) (oI ((!rb)=false) (.cons iha (oI (BN i q=false) .nil))))) 31 [0,1,2,3,4]
theorem AAz (q0:(!!rb)=true)(q1:(!!mb)=false)(q2:(Dq a q)=true)(q3:(Dp b q)=false):sF 39 [iv i,AE n p,pt 0 0,pt 1 0,pt 2 0,pt 4 0] (AH1 rb rn rv mb mn mv q o) (tu []) (AIA rb rn rv mb mn mv q o):=
 kFm pS nS _ (.mk (dS 0x100001b2222b3333) [] [some (AH0 a b)] [] []) (kO (kz q0 (kz q1 (kz q2 (kz q3 AN))))) (oI ((!rb)=false) (.cons iha (oI (BN i q=false) .nil))) 31 [0,1,2,3,4]
theorem AA0 (q0:(!!rb)=true)(q1:(!!mb)=false)(q2:(Dq a q)=false)(q3:(Dp b q)=true):sF 39 [iv i,AE n p,pt 0 0,pt 1 0,pt 2 0,pt 4 0] (AH1 rb rn rv mb mn mv q o) (tu []) (AIb rb rn rv q o):=
 kFm pS nS _ (.mk (dS 0x100001b2222013e333a) [(20,.is 2108 31 (xN,(B6 b),(AIb rb rn rv q o)))] [some (AH0 a b)] [] []) (kO (kz q0 (kz q1 (kz q2 (kz q3 AN))))) (.cons ih13a (oI (!mb) (.cons iha (oI (BN i q=false) .nil)))) 31 [0,1,2,3,4]
theorem AA1 (q0:(!!rb)=true)(q1:(!!mb)=false)(q2:(Dq a q)=false)(q3:(Dp b q)=false):sF 39 [iv i,AE n p,pt 0 0,pt 1 0,pt 2 0,pt 4 0] (AH1 rb rn rv mb mn mv q o) (tu []) (AIA rb rn rv mb mn mv q o):=
 kFm pS nS _ (.mk (dS 0x100001b2222013e333) [] [some (AH0 a b)] [] []) (kO (kz q0 (kz q1 (kz q2 (kz q3 AN))))) (.cons iha (oI (BN i q=false) .nil)) 31 [0,1,2,3,4]
theorem AA2 (q0:(!!rb)=false)(q1:(Dq a q)=true)(q2:(Dp b q)=true)(q3:(!mb)=true):sF 39 [iv i,AE n p,pt 0 0,pt 1 0,pt 2 0,pt 4 0] (AH1 rb rn rv mb mn mv q o) (tu []) (AJL q o):=
 kFm pS nS _ (.mk (dS 0x1000001be1111a22223) [(16,.is 2108 31 (xN,(B6 b),[fE.var false false [iv 0,Et q o,AK mb mn mv,AT],oV q.cells,Bj q,oA 1 true q.m fun i=>[iv (o i)],fC])),(3,.is 2108 31 (xN,(B6 b),(AJL q o)))] [some (AH0 a b)] [] []) (kO (kz q0 (kz q1 (kz q2 (kz q3 AN))))) (.cons ih13b (.cons ih11 (oI (!rb) (.cons iha (oI (BN i q=false) .nil))))) 31 [0,1,2,3,4]
theorem AA3 (q0:(!!rb)=false)(q1:(Dq a q)=true)(q2:(Dp b q)=true)(q3:(!mb)=false):sF 39 [iv i,AE n p,pt 0 0,pt 1 0,pt 2 0,pt 4 0] (AH1 rb rn rv mb mn mv q o) (tu []) [fE.var false false [iv 0,Et q o,AK mb mn mv,AT],oV q.cells,Bj q,oA 1 true q.m fun i=>[iv (o i)],fC]:=
 kFm pS nS _ (.mk (dS 0x1000001be1111a22223) [(16,.is 2108 31 (xN,(B6 b),[fE.var false false [iv 0,Et q o,AK mb mn mv,AT],oV q.cells,Bj q,oA 1 true q.m fun i=>[iv (o i)],fC]))] [some (AH0 a b)] [] []) (kO (kz q0 (kz q1 (kz q2 (kz q3 AN))))) (.cons ih11 (oI (!rb) (.cons iha (oI (BN i q=false) .nil)))) 31 [0,1,2,3,4]
theorem Y4 (q0:(!!rb)=false)(q1:(Dq a q)=true)(q2:(Dp b q)=false):sF 39 [iv i,AE n p,pt 0 0,pt 1 0,pt 2 0,pt 4 0] (AH1 rb rn rv mb mn mv q o) (tu []) [fE.var false false [iv 0,Et q o,AK mb mn mv,AT],oV q.cells,Bj q,oA 1 true q.m fun i=>[iv (o i)],fC]:=
 kFm pS nS _ (.mk (dS 0x1000001be1111a2222) [(16,.is 2108 31 (xN,(B6 b),[fE.var false false [iv 0,Et q o,AK mb mn mv,AT],oV q.cells,Bj q,oA 1 true q.m fun i=>[iv (o i)],fC]))] [some (AH0 a b)] [] []) (kO (kz q0 (kz q1 (kz q2 AN)))) (.cons ih11 (oI (!rb) (.cons iha (oI (BN i q=false) .nil)))) 31 [0,1,2,3,4]
theorem AA4 (q0:(!!rb)=false)(q1:(Dq a q)=false)(q2:(Dp b q)=true)(q3:(!mb)=true):sF 39 [iv i,AE n p,pt 0 0,pt 1 0,pt 2 0,pt 4 0] (AH1 rb rn rv mb mn mv q o) (tu []) (AIb rb rn rv q o):=
 kFm pS nS _ (.mk (dS 0x1000001be1111012e2223) [(20,.is 2108 31 (xN,(B6 b),(AIb rb rn rv q o)))] [some (AH0 a b)] [] []) (kO (kz q0 (kz q1 (kz q2 (kz q3 AN))))) (.cons ih13a (.cons iha (oI (BN i q=false) .nil))) 31 [0,1,2,3,4]
theorem AA5 (q0:(!!rb)=false)(q1:(Dq a q)=false)(q2:(Dp b q)=true)(q3:(!mb)=false):sF 39 [iv i,AE n p,pt 0 0,pt 1 0,pt 2 0,pt 4 0] (AH1 rb rn rv mb mn mv q o) (tu []) (AIA rb rn rv mb mn mv q o):=
 kFm pS nS _ (.mk (dS 0x1000001be1111012e2223) [] [some (AH0 a b)] [] []) (kO (kz q0 (kz q1 (kz q2 (kz q3 AN))))) (.cons iha (oI (BN i q=false) .nil)) 31 [0,1,2,3,4]
theorem Wk (q0:(!!rb)=false)(q1:(Dq a q)=false)(q2:(Dp b q)=false):sF 39 [iv i,AE n p,pt 0 0,pt 1 0,pt 2 0,pt 4 0] (AH1 rb rn rv mb mn mv q o) (tu []) (AIA rb rn rv mb mn mv q o):=
 kFm pS nS _ (.mk (dS 0x1000001be1111012e222) [] [some (AH0 a b)] [] []) (kO (kz q0 (kz q1 (kz q2 AN)))) (.cons iha (oI (BN i q=false) .nil)) 31 [0,1,2,3,4]
end
section
variable (q:fG)
def CS (c:Nat->Int):Nat->Nat->Int
 | 0=>q.uV
 | k+1=>I3 q (CS c k) k (c k)
def Bw (c:Nat->Int):Prop:=∀ g,g<q.m->1<=c g/\c g<=3
abbrev fG.own:Nat:=q.uO.toNat
def ET (c:Nat->Int):Prop:=(HD q.n q.own (CS q c q.m):Int)<q.place
def D1 (c:Nat->Int):Prop:=q.place<=(DR q.n q.own (CS q c q.m):Int)
abbrev wkH (rb:Bool)(rn:Nat)(rv:Nat->Int)(mb:Bool)(mn:Nat)(mv:Nat->Int)(o:Nat->Int):AL:=
 [fE.var false false [.int .i64 0,AW rb rn rv,AW mb mn mv,EV.uS false 0 0 fun _=>[]],fE.var false true q.cells,fE.var false false [.ms 3 1 0 q.m (some q.m)],fE.arr false true 1 true q.m fun i=>[.int .i64 (o i)],fE.var false false [.func (.func 39) [] [.ptr 0 0,.ptr 1 0,.ptr 2 0,.ptr 4 0]]]
abbrev wkA (i:Int)(n:Nat)(p:Nat->Int):List EV:=[.int .i64 i,AW true n p,.ptr 0 0,.ptr 1 0,.ptr 2 0,.ptr 4 0]
structure cI (P S:(Nat->Int)->Prop) (b:Bool) (n:Nat) (v:Nat->Int) (b':Bool) (n':Nat) (v':Nat->Int):Prop where
 old:b=true->b'=true/\n'=n/\v'=v
 new:b=false->b'=true->n'=q.m/\Bw q v'/\P v'
 non:b'=false->∀ c,Bw q c->S c->¬ P c
end
section
variable {q:fG}
theorem IT {c d:Nat->Int}:∀ {k:Nat},(∀ g,g<k->c g=d g)->CS q c k=CS q d k
 | 0,_=>rfl
 | k+1,h=>by rw [CS,CS,IT (k:=k) fun g hg=>h g (by omega),h k (by omega)]
theorem OG (h:q.Ok){c:Nat->Int}:∀ (k:Nat) (i:Nat),i<q.n->-99999 - 2000*(k:Int)<=CS q c k i/\CS q c k i<=99999+2000*(k:Int)
 | 0,i,hi=>by have:=h.uV i hi; simp only [CS]; omega
 | k+1,i,hi=>by
  have:=OG h (c:=c) k i hi;obtain ⟨w1,w2,w3⟩:=h.aI;have a:0<=Mi q (c k)/\Mi q (c k)<=999:=by unfold Mi; split<;>(first | omega | (split<;>omega))
  have b:0<=Mj q (c k)/\Mj q (c k)<=999:=by unfold Mj; split<;>(first | omega | (split<;>omega))
  simp only [CS,I3];split<;>split<;>omega
theorem cI.trans {P S T:(Nat->Int)->Prop}{b b1 b2:Bool}{n n1 n2:Nat}{v v1 v2:Nat->Int}(h:cI q P S b n v b1 n1 v1)(g:cI q P T b1 n1 v1 b2 n2 v2):cI q P (fun c=>S c∨T c) b n v b2 n2 v2:=by
 refine ⟨fun hb=>?_,fun hb hb2=>?_,fun hb2 c hc hs=>?_⟩
 ·obtain ⟨a1,a2,a3⟩:=h.old hb;obtain ⟨b1,b2,b3⟩:=g.old a1;exact ⟨b1,b2.trans a2,b3.trans a3⟩
 ·cases e:b1
  ·exact g.new e hb2
  ·obtain ⟨_,e2,e3⟩:=g.old e;rw [e2,e3]; exact h.new hb e
 ·have hb1:b1=false:=by
   cases e:b1
   ·rfl
   ·have:=(g.old e).1; rw [hb2] at this; cases this
  rcases hs with hs | hs
  ·exact h.non hb1 c hc hs
  ·exact g.non hb2 c hc hs
theorem cI.mono {P S T:(Nat->Int)->Prop}{b b1:Bool}{n n1:Nat}{v v1:Nat->Int}(h:cI q P S b n v b1 n1 v1)(hT:∀ c,Bw q c->T c->S c):cI q P T b n v b1 n1 v1:=
 ⟨h.old,h.new,fun hb c hc ht=>h.non hb c hc (hT c hc ht)⟩
theorem cI.same {P S:(Nat->Int)->Prop}{b:Bool}{n:Nat}{v:Nat->Int}(h:b=false->∀ c,Bw q c->S c->¬ P c):cI q P S b n v b n v:=
 ⟨fun hb=>⟨hb,rfl,rfl⟩,(fun h1 h2=>by rw [h1] at h2; cases h2),h⟩
theorem cI.set {P S:(Nat->Int)->Prop}{n:Nat}{v o:Nat->Int}(hc:Bw q o)(hp:P o):cI q P S false n v true q.m o:=
 ⟨(fun h=>by cases h),fun _ _=>⟨rfl,hc,hp⟩,(fun h=>by cases h)⟩
theorem OH {c d:Nat->Int}(h:∀ g,g<q.m->c g=d g):(ET q c↔ET q d)/\(D1 q c↔D1 q d):=by
 unfold ET D1;rw [IT h];exact ⟨Iff.rfl,Iff.rfl⟩
end
section
variable {q:fG}(hq:q.Ok)(hm:q.m<=8)
include hq hm
theorem TQ {o:Nat->Int}{n:Nat}:bL (.uS true 1 n (Aw 0 n (fun (i:Nat)=>[].getD i []) fun (i:Nat)=>[EV.int IntKind.i64 (o (0+i))])) (AW true n o):=by
 refine bL.uS fun i hi=>?_;simp only [Aw,uJ];rw [if_neg (by omega),if_pos hi,Nat.sub_zero]
theorem TR {o:Nat->Int}{n:Nat}:bL (.uS true 1 n (Ar 0 (fun (i:Nat)=>[]) fun (i:Nat)=>[EV.int IntKind.i64 (o (0+i))])) (AW true n o):=by
 refine bL.uS fun i hi=>?_;simp only [Ar,uJ];rw [if_neg (by omega),Nat.sub_zero]
theorem ADV (rb:Bool)(rn:Nat)(rv:Nat->Int)(mb:Bool)(mn:Nat)(mv:Nat->Int)(p o:Nat->Int)(i b:Int)(h0:0<=i):uT prog fF false (cT1 (cR (cL (cR (cR (cR (AY prog 39)))))))
  (frame 75 [(2,.ptr 0 0),(3,.ptr 1 0),(4,.ptr 2 0),(5,.ptr 4 0),(11,.int .i64 b)]) (wkH q rb rn rv mb mn mv o) (EX.normal,frame 75 [(2,.ptr 0 0),(3,.ptr 1 0),(4,.ptr 2 0),(5,.ptr 4 0),(11,.int .i64 b)],wkH q true q.m o mb mn mv o):=by
 have n2:=hq.n2;rcases Nat.eq_zero_or_pos q.m with hz | hz
 ·have hc:=Wh q.m o (by omega) (by simpa using hz);have h:=AAu q q.n p i o rb rn rv mb mn mv b (by omega) (by omega) hm h0 hz hc;rw [uJ] at h;have h2:=uT.post h (NF (r:=5) (q:=0) (j:=1) rfl rfl (by omega) rfl);exact uT.aX [0,1,2,3,4] h2 (show Db 5 [0,1,2,3,4]=true by decide) rfl (uI _) (.cons (uU.var (.cons (bL.refl _) (.cons (TQ hq hm) (.cons (bL.refl _) (.cons (bL.refl _) .nil))))) (.cons (uH _) (.cons (uH _) (.cons (uH _) (.cons (uH _) .nil)))))
 ·have hc:=Wi q.m o (by omega) (uL (by omega));have h:=AAv q q.n p i o rb rn rv mb mn mv b (by omega) (by omega) hm h0 hz hc;rw [uJ] at h;have h2:=uT.post h (NF (r:=5) (q:=0) (j:=1) rfl rfl (by omega) rfl);exact uT.aX [0,1,2,3,4] h2 (show Db 5 [0,1,2,3,4]=true by decide) rfl (uI _) (.cons (uU.var (.cons (bL.refl _) (.cons (TR hq hm) (.cons (bL.refl _) (.cons (bL.refl _) .nil))))) (.cons (uH _) (.cons (uH _) (.cons (uH _) (.cons (uH _) .nil)))))
theorem AA6 (rb:Bool)(rn:Nat)(rv:Nat->Int)(mb:Bool)(mn:Nat)(mv:Nat->Int)(p o:Nat->Int)(i b:Int)(h0:0<=i):uT prog fF false (cT1 (cR (cR (cR (cR (cR (AY prog 39)))))))
  (frame 75 [(2,.ptr 0 0),(3,.ptr 1 0),(4,.ptr 2 0),(5,.ptr 4 0),(11,.int .i64 b)]) (wkH q rb rn rv mb mn mv o) (EX.normal,frame 75 [(2,.ptr 0 0),(3,.ptr 1 0),(4,.ptr 2 0),(5,.ptr 4 0),(11,.int .i64 b)],wkH q rb rn rv true q.m o o):=by
 have n2:=hq.n2;rcases Nat.eq_zero_or_pos q.m with hz | hz
 ·have hc:=Wh q.m o (by omega) (by simpa using hz);have h:=AAw q q.n p i o rb rn rv mb mn mv b (by omega) (by omega) hm h0 hz hc;rw [uJ] at h;have h2:=uT.post h (NF (r:=5) (q:=0) (j:=2) rfl rfl (by omega) rfl);exact uT.aX [0,1,2,3,4] h2 (show Db 5 [0,1,2,3,4]=true by decide) rfl (uI _) (.cons (uU.var (.cons (bL.refl _) (.cons (bL.refl _) (.cons (TQ hq hm) (.cons (bL.refl _) .nil))))) (.cons (uH _) (.cons (uH _) (.cons (uH _) (.cons (uH _) .nil)))))
 ·have hc:=Wi q.m o (by omega) (uL (by omega));have h:=AAx q q.n p i o rb rn rv mb mn mv b (by omega) (by omega) hm h0 hz hc;rw [uJ] at h;have h2:=uT.post h (NF (r:=5) (q:=0) (j:=2) rfl rfl (by omega) rfl);exact uT.aX [0,1,2,3,4] h2 (show Db 5 [0,1,2,3,4]=true by decide) rfl (uI _) (.cons (uU.var (.cons (bL.refl _) (.cons (bL.refl _) (.cons (TR hq hm) (.cons (bL.refl _) .nil))))) (.cons (uH _) (.cons (uH _) (.cons (uH _) (.cons (uH _) .nil)))))
theorem X6 (rb:Bool)(rn:Nat)(rv:Nat->Int)(mb:Bool)(mn:Nat)(mv:Nat->Int)(o:Nat->Int)(ho:Bw q o)(hb:(rb && mb)=false):∃ (rb':Bool) (rn':Nat) (rv':Nat->Int) (mb':Bool) (mn':Nat) (mv':Nat->Int),
  cI q (ET q) (fun c=>∀ g,g<q.m->c g=o g) rb rn rv rb' rn' rv'/\cI q (D1 q) (fun c=>∀ g,g<q.m->c g=o g) mb mn mv mb' mn' mv'/\
  aA prog fF 39 (wkA q.m q.n (CS q o q.m)) (wkH q rb rn rv mb mn mv o) (.tuple []) (wkH q rb' rn' rv' mb' mn' mv' o):=by
 have n2:=hq.n2;have hcl:=hq.uO;have ha:=Pd (q:=q) (p:=CS q o q.m) (n:=q.n) (own:=q.own) (by show q.uO=((q.uO.toNat:Nat):Int); omega) (by show q.uO.toNat<q.n; omega) (by omega);have h0:(0:Int)<=(q.m:Int):=by omega
 have i11:=ADV hq hm rb rn rv mb mn mv (CS q o q.m) o q.m (DR q.n q.own (CS q o q.m)) h0;have i13a:=AA6 hq hm rb rn rv mb mn mv (CS q o q.m) o q.m (DR q.n q.own (CS q o q.m)) h0;have i13b:=AA6 hq hm true q.m o mb mn mv (CS q o q.m) o q.m (DR q.n q.own (CS q o q.m)) h0;have nR:¬ ET q o->∀ b:Bool,b=false->∀ c,Bw q c->(∀ g,g<q.m->c g=o g)->¬ ET q c:=fun h b _ c _ he hg=>h ((OH he).1.1 hg);have nM:¬ D1 q o->∀ b:Bool,b=false->∀ c,Bw q c->(∀ g,g<q.m->c g=o g)->¬ D1 q c:=fun h b _ c _ he hg=>h ((OH he).2.1 hg);by_cases hR:ET q o<;>by_cases hM:D1 q o<;>cases rb<;>cases mb
 ·exact ⟨_,_,_,_,_,_,.set ho hR,.set ho hM,AA2 q q.n (CS q o q.m) q.m o false rn rv false mn mv _ _ (by omega) (by omega) hm h0 (by omega) rfl ha i11 i13a i13b (by simp) (uK hR) (uK hM) (by simp)⟩
 ·exact ⟨_,_,_,_,_,_,.set ho hR,.same (fun h=>by cases h),AA3 q q.n (CS q o q.m) q.m o false rn rv true mn mv _ _ (by omega) (by omega) hm h0 (by omega) rfl ha i11 i13a i13b (by simp) (uK hR) (uK hM) (by simp)⟩
 ·exact ⟨_,_,_,_,_,_,.same (fun h=>by cases h),.set ho hM,AAy q q.n (CS q o q.m) q.m o true rn rv false mn mv _ _ (by omega) (by omega) hm h0 (by omega) rfl ha i11 i13a i13b (by simp) (by simp) (uK hR) (uK hM)⟩
 ·cases hb
 ·exact ⟨_,_,_,_,_,_,.set ho hR,.same (nM hM _),Y4 q q.n (CS q o q.m) q.m o false rn rv false mn mv _ _ (by omega) (by omega) hm h0 (by omega) rfl ha i11 i13a i13b (by simp) (uK hR) (uL hM)⟩
 ·exact ⟨_,_,_,_,_,_,.set ho hR,.same (nM hM _),Y4 q q.n (CS q o q.m) q.m o false rn rv true mn mv _ _ (by omega) (by omega) hm h0 (by omega) rfl ha i11 i13a i13b (by simp) (uK hR) (uL hM)⟩
 ·exact ⟨_,_,_,_,_,_,.same (fun h=>by cases h),.same (nM hM _),AAz q q.n (CS q o q.m) q.m o true rn rv false mn mv _ _ (by omega) (by omega) hm h0 (by omega) rfl ha i11 i13a i13b (by simp) (by simp) (uK hR) (uL hM)⟩
 ·cases hb
 ·exact ⟨_,_,_,_,_,_,.same (nR hR _),.set ho hM,AA4 q q.n (CS q o q.m) q.m o false rn rv false mn mv _ _ (by omega) (by omega) hm h0 (by omega) rfl ha i11 i13a i13b (by simp) (uL hR) (uK hM) (by simp)⟩
 ·exact ⟨_,_,_,_,_,_,.same (nR hR _),.same (fun h=>by cases h),AA5 q q.n (CS q o q.m) q.m o false rn rv true mn mv _ _ (by omega) (by omega) hm h0 (by omega) rfl ha i11 i13a i13b (by simp) (uL hR) (uK hM) (by simp)⟩
 ·exact ⟨_,_,_,_,_,_,.same (fun h=>by cases h),.set ho hM,AA0 q q.n (CS q o q.m) q.m o true rn rv false mn mv _ _ (by omega) (by omega) hm h0 (by omega) rfl ha i11 i13a i13b (by simp) (by simp) (uL hR) (uK hM)⟩
 ·cases hb
 ·exact ⟨_,_,_,_,_,_,.same (nR hR _),.same (nM hM _),Wk q q.n (CS q o q.m) q.m o false rn rv false mn mv _ _ (by omega) (by omega) hm h0 (by omega) rfl ha i11 i13a i13b (by simp) (uL hR) (uL hM)⟩
 ·exact ⟨_,_,_,_,_,_,.same (nR hR _),.same (nM hM _),Wk q q.n (CS q o q.m) q.m o false rn rv true mn mv _ _ (by omega) (by omega) hm h0 (by omega) rfl ha i11 i13a i13b (by simp) (uL hR) (uL hM)⟩
 ·exact ⟨_,_,_,_,_,_,.same (fun h=>by cases h),.same (nM hM _),AA1 q q.n (CS q o q.m) q.m o true rn rv false mn mv _ _ (by omega) (by omega) hm h0 (by omega) rfl ha i11 i13a i13b (by simp) (by simp) (uL hR) (uL hM)⟩
 ·cases hb
abbrev wkT (i:Nat)(n:Nat)(p:Nat->Int)(x:Int):List EV:=frame 75 [(0,.int .i64 i),(1,AW true n p),(2,.ptr 0 0),(3,.ptr 1 0),(4,.ptr 2 0),(5,.ptr 4 0),(8,.int .i64 x)]
def AA7 (q:fG)(i:Nat):Prop:=∀ (rb:Bool) (rn:Nat) (rv:Nat->Int) (mb:Bool) (mn:Nat) (mv:Nat->Int) (o:Nat->Int),(∀ g,g<i->1<=o g/\o g<=3)->
 ∃ (rb':Bool) (rn':Nat) (rv':Nat->Int) (mb':Bool) (mn':Nat) (mv':Nat->Int) (o':Nat->Int),cI q (ET q) (fun c=>∀ g,g<i->c g=o g) rb rn rv rb' rn' rv'/\cI q (D1 q) (fun c=>∀ g,g<i->c g=o g) mb mn mv mb' mn' mv'/\
  (∀ g,g<i->o' g=o g)/\aA prog fF 39 (wkA i q.n (CS q o i)) (wkH q rb rn rv mb mn mv o) (.tuple []) (wkH q rb' rn' rv' mb' mn' mv' o')
theorem TS (i:Nat)(hi:i<q.m)(ih:AA7 q (i+1)):∀ (k:Nat) (x:Int),x+k=4->1<=x->∀ (rb:Bool) (rn:Nat) (rv:Nat->Int) (mb:Bool) (mn:Nat) (mv:Nat->Int) (o:Nat->Int),(∀ g,g<i->1<=o g/\o g<=3)->
  ∃ (rb':Bool) (rn':Nat) (rv':Nat->Int) (mb':Bool) (mn':Nat) (mv':Nat->Int) (o':Nat->Int),cI q (ET q) (fun c=>(∀ g,g<i->c g=o g)/\x<=c i) rb rn rv rb' rn' rv'/\cI q (D1 q) (fun c=>(∀ g,g<i->c g=o g)/\x<=c i) mb mn mv mb' mn' mv'/\
  (∀ g,g<i->o' g=o g)/\aB prog fF false AAp (wkT i q.n (CS q o i) x) (wkH q rb rn rv mb mn mv o) (EX.leave 0,frame 75 [],wkH q rb' rn' rv' mb' mn' mv' o')
 | 0,x,hx,h1,rb,rn,rv,mb,mn,mv,o,ho=>by
  obtain rfl:x=4:=by omega
  have n2:=hq.n2;refine ⟨rb,rn,rv,mb,mn,mv,o,.same (fun _ c hc hs=>?_),.same (fun _ c hc hs=>?_),fun g _=>rfl,aB.last (AAr q q.n (CS q o i) i o rb rn rv mb mn mv 4 (fun _=>0) o rb rn rv mb mn mv o (by omega) (by omega) hm (by omega) (by omega) (by omega) (by omega) (fun h=>by omega) (fun h=>by omega) (fun h=>by omega) (fun h=>by omega) (by simp)) (by simp)⟩
  ·have:=(hc i hi).2; have:=hs.2; omega
  ·have:=(hc i hi).2; have:=hs.2; omega
 | k+1,x,hx,h1,rb,rn,rv,mb,mn,mv,o,ho=>by
  have n2:=hq.n2;have hbd:=OG hq (c:=o) i;have hop:=hq.op i hi;have e1:∀ g,g<i->BK o i x g=o g:=fun g hg=>Ap (by omega);have ef:CS q (BK o i x) (i+1)=I3 q (CS q o i) i x:=by rw [CS,IT e1,Ao]
  obtain ⟨rb1,rn1,rv1,mb1,mn1,mv1,o1,s1,s2,s3,s4⟩:=ih rb rn rv mb mn mv (BK o i x) (fun g hg=>by
   by_cases h:g=i
   ·subst h; rw [Ao]; omega
   ·rw [Ap h]; exact ho g (by omega))
  rw [ef] at s4;have e3:∀ g,g<i->o1 g=o g:=fun g hg=>by rw [s3 g (by omega)]; exact e1 g hg
  obtain ⟨rb2,rn2,rv2,mb2,mn2,mv2,o2,t1,t2,t3,t4⟩:=TS i hi ih k (x+1) (by omega) (by omega) rb1 rn1 rv1 mb1 mn1 mv1 o1 (fun g hg=>by rw [e3 g hg]; exact ho g hg);have split:∀ c,Bw q c->((∀ g,g<i->c g=o g)/\x<=c i)->(∀ g,g<i+1->c g=BK o i x g)∨((∀ g,g<i->c g=o1 g)/\x+1<=c i):=fun c hc hs=>by
   by_cases h:c i=x
   ·left;intro g hg;by_cases hgi:g=i
    ·subst hgi; rw [Ao]; exact h
    ·rw [Ap hgi]; exact hs.1 g (by omega)
   ·right;exact ⟨fun g hg=>by rw [e3 g hg]; exact hs.1 g hg,by have:=hs.2; omega⟩
  have i5:=sw5 q q.n (CS q o i) i o rb rn rv mb mn mv x (by omega) (by omega) hm (by omega) (by omega);rw [uJ] at i5;have i5':=uT.weaken (uI _) (eW.refl _) i5 (uI _) (.cons (uH _) (.cons (uH _) (.cons (uH _) (.cons (uH _) (.cons (uH _) (.cons (uU.arr (row':=fun j=>[.int .i64 (CS q o i j)]) fun j hj=>by simp [Ar]) .nil))))));have hp:=Wj (q:=q) (n:=q.n) (p:=CS q o i) (g:=i) (x:=x) hq.aI hi hop (fun j hj=>by have:=hbd j hj; omega);have i6:=sw6 q q.n (CS q o i) i o rb rn rv mb mn mv x (I3 q (CS q o i) i x) (by omega) (by omega) hm (by omega) (by omega) hp;have i6':=uT.post i6 (X5 (r:=5) (j:=9) rfl rfl);have i7:=sw7 q q.n (CS q o i) i o rb rn rv mb mn mv x (I3 q (CS q o i) i x) (by omega) (by omega) hm (by omega) (by omega) (by omega);have i7':=uT.weaken (uI _) (eW.refl _) i7 (uI _) (.cons (uH _) (.cons (uH _) (.cons (uH _) (.cons (uU.arr (row':=fun j=>[.int .i64 (BK o i x j)]) fun j hj=>by
   simp only [BC,BK,uJ,uG];by_cases h:j=i
   ·subst h; rw [if_pos rfl,if_pos rfl]
   ·rw [if_neg h,if_neg h]) (.cons (uH _) (.cons (uH _) .nil))))))
  have hstep:=AAq q q.n (CS q o i) i o rb rn rv mb mn mv x (I3 q (CS q o i) i x) (BK o i x) rb1 rn1 rv1 mb1 mn1 mv1 o1 (by omega) (by omega) hm (by omega) (by omega) (by omega) (by omega) (fun _=>i5') (fun _=>i6') (fun _=>i7') (fun _=>s4) (uK (by omega));rw [IT e3] at t4;exact ⟨rb2,rn2,rv2,mb2,mn2,mv2,o2,(s1.trans t1).mono split,(s2.trans t2).mono split,fun g hg=>by rw [t3 g hg,e3 g hg],aB.step hstep t4⟩
theorem Rd:∀ (k i:Nat),i+k=q.m->AA7 q i
 | 0,i,hk=>by
  obtain rfl:i=q.m:=by omega
  intro rb rn rv mb mn mv o ho;have n2:=hq.n2;cases hb:(rb && mb)
  ·obtain ⟨rb',rn',rv',mb',mn',mv',h1,h2,h3⟩:=X6 hq hm rb rn rv mb mn mv o ho hb;exact ⟨rb',rn',rv',mb',mn',mv',o,h1,h2,fun _ _=>rfl,h3⟩
  ·rw [uF] at hb;refine ⟨rb,rn,rv,mb,mn,mv,o,.same (fun h=>by rw [hb.1] at h; cases h),.same (fun h=>by rw [hb.2] at h; cases h),fun _ _=>rfl,?_⟩;exact Y3 q q.n _ q.m o rb rn rv mb mn mv (by omega) (by omega) hm (by omega) (by omega) hb.1 hb.2
 | k+1,i,hk=>by
  intro rb rn rv mb mn mv o ho;have n2:=hq.n2;cases hb:(rb && mb)
  ·obtain ⟨rb',rn',rv',mb',mn',mv',o',h1,h2,h3,h4⟩:=TS hq hm i (by omega) (Rd k (i+1) (by omega)) 3 1 (by omega) (by omega) rb rn rv mb mn mv o ho;have hC:=aB.eO (path:=AAo) h4 (by kernel_rfl);have mo:∀ c,Bw q c->(∀ g,g<i->c g=o g)->((∀ g,g<i->c g=o g)/\1<=c i):=fun c hc hs=>⟨hs,(hc i (by omega)).1⟩
   refine ⟨rb',rn',rv',mb',mn',mv',o',h1.mono mo,h2.mono mo,h3,?_⟩;cases hrb:rb
   ·subst hrb;exact AAt q q.n _ i o false rn rv mb mn mv rb' rn' rv' mb' mn' mv' o' (by omega) (by omega) hm (by omega) (by omega) (by omega) hb hC (by simp)
   ·subst hrb;cases hmb:mb
    ·subst hmb;exact AAs q q.n _ i o true rn rv false mn mv rb' rn' rv' mb' mn' mv' o' (by omega) (by omega) hm (by omega) (by omega) (by omega) hb hC (by simp) (by simp)
    ·subst hmb; cases hb
  ·rw [uF] at hb;refine ⟨rb,rn,rv,mb,mn,mv,o,.same (fun h=>by rw [hb.1] at h; cases h),.same (fun h=>by rw [hb.2] at h; cases h),fun _ _=>rfl,?_⟩;exact Y3 q q.n _ i o rb rn rv mb mn mv (by omega) (by omega) hm (by omega) (by omega) hb.1 hb.2
end
section
variable (q:fG)(rb:Bool)(rn:Nat)(rv:Nat->Int)(mb:Bool)(mn:Nat)(mv:Nat->Int)(o:Nat->Int)(a:Int)(b:Int)(hm:q.m<=8)(ihw:sF 39 [iv 0,Ek q,pt 0 0,pt 1 0,pt 2 0,pt 4 0] [oV [iv 0,Aq,Aq,Aq],oV q.cells,DS q,oA 1 true q.m fun _=>[iv 0],fC] (tu []) (wkH q rb rn rv mb mn mv o))(iha:sP 40 [ag q.cells,Ek q] (AH0 a b))
include q rb rn rv mb mn mv o a b hm ihw iha
theorem AA8 (q0:((↑q.m:Int)==0)=true)(q1:(!decide (b>=q.place))=true):sP 21 (Au q) (ag [iv 1,AT,AT,AT]):=
 kPm pS nS _ (.mk (dS 6657) [] [some (AH0 a b)] [some ((tu [],(AIA rb rn rv mb mn mv q o)))] []) (kO (kz q0 (kz q1 AN))) (.cons iha (.cons ihw (oS (Eu q) .nil)))
theorem AA9 (q0:((↑q.m:Int)==0)=true)(q1:(!decide (b>=q.place))=false)(q2:(!decide (a<q.place))=true):sP 21 (Au q) (ag [iv 2,AT,AT,AT]):=
 kPm pS nS _ (.mk (dS 106514) [] [some (AH0 a b)] [some ((tu [],(AIA rb rn rv mb mn mv q o)))] []) (kO (kz q0 (kz q1 (kz q2 AN)))) (.cons iha (.cons ihw (oS (Eu q) .nil)))
theorem ABA (q0:((↑q.m:Int)==0)=true)(q1:(!decide (b>=q.place))=false)(q2:(!decide (a<q.place))=false):sP 21 (Au q) (ag [iv 3,AK rb rn rv,AK mb mn mv,AT]):=
 kPm pS nS _ (.mk (dS 106514) [] [some (AH0 a b)] [some ((tu [],(AIA rb rn rv mb mn mv q o)))] []) (kO (kz q0 (kz q1 (kz q2 AN)))) (.cons iha (.cons ihw (oS (Eu q) .nil)))
theorem ABB (q0:((↑q.m:Int)==0)=false)(q1:(!!!mb)=true):sP 21 (Au q) (ag [iv 1,AT,AT,AT]):=
 kPm pS nS _ (.mk (dS 6657) [] [] [some ((tu [],(AIA rb rn rv mb mn mv q o)))] []) (kO (kz q0 (kz q1 AN))) (.cons ihw (oS (Eu q) .nil))
theorem ABC (q0:((↑q.m:Int)==0)=false)(q1:(!!!mb)=false)(q2:(!!!rb)=true):sP 21 (Au q) (ag [iv 2,AT,AT,AT]):=
 kPm pS nS _ (.mk (dS 106514) [] [] [some ((tu [],(AIA rb rn rv mb mn mv q o)))] []) (kO (kz q0 (kz q1 (kz q2 AN)))) (.cons ihw (oS (Eu q) .nil))
theorem ABD (q0:((↑q.m:Int)==0)=false)(q1:(!!!mb)=false)(q2:(!!!rb)=false):sP 21 (Au q) (ag [iv 3,AK rb rn rv,AK mb mn mv,AT]):=
 kPm pS nS _ (.mk (dS 106514) [] [] [some ((tu [],(AIA rb rn rv mb mn mv q o)))] []) (kO (kz q0 (kz q1 (kz q2 AN)))) (.cons ihw (oS (Eu q) .nil))
end
theorem aA.pre {P:Program}{G:Nat->Option (List EV)}{f:FuncId}{args:List EV}{v:EV}{σ s s':AL}(hh:eW σ s)(h:aA P G f args s v s'):aA P G f args σ v s':=by
 refine ⟨h.1,fun K w margs hR hG hv=>(h.2 K w margs (hh.rel hR) hG hv).mono fun e w' hp=>?_⟩;cases e with
 | returned mv=>obtain ⟨K',h1,h2,h3⟩:=hp; exact ⟨K',h1.weaken hh (eW.refl _),h2,h3⟩
 | outgrown=>exact hp
 | panicked _=>exact hp
abbrev Ca:EV:=.uS false 0 0 fun _=>[]
def zJ (q:fG)(v:EV):Prop:=
 (∃ cb cn crow,v=.agg [.int .i64 1,Ca,Ca,.uS cb 3 cn crow]/\∀ c,Bw q c->¬ D1 q c)∨
 (∃ cb cn crow,v=.agg [.int .i64 2,Ca,Ca,.uS cb 3 cn crow]/\(∃ c,Bw q c/\D1 q c)/\∀ c,Bw q c->¬ ET q c)∨
 ∃ rb rv mb mv,v=.agg [.int .i64 3,AW rb q.m rv,AW mb q.m mv,Ca]/\Bw q rv/\ET q rv/\Bw q mv/\D1 q mv
theorem aG.aggs {cs ds:List EV}(h:eJ cs ds):aG (.agg cs) (.agg ds):=by
 intro F w mv hv;cases hv with
 | agg _ mcs hl h1 hh=>
  have hp:PRs F w cs mcs:=⟨hl,hh⟩
  have:=h.prs hp;exact .agg _ _ this.1 h1 this.2
theorem TT:aG Ca (.uS false 3 0 fun _=>[]):=by
 intro F w mv h;cases h;exact .bB _ _
theorem Sf {q:fG}(hq:q.Ok)(hm:q.m<=8):∃ v,uY prog fF 21 [.agg q.cells] v/\zJ q v:=by
 have n2:=hq.n2;have hcl:=hq.uO;obtain ⟨rb,rn,rv,mb,mn,mv,o,h1,h2,h3,h4⟩:=Rd hq hm q.m 0 (by omega) false 0 (fun _=>0) false 0 (fun _=>0) (fun _=>0) (fun g hg=>by omega);have ha:=Pd (q:=q) (p:=q.uV) (n:=q.n) (own:=q.own) (by show q.uO=((q.uO.toNat:Nat):Int); omega) (by show q.uO.toNat<q.n; omega) (by omega);have nle:bL Ca (AW false 0 (fun _=>0)):=fun K w mv h=>by
  cases h with
  | pure _ _ hp=>cases hp; exact .pure _ _ (.bB _ _)
 have hw:=h4.pre (σ:=[fE.var false true [.int .i64 0,Ca,Ca,Ca],fE.var false true q.cells,fE.var false false [.ms 3 1 0 q.m (some q.m)],fE.arr false true 1 true q.m fun _=>[.int .i64 0],fE.var false false [.func (.func 39) [] [.ptr 0 0,.ptr 1 0,.ptr 2 0,.ptr 4 0]]])
  (.cons (uU.trans uU.varf (uU.var (.cons (bL.refl _) (.cons nle (.cons nle (.cons (bL.refl _) .nil)))))) (.cons (uH _) (.cons (uH _) (.cons (uH _) (.cons (uH _) .nil)))))
 have hnums:AW q.np q.m' q.uV=AW true q.n q.uV:=by rw [hq.np.1,hq.np.2]
 have hw':aA prog fF 39 [.int .i64 0,AW q.np q.m' q.uV,.ptr 0 0,.ptr 1 0,.ptr 2 0,.ptr 4 0] [fE.var false true [.int .i64 0,Ca,Ca,Ca],fE.var false true q.cells,fE.var false false [.ms 3 1 0 q.m (some q.m)],fE.arr false true 1 true q.m fun _=>[.int .i64 0],fE.var false false [.func (.func 39) [] [.ptr 0 0,.ptr 1 0,.ptr 2 0,.ptr 4 0]]] (.tuple []) (wkH q rb rn rv mb mn mv o):=by
  rw [hnums]; exact hw
 have ha':uY prog fF 40 [.agg q.cells,AW q.np q.m' q.uV] (.tuple [.int .i64 (HD q.n q.own q.uV),.int .i64 (DR q.n q.own q.uV)]):=by rw [hnums]; exact ha
 have nR:rb=false->∀ c,Bw q c->¬ ET q c:=fun h c hc=>h1.non h c hc fun g hg=>by omega
 have nM:mb=false->∀ c,Bw q c->¬ D1 q c:=fun h c hc=>h2.non h c hc fun g hg=>by omega
 have n1:aG (.agg [.int .i64 1,Ca,Ca,Ca]) (.agg [.int .i64 1,Ca,Ca,.uS false 3 0 fun _=>[]]):=aG.aggs (.cons (aG.refl _) (.cons (aG.refl _) (.cons (aG.refl _) (.cons TT .nil))));have n2':aG (.agg [.int .i64 2,Ca,Ca,Ca]) (.agg [.int .i64 2,Ca,Ca,.uS false 3 0 fun _=>[]]):=aG.aggs (.cons (aG.refl _) (.cons (aG.refl _) (.cons (aG.refl _) (.cons TT .nil))));by_cases hz:q.m=0
 ·have hz':((q.m:Int)==0)=true:=by rw [beq_iff_eq]; omega
  have gR:∀ c,ET q c↔(HD q.n q.own q.uV:Int)<q.place:=fun c=>by unfold ET; rw [hz]; exact Iff.rfl
  have gM:∀ c,D1 q c↔q.place<=(DR q.n q.own q.uV:Int):=fun c=>by unfold D1; rw [hz]; exact Iff.rfl
  have hc0:Bw q (fun _=>1):=fun g hg=>by omega
  by_cases hM:q.place<=(DR q.n q.own q.uV:Int)
  ·by_cases hR:(HD q.n q.own q.uV:Int)<q.place
   ·have hrb:rb=true:=by
     cases h:rb
     ·exact absurd ((gR _).2 hR) (nR h _ hc0)
     ·rfl
    have hmb:mb=true:=by
     cases h:mb
     ·exact absurd ((gM _).2 hM) (nM h _ hc0)
     ·rfl
    obtain ⟨e1,e2,e3⟩:=h1.new rfl hrb;obtain ⟨e4,e5,e6⟩:=h2.new rfl hmb;refine ⟨_,ABA q rb rn rv mb mn mv o _ _ hm hw' ha' hz' (by simpa using hM) (by simpa using hR),.inr (.inr ⟨rb,rv,mb,mv,by rw [e1,e4],e2,e3,e5,e6⟩)⟩
   ·exact ⟨_,(AA9 q rb rn rv mb mn mv o _ _ hm hw' ha' hz' (by simpa using hM) (by simpa using hR)).res n2',.inr (.inl ⟨_,_,_,rfl,⟨_,hc0,(gM _).2 hM⟩,fun c _ h=>hR ((gR c).1 h)⟩)⟩
  ·exact ⟨_,(AA8 q rb rn rv mb mn mv o _ _ hm hw' ha' hz' (by simpa using hM)).res n1,.inl ⟨_,_,_,rfl,fun c _ h=>hM ((gM c).1 h)⟩⟩
 ·have hz':((q.m:Int)==0)=false:=by rw [beq_eq_false_iff_ne]; omega
  cases hmb:mb
  ·subst hmb;exact ⟨_,(ABB q rb rn rv false mn mv o _ _ hm hw' ha' hz' (by simp)).res n1,.inl ⟨_,_,_,rfl,nM rfl⟩⟩
  ·obtain ⟨e4,e5,e6⟩:=h2.new rfl hmb;subst hmb;cases hrb:rb
   ·subst hrb;exact ⟨_,(ABC q false rn rv true mn mv o _ _ hm hw' ha' hz' (by simp) (by simp)).res n2',.inr (.inl ⟨_,_,_,rfl,⟨_,e5,e6⟩,nR rfl⟩)⟩
   ·obtain ⟨e1,e2,e3⟩:=h1.new rfl hrb;subst hrb;exact ⟨_,ABD q true rn rv true mn mv o _ _ hm hw' ha' hz' (by simp) (by simp),.inr (.inr ⟨true,rv,true,mv,by rw [e1,e4],e2,e3,e5,e6⟩)⟩
def FM (p:Nat×Nat):EV:=.agg [.int .i64 p.1,.int .i64 p.2]
def bP:List (Nat×Nat)->(Nat->EV)->Nat->List (EV×EV)
 | [],_,_=>[]
 | p :: ps,f,j=>(FM p,f j) :: bP ps f (j+1)
theorem ABE (a b c d:Int):eqE prog 40 94 (.agg [.int .i64 a,.int .i64 b]) (.agg [.int .i64 c,.int .i64 d])=some (a==c && (b==d && true)):=by kernel_rfl
theorem DJ (f:Nat->EV):∀ (ps:List (Nat×Nat)) (j:Nat),(bP ps f j).length=ps.length
 | [],_=>rfl
 | p :: ps,j=>by rw [bP,List.length_cons,List.length_cons,DJ f ps]
theorem OI (f:Nat->EV)(p:Nat×Nat):∀ (ps:List (Nat×Nat)) (j:Nat),bP (ps++[p]) f j=bP ps f j++[(FM p,f (j+ps.length))]
 | [],j=>by simp [bP]
 | q :: ps,j=>by
  rw [List.cons_append,bP,bP,OI f p ps,List.cons_append,List.length_cons,show j+1+ps.length=j+(ps.length+1) by omega]
theorem Fc {f g:Nat->EV}:∀ (ps:List (Nat×Nat)) (j:Nat),(∀ i,j<=i->i<j+ps.length->f i=g i)->bP ps f j=bP ps g j
 | [],_,_=>rfl
 | p :: ps,j,h=>by
  rw [bP,bP,h j (Nat.le_refl _) (by simp),Fc ps (j+1) fun i h1 h2=>h i (by omega) (by simp at h2 ⊢; omega)]
theorem LS {f:Nat->EV}{v:EV}:∀ (ps:List (Nat×Nat)) (j i:Nat),i<ps.length->A7 (bP ps f j) i v=bP ps (BK f (j+i) v) j
 | p :: ps,j,0,_=>by
  simp only [bP,A7,Nat.add_zero,Ao]
  congr 1
  exact Fc ps _ fun i h1 _=>(Ap (by omega)).symm
 | p :: ps,j,i+1,h=>by
  rw [bP,A7,bP,Ap (by omega),LS ps (j+1) i (by simpa using h),show j+1+i=j+(i+1) by omega]
theorem NL {f:Nat->EV}:∀ (ps:List (Nat×Nat)) (j i:Nat) (h:i<ps.length),(bP ps f j)[i]? =some (FM ps[i],f (j+i))
 | p :: ps,j,0,_=>by simp [bP]
 | p :: ps,j,i+1,h=>by
  rw [bP,List.getElem?_cons_succ,NL ps (j+1) i (by simpa using h),show j+1+i=j+(i+1) by omega];rfl
theorem TU {f:Nat->EV}{v:EV}:∀ (ps:List (Nat×Nat)) (j i:Nat) (h:i<ps.length),(bP ps f j).set i (FM ps[i],v)=bP ps (BK f (j+i) v) j
 | p :: ps,j,0,_=>by
  simp only [bP,List.set_cons_zero,Nat.add_zero,Ao,List.getElem_cons_zero]
  congr 1
  exact Fc ps _ fun i h1 _=>(Ap (by omega)).symm
 | p :: ps,j,i+1,h=>by
  rw [bP,bP,List.set_cons_succ,Ap (by omega)];have:=TU (f:=f) (v:=v) ps (j+1) i (by simpa using h);rw [show j+1+i=j+(i+1) by omega] at this;rw [<-this];rfl
theorem Sg {p q:Nat×Nat}:eqE prog 40 94 (FM p) (FM q)=some (decide (p=q)):=by
 rw [FM,FM,ABE]
 congr 1
 by_cases h:p=q
 ·subst h; simp
 ·rw [uL h];by_cases h1:p.1=q.1
  ·have h2:p.2≠q.2:=fun e=>h (Prod.ext h1 e);have:((p.2:Int)==q.2)=false:=by rw [beq_eq_false_iff_ne]; omega
   simp [this]
  ·have:((p.1:Int)==q.1)=false:=by rw [beq_eq_false_iff_ne]; omega
   simp [this]
theorem I4 {p:Nat×Nat}{f:Nat->EV}:∀ (ps:List (Nat×Nat)) (j i:Nat),p ∉ ps->BM prog 94 (FM p) (bP ps f j) i none
 | [],_,_,_=>rfl
 | q :: ps,j,i,h=>by
  rw [List.mem_cons,not_or] at h;exact ⟨false,by rw [Sg,uL h.1],(fun h=>by cases h),fun _=>I4 ps _ _ h.2⟩
theorem Gc {p:Nat×Nat}{f:Nat->EV}:∀ (ps:List (Nat×Nat)) (j i n:Nat) (h:n<ps.length),ps.Nodup->ps[n]=p->BM prog 94 (FM p) (bP ps f j) i (some (i+n,f (j+n)))
 | q :: ps,j,i,0,_,_,e=>by
  refine ⟨true,?_,fun _=>rfl,(fun h=>by cases h)⟩;rw [Sg];simp only [List.getElem_cons_zero] at e;rw [uK e.symm]
 | q :: ps,j,i,n+1,h,hn,e=>by
  rw [List.nodup_cons] at hn;have hm:p∈ps:=by rw [<-e]; exact List.getElem_mem _
  refine ⟨false,by rw [Sg,uL (fun e=>hn.1 (by rw [<-e]; exact hm))],(fun h=>by cases h),fun _=>?_⟩;have:=Gc (f:=f) ps (j+1) (i+1) n (by simpa using h) hn.2 (by simpa using e)
  rwa [show i+1+n=i+(n+1) by omega,show j+1+n=j+(n+1) by omega] at this
theorem Wl (p:Nat×Nat):bU (FM p) (FM p)=true:=by simp [FM,bU,bU.go]
section
variable (q:fG)
abbrev fG.gl (g:Nat):Nat:=(q.op g).left.toNat
abbrev fG.gr (g:Nat):Nat:=(q.op g).right.toNat
abbrev fG.gp (g:Nat):Nat×Nat:=My q.gl q.gr g
def AG:Nat->List (Nat×Nat)
 | 0=>[]
 | k+1=>if q.gp k∈AG k then AG k else AG k++[q.gp k]
def eL (k j:Nat):List Nat:=AO q.gp k ((AG q k).getD j (0,0))
def Bf:Nat->Int
 | 0=>q.uV q.own
 | k+1=>Bf k+if q.gl k=q.own∨q.gr k=q.own then q.aI else 0
end
section
variable {q:fG}
theorem Bo:∀ k,(AG q k).Nodup
 | 0=>by simp [AG]
 | k+1=>by
  rw [AG];split
  ·exact Bo k
  ·rename_i h;rw [List.nodup_append];exact ⟨Bo k,by simp,fun a ha b hb=>by simp at hb; subst hb; exact fun e=>h (e▸ha)⟩
theorem Fe {g:Nat}:∀ {k:Nat},g<k->q.gp g∈AG q k
 | k+1,h=>by
  rw [AG];split
  ·rename_i hm;rcases Nat.lt_or_ge g k with h1 | h1
   ·exact Fe h1
   ·obtain rfl:g=k:=by omega
    exact hm
  ·rcases Nat.lt_or_ge g k with h1 | h1
   ·exact List.mem_append_left _ (Fe h1)
   ·obtain rfl:g=k:=by omega
    simp
theorem Gd {p:Nat×Nat}:∀ {k:Nat},p∈AG q k->∃ g,g<k/\q.gp g=p
 | 0,h=>by simp [AG] at h
 | k+1,h=>by
  rw [AG] at h;split at h
  ·obtain ⟨g,h1,h2⟩:=Gd h; exact ⟨g,by omega,h2⟩
  ·rcases List.mem_append.1 h with h | h
   ·obtain ⟨g,h1,h2⟩:=Gd h; exact ⟨g,by omega,h2⟩
   ·exact ⟨k,by omega,(List.mem_singleton.1 h).symm⟩
theorem Df:∀ k,(AG q k).length<=k
 | 0=>by simp [AG]
 | k+1=>by
  have:=Df k;rw [AG];split
  ·omega
  ·simp; omega
theorem IU (k:Nat)(p:Nat×Nat):AO q.gp (k+1) p=AO q.gp k p++if q.gp k=p then [k] else []:=by
 unfold AO;rw [List.range_succ,List.filter_append]
 congr 1
 by_cases h:q.gp k=p<;>simp [h]
theorem U4 {p:Nat×Nat}{k:Nat}(h:p∈AG q k):0<(AO q.gp k p).length:=by
 obtain ⟨g,h1,h2⟩:=Gd h;exact List.length_pos_of_mem (List.mem_filter.2 ⟨List.mem_range.2 h1,uK h2⟩)
theorem U5 (p:Nat×Nat)(k:Nat):(AO q.gp k p).length<=k:=by
 have:=List.length_filter_le (fun g=>decide (q.gp g=p)) (List.range k)
 rwa [List.length_range] at this
theorem Sh {p:Nat×Nat}{k:Nat}(h:p ∉ AG q k):AO q.gp k p=[]:=by
 refine List.filter_eq_nil_iff.2 fun g hg=>?_;intro e;exact h (by rw [<-of_decide_eq_true e]; exact Fe (List.mem_range.1 hg))
end
noncomputable abbrev zK:Code:=(cB (cR (cL (cR (cR (cR (AY prog 18)))))))
abbrev ME (a0:fG)(a1:Nat)(a2:Int):=fE.var false false [iv a0.aI,iv a0.draw,GP a0,Ek a0,Bp a0,iv a0.uO,iv a0.place,C3 a1,Aq,.mm 1,iv a2]
theorem zL (q:fG)(R:Nat)(rv:Nat->Int)(np:Nat)(pr:Nat->aF)(es:List (EV×EV))(hi:Int)(i:Int)(hi1:(q.m:Int)<=i):sC (AIB) (frame 110 [(1,pt 0 0),(2,EV.aH),(3,pt 2 0),(40,sl q.no 2 q.m fun i=>(q.op i).cells),(41,iv q.m),(42,iv i)]) ([oV q.cells,A0,ME q R hi,oA 1 false R fun p=>(AA rv p)]) (xL 2,(JM),[oV q.cells,A0,JO q R hi,oA 1 false R fun i=>(AA rv i)]):=
 kC [[]] (.mk (dS 27) [] [] [] []) (kO AN) (oI (BN i q=false) .nil) 10 15 4
noncomputable abbrev zM:Code:=(cB (cR (cL (cR (cR (cR (AY prog 18)))))))
noncomputable abbrev cZ:Code:=(cB (cB (cR (cL (cR (cR (cR (AY prog 18))))))))
abbrev Ff (a0:List (EV×EV)):=fE.map false true a0
abbrev H5 (a0:List (EV×EV)):=Ff a0
abbrev Aj (a0:List (EV×EV)):=H5 a0
theorem zN (q:fG)(R:Nat)(rv:Nat->Int)(np:Nat)(pr:Nat->aF)(es:List (EV×EV))(hi:Int)(i:Int)(hi1:(q.m:Int)<=i):sR 5 (AIB) (frame 110 [(1,pt 0 0),(2,EV.aH),(3,pt 2 0),(40,sl q.no 2 q.m fun i=>(q.op i).cells),(41,iv q.m),(42,iv i)]) ([oV q.cells,Aj es,El q R np hi,oA 1 false R fun p=>(AA rv p),oA 2 false np fun p=>(pr p).cells]) (xL 2,(JM),[oV q.cells,Aj es,Lw q R np hi,oA 1 false R fun i=>(AA rv i),oA 2 false np fun i=>(pr i).cells]):=
 kR [[]] (.mk (dS 27) [] [] [] []) (kO AN) (oI (BN i q=false) .nil) 10 31 [0,1,2,3,4] 5
noncomputable abbrev ABF:Code:=(cB (cR (cL (cR (cR (AY prog 18))))))
noncomputable abbrev Wm:Code:=(cB (cB (cR (cL (cR (cR (AY prog 18)))))))
noncomputable abbrev MF:=frame 110 [(1,pt 0 0),(2,EV.aH),(3,pt 2 0)]
theorem ABG (q:fG)(R:Nat)(rv:Nat->Int)(np:Nat)(pr:Nat->aF)(es:List (EV×EV))(hi:Int)(i:Int)(hi1:(q.n:Int)<=i):sR 3 (AIf) (Hm q i) ([oV q.cells,A0,ME q R hi,oA 1 false R fun p=>(AA rv p)]) (xL 0,(MF),[oV q.cells,A0,JO q R hi,oA 1 false R fun i=>(AA rv i)]):=
 kR [[]] (.mk (dS 27) [] [] [] []) (kO AN) (oI (decide (i<↑q.n)=false) .nil) 14 15 [0,1,2,3] 3
noncomputable abbrev Pm (a0:fG):=frame 110 [(1,pt 0 0),(2,EV.aH),(3,pt 2 0),(40,sl a0.no 2 a0.m fun i=>(a0.op i).cells),(41,iv a0.m),(42,iv 0)]
abbrev MG (a0:fG):=iv (a0.uV a0.uO.toNat)
abbrev Pn (a0:fG)(a1:Nat):=fE.var false false [iv a0.aI,iv a0.draw,Ce a0,Cd a0,Bp a0,iv a0.uO,iv a0.place,C3 a1,AT,EV.mm 1,MG a0]
abbrev MH (a0:fG)(a1:Nat):=fE.var false false [iv a0.aI,iv a0.draw,GP a0,Ek a0,Bp a0,iv a0.uO,iv a0.place,C3 a1,Aq,.mm 1,MG a0]
section
variable (q:fG)(R:Nat)(rv:Nat->Int)(np:Nat)(pr:Nat->aF)(es:List (EV×EV))(hi:Int)(hc:0<=q.uO)(hc2:q.uO<q.m')(ih3:sL (cB (cR (cL (AJK)))) (frame 110 [(1,pt 0 0),(2,EV.aH),(3,pt 2 0),(20,iv q.n),(21,iv 0)]) [oV q.cells,A0,fE.var false false [iv q.aI,iv q.draw,GP q,Ek q,Bp q,iv q.uO,iv q.place,Aq,Aq,.mm 1,MG q]] ((xL 0,frame 110 [(1,pt 0 0),(2,EV.aH),(3,pt 2 0)],[oV q.cells,A0,MH q R,oA 1 false R fun p=>(AA rv p)]):RC))
include q R rv np pr es hi hc hc2 ih3
theorem zO (ih9:sL (AI3) (Pm q) [oV q.cells,A0,MH q R,oA 1 false R fun p=>(AA rv p)] ((xL 2,frame 110 [(1,pt 0 0),(3,pt 2 0)],[oV q.cells,A0,ME q R hi,oA 1 false R fun p=>(AA rv p)]):RC)):sP 18 (Au q) (pv [iv q.aI,iv q.draw,Ce q,Cd q,Bp q,iv q.uO,iv q.place,sl true 1 R fun i=>[iv (rv (0+i))],AT,EV.im [],iv hi] 0):=
 kP [[]] (.mk (dS 26) [(8,.is 3145742 7 (xL 0,(MF),[oV q.cells,A0,Pn q R,oA 1 false R fun i=>(AA rv i)])),(4,.is 7696581394446 15 (xL 2,(JM),[oV q.cells,A0,JO q R hi,oA 1 false R fun i=>(AA rv i)]))] [] [] []) (kO AN) (.cons ih9 (.cons ih3 (rB q.uO q.m' .nil)))
theorem zP (ih9:sL (AI3) (Pm q) [oV q.cells,A0,MH q R,oA 1 false R fun p=>(AA rv p)] ((xL 2,frame 110 [(1,pt 0 0),(3,pt 2 0)],[oV q.cells,Aj es,El q R np hi,oA 1 false R fun p=>(AA rv p),oA 2 false np fun p=>(pr p).cells]):RC)):sP 18 (Au q) (pv [iv q.aI,iv q.draw,Ce q,Cd q,Bp q,iv q.uO,iv q.place,sl true 1 R fun i=>[iv (rv (0+i))],sl true 2 np fun i=>(pr (0+i)).cells,EV.im es,iv hi] 0):=
 kP [[]] (.mk (dS 26) [(8,.is 3145742 7 (xL 0,(MF),[oV q.cells,A0,Pn q R,oA 1 false R fun i=>(AA rv i)])),(4,.is 7696581394446 15 (xL 2,(JM),[oV q.cells,Aj es,Lw q R np hi,oA 1 false R fun i=>(AA rv i),oA 2 false np fun i=>(pr i).cells]))] [] [] []) (kO AN) (.cons ih9 (.cons ih3 (rB q.uO q.m' .nil)))
end
section
variable (q:fG)
abbrev CW (rv pr:EV)(hi:Int):fE:=fE.var false false [.int .i64 q.aI,.int .i64 q.draw,AW q.nc q.n q.uZ,AW q.np q.m' q.uV,EV.uS q.no 2 q.m fun i=>(q.op i).cells,.int .i64 q.uO,.int .i64 q.place,rv,pr,.mm 1,.int .i64 hi]
abbrev Di (i:Int):EV:=EV.agg [.int .i64 (if (q.op i.toNat).right<(q.op i.toNat).left then (q.op i.toNat).right else (q.op i.toNat).left),.int .i64 (if (q.op i.toNat).right>(q.op i.toNat).left then (q.op i.toNat).right else (q.op i.toNat).left)]
abbrev ncT (i:Int):List EV:=frame 110 [(1,EV.ptr 0 0),(2,EV.aH),(3,EV.ptr 2 0),(40,EV.uS q.no 2 q.m fun i=>(q.op i).cells),(41,.int .i64 q.m),(42,.int .i64 i)]
abbrev EA (R:Nat)(rv:Nat->Int):fE:=.arr false true 1 false R fun p=>[.int .i64 (rv p)]
end
def aK (ps:List (Nat×Nat))(p:Nat):aF:=⟨((ps.getD p (0,0)).1:Nat),((ps.getD p (0,0)).2:Nat)⟩
abbrev cO (ps:List (Nat×Nat)):fE:=.arr false true 2 false ps.length fun p=>(aK ps p).cells
section
variable {q:fG}(hq:q.Ok){k:Nat}(hk:k<q.m)
include hq hk
theorem OJ:Di q k=FM (q.gp k):=by
 have h:=hq.op k hk;simp only [Di,FM,uG,fG.gp,My,fG.gl,fG.gr]
 congr 1
 congr 1
 ·congr 1; split<;>omega
 ·congr 2; split<;>omega
theorem NM:∀ j,j<=q.m->-1000000*(j+1:Int)<=Bf q j/\Bf q j<=1000000*(j+1:Int)
 | 0,_=>by
  have:=hq.uV q.own (by show q.uO.toNat<q.n; have:=hq.uO; omega);simp only [Bf]; omega
 | j+1,hj=>by
  have:=NM j (by omega);have:=hq.aI;simp only [Bf];split<;>omega
theorem Qs {Q:Int->Prop}(hi:Int)(h0:((q.op (k:Int).toNat).left==q.uO)=true->Q (hi+q.aI))(h1:((q.op (k:Int).toNat).left==q.uO)=false->((q.op (k:Int).toNat).right==q.uO)=true->Q (hi+q.aI))
  (h2:((q.op (k:Int).toNat).left==q.uO)=false->((q.op (k:Int).toNat).right==q.uO)=false->Q hi):Q (hi+if q.gl k=q.own∨q.gr k=q.own then q.aI else 0):=by
 have h:=hq.op k hk;have hc:=hq.uO;have e1:((q.op (k:Int).toNat).left==q.uO)=decide (q.gl k=q.own):=by
  rw [uG,Bool.eq_iff_iff,beq_iff_eq,decide_eq_true_iff];show _↔(q.op k).left.toNat=q.uO.toNat;omega
 have e2:((q.op (k:Int).toNat).right==q.uO)=decide (q.gr k=q.own):=by
  rw [uG,Bool.eq_iff_iff,beq_iff_eq,decide_eq_true_iff];show _↔(q.op k).right.toNat=q.uO.toNat;omega
 rw [e1] at h0 h1 h2;rw [e2] at h1 h2;by_cases a:q.gl k=q.own
 ·rw [if_pos (.inl a)]; exact h0 (uK a)
 ·by_cases b:q.gr k=q.own
  ·rw [if_pos (.inr b)]; exact h1 (uL a) (uK b)
  ·rw [if_neg (by rintro (x | x); exact a x; exact b x),Int.add_zero]; exact h2 (uL a) (uL b)
variable {R:Nat}{rv:Nat->Int}(hR:R<=1000)
include hR
theorem X7 (es:List (EV×EV))(hf:BM prog 94 (Di q k) es 0 none)(hi:Int)(hhi: -1000000000<=hi/\hi<=1000000000):
  aE prog fF false cZ (ncT q k) [fE.var false true q.cells,fE.map false false es,CW q (.ms 3 1 0 R none) Ca hi,EA R rv]
   (EX.normal,ncT q (k+1),[fE.var false true q.cells,fE.map false false (A7 (es++[(Di q k,Ca)]) es.length (.ms 9 1 0 1 none)),CW q (.ms 3 1 0 R none) (.ms 7 2 0 1 none) (hi+if q.gl k=q.own∨q.gr k=q.own then q.aI else 0),EA R rv,.dead,.dead,.dead,cO [q.gp k],.dead,.arr false true 1 false 1 (BS fun _=>k)]):=by
 have hm:=hq.m;have hw:=hq.aI;have kn:=OJ hq hk;have c0:(0:Int)<=(k:Int):=by omega
 have c1:(k:Int)<q.m:=by omega
 have hp:∀ i,i<1->(fun (i_1:Nat)=>[[EV.int IntKind.i64 (if (q.op (k:Int).toNat).right<(q.op (k:Int).toNat).left then (q.op (k:Int).toNat).right else (q.op (k:Int).toNat).left),EV.int IntKind.i64 (if (q.op (k:Int).toNat).right>(q.op (k:Int).toNat).left then (q.op (k:Int).toNat).right else (q.op (k:Int).toNat).left)]].getD (0+i_1) []) i=(aK [q.gp k] i).cells:=fun i hi=>by
  obtain rfl:i=0:=by omega
  have:EV.agg _=EV.agg _:=kn;injection this
 have hg:∀ i,i<1->(fun (i_1:Nat)=>[[EV.int IntKind.i64 (k:Int)]].getD (0+i_1) []) i=BS (fun _=>(k:Int)) i:=fun i hi=>by
  obtain rfl:i=0:=by omega
  rfl
 have fin:∀ {hi':Int} {o4 o5 o6 o8:fE} {r7 r9:Nat->List EV},(∀ i,i<1->r7 i=(aK [q.gp k] i).cells)->(∀ i,i<1->r9 i=BS (fun _=>(k:Int)) i)->
   eW [fE.var false true q.cells,fE.map false false (A7 (es++[(Di q k,Ca)]) es.length (.ms 9 1 0 1 none)),CW q (.ms 3 1 0 R none) (.ms 7 2 0 1 none) hi',EA R rv,o4,o5,o6,.arr false true 2 false 1 r7,o8,.arr false true 1 false 1 r9]
    [fE.var false true q.cells,fE.map false false (A7 (es++[(Di q k,Ca)]) es.length (.ms 9 1 0 1 none)),CW q (.ms 3 1 0 R none) (.ms 7 2 0 1 none) hi',EA R rv,.dead,.dead,.dead,cO [q.gp k],.dead,.arr false true 1 false 1 (BS fun _=>k)]:=fun h7 h9=>
  .cons (uH _) (.cons (uH _) (.cons (uH _) (.cons (uH _) (.cons uU.dead (.cons uU.dead (.cons uU.dead (.cons (uU.arr h7) (.cons uU.dead (.cons (uU.arr h9) .nil)))))))))
 refine Qs hq hk (Q:=fun x=>aE prog fF false cZ (ncT q k) [fE.var false true q.cells,fE.map false false es,CW q (.ms 3 1 0 R none) Ca hi,EA R rv]
   (EX.normal,ncT q (k+1),[fE.var false true q.cells,fE.map false false (A7 (es++[(Di q k,Ca)]) es.length (.ms 9 1 0 1 none)),CW q (.ms 3 1 0 R none) (.ms 7 2 0 1 none) x,EA R rv,.dead,.dead,.dead,cO [q.gp k],.dead,.arr false true 1 false 1 (BS fun _=>k)])) hi (fun a=>?_) (fun a b=>?_) (fun a b=>?_)
 ·exact aE.weaken (uI _) (eW.refl _) (vT q R rv 0 (fun _=>default) es false 0 1 (fun _=>0) hi k c0 c1 (by omega) hR (by omega) (by omega) (by omega) hhi.1 hhi.2 (by omega) hw.2.2 rfl (fun h=>by cases h) (fun _=>hf) a) (uI _) (fin hp hg)
 ·exact aE.weaken (uI _) (eW.refl _) (vU q R rv 0 (fun _=>default) es false 0 1 (fun _=>0) hi k c0 c1 (by omega) hR (by omega) (by omega) (by omega) hhi.1 hhi.2 (by omega) hw.2.2 rfl (fun h=>by cases h) (fun _=>hf) a b) (uI _) (fin hp hg)
 ·exact aE.weaken (uI _) (eW.refl _) (vV q R rv 0 (fun _=>default) es false 0 1 (fun _=>0) hi k c0 c1 (by omega) hR (by omega) (by omega) (by omega) hhi.1 hhi.2 (by omega) hw.2.2 rfl (fun h=>by cases h) (fun _=>hf) a b) (uI _) (fin hp hg)
theorem X8 (ps:List (Nat×Nat))(hps:ps.length<=1000)(es:List (EV×EV))(hf:BM prog 94 (Di q k) es 0 none)(hi:Int)(hhi: -1000000000<=hi/\hi<=1000000000):
  aE prog fF false cZ (ncT q k) [fE.var false true q.cells,fE.map false false es,CW q (.ms 3 1 0 R none) (.ms 4 2 0 ps.length none) hi,EA R rv,cO ps]
   (EX.normal,ncT q (k+1),[fE.var false true q.cells,fE.map false false (A7 (es++[(Di q k,Ca)]) es.length (.ms 10 1 0 1 none)),CW q (.ms 3 1 0 R none) (.ms 8 2 0 (ps.length+1) none) (hi+if q.gl k=q.own∨q.gr k=q.own then q.aI else 0),EA R rv,.dead,.dead,.dead,.dead,.arr false true 2 false (ps.length+1) fun p=>(aK (ps++[q.gp k]) p).cells,.dead,.arr false true 1 false 1 (BS fun _=>k)]):=by
 have hm:=hq.m;have hw:=hq.aI;have kn:=OJ hq hk;have c0:(0:Int)<=(k:Int):=by omega
 have c1:(k:Int)<q.m:=by omega
 have hp:∀ i,i<ps.length+1->(Ar ps.length (fun (i:Nat)=>(aK ps (0+i)).cells) (fun (i_1:Nat)=>[[EV.int IntKind.i64 (if (q.op (k:Int).toNat).right<(q.op (k:Int).toNat).left then (q.op (k:Int).toNat).right else (q.op (k:Int).toNat).left),EV.int IntKind.i64 (if (q.op (k:Int).toNat).right>(q.op (k:Int).toNat).left then (q.op (k:Int).toNat).right else (q.op (k:Int).toNat).left)]].getD (0+i_1) [])) i=(aK (ps++[q.gp k]) i).cells:=fun i hi=>by
  simp only [Ar,uJ];split
  ·rename_i h;simp only [aK,uA,List.getElem?_append_left h]
  ·obtain rfl:i=ps.length:=by omega
   have:EV.agg _=EV.agg _:=kn;injection this with this
   simp only [Nat.sub_self,List.getD_cons_zero,this,aK,uA,List.getElem?_concat_length,Option.getD_some];rfl
 have hg:∀ i,i<1->(fun (i_1:Nat)=>[[EV.int IntKind.i64 (k:Int)]].getD (0+i_1) []) i=BS (fun _=>(k:Int)) i:=fun i hi=>by
  obtain rfl:i=0:=by omega
  rfl
 have fin:∀ {hi':Int} {o4 o5 o6 o7 o9:fE} {r7 r9:Nat->List EV},(∀ i,i<ps.length+1->r7 i=(aK (ps++[q.gp k]) i).cells)->(∀ i,i<1->r9 i=BS (fun _=>(k:Int)) i)->
   eW [fE.var false true q.cells,fE.map false false (A7 (es++[(Di q k,Ca)]) es.length (.ms 10 1 0 1 none)),CW q (.ms 3 1 0 R none) (.ms 8 2 0 (ps.length+1) none) hi',EA R rv,o4,o5,o6,o7,.arr false true 2 false (ps.length+1) r7,o9,.arr false true 1 false 1 r9]
    [fE.var false true q.cells,fE.map false false (A7 (es++[(Di q k,Ca)]) es.length (.ms 10 1 0 1 none)),CW q (.ms 3 1 0 R none) (.ms 8 2 0 (ps.length+1) none) hi',EA R rv,.dead,.dead,.dead,.dead,.arr false true 2 false (ps.length+1) fun p=>(aK (ps++[q.gp k]) p).cells,.dead,.arr false true 1 false 1 (BS fun _=>k)]:=fun h7 h9=>
  .cons (uH _) (.cons (uH _) (.cons (uH _) (.cons (uH _) (.cons uU.dead (.cons uU.dead (.cons uU.dead (.cons uU.dead (.cons (uU.arr h7) (.cons uU.dead (.cons (uU.arr h9) .nil))))))))))
 refine Qs hq hk (Q:=fun x=>aE prog fF false cZ (ncT q k) [fE.var false true q.cells,fE.map false false es,CW q (.ms 3 1 0 R none) (.ms 4 2 0 ps.length none) hi,EA R rv,cO ps]
   (EX.normal,ncT q (k+1),[fE.var false true q.cells,fE.map false false (A7 (es++[(Di q k,Ca)]) es.length (.ms 10 1 0 1 none)),CW q (.ms 3 1 0 R none) (.ms 8 2 0 (ps.length+1) none) x,EA R rv,.dead,.dead,.dead,.dead,.arr false true 2 false (ps.length+1) fun p=>(aK (ps++[q.gp k]) p).cells,.dead,.arr false true 1 false 1 (BS fun _=>k)])) hi (fun a=>?_) (fun a b=>?_) (fun a b=>?_)
 ·exact aE.weaken (uI _) (eW.refl _) (vW q R rv ps.length (aK ps) es false 0 1 (fun _=>0) hi k c0 c1 (by omega) hR (by omega) (by omega) (by omega) hhi.1 hhi.2 (by omega) hw.2.2 rfl (fun h=>by cases h) (fun _=>hf) a) (uI _) (fin hp hg)
 ·exact aE.weaken (uI _) (eW.refl _) (vX q R rv ps.length (aK ps) es false 0 1 (fun _=>0) hi k c0 c1 (by omega) hR (by omega) (by omega) (by omega) hhi.1 hhi.2 (by omega) hw.2.2 rfl (fun h=>by cases h) (fun _=>hf) a b) (uI _) (fin hp hg)
 ·exact aE.weaken (uI _) (eW.refl _) (vY q R rv ps.length (aK ps) es false 0 1 (fun _=>0) hi k c0 c1 (by omega) hR (by omega) (by omega) (by omega) hhi.1 hhi.2 (by omega) hw.2.2 rfl (fun h=>by cases h) (fun _=>hf) a b) (uI _) (fin hp hg)
theorem X9 (ps:List (Nat×Nat))(hps:ps.length<=1000)(es:List (EV×EV))(j L:Nat)(l:Nat->Int)(hj:j<es.length)(hL:L<=1000)(hL0:0<L)(hs:sameAt es j (Di q k)=true)(hf:BM prog 94 (Di q k) es 0 (some (j,EV.ms 5 1 0 L none)))(hi:Int)(hhi: -1000000000<=hi/\hi<=1000000000):
  aE prog fF false cZ (ncT q k) [fE.var false true q.cells,fE.map false false es,CW q (.ms 3 1 0 R none) (.ms 4 2 0 ps.length none) hi,EA R rv,cO ps,.arr false true 1 false L (BS l)]
   (EX.normal,ncT q (k+1),[fE.var false true q.cells,fE.map false false (A7 (es.set j (Di q k,.ms 5 1 0 L none)) j (.ms 9 1 0 (L+1) none)),CW q (.ms 3 1 0 R none) (.ms 4 2 0 ps.length none) (hi+if q.gl k=q.own∨q.gr k=q.own then q.aI else 0),EA R rv,cO ps,.dead,.dead,.dead,.dead,.arr false true 1 false (L+1) (BS fun p=>if p<L then l p else k)]):=by
 have hm:=hq.m;have hw:=hq.aI;have c0:(0:Int)<=(k:Int):=by omega
 have c1:(k:Int)<q.m:=by omega
 have hg:∀ i,i<L+1->(Ar L (fun (i:Nat)=>[EV.int IntKind.i64 (l (0+i))]) (fun (i_1:Nat)=>[[EV.int IntKind.i64 (k:Int)]].getD (0+i_1) [])) i=BS (fun p=>if p<L then l p else (k:Int)) i:=fun i hi=>by
  simp only [Ar,BS,uJ];split
  ·rfl
  ·obtain rfl:i=L:=by omega
   simp
 have fin:∀ {hi':Int} {o5 o6 o7 o8:fE} {r9:Nat->List EV},(∀ i,i<L+1->r9 i=BS (fun p=>if p<L then l p else (k:Int)) i)->
   eW [fE.var false true q.cells,fE.map false false (A7 (es.set j (Di q k,.ms 5 1 0 L none)) j (.ms 9 1 0 (L+1) none)),CW q (.ms 3 1 0 R none) (.ms 4 2 0 ps.length none) hi',EA R rv,cO ps,o5,o6,o7,o8,.arr false true 1 false (L+1) r9]
    [fE.var false true q.cells,fE.map false false (A7 (es.set j (Di q k,.ms 5 1 0 L none)) j (.ms 9 1 0 (L+1) none)),CW q (.ms 3 1 0 R none) (.ms 4 2 0 ps.length none) hi',EA R rv,cO ps,.dead,.dead,.dead,.dead,.arr false true 1 false (L+1) (BS fun p=>if p<L then l p else k)]:=fun h9=>
  .cons (uH _) (.cons (uH _) (.cons (uH _) (.cons (uH _) (.cons (uH _) (.cons uU.dead (.cons uU.dead (.cons uU.dead (.cons uU.dead (.cons (uU.arr h9) .nil)))))))))
 refine Qs hq hk (Q:=fun x=>aE prog fF false cZ (ncT q k) [fE.var false true q.cells,fE.map false false es,CW q (.ms 3 1 0 R none) (.ms 4 2 0 ps.length none) hi,EA R rv,cO ps,.arr false true 1 false L (BS l)]
   (EX.normal,ncT q (k+1),[fE.var false true q.cells,fE.map false false (A7 (es.set j (Di q k,.ms 5 1 0 L none)) j (.ms 9 1 0 (L+1) none)),CW q (.ms 3 1 0 R none) (.ms 4 2 0 ps.length none) x,EA R rv,cO ps,.dead,.dead,.dead,.dead,.arr false true 1 false (L+1) (BS fun p=>if p<L then l p else k)])) hi (fun a=>?_) (fun a b=>?_) (fun a b=>?_)
 ·exact aE.weaken (uI _) (eW.refl _) (vZ q R rv ps.length (aK ps) es true j L l hi k c0 c1 (by omega) hR (by omega) (by omega) hL0 hhi.1 hhi.2 (by omega) hw.2.2 rfl hs hj (fun _=>hf) (fun h=>by cases h) a) (uI _) (fin hg)
 ·exact aE.weaken (uI _) (eW.refl _) (v3 q R rv ps.length (aK ps) es true j L l hi k c0 c1 (by omega) hR (by omega) (by omega) hL0 hhi.1 hhi.2 (by omega) hw.2.2 rfl hs hj (fun _=>hf) (fun h=>by cases h) a b) (uI _) (fin hg)
 ·exact aE.weaken (uI _) (eW.refl _) (v5 q R rv ps.length (aK ps) es true j L l hi k c0 c1 (by omega) hR (by omega) (by omega) hL0 hhi.1 hhi.2 (by omega) hw.2.2 rfl hs hj (fun _=>hf) (fun h=>by cases h) a b) (uI _) (fin hg)
end
end Go.Ev
