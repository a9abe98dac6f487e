/- A part of the proof. -/
import Derived.Test.YtfkknpebhlaaeaaGreatDoorXG
import Derived.Test.YtfkknpebhlaaeaaGreatDoorXD
import Derived.Test.YtfkknpebhlaaeaaGreatDoorXE
import Derived.Test.YtfkknpebhlaaeaaGreatDoorXB
import Derived.ChangeArms
import Derived.ChangeShapes
import Derived.OpenShut
import Derived.FnData
import GoSem.ClaimJoined
set_option linter.unusedSimpArgs false
set_option linter.unusedVariables false
set_option linter.unusedSectionVars false
namespace Go.Ev
open Go.Proofs.Tryz (prog)
set_option maxRecDepth 100000
set_option maxHeartbeats 0
abbrev Mq (q:fG)(i:Nat):Prop:=(0<=q.uZ ((i:Nat):Int).toNat/\q.uZ ((i:Nat):Int).toNat<192/\(0<((i:Nat):Int)->q.uZ (((i:Nat):Int) - 1).toNat<q.uZ ((i:Nat):Int).toNat)/\-99999<=q.uV ((i:Nat):Int).toNat/\q.uV ((i:Nat):Int).toNat<=99999)
abbrev Mr (q:fG)(i:Nat):Prop:=(0<=(q.op ((i:Nat):Int).toNat).left/\(q.op ((i:Nat):Int).toNat).left<q.n/\0<=(q.op ((i:Nat):Int).toNat).right/\(q.op ((i:Nat):Int).toNat).right<q.n/\(q.op ((i:Nat):Int).toNat).left≠(q.op ((i:Nat):Int).toNat).right)
structure fG.Valid (q:fG):Prop where
 w1:0<=q.draw
 w2:q.draw<=q.aI
 w3:q.aI<=999
 n1:2<=q.n
 n2:q.n<=24
 m':q.m'=q.n
 m:q.m<=552
 cl:∀ i,i<q.n->Mq q i
 op:∀ i,i<q.m->Mr q i
 c1:0<=q.uO
 c2:q.uO<q.n
 p1:1<=q.place
 p2:q.place<=q.n
theorem fG.Valid.ok {q:fG}(h:q.Valid)(hn:q.n<=8)(hp:q.np=true):q.Ok:=
 ⟨⟨h.w1,h.w2,h.w3⟩,⟨h.n1,hn⟩,⟨hp,h.m'⟩,h.m,fun i hi=>(h.cl i hi).2.2.2,fun g hg=>h.op g hg,⟨h.c1,h.c2⟩,⟨h.p1,h.p2⟩⟩
section
variable {q:fG}
theorem Yp (hm:q.m'=q.n)(hn:q.n<=24)(h0:0<q.n):((∀ i,i<q.n->Mq q i)/\uT prog fF false HT (frame 158 [(1,.ptr 0 0),(3,.int .i64 q.n),(4,.int .i64 0)]) [fE.var false true q.cells] (EX.leave 0,frame 158 [(1,.ptr 0 0),(3,.int .i64 q.n)],[fE.var false true q.cells]))∨
  ((¬ ∀ i,i<q.n->Mq q i)/\uT prog fF false HT (frame 158 [(1,.ptr 0 0),(3,.int .i64 q.n),(4,.int .i64 0)]) [fE.var false true q.cells] (EX.ret,frame 158 [(1,.ptr 0 0),(2,.int .i64 280),(3,.int .i64 q.n)],[fE.var false true q.cells])):=by
 rcases uM.all (P:=prog) (G:=fF) (rnd:=false) (c:=ACP) 1 (fun i=>frame 158 [(1,.ptr 0 0),(3,.int .i64 q.n),(4,.int .i64 (i:Nat))]) (fun _=>[fE.var false true q.cells]) q.n (Mq q) (fun i=>¬ Mq q i) (fun _=>(EX.ret,frame 158 [(1,.ptr 0 0),(2,.int .i64 280),(3,.int .i64 q.n)],[fE.var false true q.cells])) (EX.leave 0,frame 158 [(1,.ptr 0 0),(3,.int .i64 q.n)],[fE.var false true q.cells]) (fun _=>by simp) (by simp) (fun i=>by
  obtain ⟨r,h1,h2⟩:=rcA q i (by omega) hm hn;refine ⟨r,h1,?_⟩;rcases h2 with ⟨a,b,c⟩ | ⟨a,b,c⟩ | ⟨a,b⟩
  ·exact .inl ⟨a,by omega,c⟩
  ·exact .inr (.inl ⟨a,by omega,c⟩)
  ·exact .inr (.inr ⟨a,by omega⟩)) with ⟨h1,h2⟩ | ⟨i,h1,h2,h3,h4⟩
 ·exact .inl ⟨h2,h1.cl (by kernel_rfl) (by kernel_rfl)⟩
 ·exact .inr ⟨fun h=>h2 (h i h1),h4.cl (by kernel_rfl) (by kernel_rfl)⟩
theorem Yq (hn:q.n<=24)(hn0:2<=q.n)(hM:q.m<=552):((∀ i,i<q.m->Mr q i)/\uT prog fF false HU (frame 158 [(1,.ptr 0 0),(3,.int .i64 q.n),(5,.int .i64 0)]) [fE.var false true q.cells] (EX.leave 2,frame 158 [(1,.ptr 0 0),(3,.int .i64 q.n)],[fE.var false true q.cells]))∨
  ((¬ ∀ i,i<q.m->Mr q i)/\uT prog fF false HU (frame 158 [(1,.ptr 0 0),(3,.int .i64 q.n),(5,.int .i64 0)]) [fE.var false true q.cells] (EX.ret,frame 158 [(1,.ptr 0 0),(2,.int .i64 280),(3,.int .i64 q.n)],[fE.var false true q.cells])):=by
 rcases uM.all (P:=prog) (G:=fF) (rnd:=false) (c:=ACa) 1 (fun i=>frame 158 [(1,.ptr 0 0),(3,.int .i64 q.n),(5,.int .i64 (i:Nat))]) (fun _=>[fE.var false true q.cells]) q.m (Mr q) (fun i=>¬ Mr q i) (fun _=>(EX.ret,frame 158 [(1,.ptr 0 0),(2,.int .i64 280),(3,.int .i64 q.n)],[fE.var false true q.cells])) (EX.leave 2,frame 158 [(1,.ptr 0 0),(3,.int .i64 q.n)],[fE.var false true q.cells]) (fun _=>by simp) (by simp) (fun i=>by
  obtain ⟨r,h1,h2⟩:=rcB q i (by omega) hn hn0 hM;refine ⟨r,h1,?_⟩;rcases h2 with ⟨a,b,c⟩ | ⟨a,b,c⟩ | ⟨a,b⟩
  ·exact .inl ⟨a,by omega,c⟩
  ·exact .inr (.inl ⟨a,by omega,c⟩)
  ·exact .inr (.inr ⟨a,by omega⟩)) with ⟨h1,h2⟩ | ⟨i,h1,h2,h3,h4⟩
 ·exact .inl ⟨h2,h1.cl (by kernel_rfl) (by kernel_rfl)⟩
 ·exact .inr ⟨fun h=>h2 (h i h1),h4.cl (by kernel_rfl) (by kernel_rfl)⟩
theorem Sv (q:fG):∃ e:Int,uY prog fF 6 [EV.agg q.cells] (.int .i64 e)/\(e=0->q.Valid):=by
 by_cases hg:2<=q.n/\q.n<=24/\q.m'=q.n/\q.m<=552
 ·obtain ⟨g1,g2,g3,g4⟩:=hg;have hA:=Yp g3 g2 (by omega);have hB:=Yq g2 g1 g4;obtain ⟨b1,hb1,A1,A2⟩:∃ b1:Bool,(b1=true->∀ i,i<q.n->Mq q i)/\(b1=true->uT prog fF false HT (frame 158 [(1,.ptr 0 0),(3,.int .i64 q.n),(4,.int .i64 0)]) [fE.var false true q.cells] (EX.leave 0,frame 158 [(1,.ptr 0 0),(3,.int .i64 q.n)],[fE.var false true q.cells]))/\(b1=false->uT prog fF false HT (frame 158 [(1,.ptr 0 0),(3,.int .i64 q.n),(4,.int .i64 0)]) [fE.var false true q.cells] (EX.ret,frame 158 [(1,.ptr 0 0),(2,.int .i64 280),(3,.int .i64 q.n)],[fE.var false true q.cells])):=by
   rcases hA with ⟨a,b⟩ | ⟨a,b⟩
   ·exact ⟨true,fun _=>a,fun _=>b,(fun h=>by cases h)⟩
   ·exact ⟨false,(fun h=>by cases h),(fun h=>by cases h),fun _=>b⟩
  obtain ⟨b2,hb2,B1,B2⟩:∃ b2:Bool,(b2=true->∀ i,i<q.m->Mr q i)/\(b2=true->uT prog fF false HU (frame 158 [(1,.ptr 0 0),(3,.int .i64 q.n),(5,.int .i64 0)]) [fE.var false true q.cells] (EX.leave 2,frame 158 [(1,.ptr 0 0),(3,.int .i64 q.n)],[fE.var false true q.cells]))/\(b2=false->uT prog fF false HU (frame 158 [(1,.ptr 0 0),(3,.int .i64 q.n),(5,.int .i64 0)]) [fE.var false true q.cells] (EX.ret,frame 158 [(1,.ptr 0 0),(2,.int .i64 280),(3,.int .i64 q.n)],[fE.var false true q.cells])):=by
   rcases hB with ⟨a,b⟩ | ⟨a,b⟩
   ·exact ⟨true,fun _=>a,fun _=>b,(fun h=>by cases h)⟩
   ·exact ⟨false,(fun h=>by cases h),(fun h=>by cases h),fun _=>b⟩
  obtain ⟨e,h1,h2⟩:=rck q b1 b2 (fun _ _ _ _=>A1) (fun _ _ _ _=>A2) (fun _ _ _ _=>B1) (fun _ _ _ _=>B2);refine ⟨e,h1,fun he=>?_⟩;obtain ⟨x1,x2,w1,w2,w3,_,_,_,_,c1,c2,p1,p2⟩:=h2 he;exact ⟨w1,w2,w3,g1,g2,g3,g4,hb1 x1,hb2 x2,c1,c2,p1,p2⟩
 ·obtain ⟨e,h1,h2⟩:=rck q true true (fun a b c d=>absurd ⟨a,b,c,d⟩ hg) (fun a b c d=>absurd ⟨a,b,c,d⟩ hg) (fun a b c d=>absurd ⟨a,b,c,d⟩ hg) (fun a b c d=>absurd ⟨a,b,c,d⟩ hg);refine ⟨e,h1,fun he=>?_⟩;obtain ⟨_,_,_,_,_,y1,y2,y3,y4,_⟩:=h2 he;exact absurd ⟨y1,y2,y3,y4⟩ hg
theorem Vk {q:fG}(h:q.Valid):uY prog fF 16 [EV.agg q.cells] (.int .i64 0):=by
 refine ADD q h.w1 h.w2 h.w3 h.n1 h.n2 h.m' h.m h.c1 h.c2 h.p1 h.p2 ?_ ?_ (by rw [bne_eq_false_iff_eq,h.m'])
 ·rcases uM.all (P:=prog) (G:=fF) (rnd:=false) (c:=ACj) 1 (fun i=>frame 117 [(1,.ptr 0 0),(3,.int .i64 q.n),(41,AW q.nc q.n q.uZ),(42,.int .i64 q.n),(43,.int .i64 (i:Nat))]) (fun _=>[fE.var false true q.cells]) q.n (Mq q) (fun i=>¬ Mq q i) (fun _=>(EX.ret,frame 117 [(1,.ptr 0 0),(2,.int .i64 280),(3,.int .i64 q.n)],[fE.var false true q.cells])) (EX.leave 0,frame 117 [(1,.ptr 0 0),(3,.int .i64 q.n)],[fE.var false true q.cells]) (fun _=>by simp) (by simp) (fun i=>by
   obtain ⟨r,h1,h2⟩:=ckA q i (by omega) h.m' h.n2;refine ⟨r,h1,?_⟩;rcases h2 with ⟨a,b,c⟩ | ⟨a,b,c⟩ | ⟨a,b⟩
   ·exact .inl ⟨a,by omega,c⟩
   ·exact .inr (.inl ⟨a,by omega,c⟩)
   ·exact .inr (.inr ⟨a,by omega⟩)) with ⟨h1,h2⟩ | ⟨i,h1,h2,h3,h4⟩
  ·exact h1.cl (by kernel_rfl) (by kernel_rfl)
  ·exact absurd (h.cl i h1) h2
 ·rcases uM.all (P:=prog) (G:=fF) (rnd:=false) (c:=ACv) 1 (fun i=>frame 117 [(1,.ptr 0 0),(3,.int .i64 q.n),(76,EV.uS q.no 2 q.m fun i=>(q.op i).cells),(77,.int .i64 q.m),(78,.int .i64 (i:Nat))]) (fun _=>[fE.var false true q.cells]) q.m (Mr q) (fun i=>¬ Mr q i) (fun _=>(EX.ret,frame 117 [(1,.ptr 0 0),(2,.int .i64 280),(3,.int .i64 q.n)],[fE.var false true q.cells])) (EX.leave 2,frame 117 [(1,.ptr 0 0),(3,.int .i64 q.n)],[fE.var false true q.cells]) (fun _=>by simp) (by simp) (fun i=>by
   obtain ⟨r,h1,h2⟩:=ckB q i (by omega) h.n2 h.n1 h.m;refine ⟨r,h1,?_⟩;rcases h2 with ⟨a,b,c⟩ | ⟨a,b,c⟩ | ⟨a,b⟩
   ·exact .inl ⟨a,by omega,c⟩
   ·exact .inr (.inl ⟨a,by omega,c⟩)
   ·exact .inr (.inr ⟨a,by omega⟩)) with ⟨h1,h2⟩ | ⟨i,h1,h2,h3,h4⟩
  ·exact h1.cl (by kernel_rfl) (by kernel_rfl)
  ·exact absurd (h.op i h1) h2
end
end Go.Ev
namespace Go.Ev
open Go.Proofs.Tryz (prog)
set_option maxRecDepth 100000
set_option linter.unusedVariables false
set_option linter.unusedSectionVars false
def KindG (q:fG)(kd:Int):Prop:=((kd=1/\∀ c,Bw q c->¬ D1 q c)∨(kd=2/\(∃ c,Bw q c/\D1 q c)/\∀ c,Bw q c->¬ ET q c)∨(kd=3/\(∃ c,Bw q c/\ET q c)/\∃ c,Bw q c/\D1 q c)∨(kd=4/\q.flow=false/\8<q.m))/\(q.flow=true∨q.m<=8∨kd=4)
theorem AFv {q:fG}(h:q.Valid)(hn:q.n<=8)(hp:q.np=true):∃ kd,uY prog fF 8 [.agg q.cells] (.int .i64 kd)/\KindG q kd:=by
 obtain ⟨kd,v,_,h6,hd,hk⟩:=Yo (h.ok hn hp) (Vk h);refine ⟨kd,h6,?_,hk⟩;cases hd with
 | sure cb cn cr g=>exact .inl ⟨rfl,g⟩
 | out cb cn cr g1 g2=>exact .inr (.inl ⟨rfl,g1,g2⟩)
 | open' rb rv mb mv g1 g2 g3 g4=>exact .inr (.inr (.inl ⟨rfl,⟨rv,g1,g2⟩,⟨mv,g3,g4⟩⟩))
 | unk g1 g2=>exact .inr (.inr (.inr ⟨rfl,g1,g2⟩))
theorem AFz {q:fG}{c:Nat->Int}(h:¬ D1 q c):ET q c:=by
 have:=TP q.n q.own (CS q c q.m);unfold D1 at h;unfold ET;omega
theorem KindG.same {q x:fG}{a b:Int}(ha:KindG q a)(hb:KindG x b)(hm:q.m=x.m)(hf:q.flow=x.flow)
  (h1:∀ c,Bw q c->∃ d,Bw x d/\(D1 q c↔D1 x d)/\(ET q c↔ET x d))
  (h2:∀ d,Bw x d->∃ c,Bw q c/\(D1 q c↔D1 x d)/\(ET q c↔ET x d)):a=b:=by
 obtain ⟨ha,ka⟩:=ha;obtain ⟨hb,kb⟩:=hb;rw [<-hm,<-hf] at kb;by_cases h8:q.flow=true∨q.m<=8
 ·have na:a≠4:=by
   intro e;rcases ha with ⟨x,_⟩ | ⟨x,_⟩ | ⟨x,_⟩ | ⟨_,x,y⟩
   ·omega
   ·omega
   ·omega
   ·rcases h8 with h | h
    ·rw [x] at h; cases h
    ·omega
  have nb:b≠4:=by
   intro e;rcases hb with ⟨x,_⟩ | ⟨x,_⟩ | ⟨x,_⟩ | ⟨_,x,y⟩
   ·omega
   ·omega
   ·omega
   ·rw [<-hf] at x;rw [<-hm] at y;rcases h8 with h | h
    ·rw [x] at h; cases h
    ·omega
  rcases ha with ⟨x,xa⟩ | ⟨x,⟨c,c1,c2⟩,xa⟩ | ⟨x,⟨c,c1,c2⟩,⟨d,d1,d2⟩⟩ | ⟨x,_⟩
  ·rcases hb with ⟨y,_⟩ | ⟨y,⟨e,e1,e2⟩,_⟩ | ⟨y,_,⟨e,e1,e2⟩⟩ | ⟨y,_⟩
   ·omega
   ·obtain ⟨c,k1,k2,_⟩:=h2 e e1; exact absurd (k2.2 e2) (xa c k1)
   ·obtain ⟨c,k1,k2,_⟩:=h2 e e1; exact absurd (k2.2 e2) (xa c k1)
   ·omega
  ·obtain ⟨e,k1,k2,_⟩:=h1 c c1;rcases hb with ⟨y,ya⟩ | ⟨y,_⟩ | ⟨y,⟨f,f1,f2⟩,_⟩ | ⟨y,_⟩
   ·exact absurd (k2.1 c2) (ya e k1)
   ·omega
   ·obtain ⟨c,l1,_,l2⟩:=h2 f f1; exact absurd (l2.2 f2) (xa c l1)
   ·omega
  ·obtain ⟨e,k1,_,k2⟩:=h1 c c1;obtain ⟨f,l1,l2,_⟩:=h1 d d1;rcases hb with ⟨y,ya⟩ | ⟨y,_,ya⟩ | ⟨y,_⟩ | ⟨y,_⟩
   ·exact absurd (l2.1 d2) (ya f l1)
   ·exact absurd (k2.1 c2) (ya e k1)
   ·omega
   ·omega
  ·omega
 ·have x:a=4:=by
   rcases ka with k | k | k
   ·exact absurd (.inl k) h8
   ·exact absurd (.inr k) h8
   ·exact k
  have y:b=4:=by
   rcases kb with k | k | k
   ·exact absurd (.inl k) h8
   ·exact absurd (.inr k) h8
   ·exact k
  omega
def fG.rest (q:fG)(x:Int):fG:={ q with uV:=I3 q q.uV 0 x,np:=true,m:=q.m - 1,op:=fun i=>q.op (1+i) }
end Go.Ev
namespace Go.Ev
open Go.Proofs.Tryz (prog)
set_option maxRecDepth 100000
set_option maxHeartbeats 0
theorem AKC (x:Int)(h1:1<=x)(h2:x<=3):sP 23 [iv x] (bv !decide (x<=3)):=
 kP [[]] (.mk (dS 109226) [] [] [] []) (kO AN) (oI (decide (x>=1)) (oI (decide (x>=1)) (oI (decide (x>=1)) (oI (decide (x>=1)) .nil))))
noncomputable abbrev AI7:=cB (cR (cL (cR (AY prog 41))))
section
variable (b:Bool)(m:Nat)(o:Nat->Int)(i:Int)(f:Bool)(h0:0<=i)(hm:m<=1000)(ihf:i<m->sP 23 [iv (o i.toNat)] (bv f))
include b m o i f h0 hm ihf
end
theorem AKD (n:Nat)(p:Nat->Int)(h1:0<n)(h2:n<=1000):sF 25 [AE n p] [] (EV.ms 0 1 0 (0+n) none) [oA 1 false (0+n) (AIp p)]:=
 kFm pS nS [[]] (.mk (dS 1055467) [] [] [] []) (kO AN) (oI (decide (0+n<=0)=false) (oJ (decide ((0+n)*8<=70368744177664) && decide (0+n<4611686018427387904)) .nil)) 1 [1]
noncomputable abbrev AI8:=cR (cR (cR (AY prog 11)))
noncomputable abbrev AJn (a0:fG):=sF 25 [Ek a0] [] (.ms 0 1 0 a0.n none) [oA 1 false a0.n fun i=>[iv (a0.uV i)]]
noncomputable abbrev AIw:=cB (cR (cL (cR (cR (cR (cR (AY prog 11)))))))
section
variable (q:fG)(b:Bool)(o:Nat->Int)(p:Nat->Int)(p2:Nat->Int)(i:Int)(h0:0<=i)(hm:q.m<=1000)(ihp:i<q.m->sF 26 [ag q.cells,.ms 0 1 0 q.n none,iv i,iv (o i.toNat)] [oA 1 false q.n fun i=>[iv (p i)]] (tu []) [oA 1 false q.n fun i=>(AA p2 i)])
include q b o p p2 i h0 hm ihp
end
section
variable (q:fG)(b:Bool)(o:Nat->Int)(p:Nat->Int)(hp:q.np=true)(hn:q.m'=q.n)(hn2:q.n<=100)(hm:q.m<=1000)(ih12:sP 16 (Au q) (iv 0))(ih24:sP 22 [AW b q.m o,fc (23) [] []] (bv false))(ih6:sL (cL (AI8)) (frame 41 [(1,AW b q.m o),(2,pt 0 0),(5,iv 0)]) [oV q.cells] ((xN,frame 41 [(1,AW b q.m o),(2,pt 0 0),(4,.ms 1 1 0 q.n none),(5,iv 0)],[oV q.cells,oA 1 false q.n fun i=>[iv (q.uV i)]]):RC))(ihl:sL (AIw) (frame 41 [(2,pt 0 0),(4,.ms 1 1 0 q.n none),(5,iv 0),(27,AW b q.m o),(28,iv q.m),(29,iv 0)]) [oV q.cells,oA 1 false q.n fun i=>[iv (q.uV i)]] ((xL 0,frame 41 [(4,.ms 1 1 0 q.n none),(5,iv 0)],[oV q.cells,oA 1 false q.n fun i=>[iv (p i)]]):RC))
include q b o p hp hn hn2 hm ih12 ih24 ih6 ihl
end
section
variable (q:fG)(f:Bool)(g:Bool)(ih12:sP 16 (Au q) (iv 0))(ih14:sP 17 (Au q) (bv f))(ih15:sP 20 (Au q) (bv g))
include q f g ih12 ih14 ih15
end
end Go.Ev
namespace Go.Ev
open Go.Proofs.Tryz (prog)
set_option maxRecDepth 100000
set_option maxHeartbeats 0
noncomputable abbrev AKE:Code:=(cB (cB (cR (cL (cR (AY prog 41))))))
noncomputable abbrev AJM (a0:Nat)(a1:Int):=frame 19 [(0,.ms 0 1 0 a0 (some a0)),(1,fc (23) [] []),(4,iv 0),(7,iv a0),(8,iv a1)]
section
variable (m:Nat)(o:Nat->Int)(i:Int)(f:Bool)(h0:0<=i)(hm:m<=1000)(ihf:i<m->sP 23 [iv (o (0+i.toNat))] (bv f))
include m o i f h0 hm ihf
theorem AKF (q0:BF i m)(q1:(f)=false):sC (cB (AI7)) (AJM m i) ([oA 1 true m fun i=>[iv (o i)]]) (xN,(frame 19 [(0,EV.ms 0 1 0 m (some m)),(1,fc (23) [] []),(4,iv 0),(7,iv ↑m),(8,iv (i+1))]),[oA 1 true m fun i=>[iv (o i)]]):=
 kC _ (.mk (dS 68122) [] [some (bv f)] [] []) (kO (kz q0 (kz q1 AN))) (rI (i+1) (.cons (ihf iO) (rB i m .nil))) 403 1 1
theorem AKG (q0:DM i m):sC (cB (AI7)) (AJM m i) ([oA 1 true m fun i=>[iv (o i)]]) (xL 0,(frame 19 []),[oA 1 true m fun i=>[iv (o i)]]):=
 kC _ (.mk (dS 16) [] [] [] []) (kO (kz q0 AN)) .nil 0 1 1
end
theorem AKH (m:Nat)(o:Nat->Int)(hm:m<=1000)(ihl:sL (AI7) (frame 19 [(0,.ms 0 1 0 m (some m)),(1,fc (23) [] []),(4,iv 0),(7,iv m),(8,iv 0)]) [oA 1 true m fun i=>[iv (o i)]] ((xL 0,frame 19 [],[oA 1 true m fun i=>[iv (o i)]]):RC)):sF 41 [EV.ms 0 1 0 m (some m),fc (23) [] []] [oA 1 true m fun i=>[iv (o i)]] (iv (-1)) [oA 1 true m fun i=>[iv (o i)]]:=
 kFm pM nM [[]] (.mk [] [(6,.is 403 1 (xL 0,(frame 19 []),[oA 1 true m fun i=>[iv (o i)]]))] [] [] []) (kO AN) (.cons ihl .nil) 1 [0]
theorem AKI (m:Nat)(o:Nat->Int)(ih:sF 41 [.ms 0 1 0 m (some m),fc (23) [] []] [oA 1 true m fun i=>[iv (o i)]] (iv (-1)) [oA 1 true m fun i=>[iv (o i)]]):sF 22 [EV.ms 0 1 0 m (some m),fc (23) [] []] [oA 1 true m fun i=>[iv (o i)]] (bv false) [oA 1 true m fun i=>[iv (o i)]]:=
 kFm pM nM [[]] (.mk [] [] [] [some ((iv (-1),[oA 1 true m fun i=>[iv (o i)]]))] []) (kO AN) (.cons ih .nil) 1 [0]
noncomputable abbrev AKJ:Code:=(cB (cB (cR (cL (cR (cR (cR (cR (AY prog 11)))))))))
noncomputable abbrev AJN (a0:fG)(a1:Nat->Int)(a2:Nat->Int):RC:=(xL 0,(frame 41 [(4,EV.ms 2 1 0 a0.n none),(5,iv 0)]),[oA 1 true a0.m fun i=>[iv (a1 i)],oV a0.cells,oA 1 false a0.n fun i=>[iv (a2 i)]])
noncomputable abbrev AJO (a0:fG)(a1:Int):=frame 41 [(2,pt 1 0),(4,.ms 2 1 0 a0.n none),(5,iv 0),(27,.ms 0 1 0 a0.m (some a0.m)),(28,iv a0.m),(29,iv a1)]
section
variable (q:fG)(o:Nat->Int)(p:Nat->Int)(p2:Nat->Int)(i:Int)(h0:0<=i)(hm:q.m<=1000)(ihp:i<q.m->sF 26 [ag q.cells,.ms 0 1 0 q.n none,iv i,iv (o (0+i.toNat))] [oA 1 false q.n fun i=>[iv (p i)]] (tu []) [oA 1 false q.n fun i=>(AA p2 i)])
include q o p p2 i h0 hm ihp
theorem AKK (q0:FG i q):sC (cB (AIw)) (AJO q i) ([oA 1 true q.m fun i=>[iv (o i)],oV q.cells,oA 1 false q.n fun i=>[iv (p i)]]) (xN,(frame 41 [(2,pt 1 0),(4,EV.ms 2 1 0 q.n none),(5,iv 0),(27,EV.ms 0 1 0 q.m (some q.m)),(28,iv ↑q.m),(29,iv (i+1))]),[oA 1 true q.m fun i=>[iv (o i)],oV q.cells,oA 1 false q.n fun i=>(AA p2 i)]):=
 kCm pM nM _ (.mk (dS 4266) [] [] [some ((tu [],[oA 1 false q.n fun i=>(AA p2 i)]))] []) (kO (kz q0 AN)) (rI (i+1) (.cons (ihp iO) (rB i q.m .nil))) 939524148 7 3
theorem AKL (q0:(BN i q)=false):sC (cB (AIw)) (AJO q i) ([oA 1 true q.m fun i=>[iv (o i)],oV q.cells,oA 1 false q.n fun i=>[iv (p i)]]) (AJN q o p):=
 kCm pM nM _ (.mk (dS 16) [] [] [] []) (kO (kz q0 AN)) .nil 48 7 3
end
noncomputable abbrev AJP (a0:fG)(a1:Nat->Int):RC:=(xN,(frame 41 [(1,EV.ms 0 1 0 a0.m (some a0.m)),(2,pt 1 0),(4,EV.ms 2 1 0 a0.n none),(5,iv 0)]),[oA 1 true a0.m fun i=>[iv (a1 i)],oV a0.cells,oA 1 false a0.n fun i=>[iv (a0.uV i)]])
theorem fcm (q:fG)(o:Nat->Int)(ih26:AJn q):sL (cL (AI8)) (frame 41 [(1,.ms 0 1 0 q.m (some q.m)),(2,pt 1 0),(5,iv 0)]) [oA 1 true q.m fun i=>[iv (o i)],oV q.cells] (AJP q o):=
 kLm pM nM0 [] (.mk [] [] [] [some ((EV.ms 0 1 0 q.n none,[oA 1 false q.n fun i=>[iv (q.uV i)]]))] []) bY.nil (.cons ih26 .nil) 54 7 [0,1,2]
theorem AKv (q:fG)(o:Nat->Int)(p:Nat->Int)(hp:q.np=true)(hn:q.m'=q.n)(hn2:q.n<=100)(hm:q.m<=1000)(hmm:((↑q.m:Int) != (↑q.m:Int))=false)(ihk:sP 16 (Au q) (iv 0))(ihc:sF 22 [.ms 0 1 0 q.m (some q.m),fc (23) [] []] [oA 1 true q.m fun i=>[iv (o i)]] (bv false) [oA 1 true q.m fun i=>[iv (o i)]])(ih6:sL (cL (AI8)) (frame 41 [(1,.ms 0 1 0 q.m (some q.m)),(2,pt 1 0),(5,iv 0)]) [oA 1 true q.m fun i=>[iv (o i)],oV q.cells] ((xN,frame 41 [(1,.ms 0 1 0 q.m (some q.m)),(2,pt 1 0),(4,.ms 2 1 0 q.n none),(5,iv 0)],[oA 1 true q.m fun i=>[iv (o i)],oV q.cells,oA 1 false q.n fun i=>[iv (q.uV i)]]):RC))(ihl:sL (AIw) (frame 41 [(2,pt 1 0),(4,.ms 2 1 0 q.n none),(5,iv 0),(27,.ms 0 1 0 q.m (some q.m)),(28,iv q.m),(29,iv 0)]) [oA 1 true q.m fun i=>[iv (o i)],oV q.cells,oA 1 false q.n fun i=>[iv (q.uV i)]] ((xL 0,frame 41 [(4,.ms 2 1 0 q.n none),(5,iv 0)],[oA 1 true q.m fun i=>[iv (o i)],oV q.cells,oA 1 false q.n fun i=>[iv (p i)]]):RC)):sF 11 [ag q.cells,EV.ms 0 1 0 q.m (some q.m)] [oA 1 true q.m fun i=>[iv (o i)]] (tu [EV.ms 1 1 0 q.n none,iv 0]) [oA 1 true q.m fun i=>[iv (o i)],oA 1 false q.n fun i=>[iv (p i)]]:=
 kFm pM nM [[]] (.mk (dS 16891579) [(15,.is 38 3 (AJP q o)),(4,.is 939524148 7 (AJN q o p))] [some (iv 0)] [some ((bv false,[oA 1 true q.m fun i=>[iv (o i)]]))] []) (kO AN) (.cons ihl (.cons ih6 (oM (((↑q.m:Int) != (↑q.m:Int))=false) (.cons ihc (oM (((↑q.m:Int) != (↑q.m:Int))=false) (oM (((↑q.m:Int) != (↑q.m:Int))=false) (.cons ihk .nil))))))) 3 [0,2]
end Go.Ev
namespace Go.Ev
open Go.Proofs.Tryz (prog)
set_option maxRecDepth 100000
set_option linter.unusedVariables false
set_option linter.unusedSectionVars false
abbrev aO (m:Nat)(o:Nat->Int):fE:=fE.arr false true 1 true m fun i=>[.int .i64 (o i)]
abbrev aP (n:Nat)(p:Nat->Int):fE:=fE.arr false true 1 false n fun i=>[.int .i64 (p i)]
theorem AJY {m:Nat}{o:Nat->Int}(hm:m<=1000)(ho:∀ i,i<m->1<=o i/\o i<=3):aA prog fF 22 [.ms 0 1 0 m (some m),EV.func (.func 23) [] []] [aO m o] (.bool false) [aO m o]:=by
 have key:∀ (k i:Nat),i+k=m->aB prog fF false AKE (frame 19 [(0,.ms 0 1 0 m (some m)),(1,EV.func (.func 23) [] []),(4,.int .i64 0),(7,.int .i64 m),(8,.int .i64 (i:Nat))]) [aO m o] (EX.leave 0,frame 19 [],[aO m o]):=by
  intro k;induction k with
  | zero=>intro i h; exact aB.last (AKG m o i false (by omega) hm (fun x=>absurd x (by omega)) (uL (by omega))) (by simp)
  | succ k ih=>
   intro i h;have h25:uY prog fF 23 [.int .i64 (o (0+(i:Int).toNat))] (.bool false):=by
    rw [uJ];have:=AKC (o i) (ho i (by omega)).1 (ho i (by omega)).2;rw [uK (ho i (by omega)).2] at this;exact this
   exact aB.step (AKF m o i false (by omega) hm (fun _=>h25) (uK (by omega)) rfl) (ih (i+1) (by omega))
 exact AKI m o (AKH m o hm (aB.eO (key m 0 (by omega)) (by kernel_rfl)))
theorem AJW {q:fG}(h:q.Valid)(hn:q.n<=8)(hp:q.np=true)(hm:q.m<=100){o:Nat->Int}(ho:Bw q o):aA prog fF 11 [EV.agg q.cells,.ms 0 1 0 q.m (some q.m)] [aO q.m o] (.tuple [.ms 1 1 0 q.n none,.int .i64 0]) [aO q.m o,aP q.n (CS q o q.m)]:=by
 have hO:=h.ok hn hp;have n1:=h.n1;have h26:aA prog fF 25 [AW q.np q.m' q.uV] [] (.ms 0 1 0 q.n none) [aP q.n q.uV]:=by
  have:=AKD q.n q.uV (by omega) (by omega);rw [uJ] at this;rw [hp,h.m'];refine this.res (.cons (uU.arr fun i hi=>?_) .nil);simp only [Ar,uJ];rw [if_neg (by omega),Nat.sub_zero]
 have key:∀ (k i:Nat),i+k=q.m->aB prog fF false AKJ (frame 41 [(2,.ptr 1 0),(4,.ms 2 1 0 q.n none),(5,.int .i64 0),(27,.ms 0 1 0 q.m (some q.m)),(28,.int .i64 q.m),(29,.int .i64 (i:Nat))]) [aO q.m o,fE.var false true q.cells,aP q.n (CS q o i)]
   (EX.leave 0,frame 41 [(4,.ms 2 1 0 q.n none),(5,.int .i64 0)],[aO q.m o,fE.var false true q.cells,aP q.n (CS q o q.m)]):=by
  intro k;induction k with
  | zero=>
   intro i hi;obtain rfl:i=q.m:=by omega
   exact aB.last (AKL q o _ (fun _=>0) q.m (by omega) (by omega) (fun x=>absurd x (by omega)) (uL (by omega))) (by simp)
  | succ k ih=>
   intro i hi;have hbd:=OG hO (c:=o) i;have hp27:=Wj (q:=q) (n:=q.n) (p:=CS q o i) (g:=i) (x:=o (0+(i:Int).toNat)) hO.aI (by omega) (hO.op i (by omega)) (fun j hj=>by have:=hbd j hj; omega);rw [show I3 q (CS q o i) i (o (0+(i:Int).toNat))=CS q o (i+1) by rw [uJ]; rfl] at hp27;exact aB.step (AKK q o _ (CS q o (i+1)) i (by omega) (by omega) (fun _=>hp27) (uK (by omega))) (ih (i+1) (by omega))
 exact AKv q o (CS q o q.m) hp h.m' (by omega) (by omega) (by rw [bne_eq_false_iff_eq]) (Vk h) (AJY (by omega) ho) (fcm q o h26) (aB.eO (key q.m 0 (by omega)) (by kernel_rfl))
end Go.Ev
namespace Go.Ev
open Go.Proofs.Tryz (prog)
set_option maxRecDepth 100000
set_option linter.unusedVariables false
set_option linter.unusedSectionVars false
def eZ (o:Nat->Int):Nat->Nat
 | 0=>0
 | k+1=>eZ o k+(o k - 1).toNat*3 ^ k
theorem AJt {x:Int}(h:1<=x/\x<=3):(x=1/\(x - 1).toNat=0)∨(x=2/\(x - 1).toNat=1)∨(x=3/\(x - 1).toNat=2):=by
 rcases (by omega:x=1∨x=2∨x=3) with rfl | rfl | rfl
 ·exact .inl ⟨rfl,rfl⟩
 ·exact .inr (.inl ⟨rfl,rfl⟩)
 ·exact .inr (.inr ⟨rfl,rfl⟩)
theorem AI9 {o:Nat->Int}:∀ {k:Nat},(∀ i,i<k->1<=o i/\o i<=3)->eZ o k<3 ^ k
 | 0,_=>by simp [eZ]
 | k+1,h=>by
  have ih:=AI9 (o:=o) (k:=k) fun i hi=>h i (by omega);rw [eZ,Nat.pow_succ];rcases AJt (h k (by omega)) with ⟨_,e⟩ | ⟨_,e⟩ | ⟨_,e⟩<;>rw [e]<;>omega
theorem AJb {a b:Nat->Int}:∀ {k:Nat},(∀ i,i<k->1<=a i/\a i<=3)->(∀ i,i<k->1<=b i/\b i<=3)->eZ a k=eZ b k->∀ i,i<k->a i=b i
 | 0,_,_,_,i,hi=>by omega
 | k+1,ha,hb,h,i,hi=>by
  have la:=AI9 (o:=a) (k:=k) fun i hi=>ha i (by omega);have lb:=AI9 (o:=b) (k:=k) fun i hi=>hb i (by omega);rw [eZ,eZ] at h;have key:a k=b k/\eZ a k=eZ b k:=by
   rcases AJt (ha k (by omega)) with ⟨x,e⟩ | ⟨x,e⟩ | ⟨x,e⟩<;>rcases AJt (hb k (by omega)) with ⟨y,f⟩ | ⟨y,f⟩ | ⟨y,f⟩<;>rw [e,f] at h<;>constructor<;>omega
  rcases (by omega:i=k∨i<k) with rfl | hi
  ·exact key.1
  ·exact AJb (fun i hi=>ha i (by omega)) (fun i hi=>hb i (by omega)) key.2 i hi
theorem AJS {o:Nat->Int}:∀ {k:Nat},(∀ i,i<k->o i=3)->eZ o k+1=3 ^ k
 | 0,_=>rfl
 | k+1,h=>by
  have ih:=AJS (o:=o) (k:=k) fun i hi=>h i (by omega);rw [eZ,Nat.pow_succ,h k (by omega),show ((3:Int) - 1).toNat=2 from rfl];omega
theorem AJT {o:Nat->Int}:∀ {k:Nat},(∀ i,i<k->o i=1)->eZ o k=0
 | 0,_=>rfl
 | k+1,h=>by
  rw [eZ,AJT (k:=k) fun i hi=>h i (by omega),h k (by omega)];simp
theorem AJc {o p:Nat->Int}{j:Nat}(h1:∀ i,i<j->o i=3/\p i=1)(h2:p j=o j+1)(h3:1<=o j/\o j<3)(h4:∀ i,j<i->p i=o i):∀ d,eZ p (j+1+d)=eZ o (j+1+d)+1
 | 0=>by
  show eZ p (j+1)=eZ o (j+1)+1;have a:=AJS (o:=o) (k:=j) fun i hi=>(h1 i hi).1;have b:=AJT (o:=p) (k:=j) fun i hi=>(h1 i hi).2;rw [eZ,eZ,b,h2];rcases (by omega:o j=1∨o j=2) with e | e<;>rw [e]
  ·rw [show ((1:Int)+1 - 1).toNat=1 from rfl,show ((1:Int) - 1).toNat=0 from rfl]; omega
  ·rw [show ((2:Int)+1 - 1).toNat=2 from rfl,show ((2:Int) - 1).toNat=1 from rfl]; omega
 | d+1=>by
  have ih:=AJc h1 h2 h3 h4 d;rw [<-Nat.add_assoc,eZ,eZ,ih,h4 _ (by omega)];omega
def AllI (q:fG)(n:Nat)(ce ou:Bool):Prop:=(ce=true↔∀ c,Bw q c->eZ c q.m<n->¬ D1 q c)/\(ou=true↔∀ c,Bw q c->eZ c q.m<n->¬ ET q c)
theorem AllI.zero (q:fG):AllI q 0 true true:=⟨⟨fun _ c _ h=>by omega,fun _=>rfl⟩,⟨fun _ c _ h=>by omega,fun _=>rfl⟩⟩
theorem AllI.next {q:fG}{o:Nat->Int}{ce ou a b:Bool}(h:AllI q (eZ o q.m) ce ou)(ho:Bw q o)(ha:a=true↔¬ D1 q o)(hb:b=true↔¬ ET q o):AllI q (eZ o q.m+1) (ce && a) (ou && b):=by
 have e:∀ c,Bw q c->eZ c q.m=eZ o q.m->(D1 q c↔D1 q o)/\(ET q c↔ET q o):=fun c hc hr=>by
  have:=IT (q:=q) (AJb hc ho hr);unfold D1 ET;rw [this];exact ⟨Iff.rfl,Iff.rfl⟩
 refine ⟨?_,?_⟩
 ·rw [uF,h.1,ha];refine ⟨fun x c hc hl=>?_,fun x=>⟨fun c hc hl=>x c hc (by omega),x o ho (by omega)⟩⟩;rcases (by omega:eZ c q.m<eZ o q.m∨eZ c q.m=eZ o q.m) with hl | hl
  ·exact x.1 c hc hl
  ·exact fun y=>x.2 ((e c hc hl).1.1 y)
 ·rw [uF,h.2,hb];refine ⟨fun x c hc hl=>?_,fun x=>⟨fun c hc hl=>x c hc (by omega),x o ho (by omega)⟩⟩;rcases (by omega:eZ c q.m<eZ o q.m∨eZ c q.m=eZ o q.m) with hl | hl
  ·exact x.1 c hc hl
  ·exact fun y=>x.2 ((e c hc hl).2.1 y)
theorem AllI.end' {q:fG}{ce ou:Bool}(h:AllI q (3 ^ q.m) ce ou){kd:Int}(hk:KindG q kd)(hm:q.m<=8):(ce && ou)=false/\kd=if ou then 2 else if ce then 1 else 3:=by
 have h1:ce=true↔∀ c,Bw q c->¬ D1 q c:=h.1.trans ⟨fun x c hc=>x c hc (AI9 hc),fun x c hc _=>x c hc⟩;have h2:ou=true↔∀ c,Bw q c->¬ ET q c:=h.2.trans ⟨fun x c hc=>x c hc (AI9 hc),fun x c hc _=>x c hc⟩;have hc1:Bw q fun _=>1:=fun _ _=>⟨by show (1:Int)<=1; omega,by show (1:Int)<=3; omega⟩
 have hno:¬ (ce=true/\ou=true):=fun ⟨x,y⟩=>h2.1 y _ hc1 (AFz (h1.1 x _ hc1));refine ⟨by cases ce<;>cases ou<;>simp_all,?_⟩;rcases hk.1 with ⟨e,x⟩ | ⟨e,⟨c,c1,c2⟩,x⟩ | ⟨e,⟨c,c1,c2⟩,⟨d,d1,d2⟩⟩ | ⟨_,_,x⟩
 ·have a:=h1.2 x;have b:ou=false:=by cases ou with
   | false=>rfl
   | true=>exact absurd ⟨a,rfl⟩ hno
  rw [a,b]; exact e
 ·rw [h2.2 x]; exact e
 ·have a:ce=false:=by cases ce with
   | false=>rfl
   | true=>exact absurd d2 (h1.1 rfl d d1)
  have b:ou=false:=by cases ou with
   | false=>rfl
   | true=>exact absurd c2 (h2.1 rfl c c1)
  rw [a,b]; exact e
 ·omega
end Go.Ev
namespace Go.Ev
open Go.Proofs.Tryz (prog)
set_option maxRecDepth 100000
set_option linter.unusedVariables false
set_option linter.unusedSectionVars false
def fD (o:Nat->Int)(i:Nat):Nat->Int:=fun t=>if t<i then 1 else o t
def AJB (o:Nat->Int)(j:Nat):Nat->Int:=fun t=>if t<j then 1 else if t=j then o t+1 else o t
theorem AJQ (o:Nat->Int):fD o 0=o:=by
 funext t;unfold fD;rw [if_neg (by omega)]
theorem AJR (o:Nat->Int):∀ m:Nat,∃ j,j<=m/\(∀ t,t<j->o t=3)/\(j<m->o j≠3)
 | 0=>⟨0,by omega,fun t h=>by omega,fun h=>by omega⟩
 | m+1=>by
  obtain ⟨j,h1,h2,h3⟩:=AJR o m;by_cases h:j<m
  ·exact ⟨j,by omega,h2,fun _=>h3 h⟩
  ·obtain rfl:j=m:=by omega
   by_cases g:o j=3
   ·exact ⟨j+1,by omega,fun t ht=>by
     rcases (by omega:t<j∨t=j) with e | rfl
     ·exact h2 t e
     ·exact g,fun h=>by omega⟩
   ·exact ⟨j,by omega,h2,fun _=>g⟩
theorem AJZ {q:fG}{o:Nat->Int}(ho:Bw q o){j:Nat}(hj:j<q.m)(h3:o j≠3):Bw q (AJB o j):=by
 intro t ht;have a:=ho t ht;unfold AJB;split
 ·omega
 ·split
  ·rename_i e;subst e;omega
  ·exact a
theorem AJo {q:fG}{o:Nat->Int}(ho:Bw q o){j:Nat}(hj:j<q.m)(h1:∀ t,t<j->o t=3)(h3:o j≠3):eZ (AJB o j) q.m=eZ o q.m+1:=by
 have a:=ho j hj;have:=AJc (o:=o) (p:=AJB o j) (j:=j) (fun i hi=>⟨h1 i hi,if_pos hi⟩) (by unfold AJB; rw [if_neg (by omega),if_pos rfl]) (by omega) (fun i hi=>by unfold AJB; rw [if_neg (by omega),if_neg (by omega)]) (q.m - 1 - j)
 rwa [show j+1+(q.m - 1 - j)=q.m by omega] at this
end Go.Ev
namespace Go.Ev
open Go.Proofs.Tryz (prog)
set_option maxRecDepth 100000
set_option maxHeartbeats 0
noncomputable abbrev AJs:Code:=(cB (cB (cR (cL (cR (cR (cR (AY prog 12))))))))
noncomputable abbrev AJA:=cB (cR (cL (cR (cR (cR (AY prog 12))))))
theorem AKN (q:fG)(n:Nat)(p:Nat->Int)(a:Int)(b:Int)(i:Int)(h0:0<=i)(hi:i<n)(hn:n<=1000)(ha:0<=a)(ha2:a<=1000)(hb:0<=b)(hb2:b<=1000)(hc:0<=q.uO)(hc2:q.uO<n):sR 1 (cB (AJA)) (frame 53 [(1,AW true n p),(2,pt 0 0),(6,iv a),(7,iv b),(8,iv i)]) ([oV q.cells]) (xN,(frame 53 [(1,sl true 1 n fun i=>[iv (p i)]),(2,pt 0 0),(6,iv (bif bif i != q.uO then decide (p i.toNat>p q.uO.toNat) else false then a+1 else a)),(7,iv (bif bif i != q.uO then decide (p i.toNat>=p q.uO.toNat) else false then b+1 else b)),(8,iv (i+1))]),[oV q.cells]):=
 kR [[]] (.mk (dS 426) [(9,.fork true (i != q.uO) 1073741824 8134 0 1 (.mk (dS 4504286822178816) [] [] [] []) (.mk (dS 17592186044416) [] [] [] [])),(0,.fork true (bif i != q.uO then decide (p i.toNat>p q.uO.toNat) else false) 64 1073749894 0 1 (.mk (dS 266) [] [] [] []) (.mk (dS 16) [] [] [] [])),(1,.fork true (i != q.uO) 281474976710656 1073749958 0 1 (.mk (dS 4504286822178816) [] [] [] []) (.mk (dS 17592186044416) [] [] [] [])),(0,.fork true (bif i != q.uO then decide (p i.toNat>=p q.uO.toNat) else false) 128 281476050460486 0 1 (.mk (dS 266) [] [] [] []) (.mk (dS 16) [] [] [] []))] [] [] []) (kO AN) (rI (i+1) (oF ((bif i != q.uO then decide (p i.toNat>=p q.uO.toNat) else false)=true->(inR IntKind.i64 (b+1))=true) (oG ((i != q.uO)=true->(dG q.uO n)=true) (oG ((i != q.uO)=true->(dG i n)=true) (oF ((bif i != q.uO then decide (p i.toNat>p q.uO.toNat) else false)=true->(inR IntKind.i64 (a+1))=true) (oG ((i != q.uO)=true->(dG q.uO n)=true) (oG ((i != q.uO)=true->(dG i n)=true) (oI (GO i n) .nil)))))))) 454 1 [0] 1
theorem AKO (q:fG)(n:Nat)(p:Nat->Int)(a:Int)(b:Int)(i:Int)(hi:i=n):sR 1 (cB (AJA)) (frame 53 [(1,AW true n p),(2,pt 0 0),(6,iv a),(7,iv b),(8,iv i)]) ([oV q.cells]) (xL 0,(frame 53 [(6,iv a),(7,iv b)]),[oV q.cells]):=
 kR [[]] (.mk (dS 27) [] [] [] []) (kO AN) (oI (GO i n=false) .nil) 192 1 [0] 1
theorem AKP (q:fG)(n:Nat)(p:Nat->Int)(a:Int)(b:Int)(ihl:sL (AJA) (frame 53 [(1,AW true n p),(2,pt 0 0),(6,iv 0),(7,iv 0),(8,iv 0)]) [oV q.cells] ((xL 0,frame 53 [(6,iv a),(7,iv b)],[oV q.cells]):RC)):sP 12 [ag q.cells,AE n p] (AH0 a b):=
 kP [[]] (.mk [] [(10,.is 454 1 (xL 0,(frame 53 [(6,iv a),(7,iv b)]),[oV q.cells]))] [] [] []) (kO AN) (.cons ihl .nil)
end Go.Ev
namespace Go.Ev
open Go.Proofs.Tryz (prog)
set_option maxRecDepth 100000
set_option linter.unusedVariables false
set_option linter.unusedSectionVars false
theorem AJU {q:fG}{n:Nat}{p:Nat->Int}{own:Nat}(hc:q.uO=own)(ho:own<n)(hn:n<=100):
  uY prog fF 12 [.agg q.cells,AW true n p] (.tuple [.int .i64 (HD n own p),.int .i64 (DR n own p)]):=by
 have key:∀ k i:Nat,i+k=n->uM prog fF false 1 AJs (frame 53 [(1,AW true n p),(2,.ptr 0 0),(6,.int .i64 (HD i own p)),(7,.int .i64 (DR i own p)),(8,.int .i64 i)]) [fE.var false true q.cells]
   (EX.leave 0,frame 53 [(6,.int .i64 (HD n own p)),(7,.int .i64 (DR n own p))],[fE.var false true q.cells]):=by
  intro k;induction k with
  | zero=>
   intro i h;obtain rfl:i=n:=by omega
   exact uM.aC (AKO q i p _ _ _ rfl) (by simp)
  | succ k ih=>
   intro i h;have h1:=least_le i own p;have h2:=TP i own p;have ih:=ih (i+1) (by omega);have ec:p q.uO.toNat=p own:=by rw [hc]; simp
   have e1:((HD (i+1) own p:Nat):Int)=bif bif (i:Int) != q.uO then decide (p (i:Int).toNat>p q.uO.toNat) else false then (HD i own p:Int)+1 else (HD i own p:Int):=by
    rw [H2,ec,uG];by_cases hio:i=own
    ·rw [if_neg (fun h=>h.1 hio),show ((i:Int) != q.uO)=false by rw [bne_eq_false_iff_eq,hc,hio]];rfl
    ·rw [show ((i:Int) != q.uO)=true by rw [hc,bne_iff_ne]; omega];by_cases hl:p own<p i
     ·rw [if_pos ⟨hio,hl⟩,show decide (p i>p own)=true from uK hl];rfl
     ·rw [if_neg (fun h=>hl h.2),show decide (p i>p own)=false from uL hl];rfl
   have e2:((DR (i+1) own p:Nat):Int)=bif bif (i:Int) != q.uO then decide (p (i:Int).toNat>=p q.uO.toNat) else false then (DR i own p:Int)+1 else (DR i own p:Int):=by
    rw [Fb,ec,uG];by_cases hio:i=own
    ·rw [if_neg (fun h=>h.1 hio),show ((i:Int) != q.uO)=false by rw [bne_eq_false_iff_eq,hc,hio]];rfl
    ·rw [show ((i:Int) != q.uO)=true by rw [hc,bne_iff_ne]; omega];by_cases hl:p own<=p i
     ·rw [if_pos ⟨hio,hl⟩,show decide (p i>=p own)=true from uK hl];rfl
     ·rw [if_neg (fun h=>hl h.2),show decide (p i>=p own)=false from uL hl];rfl
   rw [e1,e2] at ih;exact uM.uQ (AKN q n p _ _ i (by omega) (by omega) (by omega) (by omega) (by omega) (by omega) (by omega) (by omega) (by omega)) ih
 exact AKP q n p _ _ (uM.cl (c:=AJs) (m:=1) (key n 0 (by omega)) (by kernel_rfl) (by kernel_rfl))
end Go.Ev
namespace Go.Ev
open Go.Proofs.Tryz (prog)
set_option maxRecDepth 100000
set_option maxHeartbeats 0
def T0:Ia:=(37,[.ip [iv 2,iv 1,.uS true 1 2 (fun i=>[[iv 3],[iv 5]].getD i []),.uS true 1 2 (fun i=>[[iv 0],[iv 0]].getD i []),.uS true 2 1 (fun i=>[[iv 0,iv 1]].getD i []),iv 0,iv 1,.uS true 1 1 (fun i=>[[iv 1]].getD i []),.uS true 2 1 (fun i=>[[iv 0,iv 1]].getD i []),.im [(.agg [iv 0,iv 1],.uS true 1 1 (fun i=>[[iv 0]].getD i []))],iv 2] 0,.uS true 1 1 (fun i=>[[iv 1]].getD i [])],.tuple [.uS true 1 1 (fun i=>[[iv 3]].getD i []),.agg [s0,s0,s0],.bool true]) :: []
theorem hT0:Om prog fF T0:=⟨Eg (T:=[]) trivial (pures:=pures) (news:=news) (n:=40) (fuel:=100000) C1 (by kernel_rfl) (by kernel_rfl),trivial⟩
def T1:Ia:=(19,[.ip [iv 2,iv 1,.uS true 1 2 (fun i=>[[iv 3],[iv 5]].getD i []),.uS true 1 2 (fun i=>[[iv 0],[iv 0]].getD i []),.uS true 2 1 (fun i=>[[iv 0,iv 1]].getD i []),iv 0,iv 1,.uS true 1 1 (fun i=>[[iv 1]].getD i []),.uS true 2 1 (fun i=>[[iv 0,iv 1]].getD i []),.im [(.agg [iv 0,iv 1],.uS true 1 1 (fun i=>[[iv 0]].getD i []))],iv 2] 0],.agg [iv 3,.uS true 1 1 (fun i=>[[iv 1]].getD i []),.uS true 1 1 (fun i=>[[iv 3]].getD i []),s0]) :: T0
theorem hT1:Om prog fF T1:=⟨Eg (T:=T0) hT0 (pures:=pures) (news:=news) (n:=40) (fuel:=100000) C1 (by kernel_rfl) (by kernel_rfl),hT0⟩
def T2:Ia:=(62,[.agg [iv 5,.uS true 3 3 (fun i=>[[iv 0,iv 1,iv 2],[iv 1,iv 3,iv 2],[iv 3,iv 4,iv 5]].getD i [])]],.tuple [.uS true 1 3 (fun i=>[[iv 2],[iv 2],[iv 2]].getD i []),iv 2,.uS true 1 1 (fun i=>[[iv 0]].getD i []),iv 0]) :: T1
theorem hT2:Om prog fF T2:=⟨Eg (T:=T1) hT1 (pures:=pures) (news:=news) (n:=40) (fuel:=100000) C1 (by kernel_rfl) (by kernel_rfl),hT1⟩
def T3:Ia:=(9,[.agg [iv 2,iv 1,.uS true 1 2 (fun i=>[[iv 3],[iv 5]].getD i []),.uS true 1 2 (fun i=>[[iv 5],[iv 0]].getD i []),.uS true 2 1 (fun i=>[[iv 0,iv 1]].getD i []),iv 0,iv 1]],.tuple [.agg [iv 1,s0,s0,.uS true 3 1 (fun i=>[[.uS true 1 1 (fun i=>[[iv 1]].getD i []),.uS true 1 1 (fun i=>[[iv 1]].getD i []),.uS true 1 1 (fun i=>[[iv 0]].getD i [])]].getD i [])],iv 0]) :: T2
theorem hT3:Om prog fF T3:=⟨Eg (T:=T2) hT2 (pures:=pures) (news:=news) (n:=40) (fuel:=100000) C1 (by kernel_rfl) (by kernel_rfl),hT2⟩
def T4:Ia:=(37,[.ip [iv 2,iv 1,.uS true 1 2 (fun i=>[[iv 3],[iv 5]].getD i []),.uS true 1 2 (fun i=>[[iv 5],[iv 0]].getD i []),.uS true 2 1 (fun i=>[[iv 0,iv 1]].getD i []),iv 1,iv 1,.uS true 1 1 (fun i=>[[iv 0]].getD i []),.uS true 2 1 (fun i=>[[iv 0,iv 1]].getD i []),.im [(.agg [iv 0,iv 1],.uS true 1 1 (fun i=>[[iv 0]].getD i []))],iv 2] 0,.uS true 1 1 (fun i=>[[iv 0]].getD i [])],.tuple [.uS true 1 1 (fun i=>[[iv 1]].getD i []),.agg [s0,s0,s0],.bool true]) :: T3
theorem hT4:Om prog fF T4:=⟨Eg (T:=T3) hT3 (pures:=pures) (news:=news) (n:=40) (fuel:=100000) C1 (by kernel_rfl) (by kernel_rfl),hT3⟩
def T5:Ia:=(5,[],.bool true) :: T4
theorem hT5:Om prog fF T5:=⟨Eg (T:=T4) hT4 (pures:=pures) (news:=news) (n:=40) (fuel:=100000) C1 (by kernel_rfl) (by kernel_rfl),hT4⟩
end Go.Ev
namespace Go.Ev
open Go.Proofs.Tryz (prog)
set_option maxRecDepth 100000
set_option linter.unusedVariables false
set_option linter.unusedSectionVars false
abbrev msO (q:fG):EV:=.ms 1 1 0 q.m (some q.m)
abbrev raH (q:fG)(o:Nat->Int):AL:=[fE.var false true q.cells,aO q.m o]
abbrev raD (q:fG)(o:Nat->Int):AL:=[fE.var false true q.cells,aO q.m o,.dead,.dead,.dead,.dead,.dead,.dead]
abbrev raS (q:fG)(c d:Bool):List EV:=frame 89 [(1,.ptr 0 0),(2,.bool c),(3,.bool d),(5,msO q)]
abbrev raI (q:fG)(c d:Bool)(i:Nat):List EV:=frame 89 [(1,.ptr 0 0),(2,.bool c),(3,.bool d),(5,msO q),(11,.int .i64 (i:Nat))]
abbrev raA (q:fG)(i:Nat):List EV:=frame 89 [(1,.ptr 0 0),(2,.bool true),(3,.bool true),(5,msO q),(17,.int .i64 q.m),(18,.int .i64 (i:Nat))]
theorem AJX (o:Nat->Int)(i m:Nat):∀ t,t<m->BC (fun t=>[EV.int .i64 (fD o i t)]) (0+((i:Nat):Int).toNat) [EV.int .i64 1] t=[EV.int .i64 (fD o (i+1) t)]:=by
 intro t _;simp only [BC,uJ,uG];by_cases h:t=i
 ·rw [if_pos h];unfold fD;rw [if_pos (by omega)]
 ·rw [if_neg h];refine congrArg (fun x:Int=>[EV.int IntKind.i64 x]) (?_:fD o i t=fD o (i+1) t);unfold fD;by_cases g:t<i
  ·rw [if_pos g,if_pos (by omega)]
  ·rw [if_neg g,if_neg (by omega)]
theorem AJp {q:fG}(hm:q.m<=6):uT prog fF false AJ0 (raA q 0) (raH q fun _=>0) (EX.leave 0,raS q true true,raH q (fD (fun _=>0) q.m)):=by
 have key:∀ k i:Nat,i+k=q.m->aB prog fF false AJ1 (raA q i) (raH q (fD (fun _=>0) i)) (EX.leave 0,raS q true true,raH q (fD (fun _=>0) q.m)):=by
  intro k;induction k with
  | zero=>
   intro i h;obtain rfl:i=q.m:=by omega
   exact aB.last (AJ3 q _ _ rfl) (by simp)
  | succ k ih=>
   intro i h;exact aB.step (aE.weaken (uI _) (eW.refl _) (AJ2 q (fD (fun _=>0) i) i (by omega) (by omega) hm) (uI _) (.cons (uH _) (.cons (uU.arr (AJX _ i q.m)) .nil))) (ih (i+1) (by omega))
 have:=key q.m 0 (by omega);rw [AJQ] at this;exact aB.eO this (by kernel_rfl)
theorem AJq {q:fG}(hm:q.m<=6)(o:Nat->Int)(c d:Bool){j:Nat}(hj:j<=q.m)(h1:∀ t,t<j->o t=3)(h2:j<q.m->o j≠3):uT prog fF false AJ4 (raI q c d 0) (raD q o) (EX.leave 4,raI q c d j,raD q (fD o j)):=by
 have hv:∀ i:Nat,fD o i (0+((i:Nat):Int).toNat)=o i:=fun i=>by
  rw [uJ,uG];unfold fD;rw [if_neg (by omega)]
 have key:∀ k i:Nat,i+k=j->aB prog fF false AJ5 (raI q c d i) (raD q (fD o i)) (EX.leave 4,raI q c d j,raD q (fD o j)):=by
  intro k;induction k with
  | zero=>
   intro i h;obtain rfl:i=j:=by omega
   by_cases hi:i<q.m
   ·exact aB.last (AJ7 q (fD o i) c d i (by omega) hm (uK (by omega)) (by rw [hv,beq_eq_false_iff_ne]; exact h2 hi)) (by simp)
   ·exact aB.last (AJ8 q (fD o i) c d i (by omega) hm (uL (by omega))) (by simp)
  | succ k ih=>
   intro i h;exact aB.step (aE.weaken (uI _) (eW.refl _) (AJ6 q (fD o i) c d i (by omega) hm (uK (by omega)) (by rw [hv,beq_iff_eq]; exact h1 i (by omega))) (uI _) (.cons (uH _) (.cons (uU.arr (AJX _ i q.m)) (eW.refl _)))) (ih (i+1) (by omega))
 have:=key j 0 (by omega);rw [AJQ] at this;exact aB.eO this (by kernel_rfl)
section
variable {q:fG}(h:q.Valid)(hn:q.n<=8)(hp:q.np=true)(hm:q.m<=6)
include h hn hp hm
theorem AJC {o:Nat->Int}{ce ou:Bool}(ho:Bw q o)(hA:AllI q (eZ o q.m) ce ou):∃ c d,AllI q (eZ o q.m+1) c d/\
  ((eZ o q.m+1=3 ^ q.m/\uM prog fF false 2 AKu (raS q ce ou) (raH q o) (EX.ret,frame 89 [(2,.bool c),(3,.bool d),(4,.bool true)],[.dead,.dead]))∨
   ∃ o',Bw q o'/\eZ o' q.m=eZ o q.m+1/\uR prog fF false 2 AKu (raS q ce ou) (raH q o) (EX.normal,raS q c d,raH q o')):=by
 have c1:=h.c1;have c2:=h.c2;have hc:q.uO=((q.own:Nat):Int):=by show q.uO=((q.uO.toNat:Nat):Int); omega
 have hc2:q.own<q.n:=by show q.uO.toNat<q.n; omega
 have hf:=AJW h hn hp (by omega) ho;have ha:uY prog fF 12 [EV.agg q.cells,AW true q.n fun i=>CS q o q.m (0+i)] (.tuple [.int .i64 (HD q.n q.own (CS q o q.m)),.int .i64 (DR q.n q.own (CS q o q.m))]):=by
  simp only [uJ];exact AJU hc hc2 (by omega)
 obtain ⟨j,j1,j2,j3⟩:=AJR o q.m;refine ⟨bif ce then decide ((DR q.n q.own (CS q o q.m):Int)<q.place) else false,bif ou then decide ((HD q.n q.own (CS q o q.m):Int)>=q.place) else false,?_,?_⟩
 ·have e:∀ a b:Bool,(bif a then b else false)=(a && b):=fun a b=>by cases a<;>rfl
  rw [e,e];refine hA.next ho ?_ ?_
  ·rw [decide_eq_true_iff];unfold D1;omega
  ·rw [decide_eq_true_iff];unfold ET;omega
 ·have i12:=AKQ q o ce ou false (HD q.n q.own (CS q o q.m)) (DR q.n q.own (CS q o q.m));have i13:=AKR q o ce ou (bif ce then decide ((DR q.n q.own (CS q o q.m):Int)<q.place) else false) (HD q.n q.own (CS q o q.m)) (DR q.n q.own (CS q o q.m));have i15:=fun c d=>AJq hm o c d j1 j2 j3;rcases (by omega:j=q.m∨j<q.m) with rfl | hj
  ·refine .inl ⟨AJS j2,uM.aC (uR.weaken (AKw q o ce ou _ _ _ _ (CS q o q.m) (fD o q.m) q.m (by rw [bne_eq_false_iff_eq]) (by omega) (by omega) hm (.inl rfl) (.inl rfl) hf ha i12 i13 (i15 _ _) (by rw [beq_iff_eq])) (uI _) (.cons uU.dead (.cons uU.dead .nil))) (by simp)⟩
  ·have hv:fD o j (0+((j:Nat):Int).toNat)=o j:=by
    rw [uJ,uG];unfold fD;rw [if_neg (by omega)]
   have hb:=ho j hj;refine .inr ⟨AJB o j,AJZ ho hj (j3 hj),AJo ho hj j2 (j3 hj),uR.weaken (AKx q o ce ou _ _ _ _ (CS q o q.m) (fD o j) j (by rw [bne_eq_false_iff_eq]) (by omega) (by omega) hm (.inr (by rw [hv]; omega)) (.inr (by rw [hv]; omega)) hf ha i12 i13 (i15 _ _) (by rw [beq_eq_false_iff_ne]; omega)) (uI _) (.cons (uH _) (.cons (uU.arr fun t ht=>?_) .nil))⟩;rw [hv];simp only [BC,uJ,uG];by_cases g:t=j
   ·rw [if_pos g];refine congrArg (fun x:Int=>[EV.int IntKind.i64 x]) (?_:o j+1=AJB o j t);unfold AJB;rw [if_neg (by omega),if_pos g,g]
   ·rw [if_neg g];refine congrArg (fun x:Int=>[EV.int IntKind.i64 x]) (?_:fD o j t=AJB o j t);unfold AJB fD;by_cases g2:t<j
    ·rw [if_pos g2,if_pos g2]
    ·rw [if_neg g2,if_neg g2,if_neg g]
theorem AJr:∀ (n:Nat) (o:Nat->Int) (ce ou:Bool),Bw q o->AllI q (eZ o q.m) ce ou->eZ o q.m+1+n=3 ^ q.m->
  ∃ c d,AllI q (3 ^ q.m) c d/\uM prog fF false 2 AKu (raS q ce ou) (raH q o) (EX.ret,frame 89 [(2,.bool c),(3,.bool d),(4,.bool true)],[.dead,.dead]):=by
 intro n;induction n with
 | zero=>
  intro o ce ou ho hA hr;obtain ⟨c,d,hA',h'⟩:=AJC h hn hp hm ho hA;rcases h' with ⟨e,hl⟩ | ⟨o',ho',hr',hc⟩
  ·exact ⟨c,d,e▸hA',hl⟩
  ·have:=AI9 ho';omega
 | succ n ih=>
  intro o ce ou ho hA hr;obtain ⟨c,d,hA',h'⟩:=AJC h hn hp hm ho hA;rcases h' with ⟨e,hl⟩ | ⟨o',ho',hr',hc⟩
  ·exact ⟨c,d,e▸hA',hl⟩
  ·obtain ⟨c2,d2,hA2,hl⟩:=ih o' c d ho' (hr'▸hA') (by omega);exact ⟨c2,d2,hA2,uM.uQ hc hl⟩
theorem AJV:∃ c d,AllI q (3 ^ q.m) c d/\uY prog fF 7 [.agg q.cells] (.tuple [.bool c,.bool d,.bool true]):=by
 have h1:Bw q (fD (fun _=>0) q.m):=fun t ht=>by
  unfold fD;rw [if_pos ht];omega
 have h0:eZ (fD (fun _=>0) q.m) q.m=0:=AJT fun i hi=>if_pos hi;have hpos:0<3 ^ q.m:=Nat.pow_pos (by omega);obtain ⟨c,d,hA,hl⟩:=AJr h hn hp hm (3 ^ q.m - 1) (fD (fun _=>0) q.m) true true h1 (h0▸AllI.zero q) (by rw [h0]; omega);exact ⟨c,d,hA,AKB q (fD (fun _=>0) q.m) c d hm (AJp hm) (uM.cl (c:=AKu) (m:=2) hl (by kernel_rfl) (by kernel_rfl))⟩
end
theorem all_sem (q:fG)(hnp:q.m'≠0->q.np=true)(hno:q.m≠0->q.no=true):uY prog fF 3 [EV.agg q.cells] (.bool true):=by
 obtain ⟨e,h6,hV⟩:=Sv q;by_cases hO:8<q.n∨6<q.m∨e≠0
 ·exact raO q e hO hT5.1 h6
 ·obtain rfl:e=0:=by omega
  have h:=hV rfl;have n1:=h.n1;have hn:q.n<=8:=by omega
  have hm:q.m<=6:=by omega
  have hp:q.np=true:=hnp (by rw [h.m']; omega);obtain ⟨a,ha,hK⟩:=AFv h hn hp;obtain ⟨c,d,hA,h7⟩:=AJV h hn hp hm;obtain ⟨h1,h2⟩:=hA.end' hK (by omega);cases c with
  | true=>cases d with
   | true=>cases h1
   | false=>exact AJu q hn hm hT5.1 h6 h7 (by rw [show a=1 from h2] at ha; exact ha)
  | false=>cases d with
   | true=>exact AJv q hn hm hT5.1 h6 h7 (by rw [show a=2 from h2] at ha; exact ha)
   | false=>exact AJw q hn hm hT5.1 h6 h7 (by rw [show a=3 from h2] at ha; exact ha)
end Go.Ev
namespace Go.Ev
def LZ (T:Go.TypeId->List EV->Prop):List Field->List EV->Prop
 | [],vs=>vs=[]
 | f :: fs,vs=>∃ a b,vs=a++b/\T f.type a/\LZ T fs b
def Typed (P:Program):Nat->Go.TypeId->List EV->Prop
 | 0,_,_=>False
 | n+1,t,vs=>match P.underlying t with
  | some .bool=>∃ b,vs=[.bool b]
  | some (.int k)=>∃ i,vs=[.int k i]/\k.min<=i/\i<=k.max
  | some .string=>∃ s:ByteArray,vs=[.str s]/\s.size<=maxLen
  | some (.slice e)=>vs=[.uS false (P.cellsOf e) 0 fun _=>[]]∨∃ len row,vs=[.uS true (P.cellsOf e) len row]/\len<=maxLen/\∀ i,i<len->Typed P n e (row i)
  | some (.struct fs)=>LZ (Typed P n) fs.toList vs
  | _=>False
def Kh (P:Program)(ok:Go.TypeId->Bool):List Field->Nat->Nat->Bool
 | [],o,tot=>Nat.beq o tot
 | f :: fs,o,tot=>Nat.beq f.offset o && ok f.type && Kh P ok fs (o+P.cellsOf f.type) tot
def okT (P:Program):Nat->Go.TypeId->Bool
 | 0,_=>false
 | n+1,t=>match P.underlying t with
  | some .bool=>true
  | some (.int _)=>true
  | some .string=>true
  | some (.slice e)=>!Nat.beq (P.cellsOf e) 0 && okT P n e
  | some (.struct fs)=>Kh P (okT P n) fs.toList 0 (P.cellsOf t)
  | _=>false
def bR (F:Nat->Prop)(w:World)(vs:List EV)(cs:List Value):Prop:=
 vs.length=cs.length/\∀ i (h1:i<vs.length) (h2:i<cs.length),(cs[i]).oneCell'=true/\PR F w vs[i] cs[i]
theorem bR.one {F:Nat->Prop}{w:World}{v:EV}{m:Value}(h1:m.oneCell'=true)(h:PR F w v m):bR F w [v] [m]:=by
 refine ⟨rfl,fun i a b=>?_⟩;have:i=0:=by simpa using a
 subst this;exact ⟨h1,h⟩
theorem bR.app {F:Nat->Prop}{w:World}{a b:List EV}{c d:List Value}(h:bR F w a c)(g:bR F w b d):bR F w (a++b) (c++d):=by
 obtain ⟨h1,h2⟩:=h;obtain ⟨g1,g2⟩:=g;refine ⟨by simp [h1,g1],fun i x y=>?_⟩;by_cases hi:i<a.length
 ·have hi':i<c.length:=by omega
  rw [List.getElem_append_left hi,List.getElem_append_left hi'];exact h2 i hi hi'
 ·have hi':¬ i<c.length:=by omega
  rw [List.getElem_append_right (by omega),List.getElem_append_right (by omega)];simp only [List.length_append] at x y;have:=g2 (i - a.length) (by omega) (by omega);simpa [h1] using this
section
variable {H:Type}{enc:TypeId×Value->H}{P:Program}{w:World}{spare:Nat->Bool}{held:Bool}{F:Nat->Prop}
theorem Rs {T:Go.TypeId->List EV->Prop}{ok:Go.TypeId->Bool}{n:Nat}{cs:List Value}{tot:Nat}(hl:cs.length=tot)
  (ih:∀ t cs' x,ok t=true->DataW.trod enc P w 0 spare held n t cs'=some x->∃ vs,bR F w vs cs'/\T t vs):
  ∀ (fs:List Field) (o:Nat) (xs:List (DataW H×List MemPlace)),Kh P ok fs o tot=true->xs.length=fs.length->
   (∀ (i:Nat) (f:Field),fs[i]? =some f->DataW.trod enc P w 0 spare held n f.type ((cs.drop f.offset).take (P.cellsOf f.type))=xs[i]?)->
   ∃ vs,bR F w vs (cs.drop o)/\LZ T fs vs
 | [],o,xs,hc,_,_=>by
  have:o=tot:=Nat.eq_of_beq_eq_true hc;refine ⟨[],⟨by simp; omega,fun i h=>by simp at h⟩,rfl⟩
 | f :: fs,o,xs,hc,hx,h=>by
  simp only [Kh,uF] at hc;obtain ⟨⟨ho,hk⟩,hr⟩:=hc;have ho:f.offset=o:=Nat.eq_of_beq_eq_true ho
  match xs,hx with
  | x :: xs,hx=>
   have h0:=h 0 f rfl;obtain ⟨a,ha,hta⟩:=ih _ _ x hk h0;obtain ⟨b,hb,htb⟩:=Rs hl ih fs (o+P.cellsOf f.type) xs hr (by simpa using hx) (fun i g hg=>by simpa using h (i+1) g (by simpa using hg));refine ⟨a++b,?_,a,b,rfl,hta,htb⟩;have:=ha.app hb;rw [ho,<-List.drop_drop,List.take_append_drop] at this;exact this
theorem Ha (hF:∀ b,b<w.heap.size->F b):∀ (n fuel:Nat) (t:Go.TypeId) (cs:List Value) (x:DataW H×List MemPlace),okT P n t=true->
  DataW.trod enc P w 0 spare held fuel t cs=some x->∃ vs,bR F w vs cs/\Typed P n t vs
 | 0,_,_,_,_,hk,_=>by cases hk
 | n+1,fuel,t,cs,x,hk,h=>by
  unfold okT at hk;unfold Typed;split at hk
  ·rename_i hu;obtain ⟨b,rfl,_⟩:=DataW.trod_bool hu h;exact ⟨[.bool b],.one rfl (.bool b),b,rfl⟩
  ·rename_i k hu;obtain ⟨i,rfl,_,hw⟩:=DataW.trod_int hu h;simp only [Lit.wf,uF,decide_eq_true_eq] at hw;exact ⟨[.int k i],.one rfl (.int k i),i,rfl,hw⟩
  ·rename_i hu;obtain ⟨s,rfl,_,hs⟩:=DataW.trod_string hu h;exact ⟨[.str s],.one rfl (.str s),s,rfl,hs⟩
  ·rename_i e hu;simp only [uF,Bool.not_eq_true'] at hk;obtain ⟨hz,hk⟩:=hk;have hz:0<P.cellsOf e:=Nat.pos_of_ne_zero fun hz'=>by rw [hz'] at hz; cases hz
   rcases DataW.trod_slice hu h with ⟨rfl,_⟩ | ⟨a,len,cap,elems,rest,m,_,rfl,_,_,hlc,hcm,hlen,hel,_,_⟩
   ·exact ⟨[.uS false (P.cellsOf e) 0 fun _=>[]],.one rfl (.bB _ _),.inl rfl⟩
   ·have hi:∀ i,∃ p:List EV×List Value,i<len->w.cells? 0 (a.add (i*P.cellsOf e)) (P.cellsOf e)=some p.2/\bR F w p.1 p.2/\Typed P n e p.1:=by
     intro i;by_cases hi:i<len
     ·have h1:=hel i hi;rw [uD (by omega),Option.bind_eq_some_iff] at h1;obtain ⟨ci,h1,h2⟩:=h1;obtain ⟨vs,h3,h4⟩:=Ha hF n m e ci _ hk h2;exact ⟨(vs,ci),fun _=>⟨h1,h3,h4⟩⟩
     ·exact ⟨([],[]),fun h=>absurd h hi⟩
    obtain ⟨f,hf⟩:=Classical.axiomOfChoice hi;obtain ⟨b,o,sp⟩:=a;have hsp:0<len->sp=none:=by
     intro h0;obtain ⟨_,h2,h3⟩:=World.cells?_some (hf 0 h0).1;have h3:=h3 0 hz;rw [uD (by omega),Nat.zero_mul] at h3;simp only [Addr.add,if_true] at h3;unfold World.cell? at h3;split at h3
     ·cases sp with
      | none=>rfl
      | some _=>simp at h3
     ·cases h3
    have hc:∀ i,i<len->∀ j,j<P.cellsOf e->cellAt w b (o+i*P.cellsOf e+j)=(f i).2[j]? :=by
     intro i hi j hj;obtain ⟨_,h2,h3⟩:=World.cells?_some (hf i hi).1;have:=h3 j hj;rw [hsp (by omega),D4,D4,cell?_eq] at this;exact this
    refine ⟨[.uS true (P.cellsOf e) len fun i=>(f i).1],.one rfl (.uS _ _ _ b o cap (fun i j=>(f i).2.getD j default) ?_ hlc sp hsp ?_ ?_ ?_),.inr ⟨len,_,rfl,by omega,fun i hi=>(hf i hi).2.2⟩⟩
    ·intro h0;refine hF b ?_;have:=hc 0 h0 0 hz;obtain ⟨_,h2,_⟩:=World.cells?_some (hf 0 h0).1;rw [uD (by omega)] at this;unfold cellAt at this;split at this
     ·rename_i hb; exact (Array.getElem?_eq_some_iff.1 hb).1
     ·cases this
    ·intro i hi;obtain ⟨_,h2,_⟩:=World.cells?_some (hf i hi).1;have:=(hf i hi).2.1.1;omega
    ·intro i hi j hj;obtain ⟨_,h2,_⟩:=World.cells?_some (hf i hi).1;have h1:=(hf i hi).2.1.1;have hj':j<(f i).2.length:=by omega
     have h3:=(hf i hi).2.1.2 j (by omega) hj';rw [hc i hi j hj,uD hj'];simp only [uA,uD hj',Option.getD_some];exact ⟨trivial,h3.1⟩
    ·intro i hi j hj;have h1:=(hf i hi).2.1.1;have hj':j<(f i).2.length:=by omega
     have h3:=(hf i hi).2.1.2 j hj hj';simp only [uA,uD hj',Option.getD_some];exact h3.2
  ·rename_i fs hu;obtain ⟨xs,m,rfl,_,hl,hx,hf⟩:=DataW.trod_struct hu h;obtain ⟨vs,h1,h2⟩:=Rs (T:=Typed P n) (ok:=okT P n) hl (fun t' cs' x' a b=>Ha hF n m t' cs' x' a b) fs.toList 0 xs hk (by simpa using hx) (fun i f hf'=>hf i f (by simpa using hf'));exact ⟨vs,by simpa using h1,h2⟩
  ·cases hk
theorem arg_pure {r:Reach}{b0 n:Nat}{t:Go.TypeId}{fs:Array Field}{v:Value}{d:DataW H}{ps:List MemPlace}(hF:∀ b,b<w.heap.size->F b)(hu:P.underlying t=some (.struct fs))
  (hval:Value.okWide P w r b0 t v) (hk:okT P n t=true) (hd:DataW.Trod enc P w 0 spare held t v d ps):∃ vs,PR F w (.agg vs) v/\Typed P n t vs:=by
 obtain ⟨cs,rfl,_⟩:=Go.WideShapes.okWide_struct hu hval;obtain ⟨fuel,hf⟩:=hd;obtain ⟨vs,⟨h1,h2⟩,h3⟩:=Ha hF n fuel t _ _ hk hf;refine ⟨vs,.agg vs cs (by simpa [Value.cells] using h1) (fun i h=>?_) (fun i a b=>?_),h3⟩
 ·have:=(h2 i (by rw [h1]; simpa [Value.cells] using h) (by simpa [Value.cells] using h)).1;simpa [Value.cells] using this
 ·have:=(h2 i a (by simpa [Value.cells] using b)).2;simpa [Value.cells] using this
end
end Go.Ev
namespace Go.Ev
inductive BLs:List EV->List EV->Prop where
 | nil:BLs [] []
 | cons {x y:EV} {xs ys:List EV} (h:dR x y) (t:BLs xs ys):BLs (x :: xs) (y :: ys)
theorem BLs.refl:∀ xs,BLs xs xs
 | []=>.nil
 | x :: xs=>.cons (dR.refl x) (BLs.refl xs)
theorem BLs.len {xs ys:List EV}(h:BLs xs ys):ys.length=xs.length:=by
 induction h with
 | nil=>rfl
 | cons _ _ ih=>simp [ih]
theorem BLs.get {xs ys:List EV}(h:BLs xs ys):∀ i (h1:i<xs.length) (h2:i<ys.length),dR xs[i] ys[i]:=by
 induction h with
 | nil=>intro i h; simp at h
 | cons h _ ih=>
  intro i h1 h2;cases i with
  | zero=>exact h
  | succ i=>exact ih i (by simpa using h1) (by simpa using h2)
theorem BLs.agg {xs ys:List EV}(h:BLs xs ys):dR (.agg xs) (.agg ys):=dR.agg h.len h.get
theorem dR.uS {nn:Bool}{esz len:Nat}{row row':Nat->List EV}(h:∀ i,i<len->row i=row' i):dR (.uS nn esz len row) (.uS nn esz len row'):=⟨aG.uS h,bL.uS h⟩
end Go.Ev
namespace Go.Ev
open Go.Proofs.Tryz (prog)
set_option maxRecDepth 100000
theorem Fx {P:Program}{n:Nat}{t:Go.TypeId}{k:IntKind}{vs:List EV}(hu:P.underlying t=some (.int k))(h:Typed P n t vs):∃ i,vs=[.int k i]/\k.min<=i/\i<=k.max:=by
 cases n with
 | zero=>exact h.elim
 | succ n=>unfold Typed at h; rw [hu] at h; exact h
theorem Mt {P:Program}{n:Nat}{t e:Go.TypeId}{vs:List EV}(hu:P.underlying t=some (.slice e))(h:Typed P (n+1) t vs):
  vs=[.uS false (P.cellsOf e) 0 fun _=>[]]∨∃ len row,vs=[.uS true (P.cellsOf e) len row]/\len<=maxLen/\∀ i,i<len->Typed P n e (row i):=by
 unfold Typed at h; rw [hu] at h; exact h
theorem Q0 {P:Program}{n:Nat}{t:Go.TypeId}{fs:Array Field}{vs:List EV}(hu:P.underlying t=some (.struct fs))(h:Typed P (n+1) t vs):LZ (Typed P n) fs.toList vs:=by
 unfold Typed at h; rw [hu] at h; exact h
def Tj (P:Program)(t:Go.TypeId):Option (List Go.TypeId):=match P.underlying t with | some (.struct fs)=>some (fs.toList.map (·.type)) | _=>none
def Q1 (T:Go.TypeId->List EV->Prop):List Go.TypeId->List EV->Prop
 | [],vs=>vs=[]
 | t :: ts,vs=>∃ a b,vs=a++b/\T t a/\Q1 T ts b
theorem OY {T:Go.TypeId->List EV->Prop}:∀ (fs:List Field) (vs:List EV),LZ T fs vs->Q1 T (fs.map (·.type)) vs
 | [],_,h=>h
 | f :: fs,vs,h=>by
  obtain ⟨a,b,h1,h2,h3⟩:=h;exact ⟨a,b,h1,h2,OY fs b h3⟩
theorem La {P:Program}{n:Nat}{t:Go.TypeId}{ts:List Go.TypeId}{vs:List EV}(hu:Tj P t=some ts)(h:Typed P (n+1) t vs):Q1 (Typed P n) ts vs:=by
 unfold Tj at hu;split at hu
 ·rename_i fs hfs;obtain rfl:=uC hu;exact OY _ _ (Q0 hfs h)
 ·cases hu
theorem OZ:prog.underlying 3=some (.int .i64):=by kernel_rfl
theorem Oa {n:Nat}{vs:List EV}(h:Typed prog (n+2) 22 vs):∃ (nn:Bool) (len:Nat) (w:Nat->Int) (x:EV),vs=[x]/\dR x (AW nn len w)/\(len≠0->nn=true):=by
 have hc:prog.cellsOf 3=1:=by kernel_rfl
 rcases Mt (e:=3) (by kernel_rfl) h with rfl | ⟨len,row,rfl,_,hr⟩
 ·rw [hc];exact ⟨false,0,fun _=>0,_,rfl,dR.uS fun i hi=>by omega,fun h=>absurd rfl h⟩
 ·rw [hc];have hp:∀ i,∃ x:Int,i<len->row i=[.int .i64 x]:=by
   intro i;by_cases hi:i<len
   ·obtain ⟨x,hx,_⟩:=Fx OZ (hr i hi);exact ⟨x,fun _=>hx⟩
   ·exact ⟨0,fun h=>absurd h hi⟩
  obtain ⟨w,hw⟩:=Classical.axiomOfChoice hp;exact ⟨true,len,w,_,rfl,dR.uS fun i hi=>hw i hi,fun _=>rfl⟩
theorem Rt {n:Nat}{vs:List EV}(h:Typed prog (n+3) 23 vs):∃ (nn:Bool) (len:Nat) (w:Nat->aF) (x:EV),vs=[x]/\dR x (.uS nn 2 len fun i=>(w i).cells)/\(len≠0->nn=true):=by
 have hc:prog.cellsOf 49=2:=by kernel_rfl
 rcases Mt (e:=49) (by kernel_rfl) h with rfl | ⟨len,row,rfl,_,hr⟩
 ·rw [hc];exact ⟨false,0,fun _=>default,_,rfl,dR.uS fun i hi=>by omega,fun h=>absurd rfl h⟩
 ·rw [hc];have hp:∀ i,∃ x:aF,i<len->row i=x.cells:=by
   intro i;by_cases hi:i<len
   ·have h:=La (ts:=[3,3]) (by kernel_rfl) (hr i hi);obtain ⟨a1,b1,h0,h1,a2,b2,rfl,h2,rfl⟩:=h;obtain ⟨i1,rfl,_⟩:=Fx OZ h1;obtain ⟨i2,rfl,_⟩:=Fx OZ h2;exact ⟨⟨i1,i2⟩,fun _=>h0⟩
   ·exact ⟨default,fun h=>absurd h hi⟩
  obtain ⟨w,hw⟩:=Classical.axiomOfChoice hp;exact ⟨true,len,w,_,rfl,dR.uS fun i hi=>hw i hi,fun _=>rfl⟩
theorem typed_race {vs:List EV}(h:Typed prog 6 25 vs):∃ q:fG,aG (.agg vs) (.agg q.cells)/\(q.m'≠0->q.np=true)/\(q.m≠0->q.no=true):=by
 have h:=La (ts:=[3,3,22,22,23,3,3]) (by kernel_rfl) h;obtain ⟨a1,b1,rfl,h1,a2,b2,rfl,h2,a3,b3,rfl,h3,a4,b4,rfl,h4,a5,b5,rfl,h5,a6,b6,rfl,h6,a7,b7,rfl,h7,rfl⟩:=h;obtain ⟨i1,rfl,_⟩:=Fx OZ h1;obtain ⟨i2,rfl,_⟩:=Fx OZ h2;obtain ⟨nc,n,cl,x3,rfl,e3,_⟩:=Oa h3;obtain ⟨np,m',pt,x4,rfl,e4,f4⟩:=Oa h4;obtain ⟨no,m,op,x5,rfl,e5,f5⟩:=Rt h5;obtain ⟨i6,rfl,_⟩:=Fx OZ h6;obtain ⟨i7,rfl,_⟩:=Fx OZ h7;exact ⟨⟨i1,i2,nc,n,cl,np,m',pt,no,m,op,i6,i7⟩,(BLs.agg (.cons (dR.refl _) (.cons (dR.refl _) (.cons e3 (.cons e4 (.cons e5 (.cons (dR.refl _) (.cons (dR.refl _) .nil)))))))).p,f4,f5⟩
end Go.Ev
namespace Go.Ev
def Ru:List (Option (List EV))->Option (List EV)
 | []=>some []
 | x :: xs=>match x,Ru xs with | some a,some b=>some (a++b) | _,_=>none
def dE {H:Type}:Nat->DataW H->Option (List EV)
 | 0,_=>none
 | n+1,d=>match d with
  | .lit (.int k i)=>some [.int k i]
  | .lit (.string b)=>some [.str ⟨b.toArray⟩]
  | .lit (.bool b)=>some [.bool b]
  | .agg ds=>Ru (ds.map (dE n))
  | _=>none
def okD (P:Program):Nat->Go.TypeId->Bool
 | 0,_=>false
 | n+1,t=>match P.underlying t with
  | some .bool=>true
  | some (.int _)=>true
  | some .string=>true
  | some (.array m e)=>Nat.beq (P.cellsOf t) (m*P.cellsOf e) && okD P n e
  | some (.struct fs)=>Kh P (okD P n) fs.toList 0 (P.cellsOf t)
  | _=>false
section
variable {H:Type}{enc:TypeId×Value->H}{P:Program}{w:World}{base:Nat}{spare:Nat->Bool}{held:Bool}{F:Nat->Prop}
theorem Rv {f m k:Nat}{e:Go.TypeId}(ih:∀ cs' x l,DataW.trod enc P w base spare held f e cs'=some x->dE m x.1=some l->bR F w l cs'):
  ∀ (xs:List (DataW H×List MemPlace)) (cs:List Value) (l:List EV),cs.length=xs.length*k->
   (∀ i x,xs[i]? =some x->DataW.trod enc P w base spare held f e ((cs.drop (i*k)).take k)=some x)->Ru ((xs.map (·.1)).map (dE m))=some l->bR F w l cs
 | [],cs,l,hl,_,hd=>by
  obtain rfl:cs=[]:=List.eq_nil_of_length_eq_zero (by simpa using hl);simp only [List.map_nil,Ru,uB] at hd;subst hd;exact ⟨rfl,fun i h=>by simp at h⟩
 | x :: xs,cs,l,hl,h,hd=>by
  simp only [List.map_cons,Ru] at hd;split at hd
  ·rename_i a b ha hb;simp only [uB] at hd;subst hd;have h0:=h 0 x rfl;rw [Nat.zero_mul,List.drop_zero] at h0;have h1:=ih _ x a h0 ha;have h2:=Rv (k:=k) ih xs (cs.drop k) b (by rw [List.length_drop,hl,List.length_cons,Nat.add_mul]; omega) (fun i y hy=>by
    rw [List.drop_drop,show k+i*k=(i+1)*k from by rw [Nat.add_mul]; omega];exact h (i+1) y (by simpa using hy)) hb
   have:=h1.app h2
   rwa [List.take_append_drop] at this
  ·cases hd
theorem Tk {f m tot:Nat}{ok:Go.TypeId->Bool}{cs:List Value}(hl:cs.length=tot)
  (ih:∀ t cs' x l,ok t=true->DataW.trod enc P w base spare held f t cs'=some x->dE m x.1=some l->bR F w l cs'):
  ∀ (fs:List Field) (o:Nat) (xs:List (DataW H×List MemPlace)) (l:List EV),Kh P ok fs o tot=true->xs.length=fs.length->
   (∀ (i:Nat) (g:Field),fs[i]? =some g->DataW.trod enc P w base spare held f g.type ((cs.drop g.offset).take (P.cellsOf g.type))=xs[i]?)->
   Ru ((xs.map (·.1)).map (dE m))=some l->bR F w l (cs.drop o)
 | [],o,xs,l,hc,hx,_,hd=>by
  have:o=tot:=Nat.eq_of_beq_eq_true hc;obtain rfl:xs=[]:=List.eq_nil_of_length_eq_zero (by simpa using hx);simp only [List.map_nil,Ru,uB] at hd;subst hd;exact ⟨by simp; omega,fun i h=>by simp at h⟩
 | g :: fs,o,xs,l,hc,hx,h,hd=>by
  simp only [Kh,uF] at hc;obtain ⟨⟨ho,hk⟩,hr⟩:=hc;have ho:g.offset=o:=Nat.eq_of_beq_eq_true ho
  match xs,hx with
  | x :: xs,hx=>
   simp only [List.map_cons,Ru] at hd;split at hd
   ·rename_i a b ha hb;simp only [uB] at hd;subst hd;have h0:=h 0 g rfl;have h1:=ih _ _ x a hk h0 ha;have h2:=Tk hl ih fs (o+P.cellsOf g.type) xs b hr (by simpa using hx) (fun i y hy=>by simpa using h (i+1) y (by simpa using hy)) hb;have:=h1.app h2
    rwa [ho,<-List.drop_drop,List.take_append_drop] at this
   ·cases hd
theorem Ki:∀ (n m fuel:Nat) (t:Go.TypeId) (cs:List Value) (x:DataW H×List MemPlace) (l:List EV),okD P n t=true->
  DataW.trod enc P w base spare held fuel t cs=some x->dE m x.1=some l->bR F w l cs
 | 0,_,_,_,_,_,_,hk,_,_=>by cases hk
 | _,0,_,_,_,_,_,_,_,hd=>by cases hd
 | n+1,m+1,fuel,t,cs,x,l,hk,h,hd=>by
  unfold okD at hk;split at hk
  ·rename_i hu;obtain ⟨b,rfl,rfl⟩:=DataW.trod_bool hu h;simp only [dE,uB] at hd;subst hd;exact .one rfl (.bool b)
  ·rename_i k hu;obtain ⟨i,rfl,rfl,_⟩:=DataW.trod_int hu h;simp only [dE,uB] at hd;subst hd;exact .one rfl (.int k i)
  ·rename_i hu;obtain ⟨s,rfl,rfl,_⟩:=DataW.trod_string hu h;simp only [dE,uB] at hd;subst hd;exact .one rfl (.str s)
  ·rename_i z e hu;simp only [uF] at hk;obtain ⟨xs,f,rfl,rfl,hl,hx,hf⟩:=DataW.trod_array hu h;have hz:=Nat.eq_of_beq_eq_true hk.1;exact Rv (k:=P.cellsOf e) (fun cs' x' l' a b=>Ki n m f e cs' x' l' hk.2 a b) xs cs l (by rw [hl,hz,hx]) (fun i y hy=>by
    have hi:i<xs.length:=(List.getElem?_eq_some_iff.1 hy).1;rw [hf i (by omega),hy]) hd
  ·rename_i fs hu;obtain ⟨xs,f,rfl,rfl,hl,hx,hf⟩:=DataW.trod_struct hu h;have:=Tk (ok:=okD P n) hl (fun t' cs' x' l' a b c=>Ki n m f t' cs' x' l' a b c) fs.toList 0 xs l hk (by simpa using hx) (fun i g hg=>hf i g (by simpa using hg)) hd;simpa using this
  ·cases hk
end
theorem Rw {P:Program}{w:World}:∀ {laid:List (String×DataW Unit)} {ps:List MemPlace},DataW.LaidVars P w laid ps->∀ x∈laid,
  ∃ g t cs fuel p,P.globalNamed x.1=some g/\(P.globals[g]?).map (·.type)=some t/\w.var? P x.1=some cs/\DataW.trod (fun _=>()) P w 0 (fun _=>true) false fuel t cs.toList=some (x.2,p)
 | [],_,_=>fun x hx=>by cases hx
 | (n,d) :: r,ps,h=>by
  obtain ⟨g,t,cs,fuel,p,q,h1,h2,h3,h4,h5,_⟩:=h;intro x hx;rcases List.mem_cons.1 hx with rfl | hx
  ·exact ⟨g,t,cs,fuel,p,h1,h2,h3,h4⟩
  ·exact Rw h5 x hx
theorem eQ {P:Program}{w:World}{laid:List (String×DataW Unit)}{F:Nat->Prop}(hF:∀ b,b<w.heap.size->F b)(h:laidMet P laid w){n:String}{d:DataW Unit}(hx:(n,d)∈laid){g:Nat}{t:Go.TypeId}{l:List EV}{k:Nat}
  (hg:P.globalNamed n=some g) (ht:(P.globals[g]?).map (·.type)=some t) (hk:okD P k t=true) (hd:dE k d=some l) (hne:l≠[]):
  F g/\l≠[]/\∃ mv:Nat->Value,∀ j (h:j<l.length),cellAt w g j=some (mv j)/\(mv j).oneCell'=true/\PR F w l[j] (mv j):=by
 obtain ⟨ps,hv,_⟩:=h;obtain ⟨g',t',cs,fuel,p,h1,h2,h3,h4⟩:=Rw hv _ hx;obtain rfl:g=g':=uC (hg.symm.trans h1);obtain rfl:t=t':=uC (ht.symm.trans h2);obtain ⟨c1,c2⟩:=Ki (F:=F) k k fuel t _ _ l hk h4 hd;have hc:∀ j,cellAt w g j=cs[j]? :=fun j=>by rw [<-cell?_eq]; exact World.var?_cell h1 h3 j
 have hl:0<l.length:=Nat.pos_of_ne_zero fun e=>hne (List.eq_nil_of_length_eq_zero e);refine ⟨hF g ?_,hne,fun j=>cs.toList.getD j default,fun j hj=>?_⟩
 ·have:=hc 0;have h0:0<cs.size:=by rw [<-Array.length_toList,<-c1]; exact hl
  rw [Array.getElem?_eq_getElem h0] at this;unfold cellAt at this;split at this
  ·rename_i hb; exact (Array.getElem?_eq_some_iff.1 hb).1
  ·cases this
 ·have hj':j<cs.toList.length:=by omega
  have hj2:j<cs.size:=by simpa using hj'
  have:=c2 j hj hj';have e:cs.toList.getD j default=cs.toList[j]:=by rw [uA,uD hj',Option.getD_some]
  show cellAt w g j=some (cs.toList.getD j default)/\_;rw [e,hc j,Array.getElem?_eq_getElem hj2];refine ⟨by simp,?_⟩;show (cs.toList.getD j default).oneCell'=true/\PR F w l[j] (cs.toList.getD j default);rw [e];exact this
end Go.Ev
