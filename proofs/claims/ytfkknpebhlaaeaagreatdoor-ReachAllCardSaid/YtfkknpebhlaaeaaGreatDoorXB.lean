/- A part of the proof. -/
import Derived.Test.YtfkknpebhlaaeaaGreatDoorXA
import Derived.RangeFuncRecord
import Derived.RangeFuncLeaves
set_option linter.unusedSimpArgs false
set_option linter.unusedVariables false
set_option linter.unusedSectionVars false
namespace Go.Ev
section
variable {P:Program}{S:Type}{V:S->Prop}{G:Nat->Option (List EV)}{D:Drv S}
theorem Rel.drawn {K:KM}{σ:AL}{w:World}(hr:Rel K σ w)(n:Nat):Ext K σ w K σ { w with drawn:=n }/\Rel K σ { w with drawn:=n }:=by
 have hE:Ext K σ w K σ { w with drawn:=n }:=
  ⟨Nat.le_refl _,fun _ h=>h,fun _ _=>⟨rfl,rfl,rfl,rfl⟩,fun _ h=>h,fun _ h=>.inl h,fun _ h=>.inr h,fun _ _ _=>rfl,Nat.le_refl _,rfl,rfl,rfl⟩
 refine ⟨hE,fun r o h=>?_,hr.inj,hr.cD,hr.lt,hr.Flt,hr.alt⟩;by_cases hf:o=.free
 ·subst hf; exact hr.obj r _ h
 ·exact (hr.obj r o h).ext hE hr hf fun _=>rfl
theorem EU {c c' cx:Array Value}{base n start m:Nat}(hsz:c'.size=c.size)(hx:cx.size=m*n)
  (hg:∀ j,c'[j]? =if base+start*n<=j/\j<base+start*n+cx.size then cx[j - (base+start*n)]? else c[j]?) {i j:Nat} (hj:j<n) (hc:base+i*n+j<c'.size):
  (start<=i/\i<start+m->∃ h:(i - start)*n+j<cx.size,c'[base+i*n+j]=cx[(i - start)*n+j])/\
  (¬ (start<=i/\i<start+m)->∃ h:base+i*n+j<c.size,c'[base+i*n+j]=c[base+i*n+j]):=by
 have h:=hg (base+i*n+j);rw [Array.getElem?_eq_getElem hc] at h;constructor
 ·intro hin;have h1:start*n<=i*n:=Nat.mul_le_mul_right _ hin.1;have h2:=De (show i - start<m by omega) hj;have h3:(i - start)*n=i*n - start*n:=Nat.sub_mul _ _ _;rw [if_pos (by rw [hx]; omega),Array.getElem?_eq_getElem (by rw [hx]; omega)] at h;refine ⟨by rw [hx]; exact h2,?_⟩;rw [uC h]
  congr 1; omega
 ·intro hout;have:¬ (base+start*n<=base+i*n+j/\base+i*n+j<base+start*n+cx.size):=by
   rintro ⟨a,b⟩
   apply hout;constructor
   ·rcases Nat.lt_or_ge i start with h' | h'
    ·have:(i+1)*n<=start*n:=Nat.mul_le_mul_right _ h';rw [Nat.add_mul] at this; omega
    ·exact h'
   ·rcases Nat.lt_or_ge i (start+m) with h' | h'
    ·exact h'
    ·have:(start+m)*n<=i*n:=Nat.mul_le_mul_right _ h';rw [Nat.add_mul] at this; rw [hx] at b; omega
  rw [if_neg this,Array.getElem?_eq_getElem (by omega)] at h;exact ⟨by omega,uC h⟩
theorem run_append_room {w w':World}{t:TypeId}{ts:Array TypeId}{ty elem:TypeId}{a:Addr}{sLen sCap n m:Nat}{mx:Value}{cx:Array Value}{d':TypeDesc}
  (h0:ts[0]? =some t) (h1:ts[1]?.bind P.underlying=some d') (hd:∀ k,d'≠.int k) (hu:P.underlying t=some (.slice elem)) (hn:BP P elem=some n)
  (hlen:(Builtin.lenOf mx).run P w=.ok m w) (hx:(Builtin.firstCells n m mx).run P w=.ok cx w) (hle:sLen+m<=sCap)
  (hst:(storeCells (a.add (sLen*n)) cx.toList).run P w=.ok () w'):
  (Builtin.append_ ts ty #[.slice (some a) sLen sCap,mx]).run P w=.ok (.slice (some a) (sLen+m) sCap) w':=by
 obtain ⟨t',ht',hd'⟩:=Option.bind_eq_some_iff.1 h1;have hzeros:(match d' with | .int _=>true | _=>false)=false:=by
  cases d'<;>first | rfl | exact absurd rfl (hd _)
 simp only [Builtin.append_,h0,List.getElem?_toArray,List.getElem?_cons_zero,List.getElem?_cons_succ,Sem.run_bind,AP hu,uE,Bm hn,ht',AP hd',hzeros,
  Bool.false_eq_true,if_false,hlen,Sem.run_pure]
 rw [if_pos hle];simp only [Sem.run_bind,Bool.not_false,if_true,hx,uE,hst,Sem.run_pure]
theorem run_append_nil {w:World}{t:TypeId}{ts:Array TypeId}{ty elem:TypeId}{n:Nat}{mx:Value}{cx:Array Value}{d':TypeDesc}
  (h0:ts[0]? =some t) (h1:ts[1]?.bind P.underlying=some d') (hd:∀ k,d'≠.int k) (hu:P.underlying t=some (.slice elem)) (hn:BP P elem=some n)
  (hlen:(Builtin.lenOf mx).run P w=.ok 0 w) (hx:(Builtin.firstCells n 0 mx).run P w=.ok cx w):
  (Builtin.append_ ts ty #[.slice none 0 0,mx]).run P w=.ok (.slice none 0 0) w:=by
 obtain ⟨t',ht',hd'⟩:=Option.bind_eq_some_iff.1 h1;have hzeros:(match d' with | .int _=>true | _=>false)=false:=by
  cases d'<;>first | rfl | exact absurd rfl (hd _)
 simp only [Builtin.append_,h0,List.getElem?_toArray,List.getElem?_cons_zero,List.getElem?_cons_succ,Sem.run_bind,AP hu,uE,Bm hn,ht',AP hd',hzeros,
  Bool.false_eq_true,if_false,hlen,Sem.run_pure]
 rw [if_pos (by omega)];simp only [Sem.run_bind,Bool.not_false,if_true,hx,uE,Sem.run_pure]
theorem V5 {K:KM}{σ:AL}{w w':World}(hR:Rel K σ w){nm:Nat}(hfree:σ[nm]? =some .free){elem:TypeId}{n m cap:Nat}{row:Nat->List EV}{pf:Bool}{cs rest:Array Value}
  (hl:bG K w n m row pf cs) (hcap:m<=cap) (hrest:rest.size=(cap - m)*n) (hr1:∀ j (h:j<rest.size),(rest[j]).oneCell'=true) (hw:w'=w.alloc (.cells (cs++rest) elem)):
  ∃ K',Ext K σ w K' (σ.set nm (.arr false pf n false m row)) w'/\Rel K' (σ.set nm (.arr false pf n false m row)) w'/\VR K' w' (.ms nm n 0 m none) (.slice (some ⟨w.heap.size,0,none⟩) m cap):=by
 subst hw;have hN:New w (w.alloc (.cells (cs++rest) elem)) (.cells (cs++rest) elem):=New.push w _;have hsz:(cs++rest).size=cap*n:=by
  rw [Array.size_append,hl.size,hrest,<-Nat.add_mul]; congr 1; omega
 obtain ⟨e1,r1⟩:=K3 hR hfree hN (by intro j _; simp) (esz:=n) (len:=m) (row:=row) (exact:=false) (pf:=pf)
  (fun j h=>by
   simp only [Array.getElem_append];split
   ·exact hl.one _ _
   ·exact hr1 _ _)
  (by rw [hsz]; exact Nat.mul_le_mul_right _ hcap) (fun h=>by cases h)
  (fun i hi=>⟨hl.len i hi,fun j hj hc=>by
   have hlt:i*n+j<cs.size:=by rw [hl.size]; exact De hi (by rw [<-hl.len i hi]; exact hj)
   have:=hl.val i hi j hj hlt;simpa only [uJ,Array.getElem_append,hlt,dif_pos] using this⟩)
  (fun hp i hi j hj hc=>by
   have hlt:i*n+j<cs.size:=by rw [hl.size]; exact De hi (by rw [<-hl.len i hi]; exact hj)
   have:=hl.plain hp i hi j hj hlt;simpa only [uJ,Array.getElem_append,hlt,dif_pos] using this)
 refine ⟨_,e1,r1,.ms nm n 0 m none cap _ (.inl rfl) hcap (by simp [KM.new]) (fun c h=>by cases h) (fun _=>by simp only [KM.new,if_pos]; rw [hsz]; simp) fun _=>by simp [KM.new]⟩
set_option maxHeartbeats 2000000 in
theorem SD (hD:dK V P G D)(look:B5)(nm:Nat)(t t':TypeId)(d':TypeDesc)(hd':P.underlying t'=some d')(hd:∀ k,d'≠.int k)(s x:EV):
  Ok V (QD D P look nm t s x) fun r=>∀ K σ w ms mx ty (ts:Array TypeId),ts[0]? =some t->ts[1]? =some t'->Rel K σ w->(∀ r o,look r=some o->σ[r]? =some o)->σ[nm]? =some .free->
   VR K w s ms->VR K w x mx->
   ∃ mv w' K',(Builtin.append_ ts ty #[ms,mx]).run P w=.ok mv w'/\Ext K σ w K' (Al σ r.2) w'/\Rel K' (Al σ r.2) w'/\VR K' w' r.1 mv:=by
 unfold QD;split
 ·rename_i elem hu;refine Ok.bind (Ok.lift (Φ:=fun n=>BP P elem=some n) fun n h=>h) fun n=>?_;refine Ok.bind (Ok.lift (Φ:=fun z=>G0 P elem=some z) fun n h=>h) fun z=>?_;refine Ok.ite (fun _=>Ok.fail) fun hne=>?_;have hn0:0<n:=by omega
  have hzl:z.length=n:=by omega
  refine Ok.bind (Ok.lift (Φ:=fun q=>rowsOf look x=some q) fun n h=>h) fun q=>?_;obtain ⟨esz,m,xrow,xpf⟩:=q;dsimp only;refine Ok.ite (fun _=>Ok.fail) fun hes=>?_;have he:m≠0->esz=n:=by
   intro h;by_cases h':esz=n
   ·exact h'
   ·exact absurd ⟨h',h⟩ hes
  have grow:BP P elem=some n->G0 P elem=some z->rowsOf look x=some (esz,m,xrow,xpf)->∀ {K:KM} {σ:AL} {w:World} {mx:Value} {ty:TypeId} {ts:Array TypeId} {base:Option Addr} {sLen sCap:Nat}
    {srow:Nat->List EV} {spf:Bool} {cs:Array Value},ts[0]? =some t->ts[1]? =some t'->Rel K σ w->(∀ r o,look r=some o->σ[r]? =some o)->σ[nm]? =some .free->VR K w x mx->
    (Builtin.firstCells n sLen (.slice base sLen sCap)).run P { w with drawn:=w.drawn+1 }=.ok cs { w with drawn:=w.drawn+1 }->bG K { w with drawn:=w.drawn+1 } n sLen srow spf cs->
    sCap<sLen+m->(sLen+m)*((P.info? elem).map (·.bytes)).getD 0<=2 ^ 46->sLen+m<2 ^ 62->
    ∃ mv w' K',(Builtin.append_ ts ty #[.slice base sLen sCap,mx]).run P w=.ok mv w'/\Ext K σ w K' (σ.set nm (.arr false (spf && xpf) n false (sLen+m) (Ar sLen srow xrow))) w'/\
     Rel K' (σ.set nm (.arr false (spf && xpf) n false (sLen+m) (Ar sLen srow xrow))) w'/\VR K' w' (.ms nm n 0 (sLen+m) none) mv:=by
   intro hn hz hq K σ w mx ty ts base sLen sCap srow spf cs ht ht' hR hlk hfree hx hcs hls hgt hb hlt;obtain ⟨i,hi,hisz⟩:=KY hn;have hby:((P.info? elem).map (·.bytes)).getD 0=i.bytes:=by simp [hi]
   rw [hby] at hb;obtain ⟨eD,rD⟩:=hR.drawn (w.drawn+1);obtain ⟨zv,z1,z2⟩:=D5 (P:=P) hz K { w with drawn:=w.drawn+1 };obtain ⟨x1,_⟩:=Iu (P:=P) (HL hR hlk) hq hx hn0 he;obtain ⟨_,cx,x2,x3⟩:=Iu (P:=P) (HL rD hlk) hq (hx.ext eD hR) hn0 he;obtain ⟨cap,rest,g1,g2,g3,g4⟩:=run_append_grow (P:=P) (ty:=ty) (i:=i) (n:=n) ht (by rw [ht']; exact hd') hd hu hi hisz hn0 z1 (by rw [<-z2.1.1]; exact hzl) z2.2 x1 hcs hls.size x2 x3.size hgt hb hlt;obtain ⟨K',e1,r1,v1⟩:=V5 rD hfree (hls.cat x3) g1 g2 g3 rfl;exact ⟨_,_,K',g4,eD.trans e1,r1,v1⟩
  split
  ·refine Ok.bind (hD.bJ _) fun _=>?_;refine Ok.bind (hD.br _) fun d=>?_;refine Ok.ite (fun hdt=>Ok.pure ?_) fun hdf=>Ok.pure ?_
   ·intro hbr hchk hq hz hn K σ w ms mx ty ts ht ht' hR hlk hfree hs hx;rw [hdt] at hbr;have hm:m=0:=by simpa using hbr.symm
    subst hm;rcases hs.aV with ⟨_,_,rfl⟩ | ⟨h0,_⟩
    ·obtain ⟨x1,cx,x2,x3⟩:=Iu (P:=P) (HL hR hlk) hq hx hn0 he;exact ⟨_,w,K,run_append_nil ht (by rw [ht']; exact hd') hd hu hn x1 x2,Ext.refl _ _ _,hR,.pure _ _ (.bB _ _)⟩
    ·cases h0
   ·intro hbr hchk hq hz hn K σ w ms mx ty ts ht ht' hR hlk hfree hs hx;have hm:m≠0:=by
     rintro rfl
     exact hdf (by rw [hbr]; simp)
    simp only [uF,decide_eq_true_eq] at hchk;rcases hs.aV with ⟨_,_,rfl⟩ | ⟨h0,_⟩
    ·obtain ⟨mv,w',K',h1,h2,h3,h4⟩:=grow hn hz hq (base:=none) (sLen:=0) (sCap:=0) (srow:=fun _=>[]) (spf:=true) (cs:=#[]) (ty:=ty) ht ht' hR hlk hfree hx (by simp [Builtin.firstCells]) .nil (by omega)
      (by rw [uJ]; exact hchk.1) (by omega)
     have hcat:Ar 0 (fun _=>[]) xrow=xrow:=by funext i; simp [Ar]
     simp only [uJ,hcat,Bool.true_and] at h1 h2 h3 h4;exact ⟨mv,w',K',h1,h2,h3,h4⟩
    ·cases h0
  ·rename_i r esz0 off len cap;split
   ·rename_i pf esz' ex olen row hr;refine Ok.ite (fun _=>Ok.fail) fun hne2=>?_;have e1:esz0=n:=by omega
    have e2:esz'=n:=by omega
    subst e1; subst e2;refine Ok.bind (hD.bJ _) fun _=>?_;have own:∀ {K:KM} {σ:AL} {w:World} {a:Addr} {mcap:Nat},Rel K σ w->(∀ r o,look r=some o->σ[r]? =some o)->len<=mcap->off+len<=K.len r->
      (mcap≠0->a=⟨K.vP r,K.off r+off*esz',none⟩)->
      ∃ cs,(Builtin.firstCells esz' len (.slice (some a) len mcap)).run P { w with drawn:=w.drawn+1 }=.ok cs { w with drawn:=w.drawn+1 }/\bG K { w with drawn:=w.drawn+1 } esz' len (fun i=>row (off+i)) pf cs:=by
     intro K σ w a mcap hR hlk hle hlen haddr;obtain ⟨eD,rD⟩:=hR.drawn (w.drawn+1);by_cases h0:len=0
     ·subst h0;exact ⟨#[],by simp [Builtin.firstCells,loadCells,loadCellsFrom],.nil⟩
     ·obtain rfl:=haddr (by omega);have ho:=rD.obj r _ (hlk r _ hr);have hln:K.len r=olen:=ho.2.1;obtain ⟨cs,c1,c2⟩:=Li (P:=P) ho (off:=off) (m:=len) (by omega) hn0;exact ⟨cs,by simp only [Builtin.firstCells]; exact c1,c2⟩
    have room:BP P elem=some esz'->rowsOf look x=some (esz,m,xrow,xpf)->∀ {K:KM} {σ:AL} {w:World} {a:Addr} {mcap:Nat} {mx:Value} {ty:TypeId} {ts:Array TypeId},ts[0]? =some t->ts[1]? =some t'->
      Rel K σ w->(∀ r o,look r=some o->σ[r]? =some o)->VR K w x mx->len<=mcap->len+m<=mcap->K.off r+(off+mcap)*esz'<=K.ext r->
      (mcap≠0->a=⟨K.vP r,K.off r+off*esz',none⟩)->
      ∃ (w':World) (c c' cx:Array Value) (e:TypeId) (fz:Nat×Nat),(Builtin.append_ ts ty #[.slice (some a) len mcap,mx]).run P w=.ok (.slice (some a) (len+m) mcap) w'/\
       w.heap[K.vP r]? =some (.cells c e fz)/\Wr w w' (K.vP r) (.cells c' e fz)/\c'.size=c.size/\K.ext r=c.size/\bG K w esz' m xrow xpf cx/\(∀ j (h:j<c'.size),(c'[j]).oneCell'=true)/\
       (∀ j,j<c.size->(fz.1<=j && j<fz.2)=false)/\
       (∀ j,c'[j]? =if K.off r+(off+len)*esz'<=j/\j<K.off r+(off+len)*esz'+cx.size then cx[j - (K.off r+(off+len)*esz')]? else c[j]?):=by
     intro hn hq K σ w a mcap mx ty ts ht ht' hR hlk hx hle hneed hext haddr;obtain ⟨x1,cx,x2,x3⟩:=Iu (P:=P) (HL hR hlk) hq hx hn0 he;obtain ⟨_,hln,c,e,fz,hb,hfz,hxt,hone,hcl,_⟩:=hR.obj r _ (hlk r _ hr);by_cases hm0:m=0
     ·subst hm0;have hcx:cx=#[]:=by
       have:=x3.size;simp at this; exact this
      subst hcx;refine ⟨w,c,c,#[],e,fz,?_,hb,.refl hb,rfl,hxt,x3,hone,hfz,fun j=>by rw [if_neg (by simp)]⟩;exact run_append_room ht (by rw [ht']; exact hd') hd hu hn x1 x2 (by omega) (by simp [storeCells])
     ·obtain rfl:=haddr (by omega);have hbnd:(off+len+m)*esz'<=(off+mcap)*esz':=Nat.mul_le_mul_right _ (by omega);have hadd:K.off r+off*esz'+len*esz'=K.off r+(off+len)*esz':=by rw [Nat.add_mul]; omega
      obtain ⟨w',c',s1,s2,s3,s4⟩:=FL P cx.toList 0 w c hb (fun v hv=>by
       obtain ⟨i,hi,rfl⟩:=List.mem_iff_getElem.1 hv;exact x3.one i (by simpa using hi)) (o:=K.off r+(off+len)*esz') (by simp only [Array.length_toList,x3.size]; rw [Nat.add_mul (off+len)] at hbnd; omega) hfz
      refine ⟨w',c,c',cx,e,fz,?_,hb,s2,s3,hxt,x3,fun j h=>?_,hfz,fun j=>?_⟩
      ·refine run_append_room ht (by rw [ht']; exact hd') hd hu hn x1 x2 hneed ?_;rw [D4,hadd]; exact s1
      ·have:=s4 j;rw [Array.getElem?_eq_getElem h] at this;split at this
       ·rename_i hin;rw [uD (by omega)] at this;rw [uC this,Array.getElem_toList];exact x3.one _ _
       ·rw [Array.getElem?_eq_getElem (by omega)] at this;rw [uC this]; exact hone _ _
      ·rw [s4]; simp
    split
    ·rename_i c0;refine Ok.bind (hD.br _) fun d=>?_;refine Ok.ite (fun hdt=>Ok.pure ?_) fun hdf=>Ok.pure ?_
     ·
      intro hbr hchk hq hz hn K σ w ms mx ty ts ht ht' hR hlk hfree hs hx;rw [hdt] at hbr;have hroom:len+m<=c0:=by simpa using hbr.symm
      obtain ⟨a,mcap,rfl,hal,hle,hlen,hcap,hnone,haddr⟩:=hs.aW;obtain ⟨rfl,hoc⟩:=hcap _ rfl;have hσ:=hlk r _ hr;obtain ⟨_,hln,c1,e1,fz1,hb1,_,hxt1,_,hcl,hexa,_,hrl,hvr,hpl⟩:=hR.obj r _ hσ;have hext:K.off r+(off+mcap)*esz'<=K.ext r:=by
       have:(off+mcap)*esz'<=olen*esz':=Nat.mul_le_mul_right _ (by omega);omega
      obtain ⟨w',c,c',cx,e,fz,g1,hb,g2,g3,g4,x3,g5,g6,g7⟩:=room hn hq (ty:=ty) ht ht' hR hlk hx hle hroom hext haddr;rw [hb] at hb1;simp only [uB,Obj.cells.injEq] at hb1;obtain ⟨rfl,rfl,rfl⟩:=hb1;have:=hR.write hσ rfl g2 (obj':=.arr false (pf && xpf) esz' ex olen (Aw (off+len) m row xrow)) rfl fun σ' hE=>by
       have x3':=x3.ext hE hR;refine ⟨hal,hln,c',e,fz,g2.here,fun j hj=>g6 j (by omega),by omega,g5,by omega,fun h=>by rw [g3]; exact hexa h,(fun h=>by cases h),fun i hi=>?_,fun i hi j hj hc=>?_,fun hp i hi j hj hc=>?_⟩
       ·unfold Aw;split
        ·exact hrl i hi
        ·split
         ·exact x3.len _ (by omega)
         ·exact hrl i hi
       ·by_cases hin:off+len<=i/\i<off+len+m
        ·have hu:Aw (off+len) m row xrow i=xrow (i - (off+len)):=by simp only [Aw]; rw [if_neg (by omega),if_pos (by omega)]
         have hj':j<(xrow (i - (off+len))).length:=by rw [hu] at hj; exact hj
         obtain ⟨hlt,heq⟩:=(EU g3 x3.size g7 (by rw [<-x3.len (i - (off+len)) (by omega)]; exact hj') hc).1 hin;simp only [hu,heq];exact x3'.val _ (by omega) j hj' hlt
        ·have hu:Aw (off+len) m row xrow i=row i:=by simp only [Aw]; split; rfl; rw [if_neg (by omega)]
         have hj':j<(row i).length:=by rw [hu] at hj; exact hj
         obtain ⟨hlt,heq⟩:=(EU g3 x3.size g7 (by rw [<-hrl i hi]; exact hj') hc).2 hin;simp only [hu,heq];exact (hvr i hi j hj' hlt).ext hE hR
       ·simp only [uF] at hp;by_cases hin:off+len<=i/\i<off+len+m
        ·have hu:Aw (off+len) m row xrow i=xrow (i - (off+len)):=by simp only [Aw]; rw [if_neg (by omega),if_pos (by omega)]
         have hj':j<(xrow (i - (off+len))).length:=by rw [hu] at hj; exact hj
         obtain ⟨hlt,heq⟩:=(EU g3 x3.size g7 (by rw [<-x3.len (i - (off+len)) (by omega)]; exact hj') hc).1 hin;simp only [hu,heq];exact x3'.plain hp.2 _ (by omega) j hj' hlt
        ·have hu:Aw (off+len) m row xrow i=row i:=by simp only [Aw]; split; rfl; rw [if_neg (by omega)]
         have hj':j<(row i).length:=by rw [hu] at hj; exact hj
         obtain ⟨hlt,heq⟩:=(EU g3 x3.size g7 (by rw [<-hrl i hi]; exact hj') hc).2 hin;simp only [hu,heq];exact (hpl hp.1 i hi j hj' hlt).ext hE hR
      exact ⟨_,w',K,g1,this.1,this.2,.ms r esz' off (len+m) (some mcap) mcap a hal hroom (by omega) (fun c h=>by obtain rfl:=uC h; exact ⟨rfl,by omega⟩) (fun h=>by cases h) haddr⟩
     ·intro hbr hchk hq hz hn K σ w ms mx ty ts ht ht' hR hlk hfree hs hx;simp only [uF,decide_eq_true_eq] at hchk;have hno:c0<len+m:=by
       rcases Nat.lt_or_ge c0 (len+m) with h | h
       ·exact h
       ·exact absurd (by rw [hbr]; simp; omega) hdf
      obtain ⟨a,mcap,rfl,hal,hle,hlen,hcap,hnone,haddr⟩:=hs.aW;obtain ⟨rfl,hoc⟩:=hcap _ rfl;obtain ⟨cs,s1,s2⟩:=own hR hlk hle hlen haddr;obtain ⟨mv,w',K',h1,h2,h3,h4⟩:=grow hn hz hq (ty:=ty) ht ht' hR hlk hfree hx s1 s2 hno hchk.1 hchk.2;exact ⟨mv,w',K',h1,h2,h3,h4⟩
    ·refine Ok.pure ?_;intro hchk hq hz hn K σ w ms mx ty ts ht ht' hR hlk hfree hs hx;simp only [uF,decide_eq_true_eq] at hchk;obtain ⟨a,mcap,rfl,hal,hle,hlen,hcap,hnone,haddr⟩:=hs.aW;have hσ:=hlk r _ hr;have hnr:nm≠r:=by
      rintro rfl
      rw [hfree] at hσ; cases hσ
     by_cases hroom:len+m<=mcap
     ·have hext:=hnone rfl;obtain ⟨_,hln,c1,e1,fz1,hb1,_,hxt1,_,hcl,hexa,_,hrl,hvr,hpl⟩:=hR.obj r _ hσ;obtain ⟨w',c,c',cx,e,fz,g1,hb,g2,g3,g4,x3,g5,g6,g7⟩:=room hn hq (ty:=ty) ht ht' hR hlk hx hle hroom (by omega) haddr;rw [hb] at hb1;simp only [uB,Obj.cells.injEq] at hb1;obtain ⟨rfl,rfl,rfl⟩:=hb1;have hbnd:(off+(len+m))*esz'<=(off+mcap)*esz':=Nat.mul_le_mul_right _ (by omega);have hat:∀ i,K.off r+off*esz'+i*esz'=K.off r+(off+i)*esz':=by intro i; rw [Nat.add_mul]; omega
      have:=hR.inherit hfree hσ rfl g2 (obj:=.arr false (pf && xpf) esz' false (len+m) (Ar len (fun i=>row (off+i)) xrow)) rfl (off:=K.off r+off*esz') (e:=c.size) (l:=len+m) fun σ' hE=>by
       have x3':=x3.ext hE hR;refine ⟨.inl rfl,by simp [KM.new],c',e,fz,by simp only [KM.new,if_pos]; exact g2.here,fun j hj=>g6 j (by omega),by simp only [KM.new,if_pos]; omega,g5,by simp only [KM.new,if_pos]; rw [hat]; omega,(fun h=>by cases h),(fun h=>by cases h),fun i hi=>?_,fun i hi j hj hc=>?_,fun hp i hi j hj hc=>?_⟩
       ·unfold Ar;split
        ·exact hrl _ (by omega)
        ·exact x3.len _ (by omega)
       ·simp only [KM.new,if_pos,hat] at hc ⊢;by_cases hin:i<len
        ·have hu:Ar len (fun i=>row (off+i)) xrow i=row (off+i):=by simp [Ar,hin]
         have hj':j<(row (off+i)).length:=by rw [hu] at hj; exact hj
         obtain ⟨hlt,heq⟩:=(EU g3 x3.size g7 (by rw [<-hrl (off+i) (by omega)]; exact hj') hc).2 (by omega);simp only [hu,heq];exact (hvr (off+i) (by omega) j hj' hlt).ext hE hR
        ·have hu:Ar len (fun i=>row (off+i)) xrow i=xrow (i - len):=by simp [Ar,hin]
         have hj':j<(xrow (i - len)).length:=by rw [hu] at hj; exact hj
         obtain ⟨hlt,heq⟩:=(EU g3 x3.size g7 (by rw [<-x3.len (i - len) (by omega)]; exact hj') hc).1 (by omega);have hil:off+i - (off+len)=i - len:=by omega
         simp only [hu,heq];simp only [hil] at hlt ⊢;exact x3'.val _ (by omega) j hj' hlt
       ·simp only [KM.new,if_pos,hat] at hc ⊢;simp only [uF] at hp;by_cases hin:i<len
        ·have hu:Ar len (fun i=>row (off+i)) xrow i=row (off+i):=by simp [Ar,hin]
         have hj':j<(row (off+i)).length:=by rw [hu] at hj; exact hj
         obtain ⟨hlt,heq⟩:=(EU g3 x3.size g7 (by rw [<-hrl (off+i) (by omega)]; exact hj') hc).2 (by omega);simp only [hu,heq];exact (hpl hp.1 (off+i) (by omega) j hj' hlt).ext hE hR
        ·have hu:Ar len (fun i=>row (off+i)) xrow i=xrow (i - len):=by simp [Ar,hin]
         have hj':j<(xrow (i - len)).length:=by rw [hu] at hj; exact hj
         obtain ⟨hlt,heq⟩:=(EU g3 x3.size g7 (by rw [<-x3.len (i - len) (by omega)]; exact hj') hc).1 (by omega);have hil:off+i - (off+len)=i - len:=by omega
         simp only [hu,heq];simp only [hil] at hlt ⊢;exact x3'.plain hp.2 _ (by omega) j hj' hlt
      refine ⟨_,w',_,g1,this.1,this.2,?_⟩;exact .ms nm esz' 0 (len+m) none mcap a (.inl rfl) hroom (by simp [KM.new]) (fun c h=>by cases h) (fun _=>by simp only [KM.new,if_pos,uJ]; rw [hat]; omega)
       fun h=>by simp only [KM.new,if_pos,Nat.zero_mul,Nat.add_zero]; exact haddr h
     ·obtain ⟨cs,s1,s2⟩:=own hR hlk hle hlen haddr;obtain ⟨mv,w',K',h1,h2,h3,h4⟩:=grow hn hz hq (ty:=ty) ht ht' hR hlk hfree hx s1 s2 (by omega) hchk.1 hchk.2;have hk:=h3.kill (r:=r) (o:=.arr false pf esz' ex olen row) (by rw [JC hfree,if_neg (Ne.symm hnr)]; exact hσ);exact ⟨mv,w',K',h1,h2.trans hk.1,hk.2,h4⟩
   ·exact Ok.fail
  ·exact Ok.fail
 ·exact Ok.fail
end
end Go.Ev
namespace Go.Ev
section
variable {P:Program}{S:Type}{V:S->Prop}{G:Nat->Option (List EV)}{D:Drv S}
theorem Oh:∀ (as bs:List EV) (ma mb:List Value) {F:Nat->Prop} {w:World},bU.go as bs=true->as.length=ma.length->bs.length=mb.length->
  (∀ i (h:i<as.length) (h':i<ma.length),PR F w as[i] ma[i])->(∀ i (h:i<bs.length) (h':i<mb.length),PR F w bs[i] mb[i])->(ma.length==mb.length && (ma.zip mb).all fun (x,y)=>Instr.sameBits 9999 x y)=true:=by
 intro as;induction as with
 | nil=>
  intro bs ma mb F w h hl hl' _ _;cases bs with
  | nil=>cases ma<;>cases mb<;>simp_all
  | cons=>simp [bU.go] at h
 | cons a as ih=>
  intro bs ma mb F w h hl hl' hv hv';cases bs with
  | nil=>cases a<;>simp [bU.go] at h
  | cons b bs=>
   cases ma with
   | nil=>simp at hl
   | cons x ma=>
    cases mb with
    | nil=>simp at hl'
    | cons y mb=>
     have hx:=hv 0 (by simp) (by simp);have hy:=hv' 0 (by simp) (by simp);simp only [List.getElem_cons_zero] at hx hy;have hxy:Instr.sameBits 9999 x y=true/\bU.go as bs=true:=by
      cases a<;>cases b<;>first | (simp [bU.go] at h; done) | skip
      ·simp only [bU.go,uF] at h;cases hx; cases hy;exact ⟨by simpa [Instr.sameBits] using h.1,h.2⟩
      ·simp only [bU.go,uF] at h;cases hx; cases hy;exact ⟨by simpa [Instr.sameBits] using h.1,h.2⟩
      ·simp only [bU.go,uF] at h;cases hx; cases hy;exact ⟨by simpa [Instr.sameBits] using h.1,h.2⟩
     have:=ih bs ma mb hxy.2 (by simpa using hl) (by simpa using hl') (fun i h1 h2=>hv (i+1) (by simpa using h1) (by simpa using h2)) (fun i h1 h2=>hv' (i+1) (by simpa using h1) (by simpa using h2));simp only [uF,beq_iff_eq] at this;simp only [List.zip_cons_cons,List.all_cons,List.length_cons,hxy.1,this.2,this.1,Bool.and_self,beq_self_eq_true]
theorem Nd {a b:EV}{ma mb:Value}{F:Nat->Prop}{w:World}(h:bU a b=true)(ha:PR F w a ma)(hb:PR F w b mb):Instr.sameBits 10000 ma mb=true:=by
 cases a<;>cases b<;>first | (simp [bU] at h; done) | skip
 ·cases ha; cases hb; simpa [bU,Instr.sameBits] using h
 ·cases ha; cases hb; simpa [bU,Instr.sameBits] using h
 ·cases ha; cases hb; simpa [bU,Instr.sameBits] using h
 ·cases ha with
  | agg _ ma hl h1 hv=>cases hb with
   | agg _ mb hl' h1' hv'=>
    have:=Oh _ _ ma.toList mb.toList (F:=F) (w:=w) (by simpa [bU] using h) (by simpa using hl) (by simpa using hl') (fun i h1 h2=>by simpa using hv i h1 (by simpa using h2)) (fun i h1 h2=>by simpa using hv' i h1 (by simpa using h2));simpa [Instr.sameBits] using this
theorem KZ {w:World}{b:Nat}{es es':Array MapEntry}{cl cl':Nat}(h:w.heap[b]? =some (.map es cl)):
  ∃ w',(setObj b (.map es' cl')).run P w=.ok () w'/\Wr w w' b (.map es' cl'):=by
 refine ⟨{ w with heap:=w.heap.setIfInBounds b (.map es' cl') },by simp [setObj,Sem.run,h],⟨by simp,fun b' hb=>?_,?_,rfl,rfl,rfl⟩⟩
 ·simp only [Array.getElem?_setIfInBounds]; rw [if_neg (Ne.symm hb)]
 ·have:b<w.heap.size:=by
   rcases Nat.lt_or_ge b w.heap.size with h' | h'
   ·exact h'
   ·rw [Array.getElem?_eq_none h'] at h; cases h
  simp [this]
set_option maxHeartbeats 1000000 in
theorem MX {es:List (EV×EV)}{i:Nat}{k:EV}(h:sameAt es i k=true):∃ e,es[i]? =some e/\bU e.1 k=true:=by
 unfold sameAt at h;split at h
 ·exact ⟨_,by assumption,h⟩
 ·cases h
theorem T9 (look:B5)(t:TypeId)(x:EV):
  Ok V (R5 (S:=S) P look t x) fun u=>∀ K σ w mx (ty:TypeId) (ts:Array TypeId),ts[0]? =some t->Rel K σ w->(∀ r o,look r=some o->σ[r]? =some o)->VR K w x mx->
   ∃ w' K',(Builtin.clear_ ts ty #[mx]).run P w=.ok (.tuple #[]) w'/\Ext K σ w K' (Al σ u.2) w'/\Rel K' (Al σ u.2) w'/\u.1=.undef:=by
 unfold R5;split
 ·rename_i elem r esz off len cap hu;split
  ·rename_i pf esz' ex olen row hr;refine Ok.bind (Ok.lift (Φ:=fun n=>BP P elem=some n) fun n h=>h) fun n=>?_;refine Ok.bind (Ok.lift (Φ:=fun z=>G0 P elem=some z) fun n h=>h) fun z=>?_;refine Ok.ite (fun _=>Ok.fail) fun hne=>Ok.pure ?_;intro hz hn K σ w mx ty ts ht hR hlk hx;have hn0:0<n:=by omega
   have hzl:z.length=n:=by omega
   obtain rfl:esz=n:=by omega
   obtain rfl:esz'=esz:=by omega
   have hσ:=hlk r _ hr;obtain ⟨a,mcap,rfl,hal,hle,hlen,hcap,hnone,haddr⟩:=hx.aW;obtain ⟨_,hln,c,e,fz,hb,hfz,hext,hone,hcl,hexa,_,hrl,hvr,hpl⟩:=hR.obj r _ hσ;obtain ⟨zv,z1,z2⟩:=D5 hz K w;have hvc:=Nb z2 hzl hn0 len;have hrep:∀ r∈List.replicate len z,r.length=esz':=fun r hr=>by rw [List.eq_of_mem_replicate hr]; exact hzl
   have hrows:=F8 hrep hvc;simp only [List.length_replicate] at hrows;obtain ⟨cx,hcx⟩:∃ cx,cx=(Array.range (len*esz')).map fun i=>zv.cells[i % zv.cells.size]! :=⟨_,rfl⟩
   rw [<-hcx] at hrows hvc;have hcs:cx.size=len*esz':=by rw [hcx]; simp
   have hrows':∀ i,i<len->∀ j (h:j<z.length) (h':i*esz'+j<cx.size),VR K w z[j] cx[i*esz'+j]:=by
    intro i hi j h h';have he:(List.replicate len z).getD i []=z:=by simp [uA,hi]
    have:=(hrows i hi).2 j (by show j<((List.replicate len z).getD i []).length; rw [he]; exact h) (by omega);simp only [he,uJ] at this;exact this
   have hzs:zv.cells.size=esz':=by rw [<-z2.1.1]; exact hzl
   by_cases hl0:len=0
   ·subst hl0;have hmid:Aw off 0 row (fun _=>z)=row:=by
     funext i; unfold Aw; split; rfl; rw [if_neg (by omega)]
    rw [hmid];have:=hR.write hσ rfl (Wr.refl hb) (obj':=.arr false (pf && CB z) esz' ex olen row) rfl fun σ' hE=>
     ⟨hal,hln,c,e,fz,hb,hfz,hext,hone,hcl,hexa,(fun h=>by cases h),hrl,fun i hi j hj hc=>(hvr i hi j hj hc).ext hE hR,fun hp i hi j hj hc=>(hpl (by simp only [uF] at hp; exact hp.1) i hi j hj hc).ext hE hR⟩
    refine ⟨w,K,?_,this.1,this.2,rfl⟩;simp [Builtin.clear_,ht,AP hu]
   ·obtain rfl:=haddr (by omega);have hbnd:(off+len)*esz'<=olen*esz':=Nat.mul_le_mul_right _ (by omega);rw [Nat.add_mul] at hbnd;obtain ⟨w',c',s1,s2,s3,s4⟩:=FL P cx.toList 0 w c hb (fun v hv=>by
     obtain ⟨i,hi,rfl⟩:=List.mem_iff_getElem.1 hv;exact hvc.2 i (by simpa using hi)) (o:=K.off r+off*esz') (by simp only [Array.length_toList,hcs]; omega) hfz
    have g7:∀ j,c'[j]? =if K.off r+off*esz'<=j/\j<K.off r+off*esz'+cx.size then cx[j - (K.off r+off*esz')]? else c[j]? :=fun j=>by rw [s4]; simp
    have g5:∀ j (h:j<c'.size),(c'[j]).oneCell'=true:=fun j h=>by
     have:=g7 j;rw [Array.getElem?_eq_getElem h] at this;split at this
     ·rename_i hin;rw [Array.getElem?_eq_getElem (by omega)] at this;rw [uC this];exact hvc.2 _ _
     ·rw [Array.getElem?_eq_getElem (by omega)] at this;rw [uC this]; exact hone _ _
    have:=hR.write hσ rfl s2 (obj':=.arr false (pf && CB z) esz' ex olen (Aw off len row fun _=>z)) rfl fun σ' hE=>by
     refine ⟨hal,hln,c',e,fz,s2.here,fun j hj=>hfz j (by omega),by omega,g5,by omega,fun h=>by rw [s3]; exact hexa h,(fun h=>by cases h),fun i hi=>?_,fun i hi j hj hc=>?_,fun hp i hi j hj hc=>?_⟩
     ·unfold Aw;split
      ·exact hrl i hi
      ·split
       ·exact hzl
       ·exact hrl i hi
     ·by_cases hin:off<=i/\i<off+len
      ·have hu:Aw off len row (fun _=>z) i=z:=by simp only [Aw]; rw [if_neg (by omega),if_pos (by omega)]
       have hj':j<z.length:=by rw [hu] at hj; exact hj
       obtain ⟨hlt,heq⟩:=(EU s3 hcs g7 (by rw [<-hzl]; exact hj') hc).1 hin;simp only [hu,heq];exact (hrows' _ (by omega) j hj' hlt).ext hE hR
      ·have hu:Aw off len row (fun _=>z) i=row i:=by simp only [Aw]; split; rfl; rw [if_neg (by omega)]
       have hj':j<(row i).length:=by rw [hu] at hj; exact hj
       obtain ⟨hlt,heq⟩:=(EU s3 hcs g7 (by rw [<-hrl i hi]; exact hj') hc).2 hin;simp only [hu,heq];exact (hvr i hi j hj' hlt).ext hE hR
     ·simp only [uF] at hp;by_cases hin:off<=i/\i<off+len
      ·have hu:Aw off len row (fun _=>z) i=z:=by simp only [Aw]; rw [if_neg (by omega),if_pos (by omega)]
       have hj':j<z.length:=by rw [hu] at hj; exact hj
       obtain ⟨hlt,heq⟩:=(EU s3 hcs g7 (by rw [<-hzl]; exact hj') hc).1 hin;simp only [hu,heq];exact ((hrows' _ (by omega) j hj' hlt).ext hE hR).cN (EB hp.2 j hj')
      ·have hu:Aw off len row (fun _=>z) i=row i:=by simp only [Aw]; split; rfl; rw [if_neg (by omega)]
       have hj':j<(row i).length:=by rw [hu] at hj; exact hj
       obtain ⟨hlt,heq⟩:=(EU s3 hcs g7 (by rw [<-hrl i hi]; exact hj') hc).2 hin;simp only [hu,heq];exact (hpl hp.1 i hi j hj' hlt).ext hE hR
    refine ⟨w',K,?_,this.1,this.2,rfl⟩;have hzc:(Builtin.zeroCells zv.cells len).toList=cx.toList:=by rw [hcx]; unfold Builtin.zeroCells; rw [hzs]
    have hlen':len≠0:=hl0;obtain ⟨len',rfl⟩:∃ l,len=l+1:=⟨len - 1,by omega⟩
    simp only [Builtin.clear_,ht,List.getElem?_toArray,List.getElem?_cons_zero,Sem.run_bind,AP hu,uE,z1,hzc,s1,Sem.run_pure]
  ·exact Ok.fail
 ·exact Ok.fail
theorem V6 (hD:dK V P G D)(look:B5)(t:TypeId)(d x:EV):
  Ok V (Vw D P look t d x) fun u=>∀ K σ w md mx (ty:TypeId) (ts:Array TypeId),ts[0]? =some t->Rel K σ w->(∀ r o,look r=some o->σ[r]? =some o)->VR K w d md->VR K w x mx->
   ∃ mv w' K',(Builtin.copy_ ts ty #[md,mx]).run P w=.ok mv w'/\Ext K σ w K' (Al σ u.2) w'/\Rel K' (Al σ u.2) w'/\VR K' w' u.1 mv:=by
 unfold Vw;split
 ·exact Ok.fail
 rename_i hstr;split
 ·rename_i elem r esz off len cap hu;split
  ·rename_i pf esz' ex olen row hr;refine Ok.bind (Ok.lift (Φ:=fun n=>BP P elem=some n) fun n h=>h) fun n=>?_;refine Ok.bind (Ok.lift (Φ:=fun q=>rowsOf look x=some q) fun n h=>h) fun q=>?_;obtain ⟨xesz,m,xrow,xpf⟩:=q;dsimp only;refine Ok.ite (fun _=>Ok.fail) fun hne=>?_;have hn0:0<n:=by omega
   obtain rfl:esz=n:=by omega
   obtain rfl:esz'=esz:=by omega
   have he:m≠0->xesz=esz':=by omega
   have key:∀ cM,cM<=m->cM<=len->Nat.min m len=cM->rowsOf look x=some (xesz,m,xrow,xpf)->BP P elem=some esz'->∀ K σ w md mx (ty:TypeId) (ts:Array TypeId),ts[0]? =some t->Rel K σ w->(∀ r o,look r=some o->σ[r]? =some o)->VR K w (.ms r esz' off len cap) md->VR K w x mx->
     ∃ mv w' K',(Builtin.copy_ ts ty #[md,mx]).run P w=.ok mv w'/\Ext K σ w K' (Al σ [(r,.arr false (pf && xpf) esz' ex olen (Aw off cM row xrow))]) w'/\
      Rel K' (Al σ [(r,.arr false (pf && xpf) esz' ex olen (Aw off cM row xrow))]) w'/\VR K' w' (.int .i64 cM) mv:=by
    intro cM hcm hcl' hmin hrows hn K σ w md mx ty ts ht hR hlk hd hx;have hσ:=hlk r _ hr;obtain ⟨a,mcap,rfl,hal,hle,hlen,hcap,hnone,haddr⟩:=hd.aW;obtain ⟨_,hln,c,e,fz,hb,hfz,hext,hone,hcl,hexa,_,hrl,hvr,hpl⟩:=hR.obj r _ hσ;obtain ⟨x1,cx,x2,x3⟩:=V4 (P:=P) (HL hR hlk) hrows hx (fun s hs=>hstr s hs) hn0 he hcm;have hval:∀ {K:KM} {w:World},VR K w (.int .i64 cM) (goInt cM):=.pure _ _ (.int _ _);have run:∀ {w':World},(storeCells a cx.toList).run P w=.ok () w'->(Builtin.copy_ ts ty #[.slice (some a) len mcap,mx]).run P w=.ok (goInt cM) w':=by
     intro w' h;simp only [Builtin.copy_,ht,List.getElem?_toArray,List.getElem?_cons_zero,List.getElem?_cons_succ,Sem.run_bind,AP hu,uE,x1,Bm hn,hmin,x2,h,Sem.run_pure]
    by_cases h0:cM=0
    ·subst h0;have hmid:Aw off 0 row xrow=row:=by
      funext i; unfold Aw; split; rfl; rw [if_neg (by omega)]
     rw [hmid];have hcx:cx=#[]:=by
      have:=x3.size;simp at this; exact this
     subst hcx;have:=hR.write hσ rfl (Wr.refl hb) (obj':=.arr false (pf && xpf) esz' ex olen row) rfl fun σ' hE=>
      ⟨hal,hln,c,e,fz,hb,hfz,hext,hone,hcl,hexa,(fun h=>by cases h),hrl,fun i hi j hj hc=>(hvr i hi j hj hc).ext hE hR,fun hp i hi j hj hc=>(hpl (by simp only [uF] at hp; exact hp.1) i hi j hj hc).ext hE hR⟩
     exact ⟨_,w,K,run (by simp [storeCells]),this.1,this.2,hval⟩
    ·obtain rfl:=haddr (by omega);have hbnd:(off+cM)*esz'<=olen*esz':=Nat.mul_le_mul_right _ (by omega);rw [Nat.add_mul] at hbnd;obtain ⟨w',c',s1,s2,s3,s4⟩:=FL P cx.toList 0 w c hb (fun v hv=>by
      obtain ⟨i,hi,rfl⟩:=List.mem_iff_getElem.1 hv;exact x3.one i (by simpa using hi)) (o:=K.off r+off*esz') (by simp only [Array.length_toList,x3.size]; omega) hfz
     have g7:∀ j,c'[j]? =if K.off r+off*esz'<=j/\j<K.off r+off*esz'+cx.size then cx[j - (K.off r+off*esz')]? else c[j]? :=fun j=>by rw [s4]; simp
     have g5:∀ j (h:j<c'.size),(c'[j]).oneCell'=true:=fun j h=>by
      have:=g7 j;rw [Array.getElem?_eq_getElem h] at this;split at this
      ·rename_i hin;rw [Array.getElem?_eq_getElem (by omega)] at this;rw [uC this];exact x3.one _ _
      ·rw [Array.getElem?_eq_getElem (by omega)] at this;rw [uC this]; exact hone _ _
     have:=hR.write hσ rfl s2 (obj':=.arr false (pf && xpf) esz' ex olen (Aw off cM row xrow)) rfl fun σ' hE=>by
      have x3':=x3.ext hE hR;refine ⟨hal,hln,c',e,fz,s2.here,fun j hj=>hfz j (by omega),by omega,g5,by omega,fun h=>by rw [s3]; exact hexa h,(fun h=>by cases h),fun i hi=>?_,fun i hi j hj hc=>?_,fun hp i hi j hj hc=>?_⟩
      ·unfold Aw;split
       ·exact hrl i hi
       ·split
        ·exact x3.len _ (by omega)
        ·exact hrl i hi
      ·by_cases hin:off<=i/\i<off+cM
       ·have hu:Aw off cM row xrow i=xrow (i - off):=by simp only [Aw]; rw [if_neg (by omega),if_pos (by omega)]
        have hj':j<(xrow (i - off)).length:=by rw [hu] at hj; exact hj
        obtain ⟨hlt,heq⟩:=(EU s3 x3.size g7 (by rw [<-x3.len (i - off) (by omega)]; exact hj') hc).1 hin;simp only [hu,heq];exact x3'.val _ (by omega) j hj' hlt
       ·have hu:Aw off cM row xrow i=row i:=by simp only [Aw]; split; rfl; rw [if_neg (by omega)]
        have hj':j<(row i).length:=by rw [hu] at hj; exact hj
        obtain ⟨hlt,heq⟩:=(EU s3 x3.size g7 (by rw [<-hrl i hi]; exact hj') hc).2 hin;simp only [hu,heq];exact (hvr i hi j hj' hlt).ext hE hR
      ·simp only [uF] at hp;by_cases hin:off<=i/\i<off+cM
       ·have hu:Aw off cM row xrow i=xrow (i - off):=by simp only [Aw]; rw [if_neg (by omega),if_pos (by omega)]
        have hj':j<(xrow (i - off)).length:=by rw [hu] at hj; exact hj
        obtain ⟨hlt,heq⟩:=(EU s3 x3.size g7 (by rw [<-x3.len (i - off) (by omega)]; exact hj') hc).1 hin;simp only [hu,heq];exact x3'.plain hp.2 _ (by omega) j hj' hlt
       ·have hu:Aw off cM row xrow i=row i:=by simp only [Aw]; split; rfl; rw [if_neg (by omega)]
        have hj':j<(row i).length:=by rw [hu] at hj; exact hj
        obtain ⟨hlt,heq⟩:=(EU s3 x3.size g7 (by rw [<-hrl i hi]; exact hj') hc).2 hin;simp only [hu,heq];exact (hpl hp.1 i hi j hj' hlt).ext hE hR
     exact ⟨_,w',K,run s1,this.1,this.2,hval⟩
   refine Ok.bind (hD.br _) fun b=>Ok.ite (fun hb=>Ok.pure fun hbb hrows hn=>?_) fun hb=>Ok.pure fun hbb hrows hn=>?_
   ·have hml:m<=len:=by rw [hb] at hbb; simpa using hbb.symm
    exact key m (Nat.le_refl _) hml (Nat.min_eq_left hml) hrows hn
   ·have hml:¬ m<=len:=by
     intro h; apply hb; rw [hbb]; simpa using h
    exact key len (by omega) (Nat.le_refl _) (Nat.min_eq_right (by omega)) hrows hn
  ·exact Ok.fail
 ·exact Ok.fail
theorem KQ (hD:dK V P G D)(look:B5)(t:TypeId)(m k v:EV):
  Ok V (KU D P look t m k v) fun u=>∀ K σ w mm mk mv,Rel K σ w->(∀ r o,look r=some o->σ[r]? =some o)->VR K w m mm->VR K w k mk->VR K w v mv->
   ∃ w' K',(Instr.mapUpdate t mm mk mv).run P w=.ok () w'/\Ext K σ w K' (Al σ u) w'/\Rel K' (Al σ u) w':=by
 unfold KU;split
 ·rename_i kt et r hu;split
  ·rename_i pf es hr;refine Ok.ite (fun hkey=>?_) fun _=>Ok.fail;obtain ⟨hkey,hkp⟩:=uF _ _▸hkey;have common:∀ {q:Option (Nat×EV)},BM P kt k es 0 q->∀ {K:KM} {σ:AL} {w:World} {mm mk:Value},Rel K σ w->(∀ r o,look r=some o->σ[r]? =some o)->VR K w (.mm r) mm->VR K w k mk->
     ∃ (mes:Array MapEntry) (clock:Nat) (mr:Option (Nat×Value)),mm=.map (some (K.vP r))/\K.al r/\σ[r]? =some (.map false pf es)/\w.heap[K.vP r]? =some (.map mes clock)/\
      (Instr.findKey kt mk mes.toList).run P w=.ok mr w/\Found K w mes.toList 0 q mr/\es.length=mes.size/\
      (∀ i (h:i<es.length) (h':i<mes.size),VR K w es[i].1 mes[i].key/\VR K w es[i].2 mes[i].val)/\
      (∀ i (h:i<es.length) (h':i<mes.size),PR K.F w es[i].1 mes[i].key)/\
      (pf=true->∀ i (h:i<es.length) (h':i<mes.size),PR K.F w es[i].2 mes[i].val)/\
      clock=mes.size/\(∀ i (h:i<mes.size),(mes[i]).born=i):=by
    intro q hq K σ w mm mk hR hlk hm hk;obtain ⟨rfl,hal⟩:=hm.cS;have hσ:=hlk r _ hr;obtain ⟨_,mes,clock,hb,hl,_,hv,hkk,hp,hb1,hb2⟩:=hR.obj r _ hσ;obtain ⟨mr,f1,f2⟩:=Kz (P:=P) hkey hk hq (mes:=mes.toList) (K:=K) (w:=w) ⟨by simpa using hl,fun i h1 h2=>by simpa using hv i h1 (by simpa using h2)⟩;exact ⟨mes,clock,mr,rfl,hal,hσ,hb,f1,f2,hl,hv,hkk,hp,hb1,hb2⟩
   refine Ok.bind (NZ hD kt k es) fun q=>?_;split
   ·rename_i i v0
    ·refine Ok.bind (hD.bJ _) fun _=>Ok.pure ?_;intro hsame hq K σ w mm mk mv hR hlk hm hk hv0;obtain ⟨e0,he0,hsame⟩:=MX hsame;obtain ⟨mes,clock,mr,rfl,hal,hσ,hb,f1,f2,hl,hv,hkk,hp,hb1,hb2⟩:=common hq hR hlk hm hk
     match mr,f2 with
     | some (i',mv'),hfd=>
      obtain ⟨rfl,_,hval,_⟩:=hfd;obtain ⟨hie,rfl⟩:=List.getElem?_eq_some_iff.1 he0;have him:i<mes.size:=by omega
      have hbits:=Nd hsame (hkk i hie him) (hk.cN hkp);have hold:((mes[i]?).map (·.key)).getD mk=(mes[i]).key:=by simp [him]
      obtain ⟨w',s1,s2⟩:=KZ (P:=P) (es':=mes.modify i fun e=>{ e with key:=mk,val:=mv }) (cl':=clock) hb;have hmod:∀ j (h:j<(mes.modify i fun e=>{ e with key:=mk,val:=mv }).size),(mes.modify i fun e=>{ e with key:=mk,val:=mv })[j]=
        if i=j then { (mes[j]'(by simpa using h)) with key:=mk,val:=mv } else mes[j]'(by simpa using h):=by
       intro j h;rw [Array.getElem_modify]
      have:=hR.write hσ rfl s2 (obj':=.map false (pf && v.plain) (es.set i (k,v))) rfl fun σ' hE=>by
       refine ⟨hal,_,clock,s2.here,by simpa using hl,(fun h=>by cases h),fun j h1 h2=>?_,fun j h1 h2=>?_,fun hpp j h1 h2=>?_,by simp [hb1],fun j h=>?_⟩
       ·have h1':j<es.length:=by simpa using h1
        have h2':j<mes.size:=by simpa using h2
        rw [hmod j h2];by_cases hij:i=j
        ·subst hij;simp only [List.getElem_set_self,if_pos];exact ⟨hk.ext hE hR,hv0.ext hE hR⟩
        ·rw [List.getElem_set_ne hij,if_neg hij];exact ⟨(hv j h1' h2').1.ext hE hR,(hv j h1' h2').2.ext hE hR⟩
       ·have h1':j<es.length:=by simpa using h1
        have h2':j<mes.size:=by simpa using h2
        rw [hmod j h2];by_cases hij:i=j
        ·subst hij;simp only [List.getElem_set_self,if_pos];exact (hk.cN hkp).ext hE hR
        ·rw [List.getElem_set_ne hij,if_neg hij];exact (hkk j h1' h2').ext hE hR
       ·have h1':j<es.length:=by simpa using h1
        have h2':j<mes.size:=by simpa using h2
        simp only [uF] at hpp;rw [hmod j h2];by_cases hij:i=j
        ·subst hij;simp only [List.getElem_set_self,if_pos];exact (hv0.cN hpp.2).ext hE hR
        ·rw [List.getElem_set_ne hij,if_neg hij];exact (hp hpp.1 j h1' h2').ext hE hR
       ·have h':j<mes.size:=by simpa using h
        rw [hmod j h]; split<;>exact hb2 j h'
      refine ⟨w',K,?_,this.1,this.2⟩;simp only [Instr.mapUpdate,Sem.run_bind,AP hu,uE,D6 hb,run_checkKey (P:=P) (w:=w) _ 3 kt k mk hkey hk 10000 (by decide),f1,hold,Instr.keyThatStays,hbits,if_true,Sem.run_pure];exact s1
   ·refine Ok.pure ?_;intro hq K σ w mm mk mv hR hlk hm hk hv0;obtain ⟨mes,clock,mr,rfl,hal,hσ,hb,f1,f2,hl,hv,hkk,hp,hb1,hb2⟩:=common hq hR hlk hm hk
    match mr,f2 with
    | none,_=>
     obtain ⟨w',s1,s2⟩:=KZ (P:=P) (es':=mes.push { key:=mk,val:=mv,born:=clock }) (cl':=clock+1) hb;have:=hR.write hσ rfl s2 (obj':=.map false (pf && v.plain) (es++[(k,v)])) rfl fun σ' hE=>by
      refine ⟨hal,_,clock+1,s2.here,by simp [hl],(fun h=>by cases h),fun j h1 h2=>?_,fun j h1 h2=>?_,fun hpp j h1 h2=>?_,by simp [hb1],fun j h=>?_⟩
      ·simp only [List.getElem_append,Array.getElem_push];by_cases hj:j<es.length
       ·have hj':j<mes.size:=by omega
        simp only [hj,hj',dif_pos];exact ⟨(hv j hj hj').1.ext hE hR,(hv j hj hj').2.ext hE hR⟩
       ·have hj':¬ j<mes.size:=by omega
        simp only [hj,hj',dif_neg,not_false_eq_true,List.getElem_singleton];exact ⟨hk.ext hE hR,hv0.ext hE hR⟩
      ·simp only [List.getElem_append,Array.getElem_push];by_cases hj:j<es.length
       ·have hj':j<mes.size:=by omega
        simp only [hj,hj',dif_pos];exact (hkk j hj hj').ext hE hR
       ·have hj':¬ j<mes.size:=by omega
        simp only [hj,hj',dif_neg,not_false_eq_true,List.getElem_singleton];exact (hk.cN hkp).ext hE hR
      ·simp only [uF] at hpp;simp only [List.getElem_append,Array.getElem_push];by_cases hj:j<es.length
       ·have hj':j<mes.size:=by omega
        simp only [hj,hj',dif_pos];exact (hp hpp.1 j hj hj').ext hE hR
       ·have hj':¬ j<mes.size:=by omega
        simp only [hj,hj',dif_neg,not_false_eq_true,List.getElem_singleton];exact (hv0.cN hpp.2).ext hE hR
      ·simp only [Array.getElem_push];split
       ·exact hb2 j _
       ·simp only [Array.size_push] at h; simp only; omega
     refine ⟨w',K,?_,this.1,this.2⟩;simp only [Instr.mapUpdate,Sem.run_bind,AP hu,uE,D6 hb,run_checkKey (P:=P) (w:=w) _ 3 kt k mk hkey hk 10000 (by decide),f1];exact s1
  ·exact Ok.fail
 ·exact Ok.fail
theorem G4:∀ (es:List (EV×EV)) (i:Nat) (x:EV),(A7 es i x).length=es.length
 | [],_,_=>rfl
 | e :: es,0,x=>rfl
 | e :: es,n+1,x=>by simp [A7,G4 es n x]
theorem IM:∀ (es:List (EV×EV)) (i:Nat) (x:EV) (j:Nat) (h:j<es.length) (h':j<(A7 es i x).length),(A7 es i x)[j]=if i=j then (es[j].1,x) else es[j]
 | e :: es,0,x,0,_,_=>rfl
 | e :: es,0,x,j+1,_,_=>by simp [A7]
 | e :: es,n+1,x,0,_,_=>by simp [A7]
 | e :: es,n+1,x,j+1,h,h'=>by
  simp only [A7,List.getElem_cons_succ];rw [IM es n x j (by simpa using h)];simp
theorem QS {K:KM}{σ:AL}{w:World}(hR:Rel K σ w){r:Nat}{pf pf':Bool}{es es':List (EV×EV)}{mes mes':Array MapEntry}{clock clock':Nat}(hσ:σ[r]? =some (.map false pf es))
  (hal:K.al r) (hb:w.heap[K.vP r]? =some (.map mes clock)) (hl:es'.length=mes'.size) (hv:∀ i (h:i<es'.length) (h':i<mes'.size),VR K w es'[i].1 mes'[i].key/\VR K w es'[i].2 mes'[i].val)
  (hk:∀ i (h:i<es'.length) (h':i<mes'.size),PR K.F w es'[i].1 mes'[i].key) (hp:pf'=true->∀ i (h:i<es'.length) (h':i<mes'.size),PR K.F w es'[i].2 mes'[i].val)
  (hb1:clock'=mes'.size) (hb2:∀ i (h:i<mes'.size),(mes'[i]).born=i):
  ∃ w',(setObj (K.vP r) (.map mes' clock')).run P w=.ok () w'/\Ext K σ w K (Al σ [(r,.map false pf' es')]) w'/\Rel K (Al σ [(r,.map false pf' es')]) w':=by
 obtain ⟨w',s1,s2⟩:=KZ (P:=P) (es':=mes') (cl':=clock') hb;have:=hR.write hσ rfl s2 (obj':=.map false pf' es') rfl fun σ' hE=>
  ⟨hal,mes',clock',s2.here,hl,(fun h=>by cases h),fun i h h'=>⟨(hv i h h').1.ext hE hR,(hv i h h').2.ext hE hR⟩,fun i h h'=>(hk i h h').ext hE hR,fun hpp i h h'=>(hp hpp i h h').ext hE hR,hb1,hb2⟩
 exact ⟨w',s1,this.1,this.2⟩
theorem QT (hD:dK V P G D)(look:B5)(t:TypeId)(m k:EV):
  Ok V (Lc D P look t m k) fun u=>∀ K σ w mm mk,Rel K σ w->(∀ r o,look r=some o->σ[r]? =some o)->VR K w m mm->VR K w k mk->
   ∃ mv w' K',(Instr.mapEntry t mm mk).run P w=.ok mv w'/\Ext K σ w K' (Al σ u.2) w'/\Rel K' (Al σ u.2) w'/\VR K' w' u.1 mv:=by
 unfold Lc;split
 ·rename_i kt et r hu;split
  ·rename_i pf es hr;refine Ok.ite (fun hkey=>?_) fun _=>Ok.fail;obtain ⟨hkey,hkp⟩:=uF _ _▸hkey;have common:∀ {q:Option (Nat×EV)},BM P kt k es 0 q->∀ {K:KM} {σ:AL} {w:World} {mm mk:Value},Rel K σ w->(∀ r o,look r=some o->σ[r]? =some o)->VR K w (.mm r) mm->VR K w k mk->
     ∃ (mes:Array MapEntry) (clock:Nat) (mr:Option (Nat×Value)),mm=.map (some (K.vP r))/\K.al r/\σ[r]? =some (.map false pf es)/\w.heap[K.vP r]? =some (.map mes clock)/\
      (Instr.findKey kt mk mes.toList).run P w=.ok mr w/\Found K w mes.toList 0 q mr/\es.length=mes.size/\
      (∀ i (h:i<es.length) (h':i<mes.size),VR K w es[i].1 mes[i].key/\VR K w es[i].2 mes[i].val)/\
      (∀ i (h:i<es.length) (h':i<mes.size),PR K.F w es[i].1 mes[i].key)/\
      (pf=true->∀ i (h:i<es.length) (h':i<mes.size),PR K.F w es[i].2 mes[i].val)/\
      clock=mes.size/\(∀ i (h:i<mes.size),(mes[i]).born=i):=by
    intro q hq K σ w mm mk hR hlk hm hk;obtain ⟨rfl,hal⟩:=hm.cS;have hσ:=hlk r _ hr;obtain ⟨_,mes,clock,hb,hl,_,hv,hkk,hp,hb1,hb2⟩:=hR.obj r _ hσ;obtain ⟨mr,f1,f2⟩:=Kz (P:=P) hkey hk hq (mes:=mes.toList) (K:=K) (w:=w) ⟨by simpa using hl,fun i h1 h2=>by simpa using hv i h1 (by simpa using h2)⟩;exact ⟨mes,clock,mr,rfl,hal,hσ,hb,f1,f2,hl,hv,hkk,hp,hb1,hb2⟩
   refine Ok.bind (NZ hD kt k es) fun q=>?_;split
   ·rename_i i v0;refine Ok.bind (hD.bJ _) fun _=>Ok.pure ?_;intro hsame hq K σ w mm mk hR hlk hm hk;obtain ⟨e0,he0,hsame⟩:=MX hsame;obtain ⟨mes,clock,mr,rfl,hal,hσ,hb,f1,f2,hl,hv,hkk,hp,hb1,hb2⟩:=common hq hR hlk hm hk
    match mr,f2 with
    | some (i',mv'),hfd=>
     obtain ⟨rfl,_,hval,hvv⟩:=hfd;obtain ⟨hie,rfl⟩:=List.getElem?_eq_some_iff.1 he0;have him:i<mes.size:=by omega
     have hval':mv'=(mes[i]).val:=by
      simp only [Nat.sub_zero,Array.getElem?_toList] at hval;rw [Array.getElem?_eq_getElem him] at hval;simpa using hval.symm
     have hbits:=Nd hsame (hkk i hie him) (hk.cN hkp);have hold:((mes[i]?).map (·.key)).getD mk=(mes[i]).key:=by simp [him]
     have hborn:((mes[i]?).map (fun x=>(x.born:Int))).getD 0=(i:Int):=by simp [him,hb2 i him]
     have hmod:∀ j (h:j<(mes.modify i fun e=>{ e with key:=mk }).size),(mes.modify i fun e=>{ e with key:=mk })[j]=
       if i=j then { (mes[j]'(by simpa using h)) with key:=mk } else mes[j]'(by simpa using h):=by
      intro j h;rw [Array.getElem_modify]
     obtain ⟨w',s1,s2,s3⟩:=QS (P:=P) hR (pf':=pf && v0.plain) (es':=es.set i (k,v0)) (mes':=mes.modify i fun e=>{ e with key:=mk }) (clock':=clock) hσ hal hb (by simpa using hl) (fun j h1 h2=>by
       have h1':j<es.length:=by simpa using h1
       have h2':j<mes.size:=by simpa using h2
       rw [hmod j h2];by_cases hij:i=j
       ·subst hij;simp only [List.getElem_set_self,if_pos];exact ⟨hk,by rw [<-hval']; exact hvv⟩
       ·rw [List.getElem_set_ne hij,if_neg hij];exact hv j h1' h2') (fun j h1 h2=>by
       have h1':j<es.length:=by simpa using h1
       have h2':j<mes.size:=by simpa using h2
       rw [hmod j h2];by_cases hij:i=j
       ·subst hij;simp only [List.getElem_set_self,if_pos];exact hk.cN hkp
       ·rw [List.getElem_set_ne hij,if_neg hij];exact hkk j h1' h2') (fun hpp j h1 h2=>by
       have h1':j<es.length:=by simpa using h1
       have h2':j<mes.size:=by simpa using h2
       simp only [uF] at hpp;rw [hmod j h2];by_cases hij:i=j
       ·subst hij;simp only [List.getElem_set_self,if_pos];rw [<-hval'];exact hvv.cN hpp.2
       ·rw [List.getElem_set_ne hij,if_neg hij];exact hp hpp.1 j h1' h2') (by simp [hb1]) (fun j h=>by
       have h':j<mes.size:=by simpa using h
       rw [hmod j h]; split<;>exact hb2 j h')
     refine ⟨.tuple #[mv',.int .i64 i],w',K,?_,s2,s3,?_⟩
     ·simp only [Instr.mapEntry,Sem.run_bind,AP hu,uE,D6 hb,run_checkKey (P:=P) (w:=w) _ 3 kt k mk hkey hk 10000 (by decide),f1,hold,Instr.keyThatStays,hbits,if_true,Sem.run_pure,hborn,s1];rfl
     ·refine .tuple _ _ rfl fun j h1 h2=>?_
      match j,h1,h2 with
      | 0,_,_=>exact hvv.ext s2 hR
      | 1,_,_=>exact .pure _ _ (.int _ _)
   ·refine Ok.bind (Ok.lift (Φ:=fun z=>zeroV P et=some z) fun n h=>h) fun z=>Ok.pure ?_;intro hz hq K σ w mm mk hR hlk hm hk;obtain ⟨mes,clock,mr,rfl,hal,hσ,hb,f1,f2,hl,hv,hkk,hp,hb1,hb2⟩:=common hq hR hlk hm hk;obtain ⟨zv,z1,z2⟩:=IL hz K w
    match mr,f2 with
    | none,_=>
     obtain ⟨w',s1,s2,s3⟩:=QS (P:=P) hR (pf':=pf && z.plain) (es':=es++[(k,z)]) (mes':=mes.push { key:=mk,val:=zv,born:=clock }) (clock':=clock+1) hσ hal hb (by simp [hl]) (fun j h1 h2=>by
       simp only [List.getElem_append,Array.getElem_push];by_cases hj:j<es.length
       ·have hj':j<mes.size:=by omega
        simp only [hj,hj',dif_pos];exact hv j hj hj'
       ·have hj':¬ j<mes.size:=by omega
        simp only [hj,hj',dif_neg,not_false_eq_true,List.getElem_singleton];exact ⟨hk,z2⟩) (fun j h1 h2=>by
       simp only [List.getElem_append,Array.getElem_push];by_cases hj:j<es.length
       ·have hj':j<mes.size:=by omega
        simp only [hj,hj',dif_pos];exact hkk j hj hj'
       ·have hj':¬ j<mes.size:=by omega
        simp only [hj,hj',dif_neg,not_false_eq_true,List.getElem_singleton];exact hk.cN hkp) (fun hpp j h1 h2=>by
       simp only [uF] at hpp;simp only [List.getElem_append,Array.getElem_push];by_cases hj:j<es.length
       ·have hj':j<mes.size:=by omega
        simp only [hj,hj',dif_pos];exact hp hpp.1 j hj hj'
       ·have hj':¬ j<mes.size:=by omega
        simp only [hj,hj',dif_neg,not_false_eq_true,List.getElem_singleton];exact z2.cN hpp.2) (by simp [hb1]) (fun j h=>by
       simp only [Array.getElem_push];split
       ·exact hb2 j _
       ·simp only [Array.size_push] at h; simp only; omega)
     refine ⟨.tuple #[zv,.int .i64 es.length],w',K,?_,s2,s3,?_⟩
     ·have hc:(clock:Int)=es.length:=by rw [hb1,hl]
      simp only [Instr.mapEntry,Sem.run_bind,AP hu,uE,D6 hb,run_checkKey (P:=P) (w:=w) _ 3 kt k mk hkey hk 10000 (by decide),f1,z1,s1,Sem.run_pure];rw [<-hc];rfl
     ·refine .tuple _ _ rfl fun j h1 h2=>?_
      match j,h1,h2 with
      | 0,_,_=>exact z2.ext s2 hR
      | 1,_,_=>exact .pure _ _ (.int _ _)
  ·exact Ok.fail
 ·exact Ok.fail
theorem Nf (hD:dK V P G D)(look:B5)(t:TypeId)(m s x:EV):
  Ok V (Im D look m s x) fun u=>∀ K σ w mm ms mx,Rel K σ w->(∀ r o,look r=some o->σ[r]? =some o)->VR K w m mm->VR K w s ms->VR K w x mx->
   ∃ w' K',(Instr.entryStore t mm ms mx).run P w=.ok () w'/\Ext K σ w K' (Al σ u) w'/\Rel K' (Al σ u) w':=by
 unfold Im;split
 ·rename_i r ki i;split
  ·rename_i pf es hr;refine Ok.bind (hD.bJ _) fun _=>Ok.pure ?_;intro hchk K σ w mm ms mx hR hlk hm hs hx;obtain ⟨rfl,hal⟩:=hm.cS;obtain rfl:=hs.uW;have hσ:=hlk r _ hr;obtain ⟨_,mes,clock,hb,hl,_,hv,hkk,hp,hb1,hb2⟩:=hR.obj r _ hσ;simp only [dG,uF,decide_eq_true_eq] at hchk;obtain ⟨n,rfl⟩:∃ n:Nat,i=n:=⟨i.toNat,by omega⟩
   rw [uG];have hn:n<mes.size:=by omega
   have hfind:mes.findIdx? (fun e=>(e.born:Int)==(n:Int))=some n:=by
    rw [Array.findIdx?_eq_some_iff_getElem];refine ⟨hn,by simp [hb2 n hn],fun j hj=>?_⟩;simp only [hb2 j (by omega)];simp; omega
   have hmod:∀ j (h:j<(mes.modify n fun e=>{ e with val:=mx }).size),(mes.modify n fun e=>{ e with val:=mx })[j]=
     if n=j then { (mes[j]'(by simpa using h)) with val:=mx } else mes[j]'(by simpa using h):=by
    intro j h;rw [Array.getElem_modify]
   obtain ⟨w',s1,s2,s3⟩:=QS (P:=P) hR (pf':=pf && x.plain) (es':=A7 es n x) (mes':=mes.modify n fun e=>{ e with val:=mx }) (clock':=clock) hσ hal hb (by simpa [G4] using hl) (fun j h1 h2=>by
     have h1':j<es.length:=by simpa [G4] using h1
     have h2':j<mes.size:=by simpa using h2
     rw [hmod j h2,IM es n x j h1' h1];by_cases hij:n=j
     ·simp only [hij,if_pos];exact ⟨(hv j h1' h2').1,hx⟩
     ·rw [if_neg hij,if_neg hij];exact hv j h1' h2') (fun j h1 h2=>by
     have h1':j<es.length:=by simpa [G4] using h1
     have h2':j<mes.size:=by simpa using h2
     rw [hmod j h2,IM es n x j h1' h1];by_cases hij:n=j
     ·simp only [hij,if_pos];exact hkk j h1' h2'
     ·rw [if_neg hij,if_neg hij];exact hkk j h1' h2') (fun hpp j h1 h2=>by
     have h1':j<es.length:=by simpa [G4] using h1
     have h2':j<mes.size:=by simpa using h2
     simp only [uF] at hpp;rw [hmod j h2,IM es n x j h1' h1];by_cases hij:n=j
     ·simp only [hij,if_pos];exact hx.cN hpp.2
     ·rw [if_neg hij,if_neg hij];exact hp hpp.1 j h1' h2') (by simp [hb1]) (fun j h=>by
     have h':j<mes.size:=by simpa using h
     rw [hmod j h]; split<;>exact hb2 j h')
   refine ⟨w',K,?_,s2,s3⟩;simp only [Instr.entryStore,Sem.run_bind,D6 hb,uE,asInt,asIntOf,Sem.run_map,Sem.run_pure,hfind];exact s1
  ·exact Ok.fail
 ·exact Ok.fail
theorem SE (nm:Nat)(t:TypeId){K:KM}{σ:AL}{w:World}(hR:Rel K σ w)(hfree:σ[nm]? =some .free):
  ∃ mv w' K',(Instr.makeMap t none).run P w=.ok mv w'/\Ext K σ w K' (Al σ [(nm,.map false true [])]) w'/\Rel K' (Al σ [(nm,.map false true [])]) w'/\VR K' w' (.mm nm) mv:=by
 have hN:=New.push w (.map #[] 0);have:=hR.new hfree hN (obj:=.map false true []) rfl (off:=0) (e:=0) (l:=0) fun σ' hE=>by
  refine ⟨.inl rfl,#[],0,by simp only [KM.new,if_pos]; exact hN.here,rfl,(fun h=>by cases h),fun i h=>by simp at h,fun i h=>by simp at h,fun _ i h=>by simp at h,rfl,fun i h=>by simp at h⟩
 refine ⟨.map (some w.heap.size),_,_,by simp [Instr.makeMap],this.1,this.2,?_⟩;have:=VR.mm (K:=K.new nm w.heap.size 0 0 0) (w:={ w with heap:=w.heap.push (.map #[] 0) }) nm (.inl rfl);simpa [KM.new] using this
theorem Ng (f:Value->ByteArray->Sem (ForInStep ByteArray))(hf:∀ n s,f (.int .u8 n) s=pure (ForInStep.yield (s.push (UInt8.ofNat n.toNat)))):
  ∀ (cs:List Value) (bs:List UInt8) (s0:ByteArray) (w:World),cs.length=bs.length->(∀ i (h:i<cs.length) (h':i<bs.length),∃ n:Int,cs[i]=.int .u8 n/\bs[i]=UInt8.ofNat n.toNat)->
  (forIn (m:=Sem) cs s0 f).run P w=.ok ⟨⟨s0.data.toList++bs⟩⟩ w:=by
 intro cs;induction cs with
 | nil=>intro bs s0 w hl _; cases bs<;>simp at hl; simp
 | cons c cs ih=>
  intro bs s0 w hl h;cases bs with
  | nil=>simp at hl
  | cons b bs=>
   obtain ⟨n,h1,h2⟩:=h 0 (by simp) (by simp);simp only [List.getElem_cons_zero] at h1 h2;subst h1; subst h2;rw [List.forIn_cons,hf];simp only [Sem.run_bind,Sem.run_pure,uE];rw [ih bs _ w (by simpa using hl) fun i a b=>h (i+1) (by simpa using a) (by simpa using b)];simp
theorem K4 {K:KM}{w:World}{x:EV}{mx:Value}{look:B5}{esz m:Nat}{row:Nat->List EV}{pf:Bool}(hL:FO look K w)(h:rowsOf look x=some (esz,m,row,pf))(hns:∀ s,x≠.str s)
  (hx:VR K w x mx) (he:m≠0->esz=1) (hb:((List.range m).all fun i=>match row i with | [.int .u8 _]=>true | _=>false)=true):
  (Conv.bytesToString mx).run P w=.ok (.string ⟨((List.range m).map fun i=>match row i with | [.int .u8 n]=>UInt8.ofNat n.toNat | _=>0).toArray⟩) w:=by
 obtain ⟨l1,cs,l2,l3⟩:=Iu (P:=P) hL h hx (by decide:0<1) he;have main:∀ (f:Value->ByteArray->Sem (ForInStep ByteArray)),(∀ n s,f (.int .u8 n) s=pure (ForInStep.yield (s.push (UInt8.ofNat n.toNat))))->
   (forIn (m:=Sem) cs.toList ByteArray.empty f).run P w=.ok ⟨⟨((List.range m).map fun i=>match row i with | [.int .u8 n]=>UInt8.ofNat n.toNat | _=>0)⟩⟩ w:=by
  intro f hf;rw [Ng f hf cs.toList ((List.range m).map fun i=>match row i with | [.int .u8 n]=>UInt8.ofNat n.toNat | _=>0) ByteArray.empty w]
  ·simp
  ·simp [l3.size]
  ·intro i h1 h2;have him:i<m:=by simpa using h2
   have hbi:=List.all_eq_true.1 hb i (by simpa using him);simp only [List.getElem_map,List.getElem_range,Array.getElem_toList];split at hbi
   ·rename_i n hrow;have hv:=l3.val i him 0 (by rw [hrow]; simp) (by rw [l3.size]; omega);simp only [hrow,List.getElem_cons_zero] at hv;have:=hv.uW;simp only [Nat.mul_one,Nat.add_zero] at this;exact ⟨n,this,rfl⟩
   ·cases hbi
 unfold rowsOf at h;split at h
 ·simp only [uB,Prod.mk.injEq] at h;obtain ⟨rfl,rfl,rfl,rfl⟩:=h;rcases hx.aV with ⟨rfl,rfl,rfl⟩ | ⟨rfl,b,o,cap,sp,mv,rfl,_⟩
  ·simp [Conv.bytesToString]; rfl
  ·simp only [Builtin.firstCells,Nat.mul_one] at l2;simp only [Conv.bytesToString,Sem.run_bind,l2,uE];rw [<-Array.forIn_toList,main _ (fun n s=>rfl)];rfl
 ·split at h
  ·split at h
   ·simp only [uB,Prod.mk.injEq] at h;obtain ⟨rfl,rfl,rfl,rfl⟩:=h;obtain ⟨a,mcap,rfl,_⟩:=hx.aW;simp only [Builtin.firstCells,Nat.mul_one] at l2;simp only [Conv.bytesToString,Sem.run_bind,l2,uE];rw [<-Array.forIn_toList,main _ (fun n s=>rfl)];rfl
   ·simp at h
  ·simp at h
 ·exact absurd rfl (hns _)
 ·simp at h
theorem SF (w:World)(c:Array Value)(e:TypeId):
  New w ((({ w with heap:=w.heap.push (.cells c e) }:World)).freeze ⟨w.heap.size,c.size,none⟩ 1) (.cells c e (c.size,c.size+1)):=by
 refine ⟨by simp [World.freeze],fun b' h=>?_,?_,rfl,rfl,rfl⟩
 ·simp only [World.freeze,Nat.one_ne_zero,if_false,Array.getElem?_modify,Array.getElem?_push];rw [if_neg (by omega),if_neg (by omega)]
 ·simp only [World.freeze,Nat.one_ne_zero,if_false];rw [Array.getElem?_modify,if_pos rfl,Array.getElem?_push,if_pos rfl];simp
theorem Q8 (hD:dK V P G D)(look:B5)(nm:Nat)(src dst:TypeId)(x:EV):
  Ok V (NS D P look nm src dst x) fun r=>∀ K σ w mx,Rel K σ w->(∀ r o,look r=some o->σ[r]? =some o)->(σ[nm]? =some .free)->VR K w x mx->
   ∃ mv w' K',(convert src dst mx).run P w=.ok mv w'/\Ext K σ w K' (Al σ r.2) w'/\Rel K' (Al σ r.2) w'/\VR K' w' r.1 mv:=by
 obtain ⟨x1,hx1⟩:∃ x1,x1=x:=⟨x,rfl⟩
 unfold NS;split
 ·rename_i k ds n hs hd;refine Ok.bind (G3 hD k n) fun v=>Ok.pure ?_;intro hv K σ w mx hR hlk hfree hx;obtain rfl:=hx.uW;subst hv;refine ⟨.int k (k.wrap n),w,K,?_,Ext.refl _ _ _,hR,.pure _ _ (.int _ _)⟩;simp only [convert,Sem.run_bind,AP hs,AP hd,uE];cases ds<;>simp [Conv.intToInt]
 ·rename_i ds s hs hd;refine Ok.pure ?_;intro K σ w mx hR hlk hfree hx;obtain rfl:=hx.bD;refine ⟨.string s,w,K,?_,Ext.refl _ _ _,hR,.pure _ _ (.str _)⟩;simp only [convert,Sem.run_bind,AP hs,AP hd,uE];cases ds<;>simp
 ·rename_i e s hs hd;split
  ·rename_i he;refine Ok.bind (Ok.lift (Φ:=fun n=>BP P e=some n) fun n h=>h) fun n=>?_;refine Ok.ite (fun hn1=>Ok.pure ?_) fun _=>Ok.fail;subst hn1;intro hn K σ w mx hR hlk hfree hx;obtain rfl:=hx.bD;obtain ⟨eD,rD⟩:=hR.drawn (w.drawn+1)
   let cap:=s.size+w.tape w.drawn (.appendCap s.size 0 e) % (2 ^ 63 - s.size)
   have hcap:s.size<=cap:=by simp only [cap]; omega
   let c:Array Value:=(s.data.map fun b=>Value.int .u8 b.toNat)++Array.replicate (cap - s.size) (.int .u8 0)
   have hsd:s.data.size=s.size:=rfl;have hcs:c.size=cap:=by simp only [c,Array.size_append,Array.size_map,Array.size_replicate,hsd]; omega
   have hN:=SF ({ w with drawn:=w.drawn+1 }:World) c e;have hci:∀ i (h:i<s.size) (h':i<c.size),c[i]=.int .u8 (s.data.getD i 0).toNat:=by
    intro i h h';simp only [c,Array.getElem_append];rw [dif_pos (by simpa [hsd] using h)];simp [Array.getD,hsd,h]
   obtain ⟨e1,r1⟩:=K3 rD hfree hN (by intro j hj; simp; omega) (esz:=1) (len:=s.size) (row:=fun i=>[.int .u8 (s.data.getD i 0).toNat]) (exact:=false) (pf:=true)
    (fun j h=>by
     simp only [c,Array.getElem_append];split<;>simp [Value.oneCell'])
    (by omega) (fun h=>by cases h)
    (fun i hi=>⟨rfl,fun j hj hc=>by
     have hj0:j=0:=by simp at hj; exact hj
     subst hj0;simp only [List.getElem_cons_zero,uJ,Nat.mul_one,Nat.add_zero] at hc ⊢;rw [hci i hi hc]; exact .pure _ _ (.int _ _)⟩)
    (fun _ i hi j hj hc=>by
     have hj0:j=0:=by simp at hj; exact hj
     subst hj0;simp only [List.getElem_cons_zero,uJ,Nat.mul_one,Nat.add_zero] at hc ⊢;rw [hci i hi hc]; exact .int _ _)
   refine ⟨.slice (some ⟨w.heap.size,0,none⟩) s.size cap,_,_,?_,eD.trans e1,r1,?_⟩
   ·simp only [convert,Sem.run_bind,AP hs,AP hd,uE,AP he,Conv.stringToBytes,run_choose,Question.forced,Bool.false_eq_true,if_false,Question.cut];simp only [newRow,Sem.run_bind,run_newObj,uE,Sem.run_pure,markStringish,run_shape];have hsh:(({ heap:=w.heap.push (Obj.cells c e),tape:=w.tape,drawn:=w.drawn+1,os:=w.os,output:=w.output }:World)).shape? w.heap.size=some (e,c.size):=by simp [World.shape?]
    have hc0:(s.data.map fun b=>Value.int .u8 b.toNat)++Array.replicate (s.size+w.tape w.drawn (Question.appendCap s.size 0 e) % (2 ^ 63 - s.size) - s.size) (.int .u8 0)=c:=rfl;rw [hc0,hsh];simp only [run_freeze,uE];rfl
   ·exact .ms nm 1 0 s.size none cap _ (.inl rfl) hcap (by simp [KM.new]) (fun c h=>by cases h) (fun _=>by simp only [KM.new,if_pos,hcs]; omega) fun _=>by simp [KM.new]
  ·exact Ok.fail
 ·rename_i e hs hd hno';split
  ·rename_i he;subst hx1;refine Ok.bind (Ok.lift (Φ:=fun q=>rowsOf look x1=some q) fun n h=>h) fun q=>?_;obtain ⟨esz,m,row,pf⟩:=q;dsimp only;refine Ok.ite (fun _=>Ok.fail) fun hes=>?_;refine Ok.bind (hD.bJ _) fun _=>Ok.pure ?_;intro hb hq K σ w mx hR hlk hfree hx;have hno:∀ s,x1≠.str s:=fun s h=>hno' s h;have he1:m≠0->esz=1:=by
    intro h;by_cases h':esz=1
    ·exact h'
    ·exact absurd ⟨h',h⟩ hes
   have:=K4 (P:=P) (HL hR hlk) hq hno hx he1 hb;refine ⟨_,w,K,?_,Ext.refl _ _ _,hR,.pure _ _ (.str _)⟩;simp only [convert,Sem.run_bind,AP hs,AP hd,uE];cases mx<;>first
    | (simp only [Conv.bytesToString,run_stuck] at this; cases this; done)
    | (simp only [Sem.run_bind,AP he,uE]; exact this)
  ·exact Ok.fail
 ·rename_i e0 e r esz off len cap hs hd;split
  ·rename_i he;refine Ok.ite (fun hsd=>?_) fun _=>Ok.fail;split
   ·rename_i pf esz' olen row hlook;refine Ok.pure ?_;intro K σ w mx hR hlk hfree hx;simp only [uF,beq_iff_eq] at hsd;obtain ⟨hsd1,hlen1⟩:=hsd;have hpos:1<=len:=Nat.le_of_ble_eq_true hlen1;have hx0:=hx;obtain ⟨a,mcap,rfl,hal,hle,hlen,hcap,hnone,haddr⟩:=hx.aW;obtain rfl:=haddr (by omega);have hσ:=hlk r _ hlook;obtain ⟨_,hln,c,ec,fz,hb,hfz,hext,hone,hle',hexa,_,hrl,hvr,hpl⟩:=hR.obj r _ hσ;have hfe:=(hexa rfl).2;have hW:Wr w (w.freeze ⟨K.vP r,c.size,none⟩ 1) (K.vP r) (.cells c ec (c.size,c.size+1)):=by
     refine ⟨by simp [World.freeze],fun b' h=>?_,?_,rfl,rfl,rfl⟩
     ·simp only [World.freeze,Nat.one_ne_zero,if_false,Array.getElem?_modify];rw [if_neg (by omega)]
     ·simp only [World.freeze,Nat.one_ne_zero,if_false];rw [Array.getElem?_modify,if_pos rfl,hb];obtain ⟨f1,f2⟩:=fz;simp only at hfe;subst hfe;simp
    have:=hR.write hσ rfl hW (obj':=.arr false pf esz' false olen row) rfl fun σ' hE=>by
     refine ⟨hal,hln,c,ec,(c.size,c.size+1),hW.here,fun j hj=>by simp; omega,hext,hone,hle',(fun h=>by cases h),(fun h=>by cases h),hrl,fun i hi j hj hc=>(hvr i hi j hj hc).ext hE hR,fun hp i hi j hj hc=>(hpl hp i hi j hj hc).ext hE hR⟩
    refine ⟨_,_,K,?_,this.1,this.2,hx0.ext this.1 hR⟩;have hsh:w.shape? (K.vP r)=some (ec,c.size):=by simp [World.shape?,hb]
    subst hsd1;obtain rfl:e0=e:=by have:=V1 hs hd; injection this
    simp only [convert,Sem.run_bind,AP hs,AP hd,uE,AP he,beq_self_eq_true,markStringish,run_shape,hsh,run_freeze,Sem.run_pure]
   ·exact Ok.fail
  ·exact Ok.fail
 ·exact Ok.fail
end
end Go.Ev
namespace Go.Ev
section
variable {P:Program}{S:Type}{V:S->Prop}{G:Nat->Option (List EV)}{D:Drv S}
theorem GK {K:KM}{w:World}{tmps:List EV}{a:Act}(hG:dY G K.F w)(ht:aU K w tmps a.tmps)(x:Operand):VR K w (FJ G tmps x) (a.eval x):=by
 cases x with
 | tmp t=>
  simp only [FJ,GI,Act.eval];by_cases h:t<tmps.length
  ·have h':t<a.tmps.size:=by rw [<-ht.1]; exact h
   have:=ht.2 t h h';simpa [uA,h,h'] using this
  ·have:tmps.getD t .undef=.undef:=by simp [uA,h]
   rw [this];exact .pure _ _ (.undef _)
 | const v=>
  simp only [FJ,GI,Act.eval];split
  ·exact NY K w v ‹_›
  ·exact .pure _ _ (.undef _)
 | global g=>
  simp only [FJ,GI,Act.eval];split
  ·rename_i c hc;obtain ⟨hF,hne,mv,hm⟩:=hG g c hc;have hl:0<c.length:=by cases c<;>simp at hne ⊢
   have:=PR.ip (F:=K.F) (w:=w) c 0 g 0 mv hF hl (fun j hj=>by rw [uJ]; exact ⟨(hm j hj).1,(hm j hj).2.1⟩) fun j hj=>(hm j hj).2.2;exact .pure _ _ this
  ·exact .pure _ _ (.undef _)
 | func f=>exact .func (.func f) [] [] #[] #[] rfl rfl (fun i h=>by simp at h) fun i h=>by simp at h
def QU (K:KM)(w:World)(ev:Operand->EV)(a:Act):Prop:=∀ x,VR K w (ev x) (a.eval x)
theorem aU.cV {K:KM}{w:World}{ev:Operand->EV}{a:Act}(ht:QU K w ev a)(xs:Array Operand):aU K w (xs.toList.map ev) (xs.map a.eval):=
 ⟨by simp,fun i h1 h2=>by simpa using ht _⟩
theorem Nh {K:KM}{w:World}{ev:Operand->EV}{a:Act}(ht:QU K w ev a)(parts:Array (Nat×Operand)):
  (parts.toList.map fun (x:Nat×Operand)=>(x.1,ev x.2)).length=(parts.map fun (x:Nat×Operand)=>(x.1,a.eval x.2)).size/\
  ∀ i (h:i<(parts.toList.map fun (x:Nat×Operand)=>(x.1,ev x.2)).length) (h':i<(parts.map fun (x:Nat×Operand)=>(x.1,a.eval x.2)).size),
   ((parts.toList.map fun (x:Nat×Operand)=>(x.1,ev x.2))[i]).1=((parts.map fun (x:Nat×Operand)=>(x.1,a.eval x.2))[i]).1/\
   VR K w ((parts.toList.map fun (x:Nat×Operand)=>(x.1,ev x.2))[i]).2 ((parts.map fun (x:Nat×Operand)=>(x.1,a.eval x.2))[i]).2:=
 ⟨by simp,fun i h1 h2=>by simpa using ht _⟩
theorem Ni {K:KM}{w:World}{ev:Operand->EV}{a:Act}(ht:QU K w ev a)(x:Option Operand):VRo K w (x.map ev) (x.map a.eval):=by
 cases x with
 | none=>trivial
 | some x=>exact ht x
inductive RunGives (P:Program) (a:Act) (o:Oper) (w:World) (v:Value->World->Prop):Prop where
 | value (mv:Value) (w':World) (h:(execOp a.eval o).run P w=.ok (.value mv) w') (hv:v mv w')
 | skip (w':World) (h:(execOp a.eval o).run P w=.ok .skip w') (hv:v undef w')
 | enter (f:FuncId) (args:Array Value) (h:(execOp a.eval o).run P w=.ok (.enter f args) w)
   (hc:Calls P f args w fun e w'=>match e with | .returned mv=>v mv w' | .outgrown=>False | .panicked _=>False)
 | round (l:Nat) (f:FuncId) (tmps:Array Value) (assign body:Code) (h:(execOp a.eval o).run P w=.ok (.round l f tmps assign body) w)
   (hc:∀ ro,RoundIn (eE ro) 0 P l f tmps assign body w fun e w'=>match e with | .returned mv=>v mv w' | .outgrown=>False | .panicked _=>False)
theorem Ot {ro:Option Nat}{n:Nat}{f:FuncId}{args:Array Value}{w:World}{R:Ending->World->Prop}(h:Calls P f args w R):CallsIn (eE ro) n P f args w R:=
 ⟨trivial,fun cs _=>let ⟨e,w',fr,r,s,x⟩:=h cs; ⟨e,w',fr,r,by rw [R9]; exact comesIn_wide.2 s,x⟩⟩
theorem RunGives.wp {a:Act}{o:Oper}{w:World}{v:Value->World->Prop}(h:RunGives P a o w v)(hnd:Ku o.op=false){ro:Option Nat}{next:Act->World->Prop}{Q:Exit->Act->World->Prop}
  (hn:∀ mv w',v mv w'->next (a.put o.dst mv) w'):o.wpIn (eE ro) 0 P a w next Q:=by
 unfold Oper.wpIn;refine ⟨fun _ _=>trivial,?_⟩;rw [Oper.semAt_eq _ _ _ (fun c hc=>by rw [hc] at hnd; simp [Ku] at hnd)];cases h with
 | value mv w' h hv=>rw [h]; exact hn _ _ hv
 | skip w' h hv=>rw [h]; exact hn _ _ hv
 | enter f args h hc=>
  rw [h];refine ⟨fun h=>by simp [eE] at h,Ot (hc.mono fun e w' he=>?_)⟩;cases e with
  | returned mv=>exact hn _ _ he
  | panicked _=>exact he.elim
  | outgrown=>exact he.elim
 | round l f tmps assign body h hc=>
  rw [h];refine ⟨fun h=>by simp [eE] at h,(hc ro).mono fun e w' he=>?_⟩;cases e with
  | returned mv=>exact hn _ _ he
  | panicked _=>exact he.elim
  | outgrown=>exact he.elim
def HM (P:Program)(G:Nat->Option (List EV))(ev:Operand->EV)(look:B5)(nm k:Nat)(σ0:Option AL)(o:Oper)(r:EV×Eff):Prop:=
 ∀ (K:KM) (σ:AL) (w:World) (a:Act),Rel K σ w->dY G K.F w->(∀ r o,look r=some o->σ[r]? =some o)->(∀ i,i<cF k o.op->σ[nm+i]? =some .free)->(∀ s,σ0=some s->σ=s)->
  (∀ σ',r.2=.heap σ'->σ0≠none)->QU K w ev a->
  RunGives P a o w fun mv w'=>∃ K',Ext K σ w K' (r.2.on σ) w'/\Rel K' (r.2.on σ) w'/\VR K' w' r.1 mv
theorem CF {m:M S EV}{ev:Operand->EV}{look:B5}{nm k:Nat}{σ0:Option AL}{o:Oper}{run:Act->Sem Value}
  (he:∀ a,execOp a.eval o=(do pure (.value (<-run a))))
  (h:Ok V m fun v=>∀ K w a,FO look K w->dY G K.F w->QU K w ev a->∃ mv,(run a).run P w=.ok mv w/\VR K w v mv):
  Ok V (quiet m) fun r=>HM P G ev look nm k σ0 o r:=by
 unfold quiet;refine Ok.bind h fun v=>Ok.pure ?_;intro hv K σ w a hR hG hl _ _ _ ht;obtain ⟨mv,h1,h2⟩:=hv K w a (HL hR hl) hG ht;exact .value mv w (by rw [he]; simp [h1]) ⟨K,Ext.refl _ _ _,hR,h2⟩
theorem Fy {m:M S (EV×eB)}{ev:Operand->EV}{look:B5}{nm k:Nat}{σ0:Option AL}{o:Oper}{run:Act->Sem Value}
  (he:∀ a,execOp a.eval o=(do pure (.value (<-run a))))
  (h:Ok V m fun r=>∀ K σ w a,Rel K σ w->dY G K.F w->(∀ r o,look r=some o->σ[r]? =some o)->(makes o.op=true->σ[nm]? =some .free)->QU K w ev a->
   ∃ mv w' K',(run a).run P w=.ok mv w'/\Ext K σ w K' (Al σ r.2) w'/\Rel K' (Al σ r.2) w'/\VR K' w' r.1 mv):
  Ok V (both m) fun r=>HM P G ev look nm k σ0 o r:=by
 unfold both;refine Ok.bind h fun r=>Ok.pure ?_;intro hv K σ w a hR hG hl hf _ _ ht;obtain ⟨mv,w',K',h1,h2,h3,h4⟩:=hv K σ w a hR hG hl (fun hm=>by simpa using hf 0 (by simp [cF,hm])) ht;exact .value mv w' (by rw [he]; simp [h1]) ⟨K',h2,h3,h4⟩
theorem M7 {m:M S eB}{ev:Operand->EV}{look:B5}{nm k:Nat}{σ0:Option AL}{o:Oper}{run:Act->Sem Unit}
  (he:∀ a,execOp a.eval o=(do run a; pure .skip))
  (h:Ok V m fun u=>∀ K σ w a,Rel K σ w->dY G K.F w->(∀ r o,look r=some o->σ[r]? =some o)->QU K w ev a->
   ∃ w' K',(run a).run P w=.ok () w'/\Ext K σ w K' (Al σ u) w'/\Rel K' (Al σ u) w'):
  Ok V (Vy m) fun r=>HM P G ev look nm k σ0 o r:=by
 unfold Vy;refine Ok.bind h fun r=>Ok.pure ?_;intro hv K σ w a hR hG hl hf _ _ ht;obtain ⟨w',K',h1,h2,h3⟩:=hv K σ w a hR hG hl ht;exact .skip w' (by rw [he]; simp [h1]) ⟨K',h2,h3,.pure _ _ (.undef _)⟩
theorem UA {K:KM}{w:World}:∀ (xs:List EV) (x v:EV) (mx:Value) (mxs:List Value),Kp ZS x xs=some v->VR K w x mx->xs.length=mxs.length->
  (∀ i (h:i<xs.length) (h':i<mxs.length),VR K w xs[i] mxs[i])->∃ mv,(mxs.foldlM Builtin.min2 mx).run P w=.ok mv w/\VR K w v mv:=by
 intro xs;induction xs with
 | nil=>intro x v mx mxs h hx hl _; cases mxs<;>simp at hl; simp only [Kp,uB] at h; subst h; exact ⟨mx,by simp,hx⟩
 | cons y ys ih=>
  intro x v mx mxs h hx hl hv;cases mxs with
  | nil=>simp at hl
  | cons my mys=>
   unfold Kp at h;split at h
   ·rename_i z hz;have hy:=hv 0 (by simp) (by simp);simp only [List.getElem_cons_zero] at hy;unfold ZS at hz;split at hz
    ·rename_i k a k' b;obtain rfl:=uC hz;obtain rfl:=hx.uW;obtain rfl:=hy.uW;obtain ⟨mv,h1,h2⟩:=ih _ v (.int k (if b<a then b else a)) mys h (.pure _ _ (.int _ _)) (by simpa using hl) fun i p q=>hv (i+1) (by simpa using p) (by simpa using q);exact ⟨mv,by simp [List.foldlM_cons,Builtin.min2,h1],h2⟩
    ·cases hz
   ·cases h
theorem UB {K:KM}{w:World}:∀ (xs:List EV) (x v:EV) (mx:Value) (mxs:List Value),Kp ZT x xs=some v->VR K w x mx->xs.length=mxs.length->
  (∀ i (h:i<xs.length) (h':i<mxs.length),VR K w xs[i] mxs[i])->∃ mv,(mxs.foldlM Builtin.max2 mx).run P w=.ok mv w/\VR K w v mv:=by
 intro xs;induction xs with
 | nil=>intro x v mx mxs h hx hl _; cases mxs<;>simp at hl; simp only [Kp,uB] at h; subst h; exact ⟨mx,by simp,hx⟩
 | cons y ys ih=>
  intro x v mx mxs h hx hl hv;cases mxs with
  | nil=>simp at hl
  | cons my mys=>
   unfold Kp at h;split at h
   ·rename_i z hz;have hy:=hv 0 (by simp) (by simp);simp only [List.getElem_cons_zero] at hy;unfold ZT at hz;split at hz
    ·rename_i k a k' b;obtain rfl:=uC hz;obtain rfl:=hx.uW;obtain rfl:=hy.uW;obtain ⟨mv,h1,h2⟩:=ih _ v (.int k (if b>a then b else a)) mys h (.pure _ _ (.int _ _)) (by simpa using hl) fun i p q=>hv (i+1) (by simpa using p) (by simpa using q);exact ⟨mv,by simp [List.foldlM_cons,Builtin.max2,h1],h2⟩
    ·cases hz
   ·cases h
theorem aU.append {K:KM}{w:World}{a b:List EV}{ma mb:Array Value}(ha:aU K w a ma)(hb:aU K w b mb):aU K w (a++b) (ma++mb):=by
 refine ⟨by simp [ha.1,hb.1],fun i h1 h2=>?_⟩;simp only [List.getElem_append,Array.getElem_append];by_cases h:i<a.length
 ·have h':i<ma.size:=by rw [<-ha.1]; exact h
  simp only [h,h',dif_pos];exact ha.2 i h h'
 ·have h':¬ i<ma.size:=by rw [<-ha.1]; exact h
  simp only [h,h',dif_neg,not_false_eq_true];have:=hb.2 (i - a.length) (by simp at h1; omega) (by simp at h2; have:=ha.1; omega);simpa only [ha.1] using this
theorem UC {K:KM}{σ:AL}{w:World}(hR:Rel K σ w){v:EV}{mv:Value}{w':World}(h:PostP K.F w v (.returned mv) w'):
  ∃ K',Ext K σ w K' σ w'/\Rel K' σ w'/\VR K' w' v mv:=by
 obtain ⟨F',h1,h2,h3,h4,h5,h6,h7,h8,h9⟩:=h;have hE:Ext K σ w { K with F:=F' } σ w':=by
  refine ⟨Nat.le_refl _,fun r h=>h,fun r h=>⟨rfl,rfl,rfl,rfl⟩,h1,fun b hb=>(h2 b hb).imp id .inl,fun b hb=>.inr hb,fun b hb _=>h4 b hb,h5,h6,h7,h8⟩
 refine ⟨_,hE,⟨fun r o ho=>?_,hR.inj,fun b hb hF=>?_,fun r o ho ht=>Nat.lt_of_lt_of_le (hR.lt r o ho ht) h5,h3,hR.alt⟩,.pure _ _ h9⟩
 ·by_cases hf:o=.free
  ·subst hf; exact hR.obj r _ ho
  ·exact (hR.obj r o ho).ext hE hR hf fun ht=>h4 _ (hR.lt r o ho ht)
 ·rcases h2 b hF with h | h
  ·exact hR.cD b hb h
  ·obtain ⟨r,o,ho,hl,hbk⟩:=hb;have:=hR.lt r o ho (BY hl);rw [hbk] at this; omega
theorem V7 {K:KM}{rs:List Nat}{w:World}(hG:dY G K.F w):dY G (K.frzs rs).F w:=by
 intro g c hg;obtain ⟨hF,hne,mv,hm⟩:=hG g c hg;exact ⟨(Lg K rs g).2 (.inl hF),hne,mv,fun j hj=>⟨(hm j hj).1,(hm j hj).2.1,(hm j hj).2.2.mono (fun b hb=>(Lg K rs b).2 (.inl hb)) fun _ _=>rfl⟩⟩
theorem Oi (s:AL)(u v:eB):Al s (u++v)=Al (Al s u) v:=by
 induction u generalizing s with
 | nil=>rfl
 | cons p u ih=>obtain ⟨k,o⟩:=p; simp only [List.cons_append,Al]; exact ih _
theorem Lj (ρ:Nat->Nat):∀ cs,EV.aX.go ρ cs=cs.map (EV.aX ρ)
 | []=>rfl
 | x :: xs=>by simp only [EV.aX.go,List.map_cons,Lj ρ xs]
theorem PR.aX {F:Nat->Prop}{w:World}{v:EV}{mv:Value}(ρ:Nat->Nat)(h:PR F w v mv):v.aX ρ=v:=by
 have lst:∀ (cs:List EV) (n:Nat),cs.length=n->(∀ i (h:i<cs.length),i<n->(cs[i]).aX ρ=cs[i])->EV.aX.go ρ cs=cs:=by
  intro cs n hn h;rw [Lj];apply List.ext_getElem (by simp);intro i h1 h2;rw [List.getElem_map];exact h i h2 (hn▸h2)
 induction h with
 | undef v=>rfl
 | bool b=>rfl
 | int k n=>rfl
 | str s=>rfl
 | aH=>rfl
 | cU=>rfl
 | dL=>rfl
 | dA=>rfl
 | ip=>rfl
 | bB=>rfl
 | uS=>rfl
 | im=>rfl
 | agg cs mcs hl h1 _ ih=>simp only [EV.aX,lst cs _ hl fun i a b=>ih i a b]
 | tuple cs mcs hl _ ih=>simp only [EV.aX,lst cs _ hl fun i a b=>ih i a b]
 | func fn a c mf mc hl hl' _ _ ih ih'=>simp only [EV.aX,lst a _ hl fun i x y=>ih i x y,lst c _ hl' fun i x y=>ih' i x y]
 | iface t v mv _ ih=>simp only [EV.aX,ih]
 | raw=>rfl
def F0 (K K':KM)(ρ:Nat->Nat)(r:Nat):Prop:=(K.al r->K'.al (ρ r))/\K'.vP (ρ r)=K.vP r/\K'.off (ρ r)=K.off r/\K'.ext (ρ r)=K.ext r/\K'.len (ρ r)=K.len r
theorem CG {cs:List EV}{i:Nat}(h:i<cs.length){r:Nat}(hr:r∈(cs[i]).refs):r∈EV.refs.go cs:=by
 induction cs generalizing i with
 | nil=>simp at h
 | cons x xs ih=>
  simp only [EV.refs.go,List.mem_append];cases i with
  | zero=>exact .inl hr
  | succ i=>exact .inr (ih (by simpa using h) (by simpa using hr))
theorem VR.aX {K K':KM}{w:World}{v:EV}{mv:Value}{ρ:Nat->Nat}(hF:K'.F=K.F)(h:VR K w v mv):(∀ r∈v.refs,F0 K K' ρ r)->VR K' w (v.aX ρ) mv:=by
 induction h with
 | pure v mv h=>intro _; rw [h.aX ρ]; exact .pure _ _ (hF▸h)
 | ptr r k ha=>
  intro hm;obtain ⟨m1,m2,m3,m4,m5⟩:=hm r (by simp [EV.refs]);rw [<-m2,<-m3]; exact .ptr _ k (m1 ha)
 | pe r esz i k ha hi=>
  intro hm;obtain ⟨m1,m2,m3,m4,m5⟩:=hm r (by simp [EV.refs]);rw [<-m2,<-m3]; exact .pe _ esz i k (m1 ha) (m5▸hi)
 | ms r esz off len cap mcap a ha hle hlen hcap hnone haddr=>
  intro hm;obtain ⟨m1,m2,m3,m4,m5⟩:=hm r (by simp [EV.refs]);exact .ms _ esz off len cap mcap a (m1 ha) hle (m5▸hlen) (fun c hc=>by rw [m5]; exact hcap c hc) (fun hn=>by rw [m3,m4]; exact hnone hn) (fun hm=>by rw [m2,m3]; exact haddr hm)
 | mm r ha=>
  intro hm;obtain ⟨m1,m2,m3,m4,m5⟩:=hm r (by simp [EV.refs]);rw [<-m2]; exact .mm _ (m1 ha)
 | it r ha=>
  intro hm;obtain ⟨m1,m2,m3,m4,m5⟩:=hm r (by simp [EV.refs]);rw [<-m2]; exact .it _ (m1 ha)
 | agg cs mcs hl h1 _ ih=>
  intro hm;simp only [EV.aX,Lj];refine .agg _ mcs (by simp [hl]) h1 fun i a b=>?_;rw [List.getElem_map];exact ih i (by simpa using a) b fun r hr=>hm r (by simp only [EV.refs]; exact CG (by simpa using a) hr)
 | tuple cs mcs hl _ ih=>
  intro hm;simp only [EV.aX,Lj];refine .tuple _ mcs (by simp [hl]) fun i a b=>?_;rw [List.getElem_map];exact ih i (by simpa using a) b fun r hr=>hm r (by simp only [EV.refs]; exact CG (by simpa using a) hr)
 | func fn a c mf mc hl hl' _ _ ih ih'=>
  intro hm;simp only [EV.aX,Lj];refine .func fn _ _ mf mc (by simp [hl]) (by simp [hl']) (fun i x y=>?_) fun i x y=>?_
  ·rw [List.getElem_map];exact ih i (by simpa using x) y fun r hr=>hm r (by simp only [EV.refs,List.mem_append]; exact .inl (CG (by simpa using x) hr))
  ·rw [List.getElem_map];exact ih' i (by simpa using x) y fun r hr=>hm r (by simp only [EV.refs,List.mem_append]; exact .inr (CG (by simpa using x) hr))
 | iface t v mv _ ih=>
  intro hm;simp only [EV.aX];exact .iface t _ mv (ih fun r hr=>hm r (by simpa only [EV.refs] using hr))
theorem Nj {over:List (Nat×EV)}{k:Nat}{v:EV}(h:Ay over k=some v):∃ u,(u,v)∈over:=by
 induction over with
 | nil=>cases h
 | cons e over ih=>
  obtain ⟨u,x⟩:=e;simp only [Ay] at h;split at h
  ·obtain rfl:=uC h; exact ⟨u,by simp⟩
  ·obtain ⟨u',h'⟩:=ih h; exact ⟨u',by simp [h']⟩
theorem SG {over:List (Nat×EV)}{k:Nat}{v:EV}{f:EV->EV}(h:Ay over k=some v):Ay (over.map fun e=>(e.1,f e.2)) k=some (f v):=by
 induction over with
 | nil=>cases h
 | cons e over ih=>
  obtain ⟨u,x⟩:=e;simp only [Ay,List.map_cons] at h ⊢;split at h
  ·rename_i hk; obtain rfl:=uC h; rw [if_pos hk]
  ·rename_i hk; rw [if_neg hk]; exact ih h
theorem Mv {over:List (Nat×EV)}{k:Nat}{f:EV->EV}(h:Ay over k=none):Ay (over.map fun e=>(e.1,f e.2)) k=none:=by
 induction over with
 | nil=>rfl
 | cons e over ih=>
  obtain ⟨u,x⟩:=e;simp only [Ay,List.map_cons] at h ⊢;split at h
  ·cases h
  ·rename_i hk; rw [if_neg hk]; exact ih h
theorem OR.aX {K K':KM}{w:World}{r:Nat}{o:fE}{ρ:Nat->Nat}(hF:K'.F=K.F)(hfz:o.cT=true)(h:OR K w r o)(hr:F0 K K' ρ r)(hm:∀ r'∈o.refs,F0 K K' ρ r'):OR K' w (ρ r) (o.aX ρ):=by
 obtain ⟨m1,m2,m3,m4,m5⟩:=hr;cases o with
 | free=>cases hfz
 | dead=>cases hfz
 | loop=>cases hfz
 | dfr=>cases hfz
 | var fr pf cells=>
  obtain ⟨ha,h0,c,e,q1,q2,q3,q4,q5,q6,q7⟩:=h;refine ⟨m1 ha,by rw [m3]; exact h0,c,e,by rw [m2]; exact q1,by simp [q2],by rw [m4]; exact q3,q4,fun hf=>by rw [m2,hF]; exact q5 hf,fun i a b=>?_,fun hp i a b=>?_⟩
  ·rw [List.getElem_map];have a':i<cells.length:=by simpa using a
   cases pf with
   | true=>have:=q7 rfl i a' b; rw [this.aX ρ]; exact .pure _ _ (hF▸this)
   | false=>exact (q6 i a' b).aX hF fun r' hr'=>hm r' (by simp only [fE.refs,List.mem_flatMap]; exact ⟨_,List.getElem_mem a',hr'⟩)
  ·rw [List.getElem_map];have:=q7 hp i (by simpa using a) b;rw [this.aX ρ]; exact hF▸this
 | arr fr pf esz ex len row=>
  obtain ⟨ha,h0,c,e,fz,q1,q2,q3,q4,q5,q6,q7,q8,q9,q10⟩:=h;cases pf with
  | true=>
   have hp:∀ i,i<len->∀ j (h:j<(row i).length) (h':K'.off (ρ r)+i*esz+j<c.size),PR K'.F w (row i)[j] c[K'.off (ρ r)+i*esz+j]:=by
    intro i hi j hj hc;have hc':K.off r+i*esz+j<c.size:=by rw [<-m3]; exact hc
    simp only [m3];exact hF▸q10 rfl i hi j hj hc'
   exact ⟨m1 ha,by rw [m5]; exact h0,c,e,fz,by rw [m2]; exact q1,q2,by rw [m4]; exact q3,q4,by rw [m3]; exact q5,fun hx=>by rw [m3]; exact q6 hx,fun hf=>by rw [m2,hF]; exact q7 hf,q8,fun i hi j hj hc=>.pure _ _ (hp i hi j hj hc),fun _=>hp⟩
  | false=>
   refine ⟨m1 ha,by rw [m5]; exact h0,c,e,fz,by rw [m2]; exact q1,q2,by rw [m4]; exact q3,q4,by rw [m3]; exact q5,fun hx=>by rw [m3]; exact q6 hx,fun hf=>by rw [m2,hF]; exact q7 hf,fun i hi=>by simp only [cond_false,List.length_map]; exact q8 i hi,fun i hi j hj hc=>?_,fun hp=>by cases hp⟩;have hj':j<(row i).length:=by simpa using hj
   have hc':K.off r+i*esz+j<c.size:=by rw [<-m3]; exact hc
   simp only [cond_false,List.getElem_map,m3];exact (q9 i hi j hj' hc').aX hF fun r' hr'=>hm r' (by simp only [fE.refs,List.mem_flatMap]; exact ⟨i,by simpa using hi,_,List.getElem_mem hj',hr'⟩)
 | map fr pf es=>
  obtain ⟨ha,mes,clock,q1,q2,q3,q4,q5,q6,q7⟩:=h;cases pf with
  | true=>
   have hp:∀ i (a:i<es.length) (b:i<mes.size),PR K'.F w es[i].2 mes[i].val:=fun i a b=>hF▸q6 rfl i a b;exact ⟨m1 ha,mes,clock,by rw [m2]; exact q1,q2,fun hf=>by rw [m2,hF]; exact q3 hf,fun i a b=>⟨.pure _ _ (hF▸q5 i a b),.pure _ _ (hp i a b)⟩,fun i a b=>hF▸q5 i a b,fun _=>hp,q7⟩
  | false=>
   refine ⟨m1 ha,mes,clock,by rw [m2]; exact q1,by simp [q2],fun hf=>by rw [m2,hF]; exact q3 hf,fun i a b=>?_,fun i a b=>?_,fun hp=>(by cases hp),q7⟩
   ·have a':i<es.length:=by simpa using a
    have k1:VR K' w es[i].1 mes[i].key:=.pure _ _ (hF▸q5 i a' b);refine ⟨by simpa using k1,?_⟩;simp only [cond_false,List.getElem_map];exact (q4 i a' b).2.aX hF fun r' hr'=>hm r' (by simp only [fE.refs,List.mem_flatMap]; exact ⟨_,List.getElem_mem a',hr'⟩)
   ·have:=q5 i (by simpa using a) b;simpa [hF] using this
 | flat fr len cell over=>
  obtain ⟨ha,h0,hl,hp,c,e,q1,q2,q3,q4,q5,q6⟩:=h;refine ⟨m1 ha,by rw [m3]; exact h0,by rw [m5]; exact hl,hp,c,e,by rw [m2]; exact q1,q2,by rw [m4]; exact q3,q4,fun hf=>by rw [m2,hF]; exact q5 hf,fun i a=>?_⟩;rcases q6 i a with ⟨v,g1,g2⟩ | ⟨g1,g2⟩
  ·exact .inl ⟨v.aX ρ,SG g1,g2.aX hF fun r' hr'=>hm r' (by simp only [fE.refs,List.mem_flatMap]; obtain ⟨u,hu⟩:=Nj g1; exact ⟨_,hu,hr'⟩)⟩
  ·exact .inr ⟨Mv g1,hF▸g2⟩
theorem Dh (ρ:Nat->Nat)(o:fE):(o.aX ρ).live=o.live:=by cases o<;>rfl
theorem Q9 {σ:AL}{ok:Nat->Bool}{ρ:Nat->Nat}:∀ (rs:List Nat) (nm:Nat) (u:eB),KW σ ok ρ nm rs=some u->
  (∀ r∈rs,∃ o,σ[r]? =some o/\o.cT=true/\∀ r'∈o.refs,ok r'=true)/\
  ∀ (s:AL) (i:Nat),i<s.length->(Al s u)[i]? =if nm<=i/\i<nm+rs.length then (rs[i - nm]?).bind fun r=>(σ[r]?).map (fE.aX ρ) else s[i]? :=by
 intro rs;induction rs with
 | nil=>
  intro nm u h;simp only [KW,uB] at h;subst h;exact ⟨fun r hr=>by simp at hr,fun s i hi=>by simp [Al]; omega⟩
 | cons r rs ih=>
  intro nm u h;unfold KW at h;split at h
  ·rename_i o ho;split at h
   ·rename_i hc;simp only [uF,List.all_eq_true] at hc;cases hf:KW σ ok ρ (nm+1) rs with
    | none=>rw [hf] at h; simp at h
    | some u'=>
     rw [hf] at h;simp only [Option.map_some,uB] at h;subst h;obtain ⟨g1,g2⟩:=ih _ _ hf;refine ⟨fun r' hr'=>?_,fun s i hi=>?_⟩
     ·rcases List.mem_cons.1 hr' with rfl | hr'
      ·exact ⟨o,ho,hc.1,hc.2⟩
      ·exact g1 r' hr'
     ·unfold Al;rw [g2 _ i (by simpa using hi)];by_cases h1:nm+1<=i/\i<nm+1+rs.length
      ·rw [if_pos h1,if_pos (by simp; omega),show i - nm=i - (nm+1)+1 from by omega];simp
      ·rw [if_neg h1,List.getElem?_set];by_cases h2:nm=i
       ·subst h2;rw [if_pos rfl,if_pos hi,if_pos (by simp)];simp [ho]
       ·rw [if_neg h2,if_neg (by simp; omega)]
   ·cases h
  ·cases h
theorem HW (u:eB):∀ (s:AL),(Al s u).length=s.length:=by
 induction u with
 | nil=>intro s; rfl
 | cons p u ih=>intro s; obtain ⟨a,b⟩:=p; unfold Al; rw [ih]; simp
def SH (σ':AL)(ok:Nat->Bool)(ρ:Nat->Nat)(i:Nat)(o2:fE):Prop:=
 (o2=.dead/\σ'[i]? =some .dead)∨∃ o',σ'[i]? =some o'/\o'.cT=true/\(∀ r'∈o'.refs,ok r'=true)/\o2=o'.aX ρ
theorem Oj {look:B5}{σ':AL}{ok:Nat->Bool}{ρ:Nat->Nat}:∀ (rs:List Nat) (i0:Nat) (u:eB),D2 look σ' ok ρ i0 rs=some u->rs.Nodup->
  ∀ (s:AL) (r:Nat),r<s.length->(∃ (j:Nat) (o o2:fE),rs[j]? =some r/\look r=some o/\o.live=true/\(Al s u)[r]? =some o2/\SH σ' ok ρ (i0+j) o2)∨
   ((∀ o,r∈rs->look r=some o->o.live=false)/\(Al s u)[r]? =s[r]?):=by
 intro rs;induction rs with
 | nil=>
  intro i0 u h _ s r hr;simp only [D2,uB] at h;subst h;exact .inr ⟨fun o h=>by simp at h,rfl⟩
 | cons x rs ih=>
  intro i0 u h hnd s r hr;have hnd':=List.nodup_cons.1 hnd;unfold D2 at h;split at h
  ·rename_i o o' ho ho';have step:∀ (o2:fE) (u':eB),D2 look σ' ok ρ (i0+1) rs=some u'->u=(x,o2) :: u'->o.live=true->SH σ' ok ρ i0 o2->(∃ (j:Nat) (o o2:fE),(x :: rs)[j]? =some r/\look r=some o/\o.live=true/\(Al s u)[r]? =some o2/\SH σ' ok ρ (i0+j) o2)∨
     ((∀ o,r∈x :: rs->look r=some o->o.live=false)/\(Al s u)[r]? =s[r]?):=by
    intro o2 u' hu' hu hl hB;subst hu;have hset:(s.set x o2).length=s.length:=by simp
    rcases ih _ _ hu' hnd'.2 (s.set x o2) r (by rw [hset]; exact hr) with ⟨j,p,p2,q1,q2,q3,q4,q5⟩ | ⟨q1,q2⟩
    ·refine .inl ⟨j+1,p,p2,by simpa using q1,q2,q3,by simpa [Al] using q4,?_⟩;rw [show i0+(j+1)=i0+1+j from by omega]; exact q5
    ·by_cases hx:x=r
     ·subst hx;refine .inl ⟨0,o,o2,rfl,ho,hl,?_,hB⟩;simp only [Al];rw [q2,List.getElem?_set];simp [hr]
     ·refine .inr ⟨fun o h hlo=>?_,?_⟩
      ·rcases List.mem_cons.1 h with h | h
       ·exact absurd h.symm hx
       ·exact q1 o h hlo
      ·simp only [Al];rw [q2,List.getElem?_set,if_neg hx]
   split at h
   ·rename_i hl;split at h
    ·cases hf:D2 look σ' ok ρ (i0+1) rs with
     | none=>rw [hf] at h; simp at h
     | some u'=>
      rw [hf] at h;simp only [Option.map_some,uB] at h;exact step .dead u' hf h.symm hl (.inl ⟨rfl,ho'⟩)
    ·split at h
     ·rename_i hc;simp only [uF,List.all_eq_true] at hc;cases hf:D2 look σ' ok ρ (i0+1) rs with
      | none=>rw [hf] at h; simp at h
      | some u'=>
       rw [hf] at h;simp only [Option.map_some,uB] at h;exact step _ u' hf h.symm hl (.inr ⟨o',ho',hc.1,hc.2,rfl⟩)
     ·cases h
   ·rename_i hl;rcases ih _ _ h hnd'.2 s r hr with ⟨j,p,p2,q1,q2,q3,q4,q5⟩ | ⟨q1,q2⟩
    ·refine .inl ⟨j+1,p,p2,by simpa using q1,q2,q3,q4,?_⟩;rw [show i0+(j+1)=i0+1+j from by omega]; exact q5
    ·refine .inr ⟨fun o1 h1 h2=>?_,q2⟩;rcases List.mem_cons.1 h1 with h1 | h1
     ·subst h1;rw [ho] at h2;obtain rfl:=uC h2;simpa using hl
     ·exact q1 o1 h1 h2
  ·cases h
theorem K5 {look:B5}{L:List Nat}:∀ (rs:List Nat) (σl:AL),HK look L rs=some σl->
  σl.length=rs.length/\∀ (i:Nat) (r:Nat),rs[i]? =some r->∃ o,look r=some o/\o.cT=true/\(∀ r'∈o.refs,r'∈L)/\σl[i]? =some (o.aX (L.idxOf ·)):=by
 intro rs;induction rs with
 | nil=>
  intro σl h;simp only [HK,uB] at h;subst h;exact ⟨rfl,fun i r h=>by simp at h⟩
 | cons x rs ih=>
  intro σl h;unfold HK at h;split at h
  ·rename_i o ho;split at h
   ·rename_i hc;simp only [uF,List.all_eq_true,List.contains_iff_mem] at hc;cases hf:HK look L rs with
    | none=>rw [hf] at h; simp at h
    | some s'=>
     rw [hf] at h;simp only [Option.map_some,uB] at h;subst h;obtain ⟨h1,h2⟩:=ih _ hf;refine ⟨by simp [h1],fun i r hr=>?_⟩;cases i with
     | zero=>
      simp only [List.getElem?_cons_zero,uB] at hr;subst hr;exact ⟨o,ho,hc.1,hc.2,by simp⟩
     | succ i=>
      obtain ⟨p,q1,q2,q3,q4⟩:=h2 i r (by simpa using hr);exact ⟨p,q1,q2,q3,by simpa using q4⟩
   ·cases h
  ·cases h
theorem IN:∀ l,(uniq l).Nodup
 | []=>List.nodup_nil
 | x :: xs=>by
  unfold uniq;split
  ·exact IN xs
  ·rename_i h;exact List.nodup_cons.2 ⟨by simpa using h,IN xs⟩
def KM.loc (K:KM)(L:List Nat):KM:=
 ⟨fun i=>K.vP (L.getD i 0),fun i=>K.off (L.getD i 0),fun i=>K.ext (L.getD i 0),fun i=>K.len (L.getD i 0),fun i=>i<L.length/\K.al (L.getD i 0),K.F⟩
theorem EC {K:KM}{L:List Nat}{r:Nat}(h:r∈L):F0 K (K.loc L) (L.idxOf ·) r:=by
 have hi:=List.idxOf_lt_length_of_mem h;have hg:L.getD (L.idxOf r) 0=r:=by
  rw [uA,uD hi];simp
 exact ⟨fun ha=>⟨hi,by rw [hg]; exact ha⟩,by simp only [KM.loc,hg],by simp only [KM.loc,hg],by simp only [KM.loc,hg],by simp only [KM.loc,hg]⟩
theorem GL {o:fE}(h:o.cT=true):o.there=true:=by cases o<;>simp [fE.cT,fE.there] at*
theorem S6 {K:KM}{σ:AL}{w:World}(hR:Rel K σ w){look:B5}(hl:∀ r o,look r=some o->σ[r]? =some o){L:List Nat}(hnd:L.Nodup){σl:AL}(h:HK look L L=some σl):Rel (K.loc L) σl w:=by
 obtain ⟨h1,h2⟩:=K5 L σl h;have hget:∀ i o,σl[i]? =some o->∃ r o0,L[i]? =some r/\L.getD i 0=r/\L.idxOf r=i/\r∈L/\σ[r]? =some o0/\o0.cT=true/\(∀ r'∈o0.refs,r'∈L)/\o=o0.aX (L.idxOf ·):=by
  intro i o hi;have hlt:i<L.length:=by rw [<-h1]; exact (List.getElem?_eq_some_iff.1 hi).1
  have hLi:L[i]? =some L[i]:=uD hlt;obtain ⟨o0,q1,q2,q3,q4⟩:=h2 i L[i] hLi;rw [q4] at hi;obtain rfl:=uC hi;exact ⟨L[i],o0,hLi,by rw [uA,hLi]; rfl,hnd.idxOf_getElem i hlt,List.getElem_mem hlt,hl _ _ q1,q2,q3,rfl⟩
 refine ⟨fun i o hi=>?_,fun i i' o1 o2 hi hi' l1 l2 hb=>?_,?_,fun i o hi ht=>?_,hR.Flt,fun i ha=>?_⟩
 ·obtain ⟨r,o0,a1,a2,a3,a4,a5,a6,a7,rfl⟩:=hget i o hi;have:=OR.aX (K:=K) (K':=K.loc L) (ρ:=(L.idxOf ·)) rfl a6 (hR.obj r o0 a5) (EC a4) fun r' hr'=>EC (a7 r' hr');simpa only [a3] using this
 ·obtain ⟨r,o0,a1,a2,a3,a4,a5,a6,a7,rfl⟩:=hget i o1 hi;obtain ⟨r',p0,b1,b2,b3,b4,b5,b6,b7,rfl⟩:=hget i' o2 hi';rw [Dh] at l1 l2;have:=hR.inj r r' o0 p0 a5 b5 l1 l2 (by simpa only [KM.loc,a2,b2] using hb);rw [<-a3,<-b3,this]
 ·rintro b ⟨i,o,hi,hlv,hb⟩
  obtain ⟨r,o0,a1,a2,a3,a4,a5,a6,a7,rfl⟩:=hget i o hi;rw [Dh] at hlv;exact hR.cD b ⟨r,o0,a5,hlv,by simpa only [KM.loc,a2] using hb⟩
 ·obtain ⟨r,o0,a1,a2,a3,a4,a5,a6,a7,rfl⟩:=hget i o hi;have:=hR.lt r o0 a5 (GL a6);simpa only [KM.loc,a2] using this
 ·rw [h1]; exact ha.1
theorem UD {K:KM}{σ:AL}{w:World}(hR:Rel K σ w){look:B5}(hlk:∀ r o,look r=some o->σ[r]? =some o){nm:Nat}{L uX:List Nat}{v:EV}{σl σ':AL}{u1 u2:eB}{mv:Value}{w':World}(hnd:L.Nodup)(hkn:uX.Nodup)
  (hin:HK look L L=some σl) (hfree:∀ i,i<uX.length->σ[nm+i]? =some .free) (hkge:∀ r∈uX,L.length<=r)
  {ok:Nat->Bool} (hok:∀ r,ok r=true->r<L.length∨r∈uX) (hv:∀ r∈v.refs,ok r=true)
  (hu1:D2 look σ' ok (Be L uX nm) 0 L=some u1) (hu2:KW σ' ok (Be L uX nm) nm uX=some u2)
  (h:S1 (K.loc L) σl w v σ' (.returned mv) w'):
  ∃ K',Ext K σ w K' (Al σ (u1++u2)) w'/\Rel K' (Al σ (u1++u2)) w'/\VR K' w' (v.aX (Be L uX nm)) mv:=by
 obtain ⟨K1,e1,r1,v1⟩:=h;have hRl:=S6 hR hlk hnd hin;obtain ⟨hsl,hsl2⟩:=K5 L σl hin;obtain ⟨g1,g2⟩:=Q9 uX nm u2 hu2;have hLo:∀ r∈L,∃ o,look r=some o/\σ[r]? =some o/\o.cT=true/\K.al r:=fun r hr=>by
  obtain ⟨i,hi,rfl⟩:=List.mem_iff_getElem.1 hr;obtain ⟨o,q1,q2,q3,q4⟩:=hsl2 i L[i] (uD hi);exact ⟨o,q1,hlk _ _ q1,q2,(hR.obj _ o (hlk _ _ q1)).al (GL q2)⟩
 have hgetD:∀ i (h:i<L.length),L.getD i 0=L[i]:=fun i h=>by rw [uA,uD h]; rfl
 have hown0:∀ b,aD (K.loc L) σl b->∃ r o,r∈L/\σ[r]? =some o/\o.live=true/\K.vP r=b:=by
  rintro b ⟨i,o,h1,h2,h3⟩
  have hlt:i<L.length:=by rw [<-hsl]; exact (List.getElem?_eq_some_iff.1 h1).1
  obtain ⟨o0,q1,q2,q3,q4⟩:=hsl2 i L[i] (uD hlt);rw [q4] at h1;obtain rfl:=uC h1;rw [Dh] at h2;exact ⟨L[i],o0,List.getElem_mem hlt,hlk _ _ q1,h2,by simpa only [KM.loc,hgetD i hlt] using h3⟩
 have hown0':∀ b,aD (K.loc L) σl b->aD K σ b:=fun b hb=>let ⟨r,o,_,h2,h3,h4⟩:=hown0 b hb; ⟨r,o,h2,h3,h4⟩
 let old (r:Nat):Nat:=uX.getD (r - nm) 0
 let K':KM:={
   vP:=fun r=>if nm<=r/\r<nm+uX.length then K1.vP (old r) else K.vP r
   off:=fun r=>if nm<=r/\r<nm+uX.length then K1.off (old r) else K.off r
   ext:=fun r=>if nm<=r/\r<nm+uX.length then K1.ext (old r) else K.ext r
   len:=fun r=>if nm<=r/\r<nm+uX.length then K1.len (old r) else K.len r
   al:=fun r=>(nm<=r/\r<nm+uX.length)∨K.al r
   F:=K1.F }
 have hlen:∀ i,i<uX.length->nm+i<σ.length:=fun i hi=>(List.getElem?_eq_some_iff.1 (hfree i hi)).1;have hnal:∀ r,nm<=r->r<nm+uX.length->¬ K.al r:=fun r h1 h2=>by
  have:=hR.obj r .free (by have:=hfree (r - nm) (by omega); rwa [show nm+(r - nm)=r from by omega] at this);exact this
 have hout:∀ r,K.al r->¬ (nm<=r/\r<nm+uX.length):=fun r ha h=>hnal r h.1 h.2 ha;have hKout:∀ r,¬ (nm<=r/\r<nm+uX.length)->K'.vP r=K.vP r/\K'.off r=K.off r/\K'.ext r=K.ext r/\K'.len r=K.len r:=fun r h=>by simp only [K',if_neg h]; exact ⟨trivial,trivial,trivial,trivial⟩
 have hmvL:∀ i,i<L.length->F0 K1 K' (Be L uX nm) i:=by
  intro i hi;obtain ⟨o,_,_,_,hal⟩:=hLo L[i] (List.getElem_mem hi);have hb:Be L uX nm i=L[i]:=by simp only [Be,if_pos hi,hgetD i hi]
  have hal':(K.loc L).al i:=⟨hi,by rw [hgetD i hi]; exact hal⟩
  obtain ⟨b1,b2,b3,b4⟩:=e1.vP i hal';obtain ⟨c1,c2,c3,c4⟩:=hKout L[i] (hout _ hal);refine ⟨fun _=>.inr (by rw [hb]; exact hal),?_,?_,?_,?_⟩
  ·rw [hb,c1,b1]; simp only [KM.loc,hgetD i hi]
  ·rw [hb,c2,b2]; simp only [KM.loc,hgetD i hi]
  ·rw [hb,c3,b3]; simp only [KM.loc,hgetD i hi]
  ·rw [hb,c4,b4]; simp only [KM.loc,hgetD i hi]
 have hmvk:∀ r∈uX,F0 K1 K' (Be L uX nm) r/\(nm<=Be L uX nm r/\Be L uX nm r<nm+uX.length)/\Be L uX nm r=nm+uX.idxOf r:=by
  intro r hr;have hi:=List.idxOf_lt_length_of_mem hr;have hb:Be L uX nm r=nm+uX.idxOf r:=by have:=hkge r hr; simp only [Be,if_neg (show ¬ r<L.length from by omega)]
  have hc:nm<=Be L uX nm r/\Be L uX nm r<nm+uX.length:=by rw [hb]; exact ⟨by omega,by omega⟩
  have ho:old (Be L uX nm r)=r:=by
   simp only [old,hb,Nat.add_sub_cancel_left];rw [uA,uD hi];simp
  exact ⟨⟨fun _=>.inl hc,by simp only [K',if_pos hc,ho],by simp only [K',if_pos hc,ho],by simp only [K',if_pos hc,ho],by simp only [K',if_pos hc,ho]⟩,hc,hb⟩
 have hmv:∀ r,ok r=true->F0 K1 K' (Be L uX nm) r:=fun r hr=>(hok r hr).elim (hmvL r) fun h=>(hmvk r h).1;have hget:∀ r o,(Al σ (u1++u2))[r]? =some o->
   (∃ i0 o0,σ'[i0]? =some o0/\r=Be L uX nm i0/\K'.vP r=K1.vP i0/\((o=.dead/\o0=.dead)∨(o0.cT=true/\o=o0.aX (Be L uX nm)/\(∀ r'∈o0.refs,ok r'=true)/\F0 K1 K' (Be L uX nm) i0)))∨
   (σ[r]? =some o/\¬ (nm<=r/\r<nm+uX.length)/\(r∈L->o.live=false)):=by
  intro r o h1;have hlt:r<σ.length:=by
   have:=(List.getElem?_eq_some_iff.1 h1).1
   rwa [HW] at this
  rw [Oi,g2 _ r (by rw [HW]; exact hlt)] at h1;by_cases hc:nm<=r/\r<nm+uX.length
  ·rw [if_pos hc] at h1;have hi:r - nm<uX.length:=by omega
   rw [uD hi] at h1;simp only [Option.bind_some] at h1;obtain ⟨o0,a1,a2,a3⟩:=g1 uX[r - nm] (List.getElem_mem hi);rw [a1] at h1;simp only [Option.map_some,uB] at h1;obtain ⟨m1,m2,m3⟩:=hmvk _ (List.getElem_mem hi);have hrn:r=Be L uX nm uX[r - nm]:=by rw [m3,hkn.idxOf_getElem]; omega
   refine .inl ⟨uX[r - nm],o0,a1,hrn,?_,.inr ⟨a2,h1.symm,a3,m1⟩⟩;have:=m1.2.1;rw [<-hrn] at this; exact this
  ·rw [if_neg hc] at h1;rcases Oj L 0 u1 hu1 hnd σ r hlt with ⟨j,p,p2,q1,q2,q3,q4,q5⟩ | ⟨q1,q2⟩
   ·rw [q4] at h1;obtain rfl:=uC h1;have hjl:j<L.length:=(List.getElem?_eq_some_iff.1 q1).1;have hLj:L[j]=r:=(List.getElem?_eq_some_iff.1 q1).2;have hb:Be L uX nm j=r:=by simp only [Be,if_pos hjl,hgetD j hjl]; exact hLj
    have hm:=hmvL j hjl;have hbk:K'.vP r=K1.vP j:=by have:=hm.2.1; rwa [hb] at this
    rw [uJ] at q5;rcases q5 with ⟨rfl,q5⟩ | ⟨o',a1,a2,a3,rfl⟩
    ·exact .inl ⟨j,.dead,q5,hb.symm,hbk,.inl ⟨rfl,rfl⟩⟩
    ·exact .inl ⟨j,o',a1,hb.symm,hbk,.inr ⟨a2,rfl,a3,hm⟩⟩
   ·rw [q2] at h1;refine .inr ⟨h1,hc,fun hrL=>?_⟩;obtain ⟨o1,x1,x2,_,_⟩:=hLo r hrL;rw [h1] at x2;obtain rfl:=uC x2;exact q1 _ hrL x1
 have hF2:∀ b,K1.F b->K.F b∨w.heap.size<=b∨aD (K.loc L) σl b:=fun b hb=>e1.F' b hb;have hother:∀ r o,σ[r]? =some o->o.live=true->(r∈L->o.live=false)->¬ aD (K.loc L) σl (K.vP r):=by
  intro r o h1 h2 h3 hO;obtain ⟨r0,o0,a1,a2,a3,a4⟩:=hown0 _ hO;have:=hR.inj r r0 o o0 h1 a2 h2 a3 a4.symm;subst this;rw [h3 a1] at h2; cases h2
 have hE:Ext K σ w K' (Al σ (u1++u2)) w':=by
  refine ⟨by rw [HW]; exact Nat.le_refl _,fun r h=>.inr h,fun r h=>hKout r (hout r h),e1.F,fun b hb=>(hF2 b hb).imp id (Or.imp id (hown0' b)),?_,fun b hb hn=>e1.stay b hb fun ho=>hn (hown0' b ho),e1.size,e1.os,e1.tape,e1.output⟩
  rintro b ⟨r,o,h1,h2,h3⟩
  rcases hget r o h1 with ⟨i0,o0,k1,k2,k3,k4⟩ | ⟨k1,k2,k3⟩
  ·rcases k4 with ⟨rfl,_⟩ | ⟨k5,rfl,k6,k7⟩
   ·cases h2
   ·rw [Dh] at h2;rw [k3] at h3;exact (e1.own b ⟨i0,o0,k1,h2,h3⟩).imp id (hown0' b)
  ·rw [(hKout r k2).1] at h3;exact .inr ⟨r,o,k1,h2,h3⟩
 refine ⟨K',hE,⟨?_,?_,?_,?_,r1.Flt,?_⟩,VR.aX (K:=K1) (K':=K') rfl v1 fun r hr=>hmv r (hv r hr)⟩
 ·intro r o h1;rcases hget r o h1 with ⟨i0,o0,k1,k2,k3,k4⟩ | ⟨k1,k2,k3⟩
  ·rcases k4 with ⟨rfl,_⟩ | ⟨k5,rfl,k6,k7⟩
   ·trivial
   ·rw [k2];exact OR.aX (K:=K1) (K':=K') rfl k5 (r1.obj i0 o0 k1) k7 fun r' hr'=>hmv r' (k6 r' hr')
  ·by_cases hfr:o=.free
   ·subst hfr;have:=hR.obj r _ k1
    rintro (h | h)
    ·exact k2 h
    ·exact this h
   ·refine (hR.obj r o k1).ext hE hR hfr fun ht=>?_;refine e1.stay _ (hR.lt r o k1 ht) fun hO=>?_;cases hl:o.live with
    | true=>exact hother r o k1 hl k3 hO
    | false=>
     have hFr:K.F (K.vP r):=by
      have h2:=hR.obj r o k1;cases o with
      | free=>exact absurd rfl hfr
      | dead=>simp [fE.there] at ht
      | var fr pf c=>simp only [fE.live,Bool.not_eq_false'] at hl; obtain ⟨_,_,_,_,_,_,_,_,h5,_⟩:=h2; exact h5 hl
      | arr fr pf esz ex len row=>simp only [fE.live,Bool.not_eq_false'] at hl; obtain ⟨_,_,_,_,_,_,_,_,_,_,_,h7,_⟩:=h2; exact h7 hl
      | map fr pf es=>simp only [fE.live,Bool.not_eq_false'] at hl; obtain ⟨_,_,_,_,_,h3,_⟩:=h2; exact h3 hl
      | loop st t ps x y p=>simp [fE.live] at hl
      | dfr=>simp [fE.live] at hl
      | flat fr len cell over=>simp only [fE.live,Bool.not_eq_false'] at hl; obtain ⟨_,_,_,_,_,_,_,_,_,_,h5,_⟩:=h2; exact h5 hl
     exact hR.cD _ (hown0' _ hO) hFr
 ·intro r r' o1 o2 h1 h2 l1 l2 hb;have case1:∀ (i0:Nat) (o0:fE) (r':Nat) (o2:fE),σ'[i0]? =some o0->o0.live=true->σ[r']? =some o2->o2.live=true->(r'∈L->o2.live=false)->K1.vP i0=K.vP r'->False:=by
   intro i0 o0 r' o2 a1 a2 a3 a4 a5 a6;rcases e1.own _ ⟨i0,o0,a1,a2,rfl⟩ with h | h
   ·have:=hR.lt r' o2 a3 (BY a4); omega
   ·rw [a6] at h; exact hother r' o2 a3 a4 a5 h
  rcases hget r o1 h1 with ⟨i0,o0,k1,k2,k3,k4⟩ | ⟨k1,k2,k3⟩
  ·rcases k4 with ⟨rfl,_⟩ | ⟨k5,rfl,k6,k7⟩
   ·cases l1
   ·rw [Dh] at l1;rcases hget r' o2 h2 with ⟨p0,q0,j1,j2,j3,j4⟩ | ⟨j1,j2,j3⟩
    ·rcases j4 with ⟨rfl,_⟩ | ⟨j5,rfl,j6,j7⟩
     ·cases l2
     ·rw [Dh] at l2;rw [k3,j3] at hb;rw [k2,j2,r1.inj i0 p0 o0 q0 k1 j1 l1 l2 hb]
    ·rw [k3,(hKout r' j2).1] at hb;exact (case1 i0 o0 r' o2 k1 l1 j1 l2 j3 hb).elim
  ·rcases hget r' o2 h2 with ⟨p0,q0,j1,j2,j3,j4⟩ | ⟨j1,j2,j3⟩
   ·rcases j4 with ⟨rfl,_⟩ | ⟨j5,rfl,j6,j7⟩
    ·cases l2
    ·rw [Dh] at l2;rw [j3,(hKout r k2).1] at hb;exact (case1 p0 q0 r o1 j1 l2 k1 l1 k3 hb.symm).elim
   ·rw [(hKout r k2).1,(hKout r' j2).1] at hb;exact hR.inj r r' o1 o2 k1 j1 l1 l2 hb
 ·rintro b ⟨r,o,h1,h2,h3⟩ hF
  rcases hget r o h1 with ⟨i0,o0,k1,k2,k3,k4⟩ | ⟨k1,k2,k3⟩
  ·rcases k4 with ⟨rfl,_⟩ | ⟨k5,rfl,k6,k7⟩
   ·cases h2
   ·rw [Dh] at h2;rw [k3] at h3;exact r1.cD b ⟨i0,o0,k1,h2,h3⟩ hF
  ·rw [(hKout r k2).1] at h3;rcases hF2 b hF with h | h | h
   ·exact hR.cD b ⟨r,o,k1,h2,h3⟩ h
   ·have:=hR.lt r o k1 (BY h2); omega
   ·rw [<-h3] at h; exact hother r o k1 h2 k3 h
 ·intro r o h1 ht;rcases hget r o h1 with ⟨i0,o0,k1,k2,k3,k4⟩ | ⟨k1,k2,k3⟩
  ·rcases k4 with ⟨rfl,_⟩ | ⟨k5,rfl,k6,k7⟩
   ·cases ht
   ·rw [k3];exact r1.lt i0 o0 k1 (GL k5)
  ·rw [(hKout r k2).1];exact Nat.lt_of_lt_of_le (hR.lt r o k1 ht) e1.size
 ·rintro r (h | h)
  ·exact Nat.lt_of_lt_of_le (by have:=hlen (r - nm) (by omega); omega) hE.len
  ·exact Nat.lt_of_lt_of_le (hR.alt r h) hE.len
theorem UE (hD:dK V P G D)(ev:Operand->EV)(look:B5)(nm k:Nat)(σ0:Option AL)(o:Oper)(g:FuncId)(args:List EV)(hmk:cF k o.op=k)
  (main:∀ {K:KM} {w:World} {a:Act},QU K w ev a->NW P g->∃ margs,(execOp a.eval o).run P w=.ok (.enter g margs) w/\aU K w args margs):
  Ok V (R7 D look nm k g args) fun r=>HM P G ev look nm k σ0 o (r.1,.eR r.2):=by
 unfold R7;dsimp only;have hnd:=IN (FI look 1000 (EV.refs.go args) []);generalize uniq (FI look 1000 (EV.refs.go args) [])=L at hnd ⊢;refine Ok.ite (fun hargs=>?_) fun _=>Ok.fail;refine Ok.dI fun σl hσl=>?_;refine Ok.bind (hD.bZ g _ σl) fun q=>?_;obtain ⟨v,σ'⟩:=q;dsimp only;have hkn:=(IN (FI (fun r=>σ'[r]?) 1000 (v.refs++Ks σ' 0 L.length) [])).filter (p:=fun r=>Decidable.decide (L.length<=r));have hkge:∀ r∈(uniq (FI (fun r=>σ'[r]?) 1000 (v.refs++Ks σ' 0 L.length) [])).filter (fun r=>Decidable.decide (L.length<=r)),L.length<=r:=fun r hr=>by simpa using (List.mem_filter.1 hr).2
 generalize (uniq (FI (fun r=>σ'[r]?) 1000 (v.refs++Ks σ' 0 L.length) [])).filter (fun r=>Decidable.decide (L.length<=r))=uX at hkn hkge ⊢;refine Ok.ite (fun hc=>?_) fun _=>Ok.fail;refine Ok.dI fun u1 hu1=>?_;refine Ok.dI fun u2 hu2=>?_;refine Ok.pure ?_;intro hsem K σ w a hR hG hl hf _ _ ht;obtain ⟨hen,hcall⟩:=hsem;obtain ⟨margs,m1,m2⟩:=main ht hen;have hargs':∀ r∈EV.refs.go args,r∈L:=fun r hr=>by simpa using List.all_eq_true.1 hargs r hr
 have hva:aU (K.loc L) w (EV.aX.go (L.idxOf ·) args) margs:=by
  rw [Lj];refine ⟨by simp [m2.1],fun i h1 h2=>?_⟩;rw [List.getElem_map];have h1':i<args.length:=by simpa using h1
  exact VR.aX (K:=K) (K':=K.loc L) rfl (m2.2 i h1' h2) fun r hr=>EC (hargs' r (CG h1' hr))
 refine .enter g margs m1 ((hcall (K.loc L) w margs (S6 hR hl hnd hσl) hG hva).mono fun e w' he=>?_);cases e with
 | returned mv=>
  exact UD hR hl hnd hkn hσl (fun i hi=>hf i (by rw [hmk]; omega)) hkge (ok:=fun r=>Decidable.decide (r<L.length) || uX.contains r) (fun r hr=>by simpa using hr) (fun r hr=>List.all_eq_true.1 hc.2 r hr) hu1 hu2 he
 | panicked _=>exact he
 | outgrown=>exact he
theorem Ou (hD:dK V P G D)(ev:Operand->EV)(look:B5)(nm k:Nat)(σ0:Option AL)(o:Oper)(g:FuncId)(args:List EV)(hmk:cF k o.op=k)
  (main:∀ {K:KM} {w:World} {a:Act},QU K w ev a->NW P g->∃ margs,(execOp a.eval o).run P w=.ok (.enter g margs) w/\aU K w args margs):
  Ok V (QG D look nm k σ0 g args) fun r=>HM P G ev look nm k σ0 o r:=by
 unfold QG;refine Ok.bind (hD.mode g) fun d=>?_;refine Ok.ite (fun _=>?_) fun _=>?_
 ·refine Ok.bind (hD.fresh g) fun b=>?_;refine Ok.ite (fun _=>?_) fun _=>?_
  ·refine Ok.bind (UE hD ev look nm k σ0 o g args hmk main) fun q=>?_;obtain ⟨v,u⟩:=q;exact Ok.pure fun h _ _=>h
  refine Ok.bind (Ok.lift (Φ:=fun q=>KV look args=some q) fun n h=>h) fun q=>?_;obtain ⟨pargs,rs⟩:=q;refine Ok.bind (Ok.lift (Φ:=fun u=>aS look rs=some u) fun n h=>h) fun u=>?_;refine Ok.bind (hD.dC g pargs) fun v=>Ok.pure ?_;intro hsem hu hq _ _ K σ w a hR hG hl _ _ _ ht;obtain ⟨hen,hcall⟩:=hsem;obtain ⟨margs,m1,m2⟩:=main ht hen;obtain ⟨e1,r1⟩:=Rel.aS rs K σ u hR (fun r o h=>.inl (hl r o h)) hu;have hpr:=SC (F':=(K.frzs rs).F) (HL hR hl) (fun b hb=>(Lg K rs b).2 (.inl hb)) hq m2 fun r hr=>(Lg K rs _).2 (.inr ⟨r,hr,rfl⟩);refine .enter g margs m1 ((hcall (K.frzs rs).F w margs r1.Flt (V7 hG) hpr).mono fun e w' he=>?_);cases e with
  | returned mv=>
   obtain ⟨K',e2,r2,v2⟩:=UC r1 he;exact ⟨K',e1.trans e2,r2,v2⟩
  | panicked _=>exact he
  | outgrown=>exact he
 ·split
  ·rename_i σ1 _;refine Ok.bind (hD.bZ g _ σ1) fun q=>?_;obtain ⟨v,σ'⟩:=q;refine Ok.pure ?_;intro hsem _ K σ w a hR hG hl _ hσ _ ht;obtain ⟨hen,hcall⟩:=hsem;obtain ⟨margs,m1,m2⟩:=main ht hen;obtain rfl:=hσ σ1 rfl;refine .enter g margs m1 ((hcall K w margs hR hG m2).mono fun e w' he=>?_);cases e with
   | returned mv=>exact he
   | panicked _=>exact he
   | outgrown=>exact he
  ·exact Ok.fail
theorem Nk {K:KM}{w:World}:∀ (ps:List Tmp) (vs:List EV) (mvs:List Value) (tmps:List EV) (mt:Array Value),aU K w tmps mt->vs.length=mvs.length->
  (∀ i (h:i<vs.length) (h':i<mvs.length),VR K w vs[i] mvs[i])->aU K w (Ed tmps ps vs) ((ps.zip mvs).foldl (fun (t:Array Value) (x:Tmp×Value)=>t.setIfInBounds x.1 x.2) mt):=by
 intro ps;induction ps with
 | nil=>intro vs mvs tmps mt ht _ _; simpa [Ed] using ht
 | cons p ps ih=>
  intro vs mvs tmps mt ht hl hv;cases vs with
  | nil=>
   have:mvs=[]:=List.length_eq_zero_iff.1 hl.symm;subst this;simpa [Ed] using ht
  | cons v vs=>
   cases mvs with
   | nil=>simp at hl
   | cons mv mvs=>
    simp only [Ed,List.zip_cons_cons,List.foldl_cons];refine ih vs mvs _ _ ⟨by simp [ht.1],fun i h1 h2=>?_⟩ (by simpa using hl) fun i h1 h2=>hv (i+1) (by simpa using h1) (by simpa using h2);by_cases hd:p=i
    ·subst hd;rw [List.getElem_set_self,Array.getElem_setIfInBounds_self];exact hv 0 (by simp) (by simp)
    ·rw [List.getElem_set_ne hd,Array.getElem_setIfInBounds_ne (by simpa using h2) hd];exact ht.2 i (by simpa using h1) (by simpa using h2)
theorem UF {w:World}{b:Nat}(o:Obj)(hb:b<w.heap.size):Wr w (w.putObj b o) b o:=
 ⟨by simp,fun b' h=>World.putObj_heap_other h,World.putObj_heap_same hb,rfl,rfl,rfl⟩
theorem HN {K:KM}{σ:AL}{w:World}(hR:Rel K σ w){r:Nat}{st:LoopState}{t:List EV}{ps:Array Tmp}{x y:Code}{pd:Option Code}(hr:σ[r]? =some (.loop st t ps x y pd)):
  ∃ rec:Loop,w.heap[K.vP r]? =some (.loop rec)/\rec.state=st/\rec.pending=pd/\rec.params=ps/\rec.assign=x/\rec.body=y/\aU K w t rec.tmps/\K.al r/\
   ∀ st' pd',Ext K σ w K (σ.set r (.loop st' t ps x y pd')) (w.putObj (K.vP r) (.loop { rec with state:=st',pending:=pd' }))/\Rel K (σ.set r (.loop st' t ps x y pd')) (w.putObj (K.vP r) (.loop { rec with state:=st',pending:=pd' })):=by
 obtain ⟨ha,fn,mt,d,h1,h2,h3⟩:=hR.obj r _ hr;have hlt:=hR.lt r _ hr rfl;refine ⟨_,h1,rfl,rfl,rfl,rfl,rfl,⟨h2,h3⟩,ha,fun st' pd'=>?_⟩;refine hR.write hr rfl (UF _ hlt) rfl fun σ' hE=>?_;exact ⟨ha,fn,mt,d,World.putObj_heap_same hlt,h2,fun i a b=>(h3 i a b).ext hE hR⟩
theorem aJ.normal {K:KM}{σ:AL}{w:World}{ds:List Deferred}{t:List EV}{s:AL}{next:Act->World->Prop}{r2:EX×List EV×AL}
  (hn:∀ K' w' a' bs,Ext K σ w K' s w'->Rel K' s w'->aU K' w' t a'.tmps->Marks K' s w w' ds a'.defers bs->next a' w') {e:Exit} {a:Act} {w':World}
  (hp:aJ K σ w ds (.normal,t,s) e a w'):Exit.then next (aJ K σ w ds r2) e a w':=by
 cases e with
 | outgrown=>exact hp.elim
 | normal=>obtain ⟨_,K',bs,e1,h3,h4,h5⟩:=hp; exact hn K' w' a bs e1 h3 h4 h5
 | exit i=>exact hp.1.elim
 | goto l=>exact hp.1.elim
 | ret=>exact hp.1.elim
 | panic c=>exact hp.1.elim
theorem UG (hD:dK V P G D)(ev:Operand->EV)(look:B5)(nm k:Nat)(σ1:AL)(o:Oper)(c:Call)(f:Operand)(r:Nat)(ho:o.op=.call c)(hcf:c.callee=.value f)(hev:ev f=.it r):
  Ok V (R8 D r (c.args.toList.map ev) σ1) fun q=>HM P G ev look nm k (some σ1) o (q.1,.heap q.2):=by
 unfold R8;split
 ·rename_i tmps ps assign body pd hrec;refine Ok.ite (fun hlen=>?_) fun _=>Ok.fail;refine Ok.bind (hD.round assign _ σ1) fun r1=>?_;obtain ⟨e1,t1,s1⟩:=r1;dsimp only;split
  ·rename_i tmps' ps' assign' body' pd' hrec1;refine Ok.bind (hD.round body t1 _) fun r2=>?_;obtain ⟨e2,t2,s2⟩:=r2;dsimp only;split
   ·rename_i st'' tmps'' ps'' assign'' body'' pd'' hrec2;have main:∀ (q:EV×AL),q=(match e2 with | .normal=>(.bool true,s2.set r (.loop .ready tmps'' ps'' assign'' body'' none)) | e=>(.bool false,s2.set r (.loop .done tmps'' ps'' assign'' body'' e.jump)))->
      aE P G true body t1 (s1.set r (.loop .busy tmps' ps' assign' body' pd')) (e2,t2,s2)->aE P G true assign (Ed tmps ps.toList (c.args.toList.map ev)) σ1 (.normal,t1,s1)->
      HM P G ev look nm k (some σ1) o (q.1,.heap q.2):=by
     intro q hq h2 h1 K σ w a hR hG hl hf hσ _ ht;obtain rfl:=hσ σ1 rfl;have hfv:=ht f;rw [hev] at hfv;have hfe:a.eval f=.func (.yield (K.vP r)) #[] #[]:=by
      generalize a.eval f=mv at hfv;cases hfv with
      | pure _ _ hp=>cases hp
      | it _ _=>rfl
     obtain ⟨rec,g1,g2,g3,g4,g5,g6,g7,hal,_⟩:=HN hR hrec;have hargs:=aU.cV ht c.args;have hsz:(c.args.map a.eval).size=rec.params.size:=by rw [g4,<-hlen]; simp
     have hy:=run_yield (P:=P) g1 hsz;refine .round (K.vP r) rec.fn ((rec.params.zip (c.args.map a.eval)).foldl (fun tmps (x:Tmp×Value)=>tmps.setIfInBounds x.1 x.2) rec.tmps) rec.assign rec.body ?_ fun ro=>?_
     ·simp only [execOp,ho,resolve,hcf,hfe,Deferred.ofValue,invoke,callFunc,Sem.run_bind,Sem.run_pure,uE,run_program,Array.append_empty,Array.empty_append];exact hy
     ·refine roundIn_of_wpIn (F:=eE ro) trivial ?_;rw [g5,g6];have hv0:aU K w (Ed tmps ps.toList (c.args.toList.map ev)) ((rec.params.zip (c.args.map a.eval)).foldl (fun tmps (x:Tmp×Value)=>tmps.setIfInBounds x.1 x.2) rec.tmps):=by
       rw [g4,<-Array.foldl_toList,Array.toList_zip];refine Nk ps.toList _ (c.args.map a.eval).toList tmps rec.tmps g7 (by simp) fun i x y=>?_;have:=hargs.2 i x (by simpa using y);simpa using this
      refine wpIn_mono (h1 (some (K.vP r)) K w { tmps:=(rec.params.zip (c.args.map a.eval)).foldl (fun tmps (x:Tmp×Value)=>tmps.setIfInBounds x.1 x.2) rec.tmps,defers:=[] } (fun _=>rfl) hR hG hv0) fun e a1 w1 hp=>?_;cases e with
      | outgrown=>exact hp.elim
      | exit i=>exact hp.1.elim
      | goto l=>exact hp.1.elim
      | ret=>exact hp.1.elim
      | panic ch=>exact hp.1.elim
      | normal=>
      obtain ⟨_,K1,bs1,x1,r1,v1,m1⟩:=hp;obtain ⟨rec1,k1,k2,k3,k4,k5,k6,k7,k8,k9⟩:=HN r1 hrec1;have hb1:K1.vP r=K.vP r:=(x1.vP r hal).1;obtain ⟨y1,y2⟩:=k9 .busy pd';refine ⟨_,run_beginRound (hb1▸k1) k2,?_⟩;have heq:({ rec1 with state:=.busy }:Loop)={ rec1 with state:=.busy,pending:=pd' }:=by rw [<-k3]
      rw [heq,<-hb1];refine wpIn_mono (h2 (some (K1.vP r)) K1 _ a1 (fun _=>rfl) y2 ((hG.ext x1 hR).ext y1 r1) (v1.ext y1 r1)) fun e a2 w2 hp2=>?_;have fin:∀ (K2:KM) (jump:Option Code) (σq:AL),Ext K1 (s1.set r (.loop .busy tmps' ps' assign' body' pd')) (w1.putObj (K1.vP r) (.loop { rec1 with state:=.busy,pending:=pd' })) K2 s2 w2->Rel K2 s2 w2->
        q=(.bool jump.isNone,s2.set r (.loop (if jump.isNone then .ready else .done) tmps'' ps'' assign'' body'' jump))->
        ∃ v w',(Instr.endRound (K1.vP r) jump).run P w2=.ok v w'/\∃ K',Ext K σ w K' q.2 w'/\Rel K' q.2 w'/\VR K' w' q.1 v:=by
       intro K2 jump σq x2 r2 hq';obtain ⟨rec2,n1,n2,n3,n4,n5,n6,n7,n8,n9⟩:=HN r2 hrec2;have hb2:K2.vP r=K1.vP r:=(x2.vP r k8).1;obtain ⟨z1,z2⟩:=n9 (if jump.isNone then .ready else .done) jump;refine ⟨_,_,run_endRound jump (hb2▸n1),K2,?_,?_,?_⟩
       ·rw [hq',<-hb2]; exact ((x1.trans y1).trans x2).trans z1
       ·rw [hq',<-hb2]; exact z2
       ·rw [hq']; exact .pure _ _ (.bool _)
      cases e with
      | outgrown=>exact hp2.elim
      | normal=>
       obtain ⟨q1,K2,bs,x2,r2,v2,m2⟩:=hp2;cases e2 with
       | normal=>exact fin K2 none σ x2 r2 hq
       | leave i=>exact q1.elim
       | ret=>exact q1.elim
      | exit j=>
       obtain ⟨q1,K2,bs,x2,r2,v2,m2⟩:=hp2;cases e2 with
       | normal=>exact q1.elim
       | leave i=>
        have q1:i=j:=q1;subst q1;exact fin K2 (some (.exit i)) σ x2 r2 hq
       | ret=>exact q1.elim
      | ret=>
       obtain ⟨q1,K2,bs,x2,r2,v2,m2⟩:=hp2;cases e2 with
       | normal=>exact q1.elim
       | leave i=>exact q1.elim
       | ret=>exact fin K2 (some .ret) σ x2 r2 hq
      | goto l=>obtain ⟨q1,_⟩:=hp2; cases e2<;>exact q1.elim
      | panic ch=>obtain ⟨q1,_⟩:=hp2; cases e2<;>exact q1.elim
    split
    ·exact Ok.pure fun h2 h1=>main _ rfl h2 h1
    ·rename_i he;exact Ok.pure fun h2 h1=>by
      refine main _ ?_ h2 h1;cases e2 with
      | normal=>exact absurd rfl he
      | leave i=>rfl
      | ret=>rfl
   ·exact Ok.fail
  ·exact Ok.fail
 ·exact Ok.fail
theorem SI (hD:dK V P G D)(ev:Operand->EV)(look:B5)(nm k:Nat)(σ0:Option AL)(o:Oper)(c:Call)(f:Operand)(ho:o.op=.call c)(hcf:c.callee=.value f):
  Ok V (QH D look nm k σ0 (ev f) (c.args.toList.map (ev))) fun r=>HM P G ev look nm k σ0 o r:=by
 unfold QH;split
 ·rename_i g first captured hev
  refine Ou hD ev look nm k σ0 o g _ (by obtain ⟨cal,ca,ct⟩:=c; simp only at hcf; subst hcf; rw [ho]; rfl) fun {K w a} ht hen=>?_;have hf:=ht f;rw [hev] at hf;obtain ⟨mf,mc,hev,h1,h2⟩:=hf.cE;obtain ⟨fn,hfn,hb,hne⟩:=hen;refine ⟨mf++c.args.map a.eval++mc,?_,(h1.append (aU.cV ht c.args)).append h2⟩;have hbn:fn.body.isNone=false:=by cases h:fn.body<;>simp_all
  simp only [execOp,ho,resolve,hcf,hev,Deferred.ofValue,invoke,callFunc,Sem.run_bind,Sem.run_pure,uE,run_program,hfn,hne,hbn,Bool.false_eq_true,if_false]
 ·rename_i r hev;split
  ·rename_i σ1;exact Ok.bind (UG hD ev look nm k σ1 o c f r ho hcf hev) fun q=>Ok.pure fun h=>h
  ·exact Ok.fail
 ·exact Ok.fail
theorem Xg {α:Type}(x:α)(xs:Array α):(#[x]++xs)[0]? =some x:=by
 rw [Array.getElem?_append_left (by simp)];rfl
theorem V8 {α:Type}(x:α)(xs:Array α):(#[x]++xs).extract 1 (#[x]++xs).size=xs:=by
 apply Array.ext';simp
theorem SJ {t:TypeId}{name:String}{g:FuncId}(h:QI P t name=some g)(w:World)(v:Value)(n:Nat):(method (n+1) t v name).run P w=.ok (g,v) w:=by
 unfold QI at h;split at h
 ·cases h
 ·rename_i i d hnp hi hd;split at h
  ·rename_i m hm;split at h
   ·rename_i hp;split at h
    ·rename_i f hf;obtain rfl:=uC h;have hpath:m.path.toList=[]:=by simpa using hp
     unfold method;simp only [Sem.run_bind,Hc hi,uE,hm,hpath,follow,Sem.run_pure,hf,receiverAt,AP hd];cases d<;>first | exact absurd rfl (hnp _) | simp [Place.get]
    ·cases h
   ·cases h
  ·cases h
 ·cases h
theorem RA (hD:dK V P G D)(ev:Operand->EV)(look:B5)(nm k:Nat)(σ0:Option AL)(o:Oper)(c:Call)(r:Operand)(name:String)(ho:o.op=.call c)(hcf:c.callee=.invoke r name):
  Ok V (NT D P look nm k σ0 (ev r) name (c.args.toList.map (ev))) fun q=>HM P G ev look nm k σ0 o q:=by
 unfold NT;split
 ·rename_i t v hev;refine Ok.dI fun g hg=>?_
  ·refine Ou hD ev look nm k σ0 o g _ (by obtain ⟨cal,ca,ct⟩:=c; simp only at hcf; subst hcf; rw [ho]; rfl) fun {K w a} ht hen=>?_;have hf:=ht r;rw [hev] at hf;obtain ⟨mv,hmv,h1⟩:=hf.bI;obtain ⟨fn,hfn,hb,hne⟩:=hen;refine ⟨#[mv]++c.args.map a.eval,?_,aU.append ⟨rfl,fun i g1 g2=>?_⟩ (aU.cV ht c.args)⟩
   ·have hbn:fn.body.isNone=false:=by cases h:fn.body<;>simp_all
    have hm:=SJ (P:=P) hg w mv (P.types.size+99);have h0:(#[Value.iface t mv]++Array.map a.eval c.args)[0]? =some (Value.iface t mv):=Xg _ _;have h1:(#[Value.iface t mv]++Array.map a.eval c.args).extract 1 (#[Value.iface t mv]++Array.map a.eval c.args).size=c.args.map a.eval:=V8 _ _;simp only [execOp,ho,resolve,hcf,invoke,Sem.run_bind,Sem.run_pure,uE,Array.append_empty,hmv,h0,h1,callMethod,run_program];rw [show P.types.size+Made.depth=P.types.size+99+1 from rfl];simp only [hm,uE,callFunc,Sem.run_bind,run_program,hfn,hne,hbn,Bool.false_eq_true,if_false,Sem.run_pure]
   ·have:i=0:=by simp at g1; omega
    subst this;exact h1
 ·exact Ok.fail
end
end Go.Ev
namespace Go.Ev
section
variable {P:Program}{S:Type}{V:S->Prop}{G:Nat->Option (List EV)}{D:Drv S}
theorem VR.notPtrNil {K:KM}{w:World}{x:EV}{mx:Value}(h:VR K w x mx)
  (hx:(∃ r k,x=.ptr r k)∨(∃ r e i k,x=.pe r e i k)∨(∃ c k,x=.ip c k)∨(∃ f a b,x=.func (.func f) a b)∨∃ t v,x=.iface t v) (o:Oper) (ρ:Operand->Value) (y:Operand)
  (ho:o.op=.nilCheck y) (hy:ρ y=mx):execOp ρ o=(Pure.pure (Next.value mx):Sem Next):=by
 rcases hx with ⟨r,k,rfl⟩ | ⟨r,e,i,k,rfl⟩ | ⟨c,k,rfl⟩ | ⟨f,a,b,rfl⟩ | ⟨t,v,rfl⟩
 ·obtain ⟨rfl,_⟩:=h.bO; simp only [execOp,ho,hy]
 ·obtain ⟨rfl,_⟩:=h.bS; simp only [execOp,ho,hy]
 ·obtain ⟨b,o',rfl,_⟩:=h.dO; simp only [execOp,ho,hy]
 ·obtain ⟨mf,mc,rfl,_⟩:=h.cE; simp only [execOp,ho,hy]
 ·obtain ⟨mv,rfl,_⟩:=h.bI; simp only [execOp,ho,hy]
theorem V9 (ts:Array TypeId)(t:TypeId)(h:ts[0]? =some t)(ty:TypeId)(args:Array Value):Builtin.len_ ts ty args=Builtin.len_ #[t] ty args:=by
 simp [Builtin.len_,h]
theorem Ov {α:Type}{a:Array α}{x:α}(h:a.toList=[x]):a=#[x]:=by
 apply Array.ext'; simpa using h
theorem Ow {α:Type}{a:Array α}{x y:α}(h:a.toList=[x,y]):a=#[x,y]:=by
 apply Array.ext'; simpa using h
theorem Nl {α β:Type}{f:α->β}{l:List α}{y:β}(h:l.map f=[y]):∃ x,l=[x]/\f x=y:=by
 cases l with
 | nil=>simp at h
 | cons a l=>cases l with
  | nil=>exact ⟨a,rfl,by simpa using h⟩
  | cons=>simp at h
theorem Nm {α β:Type}{f:α->β}{l:List α}{y z:β}(h:l.map f=[y,z]):∃ x x',l=[x,x']/\f x=y/\f x'=z:=by
 cases l with
 | nil=>simp at h
 | cons a l=>cases l with
  | nil=>simp at h
  | cons b l=>cases l with
   | nil=>exact ⟨a,b,rfl,by simpa using h⟩
   | cons=>simp at h
theorem SK {Φ:EV×Eff->Prop}:Ok V (quiet (M.fail:M S EV)) Φ:=by
 unfold quiet;exact Ok.bind (Φ:=fun _=>False) Ok.fail fun v=>Ok.pure fun h=>h.elim
theorem aU.cons_inv {K:KM}{w:World}{x:EV}{xs:List EV}{arr:Array Value}(h:aU K w (x :: xs) arr):
  ∃ mx mxs,arr.toList=mx :: mxs/\VR K w x mx/\xs.length=mxs.length/\∀ i (h:i<xs.length) (h':i<mxs.length),VR K w xs[i] mxs[i]:=by
 obtain ⟨l⟩:=arr;obtain ⟨hl,hv⟩:=h;cases l with
 | nil=>simp at hl
 | cons mx mxs=>
  refine ⟨mx,mxs,rfl,hv 0 (by simp) (by simp),by simpa using hl,fun i h1 h2=>hv (i+1) (by simpa using h1) (by simpa using h2)⟩
theorem RB (hD:dK V P G D)(ev:Operand->EV)(look:B5)(nm k:Nat)(σ0:Option AL)(o:Oper)(c:Call)(b:Builtin)(ho:o.op=.call c)(hcf:c.callee=.builtin b):
  Ok V (NU D P look nm b c.argTypes (c.args.toList.map (ev))) fun r=>HM P G ev look nm k σ0 o r:=by
 have hexec:∀ a:Act,execOp a.eval o=builtin b c.argTypes o.type (c.args.map fun | .const _=>true | _=>false) (c.args.map a.eval):=by
  intro a;simp only [execOp,ho,resolve,hcf];rfl
 obtain ⟨l,hl⟩:∃ l,c.args.toList.map (ev)=l:=⟨_,rfl⟩
 rw [hl];unfold NU;split
 ·rename_i x;obtain ⟨y,hy,hxy⟩:=Nl hl;have hca:=Ov hy;split
  ·rename_i t ht;refine CF (run:=fun a=>Builtin.len_ c.argTypes o.type (c.args.map a.eval)) (fun a=>by rw [hexec]; rfl) ((Xe look t x).mono fun v hv K w a hL hG ht'=>?_);have h1:=ht' y;rw [hxy] at h1;obtain ⟨mv,r1,r2⟩:=hv K w _ o.type hL h1;exact ⟨mv,by rw [V9 _ t ht,hca]; simpa using r1,r2⟩
  ·exact Ok.fail
 ·rename_i s x;obtain ⟨y,z,hy,hsy,hxz⟩:=Nm hl;have hca:=Ow hy;split
  ·rename_i t t' ht ht';split
   ·exact Ok.fail
   ·rename_i d' hni hd';refine Fy (run:=fun a=>Builtin.append_ c.argTypes o.type (c.args.map a.eval)) (fun a=>by rw [hexec]; rfl) ((SD hD look nm t t' d' hd' (fun k h=>hni k h) s x).mono fun r hv K σ w a hR hG hlk hf htm=>?_);have h1:=htm y;have h2:=htm z;rw [hsy] at h1;rw [hxz] at h2;obtain ⟨mv,w',K',r1,r2,r3,r4⟩:=hv K σ w _ _ o.type c.argTypes ht ht' hR hlk (hf (by simp [makes,ho]; rw [show c={ callee:=.builtin .append,args:=c.args,argTypes:=c.argTypes } from by rw [<-hcf]])) h1 h2;exact ⟨mv,w',K',by rw [hca]; simpa using r1,r2,r3,r4⟩
   ·exact Ok.fail
  ·exact Ok.fail
 ·rename_i d x;obtain ⟨y,z,hy,hsy,hxz⟩:=Nm hl;have hca:=Ow hy;split
  ·rename_i t ht;refine Fy (run:=fun a=>Builtin.copy_ c.argTypes o.type (c.args.map a.eval)) (fun a=>by rw [hexec]; rfl) ((V6 hD look t d x).mono fun u hv K σ w a hR hG hlk hf htm=>?_);have h1:=htm y;have h2:=htm z;rw [hsy] at h1;rw [hxz] at h2;obtain ⟨mv,w',K',r1,r2,r3,r4⟩:=hv K σ w _ _ o.type c.argTypes ht hR hlk h1 h2;exact ⟨mv,w',K',by rw [hca]; simpa using r1,r2,r3,r4⟩
  ·exact Ok.fail
 ·rename_i x;obtain ⟨y,hy,hxy⟩:=Nl hl;have hca:=Ov hy;split
  ·rename_i t ht;refine Fy (run:=fun a=>Builtin.clear_ c.argTypes o.type (c.args.map a.eval)) (fun a=>by rw [hexec]; rfl) ((T9 look t x).mono fun u hv K σ w a hR hG hlk hf htm=>?_);have h1:=htm y;rw [hxy] at h1;obtain ⟨w',K',r1,r2,r3,r4⟩:=hv K σ w _ o.type c.argTypes ht hR hlk h1;exact ⟨_,w',K',by rw [hca]; simpa using r1,r2,r3,by rw [r4]; exact .pure _ _ (.undef _)⟩
  ·exact Ok.fail
 ·rename_i x xs;refine CF (run:=fun a=>Builtin.min_ c.argTypes o.type (c.args.map a.eval)) (fun a=>by rw [hexec]; rfl) (Ok.lift fun v hv K w a hL hG ht'=>?_);have hm:=aU.cV ht' c.args;rw [hl] at hm;obtain ⟨mx,mxs,hml,h0,hln,hvs⟩:=hm.cons_inv;obtain ⟨mv,r1,r2⟩:=UA (P:=P) xs x v mx mxs hv h0 hln hvs;exact ⟨mv,by simp only [Builtin.min_,hml]; exact r1,r2⟩
 ·rename_i x xs;refine CF (run:=fun a=>Builtin.max_ c.argTypes o.type (c.args.map a.eval)) (fun a=>by rw [hexec]; rfl) (Ok.lift fun v hv K w a hL hG ht'=>?_);have hm:=aU.cV ht' c.args;rw [hl] at hm;obtain ⟨mx,mxs,hml,h0,hln,hvs⟩:=hm.cons_inv;obtain ⟨mv,r1,r2⟩:=UB (P:=P) xs x v mx mxs hv h0 hln hvs;exact ⟨mv,by simp only [Builtin.max_,hml]; exact r1,r2⟩
 ·exact Ok.fail
set_option maxHeartbeats 2000000 in
theorem ZZ (hD:dK V P G D)(ev:Operand->EV)(look:B5)(nm k:Nat)(σ0:Option AL)(o:Oper):
  Ok V (eOp D P (ev) look nm k σ0 o) fun r=>HM P G ev look nm k σ0 o r:=by
 unfold eOp;split
 ·rename_i x ho;exact CF (run:=fun a=>pure (a.eval x)) (fun a=>by simp only [execOp,ho]<;>rfl) (Ok.pure fun K w a _ hG ht=>⟨a.eval x,by simp,ht x⟩)
 ·rename_i x ho;exact CF (run:=fun a=>pure (a.eval x)) (fun a=>by simp only [execOp,ho]<;>rfl) (Ok.pure fun K w a _ hG ht=>⟨a.eval x,by simp,ht x⟩)
 ·rename_i c x y ho;refine CF (run:=fun a=>do pure (if<-asBool (a.eval c) then a.eval x else a.eval y)) (fun a=>by simp [execOp,ho]) ?_;split
  ·rename_i t hc;refine Ok.bind (hD.br t) fun d=>Ok.ite (fun hd=>Ok.pure ?_) fun hd=>Ok.pure ?_
   ·intro hb K w a _ hG ht;have h1:=ht c;rw [hc] at h1;have hbt:t=true:=by rw [<-hb]; exact hd
    exact ⟨a.eval x,by simp [h1.bC,asBool,hbt],ht x⟩
   ·intro hb K w a _ hG ht;have h1:=ht c;rw [hc] at h1;have hbt:t=false:=by rw [<-hb]; simpa using hd
    exact ⟨a.eval y,by simp [h1.bC,asBool,hbt],ht y⟩
  ·exact Ok.fail
 ·rename_i t ho;refine Fy (run:=fun a=>Instr.alloc t true (.tuple #[])) (fun a=>by simp only [execOp,ho]) ((Tz nm t).mono fun r hv K σ w a hR hG hl hf ht=>?_);exact hv K σ w hR (hf (by simp [makes,ho]))
 ·rename_i t x ho;refine Fy (run:=fun a=>Instr.box t (a.eval x)) (fun a=>by simp only [execOp,ho]) ((Xf (P:=P) nm t _).mono fun r hv K σ w a hR hG hl hf ht=>?_);exact hv K σ w _ hR (hf (by simp [makes,ho])) (ht x)
 ·rename_i t parts ho;refine CF (run:=fun a=>Instr.build t (parts.map fun (x:Nat×Operand)=>(x.1,a.eval x.2))) (fun a=>by simp only [execOp,ho]<;>rfl) ((Tt t _).mono fun v hv K w a _ hG ht=>?_);obtain ⟨p1,p2⟩:=Nh ht parts;exact hv K w _ p1 p2
 ·rename_i t len parts ho;refine Fy (run:=fun a=>Instr.buildSlice t len (parts.map fun (x:Nat×Operand)=>(x.1,a.eval x.2))) (fun a=>by simp only [execOp,ho]<;>rfl) ((Nc nm t len _).mono fun r hv K σ w a hR hG hl hf ht=>?_);obtain ⟨p1,p2⟩:=Nh ht parts;exact hv K σ w _ hR (hf (by simp [makes,ho])) p1 p2
 ·rename_i t x ho;refine CF (run:=fun a=>Instr.loadAt t (a.eval x)) (fun a=>by simp only [execOp,ho]) ((V0 hD.br hD.bJ look t _).mono fun v hv K w a hL hG ht=>?_);exact hv K w _ hL (ht x)
 ·rename_i t x y ho;refine M7 (run:=fun a=>Instr.storeAt t (a.eval x) (a.eval y)) (fun a=>by simp only [execOp,ho]) ((T7 hD look t _ _).mono fun u hv K σ w a hR hG hl ht=>?_);exact hv K σ w _ _ hR hl (ht x) (ht y)
 ·rename_i x ho;have nc:∀ {v:EV},ev x=v->((∃ r k,v=.ptr r k)∨(∃ r e i k,v=.pe r e i k)∨(∃ c k,v=.ip c k)∨(∃ f a b,v=.func (.func f) a b)∨∃ t u,v=.iface t u)->
    Ok V (quiet (Pure.pure v:M S EV)) fun r=>HM P G ev look nm k σ0 o r:=by
   intro v hv hs;unfold quiet;refine Ok.bind (Ok.pure (Φ:=fun u=>u=v) rfl) fun u=>Ok.pure ?_;intro hu K σ w a hR hG hl _ _ _ ht;subst hu;have h1:=ht x;rw [hv] at h1;exact .value (a.eval x) w (by rw [h1.notPtrNil hs o a.eval x ho rfl]; rfl) ⟨K,Ext.refl _ _ _,hR,h1⟩
  split
  ·rename_i r k he; exact nc he (.inl ⟨_,_,rfl⟩)
  ·rename_i r e i k he; exact nc he (.inr (.inl ⟨_,_,_,_,rfl⟩))
  ·rename_i c k he; exact nc he (.inr (.inr (.inl ⟨_,_,rfl⟩)))
  ·rename_i f a b he; exact nc he (.inr (.inr (.inr (.inl ⟨_,_,_,rfl⟩))))
  ·rename_i t v he; exact nc he (.inr (.inr (.inr (.inr ⟨_,_,rfl⟩))))
  ·exact SK
 ·rename_i op t x y yt ho;refine CF (run:=fun a=>do eqGuard op t x y (a.eval x) (a.eval y); binOp op t (a.eval x) (a.eval y)) (fun a=>by simp only [execOp,ho]) ?_;split
  ·rename_i k a k' b hx hy;refine (S2 hD op t _ _).mono fun v hv K w ac _ hG ht=>?_;have h1:=ht x;have h2:=ht y;rw [hx] at h1; rw [hy] at h2;obtain ⟨mv,r1,r2⟩:=hv K w _ _ h1 h2;refine ⟨mv,?_,r2⟩;rw [Sem.run_bind,IJ (by rw [h1.uW]; simp) (by rw [h1.uW]; simp),uE];exact r1
  ·rename_i a b hx hy;refine (S2 hD op t _ _).mono fun v hv K w ac _ hG ht=>?_;have h1:=ht x;have h2:=ht y;rw [hx] at h1; rw [hy] at h2;obtain ⟨mv,r1,r2⟩:=hv K w _ _ h1 h2;refine ⟨mv,?_,r2⟩;rw [Sem.run_bind,IJ (by rw [h1.bD]; simp) (by rw [h1.bD]; simp),uE];exact r1
  ·rename_i vx vy hni hns;refine (ZX op t _ _ x y ?_ ?_).mono fun v hv K w ac _ hG ht=>hv K w _ _ (ht x) (ht y)
   ·exact fun k n k' n' h1 h2=>hni k n k' n' h1 h2
   ·exact fun a b h1 h2=>hns a b h1 h2
 ·rename_i op t x ho;exact CF (run:=fun a=>Op.unary op (a.eval x)) (fun a=>by simp only [execOp,ho]<;>rfl) ((ZW hD op _).mono fun v hv K w a _ hG ht=>hv K w _ (ht x))
 ·rename_i src dst x ho;refine Fy (run:=fun a=>convert src dst (a.eval x)) (fun a=>by simp only [execOp,ho]<;>rfl) ((Q8 hD look nm src dst _).mono fun r hv K σ w a hR hG hl hf ht=>?_);exact hv K σ w _ hR hl (hf (by simp [makes,ho])) (ht x)
 ·rename_i t x ho;refine CF (run:=fun a=>Instr.makeInterface t (a.eval x)) (fun a=>by simp only [execOp,ho]<;>rfl) ?_;split
  ·exact Ok.fail
  ·rename_i d hni hu;refine Ok.pure fun K w a _ hG ht=>⟨.iface t (a.eval x),?_,.iface t _ _ (ht x)⟩
   simp only [Instr.makeInterface,Sem.run_bind,AP hu,uE];cases d<;>first | exact absurd rfl (hni _) | rfl
  ·exact Ok.fail
 ·rename_i fn first captured ho
  refine CF (run:=fun a=>Instr.makeFunc fn (first.map a.eval) (captured.map a.eval)) (fun a=>by simp only [execOp,ho]<;>rfl) (Ok.pure fun K w a _ hG ht=>?_);have h1:=aU.cV ht first
  have h2:=aU.cV ht captured;exact ⟨_,rfl,.func fn _ _ _ _ h1.1 h2.1 h1.2 h2.2⟩
 ·rename_i t ho;refine Fy (run:=fun a=>Instr.makeMap t none) (fun a=>by simp only [execOp,ho]<;>rfl) (Ok.pure fun K σ w a hR hG hl hf ht=>?_);exact SE nm t hR (hf (by simp [makes,ho]))
 ·rename_i t l c ho;refine Fy (run:=fun a=>Instr.makeSlice t (a.eval l) (a.eval c)) (fun a=>by simp only [execOp,ho]<;>rfl) ((Og hD nm t _ _).mono fun r hv K σ w a hR hG hl hf ht=>?_);exact hv K σ w _ _ hR (hf (by simp [makes,ho])) (ht l) (ht c)
 ·rename_i t x lo hi mx ho;refine CF (run:=fun a=>Instr.sliceAt t (a.eval x) (lo.map a.eval) (hi.map a.eval) (mx.map a.eval)) (fun a=>by simp only [execOp,ho]<;>rfl) ((Tu hD look t _ _ _ _).mono fun v hv K w a hL hG ht=>?_);exact hv K w _ _ _ _ hL (ht x) (Ni ht lo) (Ni ht hi) (Ni ht mx)
 ·rename_i t x f ho;exact CF (run:=fun a=>Instr.fieldAt t (a.eval x) f) (fun a=>by simp only [execOp,ho]<;>rfl) ((Tp t _ f).mono fun v hv K w a _ hG ht=>hv K w _ (ht x))
 ·rename_i t x f ho;refine CF (run:=fun a=>Instr.field t (a.eval x) f) (fun a=>by simp only [execOp,ho]<;>rfl) ?_;split
  ·rename_i fields cs hu hx;split
   ·rename_i fd hfd;refine Ok.bind (Ok.lift (Φ:=fun n=>BP P fd.type=some n) fun n h=>h) fun n=>?_;refine Ok.bind (Ok.lift (Φ:=fun n=>KJ P fd.type=some n) fun n h=>h) fun g=>?_;refine Ok.lift fun v hv hg hn K w a _ hG ht=>?_;have h1:=ht x;rw [hx] at h1;obtain ⟨mcs,he,hl,hc⟩:=h1.aY;obtain ⟨mv,p1,p2⟩:=Fz (P:=P) hn hg hl hc hv;exact ⟨mv,by simp only [Instr.field,Sem.run_bind,AP hu,uE,hfd,he,asAgg,Sem.run_pure,p1],p2⟩
   ·exact Ok.fail
  ·exact Ok.fail
 ·rename_i t x ix ho;exact CF (run:=fun a=>Instr.indexAt t (a.eval x) (a.eval ix)) (fun a=>by simp only [execOp,ho]<;>rfl) ((Ob hD t _ _).mono fun v hv K w a _ hG ht=>hv K w _ _ (ht x) (ht ix))
 ·rename_i t x ix ho;exact CF (run:=fun a=>Instr.index t (a.eval x) (a.eval ix)) (fun a=>by simp only [execOp,ho]<;>rfl) ((Tq hD t _ _).mono fun v hv K w a _ hG ht=>hv K w _ _ (ht x) (ht ix))
 ·rename_i t x ix ok ho;exact CF (run:=fun a=>Instr.lookup t (a.eval x) (a.eval ix) ok) (fun a=>by simp only [execOp,ho]<;>rfl) ((SB hD look t _ _ ok).mono fun v hv K w a hL hG ht=>hv K w _ _ hL (ht x) (ht ix))
 ·rename_i t m k x ho;exact M7 (run:=fun a=>Instr.mapUpdate t (a.eval m) (a.eval k) (a.eval x)) (fun a=>by simp only [execOp,ho]<;>rfl) ((KQ hD look t _ _ _).mono fun u hv K σ w a hR hG hl ht=>hv K σ w _ _ _ hR hl (ht m) (ht k) (ht x))
 ·rename_i t m k x ho;exact M7 (run:=fun a=>Instr.mapUpdate t (a.eval m) (a.eval k) (a.eval x)) (fun a=>by simp only [execOp,ho]<;>rfl) ((KQ hD look t _ _ _).mono fun u hv K σ w a hR hG hl ht=>hv K σ w _ _ _ hR hl (ht m) (ht k) (ht x))
 ·rename_i t m k ho;exact Fy (run:=fun a=>Instr.mapEntry t (a.eval m) (a.eval k)) (fun a=>by simp only [execOp,ho]<;>rfl) ((QT hD look t _ _).mono fun u hv K σ w a hR hG hl _ ht=>hv K σ w _ _ hR hl (ht m) (ht k))
 ·rename_i t m k x ho;exact M7 (run:=fun a=>Instr.entryStore t (a.eval m) (a.eval k) (a.eval x)) (fun a=>by simp only [execOp,ho]<;>rfl) ((Nf hD look t _ _ _).mono fun u hv K σ w a hR hG hl ht=>hv K σ w _ _ _ hR hl (ht m) (ht k) (ht x))
 ·rename_i x xt asserted ok ho;exact CF (run:=fun a=>Instr.typeAssert (a.eval x) xt asserted ok) (fun a=>by simp only [execOp,ho]<;>rfl) ((SA _ xt asserted ok).mono fun v hv K w a _ hG ht=>hv K w _ (ht x))
 ·rename_i t ix ho;refine CF (run:=fun a=>Instr.extract (a.eval t) ix) (fun a=>by simp only [execOp,ho]<;>rfl) ?_;split
  ·rename_i vs hx;refine Ok.lift fun v hv K w a _ hG ht=>?_;have h1:=ht t;rw [hx] at h1;obtain ⟨mcs,he,hl,hc⟩:=h1.tuple_inv;obtain ⟨hi,rfl⟩:=List.getElem?_eq_some_iff.1 hv;have hi':ix<mcs.size:=by omega
   exact ⟨mcs[ix],by simp [Instr.extract,he,hi'],hc ix hi hi'⟩
  ·exact Ok.fail
 ·rename_i c ho;split
  ·rename_i b hc;exact RB hD ev look nm k σ0 o c b ho hc
  ·rename_i f hc;exact SI hD ev look nm k σ0 o c f ho hc
  ·rename_i r name hc;exact RA hD ev look nm k σ0 o c r name ho hc
 ·exact Ok.fail
theorem QV (hD:dK V P G D)(ev:Operand->EV)(look:B5)(nm k:Nat)(σ0:Option AL)(o:Oper):
  Ok V (Xc D P ev look nm k σ0 o) fun r=>HM P G ev look nm k σ0 o r:=
 Ok.bind (ZZ hD ev look nm k σ0 o) fun q=>(hD.uX q).mono fun y hy h=>by subst hy; exact h
end
end Go.Ev
namespace Go.Ev
theorem Hf (tmps:List EV)(dst:Option Tmp)(v:EV)(t:Nat):(F7 tmps dst v)[t]? =if dst=some t/\t<tmps.length then some v else tmps[t]? :=by
 unfold F7;split
 ·rename_i d;rw [M3,List.getElem?_set];by_cases h:d=t
  ·subst h;by_cases h':d<tmps.length<;>simp [h']
  ·simp [h]
 ·simp
theorem Nn (tmps:List EV)(dst:Option Tmp)(v:EV):(F7 tmps dst v).length=tmps.length:=by
 unfold F7; split<;>simp [M3]
theorem aU.put {K:KM}{w:World}{tmps:List EV}{a:Act}(h:aU K w tmps a.tmps)(dst:Option Tmp){v:EV}{mv:Value}(hv:VR K w v mv):aU K w (F7 tmps dst v) (a.put dst mv).tmps:=by
 cases dst with
 | none=>exact h
 | some d=>
  refine ⟨by simp [F7,M3,Act.put,h.1],fun i h1 h2=>?_⟩;simp only [F7,M3,Act.put] at h1 h2 ⊢;by_cases hd:d=i
  ·subst hd;simpa using hv
  ·rw [List.getElem_set_ne hd,Array.getElem_setIfInBounds_ne (by simpa using h2) hd];exact h.2 i (by simpa using h1) (by simpa using h2)
theorem put_defers (a:Act)(dst:Option Tmp)(v:Value):(a.put dst v).defers=a.defers:=by cases dst<;>rfl
section
variable {P:Program}{S:Type}{V:S->Prop}{G:Nat->Option (List EV)}{D:Drv S}
theorem Rel.pad {K:KM}{σ:AL}{w:World}(hr:Rel K σ w)(n:Nat):Ext K σ w K (σ++List.replicate n .free) w/\Rel K (σ++List.replicate n .free) w:=by
 have hget:∀ r o,(σ++List.replicate n fE.free)[r]? =some o->σ[r]? =some o∨(o=.free/\σ.length<=r):=by
  intro r o h;rw [List.getElem?_append] at h;split at h
  ·exact .inl h
  ·rename_i hge;have:=List.mem_of_getElem? h;exact .inr ⟨List.eq_of_mem_replicate this,by omega⟩
 have hown:∀ b,aD K (σ++List.replicate n fE.free) b->aD K σ b:=by
  rintro b ⟨r,o,h1,h2,h3⟩
  rcases hget r o h1 with h | ⟨rfl,_⟩
  ·exact ⟨r,o,h,h2,h3⟩
  ·simp [fE.live] at h2
 refine ⟨⟨by simp,fun _ h=>h,fun _ _=>⟨rfl,rfl,rfl,rfl⟩,fun _ h=>h,fun _ h=>.inl h,fun b h=>.inr (hown b h),fun _ _ _=>rfl,Nat.le_refl _,rfl,rfl,rfl⟩,?_,?_,fun b hb=>hr.cD b (hown b hb),?_,hr.Flt,fun r h=>by have:=hr.alt r h; simp; omega⟩
 ·intro r o h;rcases hget r o h with h | ⟨rfl,hge⟩
  ·exact hr.obj r o h
  ·intro hal;have:=hr.alt r hal; omega
 ·intro r1 r2 o1 o2 h1 h2 l1 l2 hb;rcases hget r1 o1 h1 with h1 | ⟨rfl,_⟩
  ·rcases hget r2 o2 h2 with h2 | ⟨rfl,_⟩
   ·exact hr.inj r1 r2 o1 o2 h1 h2 l1 l2 hb
   ·simp [fE.live] at l2
  ·simp [fE.live] at l1
 ·intro r o h ht;rcases hget r o h with h | ⟨rfl,_⟩
  ·exact hr.lt r o h ht
  ·simp [fE.there] at ht
def dM (ops:Array Oper)(tmps:List EV)(o:Oper)(d:Bool):Prop:=
 match o.guard with
 | none=>d=true
 | some (j,want)=>∃ dst,((ops[j]?).bind (·.dst))=some dst/\((∃ b,tmps[dst]? =some (.bool b)/\d=(b==want))∨(tmps[dst]? =some (.tuple [])/\d=false))
theorem Ka (hD:dK V P G D)(ops:Array Oper)(tmps:List EV)(o:Oper):Ok V (Kt D ops tmps o) (dM ops tmps o):=by
 unfold Kt dM;cases hg:o.guard with
 | none=>exact Ok.pure rfl
 | some q=>
  obtain ⟨j,want⟩:=q;dsimp only;split
  ·rename_i b hb;refine Ok.bind (hD.br b) fun d=>Ok.pure fun hd=>?_;obtain ⟨dst,h1,h2⟩:=Option.map_eq_some_iff.1 hb;subst hd;refine ⟨dst,h1,.inl ⟨d,?_,rfl⟩⟩;rw [GI,uA] at h2;cases h:tmps[dst]? with
   | none=>rw [h] at h2; simp at h2
   | some x=>rw [h] at h2; simpa using h2
  ·rename_i hb;refine Ok.pure ?_;obtain ⟨dst,h1,h2⟩:=Option.map_eq_some_iff.1 hb;refine ⟨dst,h1,.inr ⟨?_,rfl⟩⟩;rw [GI,uA] at h2;cases h:tmps[dst]? with
   | none=>rw [h] at h2; simp at h2
   | some x=>rw [h] at h2; simpa using h2
  ·exact Ok.fail
theorem dM.wanted {ops:Array Oper}{tmps:List EV}{o:Oper}{d:Bool}(h:dM ops tmps o d){K:KM}{w:World}{a:Act}
  (ht:∀ j want dst,o.guard=some (j,want)->((ops[j]?).bind (·.dst))=some dst->∀ v,tmps[dst]? =some v->∃ mv,a.tmps[dst]? =some mv/\VR K w v mv):
  Region.wanted o (yielded ops a.tmps)=d:=by
 unfold dM at h;unfold Region.wanted;split at h
 ·rename_i hg; simp [hg,h]
 ·rename_i j want hg;obtain ⟨dst,h1,⟨b,h2,h3⟩ | ⟨h2,h3⟩⟩:=h
  ·obtain ⟨mv,hm,hv⟩:=ht j want dst hg h1 _ h2;obtain rfl:=hv.bC;simp only [hg,yielded,h1,Option.bind_some,hm,h3];cases b<;>cases want<;>rfl
  ·obtain ⟨mv,hm,hv⟩:=ht j want dst hg h1 _ h2;obtain ⟨mcs,rfl,_,_⟩:=hv.tuple_inv;simp only [hg,yielded,h1,Option.bind_some,hm,h3];cases want<;>rfl
theorem Lk {σ:AL}{nm k:Nat}{o:Oper}(h:KX σ nm k o=true):∀ i,i<cF k o.op->σ[nm+i]? =some .free:=by
 intro i hi;unfold KX at h;rw [uF,List.all_eq_true] at h;have:=h.2 i (by simpa using hi);split at this
 ·assumption
 ·cases this
theorem Ll {σ:AL}{nm k:Nat}{o:Oper}(h:KX σ nm k o=true):Ku o.op=false:=by
 unfold KX at h;rw [uF] at h;simpa using h.1
def Za (P:Program)(G:Nat->Option (List EV))(ops:Array Oper)(os:List Oper)(tmps:List EV)(σ:AL)(r:List EV×AL):Prop:=
 ∀ (ro:Option Nat) (ds:List Deferred) (K:KM) (w:World) (a:Act) (l:List Nat),Rel K σ w->dY G K.F w->aU K w tmps a.tmps->a.defers=ds->l.map (fun i=>ops[i]?)=os.map some->
  ∀ Q,(∀ K' w' a',Ext K σ w K' r.2 w'->Rel K' r.2 w'->aU K' w' r.1 a'.tmps->a'.defers=ds->Q .normal a' w')->wpOpsIn (eE ro) 0 P ops Q l a w
theorem QW (hD:dK V P G D)(k:Nat)(ops:Array Oper):∀ (os:List Oper) (nm:Nat) (tmps:List EV) (σ:AL),Ok V (Tn D P G k ops os nm tmps σ) (Za P G ops os tmps σ)
 | [],nm,tmps,σ=>by
  unfold Tn;refine Ok.pure fun ro ds K w a l hR hG ht hd hl Q hQ=>?_;obtain rfl:l=[]:=by simpa using hl
  exact hQ K w a (Ext.refl _ _ _) hR ht hd
 | o :: rest,nm,tmps,σ=>by
  unfold Tn;refine Ok.bind (Ka hD ops tmps o) fun d=>?_;have hguard:∀ {K:KM} {w:World} {a:Act},aU K w tmps a.tmps->∀ j want dst,o.guard=some (j,want)->((ops[j]?).bind (·.dst))=some dst->∀ v,tmps[dst]? =some v->∃ mv,a.tmps[dst]? =some mv/\VR K w v mv:=by
   intro K w a ht j want dst _ _ v hv;obtain ⟨h1,rfl⟩:=List.getElem?_eq_some_iff.1 hv;have h2:dst<a.tmps.size:=by rw [<-ht.1]; exact h1
   exact ⟨a.tmps[dst],by simp [h2],ht.2 dst h1 h2⟩
  refine Ok.ite (fun hdt=>?_) fun hdf=>?_
  ·refine Ok.ite (fun hfree=>?_) fun _=>Ok.fail;refine Ok.bind (QV hD (FJ G tmps) (fun r=>σ[r]?) nm k (some σ) o) fun r=>?_;obtain ⟨v,e⟩:=r;dsimp only;refine (QW hD k ops rest _ (F7 tmps o.dst v) (e.on σ)).mono fun q hq hsem hw ro ds K w a l hR hG ht hd hl Q hQ=>?_;cases l with
   | nil=>simp at hl
   | cons i l=>
    simp only [List.map_cons,List.cons.injEq] at hl;obtain ⟨hio,hl⟩:=hl;have hwant:Region.wanted o (yielded ops a.tmps)=true:=by rw [hw.wanted (hguard ht)]; exact hdt
    simp only [wpOpsIn,hio,hwant,if_true];have hrun:=hsem K σ w a hR hG (fun r o h=>h) (Lk hfree) (fun s hs=>uC hs) (fun _ _=>by simp) (fun x=>GK hG ht x);refine hrun.wp (Ll hfree) (fun mv w' hv=>?_);obtain ⟨K',e1,r1,v1⟩:=hv;refine hq ro ds K' w' (a.put o.dst mv) l r1 (hG.ext e1 hR) ((ht.ext e1 hR).put o.dst v1) (by rw [put_defers]; exact hd) hl Q ?_;intro K'' w'' a'' e2 r2 v2 d2;exact hQ K'' w'' a'' (e1.trans e2) r2 v2 d2
  ·refine (QW hD k ops rest _ (F7 tmps o.dst (.tuple [])) σ).mono fun q hq hw ro ds K w a l hR hG ht hd hl Q hQ=>?_;cases l with
   | nil=>simp at hl
   | cons i l=>
    simp only [List.map_cons,List.cons.injEq] at hl;obtain ⟨hio,hl⟩:=hl;have hwant:Region.wanted o (yielded ops a.tmps)=false:=by rw [hw.wanted (hguard ht)]; simpa using hdf
    simp only [wpOpsIn,hio,hwant,Bool.false_eq_true,if_false];exact ⟨fun _ _=>trivial,hq ro ds K w (a.put o.dst undef) l hR hG (ht.put o.dst (.pure _ _ (.tuple [] #[] rfl fun i h=>by simp at h))) (by rw [put_defers]; exact hd) hl Q hQ⟩
theorem Kb (σ:AL)(u:eB):(Al σ u).length=σ.length:=by
 induction u generalizing σ with
 | nil=>rfl
 | cons p u ih=>obtain ⟨r,o⟩:=p; simp [Al,ih]
theorem No (u:eB):∀ (s1 s2:AL) (r:Nat),s1.length=s2.length->(s1[r]? =s2[r]?∨(u.any fun p=>p.1==r)=true)->(Al s1 u)[r]? =(Al s2 u)[r]? :=by
 induction u with
 | nil=>intro s1 s2 r _ h; simpa [Al] using h
 | cons p u ih=>
  obtain ⟨k,o⟩:=p;intro s1 s2 r hl h;refine ih (s1.set k o) (s2.set k o) r (by simp [hl]) ?_;by_cases hk:k=r
  ·subst hk;left;simp only [List.getElem?_set_self',hl];by_cases hlt:k<s1.length
   ·have:k<s2.length:=by omega
    simp [hlt,this]
   ·have:¬ k<s2.length:=by omega
    simp [hlt,this]
  ·rcases h with h | h
   ·left; simp [List.getElem?_set,hk,h]
   ·right; simpa [hk] using h
theorem K6 (u:eB):∀ (s:AL) (r:Nat),(u.any fun p=>p.1==r)=false->(Al s u)[r]? =s[r]? :=by
 induction u with
 | nil=>intro s r _; rfl
 | cons p u ih=>
  obtain ⟨k,o⟩:=p;intro s r h;simp only [List.any_cons,Bool.or_eq_false_iff,beq_eq_false_iff_ne] at h;unfold Al;rw [ih _ _ h.2,List.getElem?_set,if_neg h.1]
def Rec.writes (r:Nat)(rc:Rec):Bool:=rc.eR.any fun p=>p.1==r
def Rec.eP (t:Nat)(rc:Rec):Bool:=rc.dst==some t
theorem G5 (r:Nat):∀ (rs:List Rec) (s1 s2:AL),s1.length=s2.length->s1[r]? =s2[r]?->(Bk s1 rs)[r]? =(Bk s2 (rs.filter (Rec.writes r)))[r]? :=by
 intro rs;induction rs with
 | nil=>intro s1 s2 _ h; simpa [Bk] using h
 | cons rc rs ih=>
  intro s1 s2 hl h;rw [List.filter_cons];split
  ·rename_i hw;simp only [Bk,List.foldl_cons];exact ih _ _ (by simp [Kb,hl]) (No _ _ _ _ hl (.inl h))
  ·rename_i hw;simp only [Bk,List.foldl_cons];exact ih _ _ (by simp [Kb,hl]) (by rw [K6 _ _ _ (by simpa only [Rec.writes,Bool.not_eq_true] using hw)]; exact h)
theorem Iv (t:Nat):∀ (rs:List Rec) (s1 s2:List EV),s1.length=s2.length->s1[t]? =s2[t]?->(D3 s1 rs)[t]? =(D3 s2 (rs.filter (Rec.eP t)))[t]? :=by
 intro rs;induction rs with
 | nil=>intro s1 s2 _ h; simpa [D3] using h
 | cons rc rs ih=>
  intro s1 s2 hl h;rw [List.filter_cons];split
  ·simp only [D3,List.foldl_cons];refine ih _ _ (by simp [Nn,hl]) ?_;rw [Hf,Hf,hl,h]
  ·rename_i hw;simp only [D3,List.foldl_cons];refine ih _ _ (by simp [Nn,hl]) ?_;rw [Hf,if_neg (by intro hc; apply hw; simp [Rec.eP,hc.1]),h]
theorem SL (σ:AL)(rs:List Rec):(Bk σ rs).length=σ.length:=by
 induction rs generalizing σ with
 | nil=>rfl
 | cons rc rs ih=>simp only [Bk,List.foldl_cons] at*; rw [ih,Kb]
theorem Np (t:List EV)(rs:List Rec):(D3 t rs).length=t.length:=by
 induction rs generalizing t with
 | nil=>rfl
 | cons rc rs ih=>simp only [D3,List.foldl_cons] at*; rw [ih,Nn]
end
end Go.Ev
namespace Go.Ev
def Kc (acc:Array Nat)(o:Oper):Array Nat:=acc.push (o.after.foldl (fun s e=>if Region.binds .any e then s ||| 2 ^ e.on ||| acc.getD e.on 0 else s) 0)
theorem UH (ops:Array Oper):Region.before ops=ops.toList.foldl Kc #[]:=by
 unfold Region.before;rw [<-Array.foldl_toList];rfl
theorem WA (acc:Array Nat)(i:Nat):∀ (l:List Edge) (s:Nat),(l.foldl (fun s e=>if Region.binds .any e then s ||| 2 ^ e.on ||| acc.getD e.on 0 else s) s).testBit i=true->
  s.testBit i=true∨∃ e∈l,Region.binds .any e=true/\(e.on=i∨(acc.getD e.on 0).testBit i=true):=by
 intro l;induction l with
 | nil=>intro s h; exact .inl h
 | cons e l ih=>
  intro s h;simp only [List.foldl_cons] at h;rcases ih _ h with h1 | ⟨e',h1,h2,h3⟩
  ·by_cases hb:Region.binds .any e=true
   ·rw [if_pos hb] at h1;simp only [Nat.testBit_or,Bool.or_eq_true] at h1;rcases h1 with (h1 | h1) | h1
    ·exact .inl h1
    ·exact .inr ⟨e,by simp,hb,.inl (by simpa [Nat.testBit_two_pow] using h1)⟩
    ·exact .inr ⟨e,by simp,hb,.inr h1⟩
   ·rw [if_neg hb] at h1; exact .inl h1
  ·exact .inr ⟨e',by simp [h1],h2,h3⟩
def Yy (pre:List Oper)(acc:Array Nat):Prop:=acc.size=pre.length/\∀ j i,(acc.getD j 0).testBit i=true->
 ∃ o e,pre[j]? =some o/\e∈o.after.toList/\Region.binds .any e=true/\(e.on=i∨(acc.getD e.on 0).testBit i=true)
theorem Xh:∀ (l pre:List Oper) (acc:Array Nat),Yy pre acc->Yy (pre++l) (l.foldl Kc acc):=by
 intro l;induction l with
 | nil=>intro pre acc h; simpa using h
 | cons o l ih=>
  intro pre acc h;have:=ih (pre++[o]) (Kc acc o) (by
   obtain ⟨hs,hb⟩:=h;have hget:∀ j,(Kc acc o).getD j 0=if j<acc.size then acc.getD j 0 else if j=acc.size then (o.after.foldl (fun s e=>if Region.binds .any e then s ||| 2 ^ e.on ||| acc.getD e.on 0 else s) 0) else 0:=by
    intro j;simp only [Kc,Array.getD_eq_getD_getElem?,Array.getElem?_push];by_cases h1:j<acc.size
    ·rw [if_pos h1,if_neg (by omega)]
    ·rw [if_neg h1];by_cases h2:j=acc.size
     ·simp [h2]
     ·rw [if_neg h2,if_neg h2]; simp [h1]
   have hmono:∀ j i,(acc.getD j 0).testBit i=true->((Kc acc o).getD j 0).testBit i=true:=by
    intro j i h;rw [hget];by_cases h1:j<acc.size
    ·rw [if_pos h1]; exact h
    ·have:acc.getD j 0=0:=by simp [Array.getD,h1]
     rw [this] at h; simp at h
   refine ⟨by simp [Kc,hs],fun j i h=>?_⟩;rw [hget] at h;by_cases h1:j<acc.size
   ·rw [if_pos h1] at h;obtain ⟨o',e,g1,g2,g3,g4⟩:=hb j i h;refine ⟨o',e,?_,g2,g3,g4.imp id (hmono _ _)⟩;rw [List.getElem?_append,if_pos (by omega)]; exact g1
   ·rw [if_neg h1] at h;by_cases h2:j=acc.size
    ·rw [if_pos h2] at h;rw [<-Array.foldl_toList] at h;rcases WA acc i _ 0 h with h3 | ⟨e,g1,g2,g3⟩
     ·simp at h3
     ·refine ⟨o,e,?_,g1,g2,g3.imp id (hmono _ _)⟩;rw [List.getElem?_append,if_neg (by omega)];simp [show j - pre.length=0 by omega]
    ·rw [if_neg h2] at h; simp at h)
  simpa using this
theorem MY (ops:Array Oper):∀ j i,((Region.before ops).getD j 0).testBit i=true->
  ∃ o e,ops[j]? =some o/\e∈o.after.toList/\Region.binds .any e=true/\(e.on=i∨((Region.before ops).getD e.on 0).testBit i=true):=by
 rw [UH];have:=Xh ops.toList [] #[] ⟨rfl,fun j i h=>by simp [Array.getD] at h⟩;intro j i h;obtain ⟨o,e,h1,h2⟩:=this.2 j i h;exact ⟨o,e,by simpa using h1,h2⟩
theorem GM:∀ (os:List Oper) (k:Nat),FK os k=true->∀ j o,os[j]? =some o->∀ e∈o.after.toList,Region.binds .any e=true->e.on<k+j:=by
 intro os;induction os with
 | nil=>intro k _ j o h; simp at h
 | cons x os ih=>
  intro k h j o ho e he hb;simp only [FK,uF] at h;cases j with
  | zero=>
   simp only [List.getElem?_cons_zero,uB] at ho;subst ho;have:=List.all_eq_true.1 h.1 e he;rw [hb] at this;simpa using this
  | succ j=>
   have:=ih (k+1) h.2 j o (by simpa using ho) e he hb;omega
def cC (ops:Array Oper)(Z:Nat->Bool):Prop:=∀ j o,Z j=true->ops[j]? =some o->∀ e∈o.after.toList,Region.binds .any e=true->Z e.on=true
theorem cC.before {ops:Array Oper}{Z:Nat->Bool}(he:FK ops.toList 0=true)(hc:cC ops Z):∀ (n j i:Nat),j<=n->((Region.before ops).getD j 0).testBit i=true->
  (∀ o,ops[j]? =some o->∀ e∈o.after.toList,Region.binds .any e=true->Z e.on=true)->Z i=true:=by
 intro n;induction n with
 | zero=>
  intro j i hj h hd;obtain ⟨o,e,h1,h2,h3,h4⟩:=MY ops j i h;have:=GM ops.toList 0 he j o (by simpa using h1) e h2 h3;omega
 | succ n ih=>
  intro j i hj h hd;obtain ⟨o,e,h1,h2,h3,h4⟩:=MY ops j i h;have hlt:=GM ops.toList 0 he j o (by simpa using h1) e h2 h3;have hz:=hd o h1 e h2 h3;rcases h4 with h4 | h4
  ·rw [<-h4]; exact hz
  ·exact ih e.on i (by omega) h4 fun o' ho' e' he' hb'=>hc e.on o' hz ho' e' he' hb'
def K7 (lo:Nat)(rs:List Rec):Prop:=∀ (k:Nat) (rc:Rec),rs[k]? =some rc->rc.i=lo+k
def dF (Z:Nat->Bool)(rs:List Rec):List Rec:=rs.filter fun rc=>Z rc.i
theorem RD:∀ (rs:List Rec) (k0 i:Nat),(∀ k rc,rs[k]? =some rc->rc.i=k0+k)->rs.filter (fun rc=>decide (rc.i<k0+i))=rs.take i:=by
 intro rs;induction rs with
 | nil=>intro k0 i _; simp
 | cons rc rs ih=>
  intro k0 i h;have h0:=h 0 rc (by simp);have ih':=fun i=>ih (k0+1) i fun k rc' hk=>by have:=h (k+1) rc' (by simpa using hk); omega
  cases i with
  | zero=>
   rw [List.filter_cons,if_neg (by simp; omega)];have:=ih' 0;rw [List.take_zero] at this ⊢;rw [List.filter_eq_nil_iff] at this ⊢;intro a ha;have:=this a ha;simp only [decide_eq_true_eq] at*;omega
  | succ i=>
   rw [List.filter_cons,if_pos (by simp; omega),List.take_succ_cons];have:=ih' i;rw [show k0+1+i=k0+(i+1) from by omega] at this;rw [this]
theorem RE {lo:Nat}{rs:List Rec}(hn:K7 lo rs){Z:Nat->Bool}{k:Nat}{p:Rec->Bool}(h:∀ rc∈rs,p rc=true->(Z rc.i=true↔rc.i<lo+k)):
  (dF Z rs).filter p=(rs.take k).filter p:=by
 have:=RD rs lo k hn;rw [<-this,dF,List.filter_filter,List.filter_filter];apply List.filter_congr;intro rc hrc;by_cases hp:p rc=true
 ·have:=h rc hrc hp;by_cases hz:Z rc.i=true
  ·simp [hp,hz,this.1 hz]
  ·have hlt:¬ rc.i<lo+k:=fun h'=>hz (this.2 h');simp only [hp,hz,hlt,decide_false,Bool.and_false,Bool.true_and]
 ·simp [hp]
theorem MZ {lo:Nat}{rs:List Rec}(hn:K7 lo rs){Z:Nat->Bool}{k:Nat}{rc:Rec}(hi:rs[k]? =some rc){p:Rec->Bool}(hp:p rc=false):
  (dF (fun j=>Z j || j==lo+k) rs).filter p=(dF Z rs).filter p:=by
 rw [dF,dF,List.filter_filter,List.filter_filter];apply List.filter_congr;intro rc' hrc';obtain ⟨k',hk,rfl⟩:=List.mem_iff_getElem.1 hrc';have h1:=hn k' rs[k'] (by simp [hk]);by_cases hki:k'=k
 ·subst hki;rw [uD hk] at hi;obtain rfl:=uC hi;simp [hp]
 ·have:(rs[k'].i==lo+k)=false:=by rw [h1]; simp; omega
  simp [this]
theorem Nq {lo:Nat}{rs:List Rec}(hn:K7 lo rs){Z:Nat->Bool}{k:Nat}{rc:Rec}(hi:rs[k]? =some rc){p:Rec->Bool}(hp:p rc=true)(hz:Z (lo+k)=false)
  (h:∀ rc'∈rs,p rc'=true->Z rc'.i=true->rc'.i<lo+k):(dF (fun j=>Z j || j==lo+k) rs).filter p=(dF Z rs).filter p++[rc]:=by
 have hlt:k<rs.length:=(List.getElem?_eq_some_iff.1 hi).1;have hsplit:rs=rs.take k++rc :: rs.drop (k+1):=by
  rw [uD hlt] at hi;obtain rfl:=uC hi;rw [<-List.drop_eq_getElem_cons hlt,List.take_append_drop]
 have hri:rc.i=lo+k:=hn k rc hi;have htake:∀ rc'∈rs.take k,rc'.i<lo+k:=by
  intro rc' hrc';obtain ⟨j,hj,rfl⟩:=List.mem_iff_getElem.1 hrc';simp only [List.length_take] at hj;rw [List.getElem_take,hn j _ (uD (by omega))];omega
 have hdrop:∀ rc'∈rs.drop (k+1),lo+k<rc'.i/\rc'∈rs:=by
  intro rc' hrc';obtain ⟨j,hj,rfl⟩:=List.mem_iff_getElem.1 hrc';simp only [List.length_drop] at hj;rw [List.getElem_drop,hn (k+1+j) _ (uD (by omega))];exact ⟨by omega,List.getElem_mem _⟩
 have f1:∀ (q:Rec->Bool),(∀ rc'∈rs.drop (k+1),q rc'=false)->rs.filter q=(rs.take k).filter q++(if q rc then [rc] else []):=by
  intro q hq
  conv=>lhs; rw [hsplit]
  rw [List.filter_append,List.filter_cons,show (rs.drop (k+1)).filter q=[] from List.filter_eq_nil_iff.2 fun a ha=>by simp [hq a ha]]
 rw [dF,dF,List.filter_filter,List.filter_filter,f1,f1]
 ·simp only [hri,hz,hp,Bool.false_or,beq_self_eq_true,Bool.and_self,if_true,Bool.and_false,Bool.false_eq_true,if_false,List.append_nil]
  congr 1
  apply List.filter_congr;intro rc' hrc';have:=htake rc' hrc';have:(rc'.i==lo+k)=false:=by simp; omega
  simp [this]
 ·intro rc' hrc';obtain ⟨h1,h2⟩:=hdrop rc' hrc';by_cases hpr:p rc'=true
  ·have hzf:Z rc'.i=false:=by
    cases hzz:Z rc'.i with
    | false=>rfl
    | true=>have:=h rc' h2 hpr hzz; omega
   simp [hzf]
  ·simp [hpr]
 ·intro rc' hrc';obtain ⟨h1,h2⟩:=hdrop rc' hrc';by_cases hpr:p rc'=true
  ·have hzf:Z rc'.i=false:=by
    cases hzz:Z rc'.i with
    | false=>rfl
    | true=>have:=h rc' h2 hpr hzz; omega
   have:(rc'.i==lo+k)=false:=by simp; omega
   simp [hzf,this]
  ·simp [hpr]
end Go.Ev
namespace Go.Ev
section
variable {P:Program}{S:Type}{V:S->Prop}{G:Nat->Option (List EV)}{D:Drv S}
structure RecOk (P:Program) (G:Nat->Option (List EV)) (ops:Array Oper) (tmps:List EV) (σ:AL) (o:Oper) (nm k i:Nat) (rc:Rec):Prop where
 i:rc.i=i
 dst:rc.dst=o.dst
 looks:rc.looks=o.looksAt ops
 want:dM ops tmps o rc.run
 sem:rc.run=true->HM P G (Kv G rc.looks tmps) (S0 rc.reads σ) nm k none o (rc.v,.eR rc.eR)
 nd:rc.run=true->Ku o.op=false
 free:rc.run=true->∀ i,i<cF k o.op->nm+i∈rc.reads/\σ[nm+i]? =some .free
 idle:rc.run=false->rc.v=.tuple []/\rc.eR=[]
def dP (P:Program)(G:Nat->Option (List EV))(ops:Array Oper):List Oper->Nat->List EV->AL->List Rec->Prop
 | [],_,_,_,rs=>rs=[]
 | o :: rest,i,tmps,σ,rs=>∃ nm k rc rs',rs=rc :: rs'/\RecOk P G ops tmps σ o nm k i rc/\dP P G ops rest (i+1) (F7 tmps rc.dst rc.v) (Al σ rc.eR) rs'
theorem Iw (hD:dK V P G D)(k:Nat)(ops:Array Oper):∀ (os:List Oper) (i nm:Nat) (tmps:List EV) (σ:AL),Ok V (Hb D P G k ops os i nm tmps σ) (dP P G ops os i tmps σ)
 | [],i,nm,tmps,σ=>by
  unfold Hb;exact Ok.pure rfl
 | o :: rest,i,nm,tmps,σ=>by
  unfold Hb;refine Ok.bind (Ka hD ops tmps o) fun d=>?_;refine Ok.ite (fun hdt=>?_) fun hdf=>?_
  ·refine Ok.ite (fun hfree=>?_) fun _=>Ok.fail;refine Ok.bind (QV hD (Kv G (o.looksAt ops) tmps) (S0 _ σ) nm k none o) fun r=>?_;obtain ⟨v,e⟩:=r;dsimp only;split
   ·exact Ok.fail
   ·rename_i u;refine Ok.ite (fun _=>?_) fun _=>Ok.fail;refine Ok.bind (Iw hD k ops rest (i+1) _ (F7 tmps o.dst v) (Al σ u)) fun rs=>Ok.pure fun hrs hsem hw=>?_;subst hdt;refine ⟨nm,k,_,rs,rfl,⟨rfl,rfl,rfl,hw,fun _=>hsem,fun _=>Ll hfree,fun _ i hi=>⟨by simp only [List.mem_append,List.mem_range'_1]; exact .inl ⟨by omega,by omega⟩,Lk hfree i hi⟩,fun h=>by simp at h⟩,hrs⟩
  ·refine Ok.bind (Iw hD k ops rest (i+1) _ (F7 tmps o.dst (.tuple [])) σ) fun rs=>Ok.pure fun hrs hw=>?_;have hdf':d=false:=by simpa using hdf
   subst hdf';exact ⟨nm,k,_,rs,rfl,⟨rfl,rfl,rfl,hw,fun h=>by simp at h,fun h=>by simp at h,fun h=>by simp at h,fun _=>⟨rfl,rfl⟩⟩,hrs⟩
theorem dP.at {ops:Array Oper}:∀ {os:List Oper} {i:Nat} {tmps:List EV} {σ:AL} {rs:List Rec},dP P G ops os i tmps σ rs->
  rs.length=os.length/\∀ k o,os[k]? =some o->∃ nm kk rc,rs[k]? =some rc/\RecOk P G ops (D3 tmps (rs.take k)) (Bk σ (rs.take k)) o nm kk (i+k) rc:=by
 intro os;induction os with
 | nil=>intro i tmps σ rs h; simp only [dP] at h; subst h; simp
 | cons o os ih=>
  intro i tmps σ rs h;obtain ⟨nm,kk,rc,rs',rfl,h1,h2⟩:=h;obtain ⟨hl,hk⟩:=ih h2;refine ⟨by simp [hl],fun k o' ho=>?_⟩;cases k with
  | zero=>
   simp only [List.getElem?_cons_zero,uB] at ho;subst ho;exact ⟨nm,kk,rc,rfl,by simpa [D3,Bk] using h1⟩
  | succ k=>
   obtain ⟨nm',kk',rc',g1,g2⟩:=hk k o' (by simpa using ho);refine ⟨nm',kk',rc',by simpa using g1,?_⟩;rw [show i+(k+1)=i+1+k from by omega];simpa [D3,Bk] using g2
theorem K8 {bf:Array Nat}{rs:List Rec}(h:QJ bf rs=true){a b:Rec}(ha:a∈rs)(hb:b∈rs)(hlt:a.i<b.i)(hc:a.bW b=true):(bf.getD b.i 0).testBit a.i=true:=by
 have h0:=List.all_eq_true.1 h b hb;rw [Bool.or_eq_true] at h0;rcases h0 with h0 | h0
 ·have e:=congrArg (·.testBit a.i) (beq_iff_eq.1 h0);simpa [Nat.testBit_mod_two_pow,Nat.testBit_two_pow_sub_one,hlt] using e
 have h1:=List.all_eq_true.1 h0 a ha;cases hbit:(bf.getD b.i 0).testBit a.i with
 | true=>rfl
 | false=>rw [hbit,hc] at h1; simp [hlt] at h1
theorem G6 {a b:Rec}{r:Nat}(ha:a.writes r=true)(hb:r∈b.reads):a.bW b=true/\b.bW a=true:=by
 obtain ⟨p,hp,hpr⟩:=List.any_eq_true.1 ha;have hpr':p.1=r:=by simpa using hpr
 have h1:(a.eR.any fun p=>b.reads.contains p.1)=true:=List.any_eq_true.2 ⟨p,hp,by simp [hpr',hb]⟩;have h2:(a.eR.any fun p=>b.reads.contains p.1 || b.eR.any fun q=>q.1==p.1)=true:=List.any_eq_true.2 ⟨p,hp,by simp [hpr',hb]⟩;exact ⟨by simp only [Rec.bW,h2,Bool.or_true,Bool.true_or],by simp only [Rec.bW,h1,Bool.or_true,Bool.true_or]⟩
theorem GD {a b:Rec}{r:Nat}(ha:a.writes r=true)(hb:b.writes r=true):a.bW b=true:=by
 obtain ⟨p,hp,hpr⟩:=List.any_eq_true.1 ha;have hpr':p.1=r:=by simpa using hpr
 have h2:(a.eR.any fun p=>b.reads.contains p.1 || b.eR.any fun q=>q.1==p.1)=true:=List.any_eq_true.2 ⟨p,hp,by rw [hpr']; simp only [Rec.writes] at hb; simp [hb]⟩;simp only [Rec.bW,h2,Bool.or_true,Bool.true_or]
theorem Hg {a b:Rec}{t:Tmp}(ha:a.eP t=true)(hb:t∈b.looks):a.bW b=true/\b.bW a=true:=by
 have ha':a.dst=some t:=by simpa [Rec.eP] using ha
 constructor
 ·simp [Rec.bW,ha',hb]
 ·simp [Rec.bW,ha',hb]
theorem IZ {a b:Rec}{t:Tmp}(ha:a.eP t=true)(hb:b.eP t=true):a.bW b=true:=by
 have ha':a.dst=some t:=by simpa [Rec.eP] using ha
 have hb':b.dst=some t:=by simpa [Rec.eP] using hb
 simp [Rec.bW,ha',hb']
structure dV (P:Program) (G:Nat->Option (List EV)) (ops:Array Oper) (lo:Nat) (tmps:List EV) (σ:AL) (rs:List Rec):Prop where
 edges:FK ops.toList 0=true
 bW:QJ (Region.before ops) rs=true
 len:lo+rs.length<=ops.size
 at':∀ k o,k<rs.length->ops[lo+k]? =some o->∃ nm kk rc,rs[k]? =some rc/\RecOk P G ops (D3 tmps (rs.take k)) (Bk σ (rs.take k)) o nm kk (lo+k) rc
variable {ops:Array Oper}{lo:Nat}{tmps:List EV}{σ:AL}{rs:List Rec}
theorem dV.bV (h:dV P G ops lo tmps σ rs):K7 lo rs:=by
 intro k rc hk;have hlt:k<rs.length:=(List.getElem?_eq_some_iff.1 hk).1;have hlt':lo+k<ops.size:=by have:=h.len; omega
 obtain ⟨nm,kk',rc',h1,h2⟩:=h.at' k ops[lo+k] hlt (by simp [hlt']);rw [hk] at h1;obtain rfl:=uC h1;exact h2.i
theorem dV.mem_lt (h:dV P G ops lo tmps σ rs){rc:Rec}(hm:rc∈rs):rc.i<lo+rs.length:=by
 obtain ⟨k,hk,rfl⟩:=List.mem_iff_getElem.1 hm;have h1:=h.bV k rs[k] (by simp [hk]);omega
theorem dV.order (h:dV P G ops lo tmps σ rs){Z:Nat->Bool}(hc:cC ops Z){k:Nat}{rc rc':Rec}(hk:rs[k]? =some rc)(hm:rc'∈rs)
  (hready:∀ o,ops[lo+k]? =some o->∀ e∈o.after.toList,Region.binds .any e=true->Z e.on=true) (hz:Z (lo+k)=false)
  (h1:rc'.bW rc=true) (h2:rc.bW rc'=true):Z rc'.i=true↔rc'.i<lo+k:=by
 have hik:rc.i=lo+k:=h.bV k rc hk;have hkm:rc∈rs:=List.mem_of_getElem? hk;constructor
 ·intro hz';rcases Nat.lt_trichotomy rc'.i (lo+k) with hlt | heq | hgt
  ·exact hlt
  ·rw [heq,hz] at hz'; cases hz'
  ·have hb:=K8 h.bW hkm hm (by omega) h2;rw [hik] at hb;have:=hc.before h.edges rc'.i rc'.i (lo+k) (Nat.le_refl _) hb (fun o ho e he hbind=>hc rc'.i o hz' ho e he hbind);rw [hz] at this; cases this
 ·intro hlt;have hb:=K8 h.bW hm hkm (by omega) h1;rw [hik] at hb;exact hc.before h.edges (lo+k) (lo+k) rc'.i (Nat.le_refl _) hb hready
theorem List.ext_get? {α:Type}{a b:List α}(h:∀ i:Nat,a[i]? =b[i]?):a=b:=List.ext_getElem? h
theorem dV.heap (h:dV P G ops lo tmps σ rs){Z:Nat->Bool}(hc:cC ops Z){k:Nat}{rc:Rec}(hk:rs[k]? =some rc)
  (hready:∀ o,ops[lo+k]? =some o->∀ e∈o.after.toList,Region.binds .any e=true->Z e.on=true) (hz:Z (lo+k)=false):
  Al (Bk σ (dF Z rs)) rc.eR=Bk σ (dF (fun j=>Z j || j==lo+k) rs):=by
 apply List.ext_get?;intro r;by_cases hw:rc.writes r=true
 ·rw [G5 r (dF (fun j=>Z j || j==lo+k) rs) σ σ rfl rfl,Nq h.bV hk hw hz]
  ·have:Bk σ (List.filter (Rec.writes r) (dF Z rs)++[rc])=Al (Bk σ (List.filter (Rec.writes r) (dF Z rs))) rc.eR:=by simp [Bk]
   rw [this];exact No _ _ _ _ (by simp [SL]) (.inr hw)
  ·intro rc' hm hw' hz';exact (h.order hc hk hm hready hz (GD hw' hw) (GD hw hw')).1 hz'
 ·have hw':rc.writes r=false:=by simpa using hw
  rw [K6 _ _ _ hw',G5 r (dF (fun j=>Z j || j==lo+k) rs) σ σ rfl rfl,MZ h.bV hk hw',<-G5 r (dF Z rs) σ σ rfl rfl]
theorem dV.cF (h:dV P G ops lo tmps σ rs){Z:Nat->Bool}(hc:cC ops Z){k:Nat}{rc:Rec}(hk:rs[k]? =some rc)
  (hready:∀ o,ops[lo+k]? =some o->∀ e∈o.after.toList,Region.binds .any e=true->Z e.on=true) (hz:Z (lo+k)=false):
  F7 (D3 tmps (dF Z rs)) rc.dst rc.v=D3 tmps (dF (fun j=>Z j || j==lo+k) rs):=by
 apply List.ext_get?;intro t;by_cases hw:rc.eP t=true
 ·rw [Iv t (dF (fun j=>Z j || j==lo+k) rs) tmps tmps rfl rfl,Nq h.bV hk hw hz]
  ·have:D3 tmps (List.filter (Rec.eP t) (dF Z rs)++[rc])=F7 (D3 tmps (List.filter (Rec.eP t) (dF Z rs))) rc.dst rc.v:=by simp [D3]
   rw [this,Hf,Hf];have hd:rc.dst=some t:=by simpa [Rec.eP] using hw
   simp only [hd,true_and,Np];split
   ·rfl
   ·rename_i hlt;rw [List.getElem?_eq_none (by rw [Np]; omega),List.getElem?_eq_none (by rw [Np]; omega)]
  ·intro rc' hm hw' hz';exact (h.order hc hk hm hready hz (IZ hw' hw) (IZ hw hw')).1 hz'
 ·have hw':rc.eP t=false:=by simpa using hw
  rw [Hf,if_neg (by intro hc'; apply hw; simp [Rec.eP,hc'.1]),Iv t (dF (fun j=>Z j || j==lo+k) rs) tmps tmps rfl rfl,MZ h.bV hk hw',<-Iv t (dF Z rs) tmps tmps rfl rfl]
theorem dV.reads (h:dV P G ops lo tmps σ rs){Z:Nat->Bool}(hc:cC ops Z){k:Nat}{rc:Rec}(hk:rs[k]? =some rc)
  (hready:∀ o,ops[lo+k]? =some o->∀ e∈o.after.toList,Region.binds .any e=true->Z e.on=true) (hz:Z (lo+k)=false) {r:Nat} (hr:r∈rc.reads):
  (Bk σ (dF Z rs))[r]? =(Bk σ (rs.take k))[r]? :=by
 rw [G5 r (dF Z rs) σ σ rfl rfl,G5 r (rs.take k) σ σ rfl rfl,RE h.bV];intro rc' hm hw;exact h.order hc hk hm hready hz (G6 hw hr).1 (G6 hw hr).2
theorem dV.looks (h:dV P G ops lo tmps σ rs){Z:Nat->Bool}(hc:cC ops Z){k:Nat}{rc:Rec}(hk:rs[k]? =some rc)
  (hready:∀ o,ops[lo+k]? =some o->∀ e∈o.after.toList,Region.binds .any e=true->Z e.on=true) (hz:Z (lo+k)=false) {t:Nat} (ht:t∈rc.looks):
  (D3 tmps (dF Z rs))[t]? =(D3 tmps (rs.take k))[t]? :=by
 rw [Iv t (dF Z rs) tmps tmps rfl rfl,Iv t (rs.take k) tmps tmps rfl rfl,RE h.bV];intro rc' hm hw;exact h.order hc hk hm hready hz (Hg hw ht).1 (Hg hw ht).2
theorem WB {uX:List Tmp}{t1 t2:List EV}(h:∀ t∈uX,t1[t]? =t2[t]?)(x:Operand):Kv G uX t1 x=Kv G uX t2 x:=by
 cases x with
 | tmp t=>
  simp only [Kv];split
  ·rename_i hc;rw [GI,GI,uA,uA,h t (by simpa using hc)]
  ·rfl
 | _=>rfl
theorem WC {K:KM}{w:World}{tmps:List EV}{a:Act}{uX:List Tmp}(hG:dY G K.F w)(ht:aU K w tmps a.tmps)(x:Operand):VR K w (Kv G uX tmps x) (a.eval x):=by
 cases x with
 | tmp t=>
  simp only [Kv];split
  ·exact GK hG ht (.tmp t)
  ·exact .pure _ _ (.undef _)
 | const v=>exact GK hG ht (.const v)
 | global g=>exact GK hG ht (.global g)
 | func f=>exact GK hG ht (.func f)
theorem S7 (rs:List Rec){Z:Nat->Bool}(h:∀ rc∈rs,Z rc.i=true):dF Z rs=rs:=List.filter_eq_self.2 h
theorem QX {listed:Array Bool}(hsz:listed.size=ops.size){j:Nat}(hj:j<ops.size)(hb:listed.getD j false=false)(he:FK ops.toList 0=true)(hl:∀ i,i<j->listed.getD i false=true):
  j∈Region.ready .any ops listed:=by
 rw [mem_ready];refine ⟨?_,ops[j],by simp [hj],fun e he' hbd=>?_⟩
 ·have hjl:j<listed.size:=by omega
  simpa [Array.getD,hjl] using hb
 ·have:=GM ops.toList 0 he j ops[j] (by simp [hj]) e (by simpa using he') hbd;exact hl e.on (by omega)
theorem K9 {listed:Array Bool}(hsz:listed.size=ops.size)(he:FK ops.toList 0=true){n:Nat}(hn:n<ops.size)(hb:listed.getD n false=false):Region.ready .any ops listed≠[]:=by
 intro hr;have hall:∀ m j,j<m->j<ops.size->listed.getD j false=true:=by
  intro m;induction m with
  | zero=>intro j hj; omega
  | succ m ih=>
   intro j hj hjs;cases hb:listed.getD j false with
   | true=>rfl
   | false=>
    have:=QX hsz hjs hb he fun i hi=>ih i (by omega) (by omega);rw [hr] at this; cases this
 rw [hall (n+1) n (by omega) hn] at hb;cases hb
theorem dV.any (h:dV P G ops lo tmps σ rs){ro:Option Nat}{ds:List Deferred}{Q:Exit->Act->World->Prop}{K0:KM}{σ0:AL}{w0:World}
  (hwin:∀ (Z:Nat->Bool) (j:Nat) (o:Oper),cC ops Z->ops[j]? =some o->(∀ e∈o.after.toList,Region.binds .any e=true->Z e.on=true)->lo+rs.length<=j->∀ i,i<lo+rs.length->Z i=true)
  (hnext:∀ (fuel:Nat) (listed:Array Bool) (K:KM) (a:Act) (w:World),listed.size=ops.size->listed.toList.count false<=fuel->(∀ j,listed.getD j false=true↔j<lo+rs.length)->
   Ext K0 σ0 w0 K (Bk σ rs) w->Rel K (Bk σ rs) w->dY G K.F w->aU K w (D3 tmps rs) a.tmps->a.defers=ds->wpAnyIn (eE ro) 0 P .any ops Q fuel listed a w):
  ∀ (fuel:Nat) (listed:Array Bool) (K:KM) (a:Act) (w:World),listed.size=ops.size->listed.toList.count false<=fuel->cC ops (fun j=>listed.getD j false)->
   (∀ j,lo+rs.length<=j->listed.getD j false=false)->(∀ j,j<lo->listed.getD j false=true)->
   Ext K0 σ0 w0 K (Bk σ (dF (fun j=>listed.getD j false) rs)) w->Rel K (Bk σ (dF (fun j=>listed.getD j false) rs)) w->dY G K.F w->
   aU K w (D3 tmps (dF (fun j=>listed.getD j false) rs)) a.tmps->a.defers=ds->wpAnyIn (eE ro) 0 P .any ops Q fuel listed a w:=by
 intro fuel;induction fuel with
 | zero=>
  intro listed K a w hsz hf hc hhi hlo he hrel hG ht hd;have hall:∀ j,j<ops.size->listed.getD j false=true:=by
   intro j hj;cases hb:listed.getD j false with
   | true=>rfl
   | false=>
    have hlt:j<listed.size:=by omega
    have h1:listed[j]=false:=by simpa [Array.getD,hlt] using hb
    have hm:false∈listed.toList:=by rw [<-h1]; simp
    have:=List.count_pos_iff.2 hm;omega
  have hs:dF (fun j=>listed.getD j false) rs=rs:=S7 rs fun rc hm=>hall rc.i (by have:=h.mem_lt hm; have:=h.len; omega);rw [hs] at he hrel ht;refine hnext 0 listed K a w hsz hf (fun j=>⟨fun hj=>?_,fun hj=>hall j (by have:=h.len; omega)⟩) he hrel hG ht hd;rcases Nat.lt_or_ge j (lo+rs.length) with h' | h'
  ·exact h'
  ·rw [hhi j h'] at hj; cases hj
 | succ fuel ih=>
  intro listed K a w hsz hf hc hhi hlo he hrel hG ht hd;by_cases hfull:∀ j,j<lo+rs.length->listed.getD j false=true
  ·have hs:dF (fun j=>listed.getD j false) rs=rs:=S7 rs fun rc hm=>hfull rc.i (h.mem_lt hm);rw [hs] at he hrel ht;refine hnext _ listed K a w hsz hf (fun j=>⟨fun hj=>?_,fun hj=>hfull j hj⟩) he hrel hG ht hd;rcases Nat.lt_or_ge j (lo+rs.length) with h' | h'
   ·exact h'
   ·rw [hhi j h'] at hj; cases hj
  ·have hex:∃ j,j<lo+rs.length/\listed.getD j false=false:=by
    apply Classical.byContradiction;intro hn;apply hfull;intro j hj;cases hb:listed.getD j false with
    | true=>rfl
    | false=>exact absurd ⟨j,hj,hb⟩ hn
   obtain ⟨j0,hj0,hb0⟩:=hex;refine ⟨fun hr=>absurd hr (K9 hsz h.edges (by have:=h.len; omega) hb0),fun kk hkk=>?_⟩;obtain ⟨h0,o,ho,hready⟩:=mem_ready.1 hkk;have hlt:kk<listed.size:=by rw [hsz]; exact (Array.getElem?_eq_some_iff.1 ho).1
   have hkf:listed[kk]=false:=by simpa [Array.getD,hlt] using h0
   have hz:listed.getD kk false=false:=by simp [Array.getD,hlt,hkf]
   have hge:lo<=kk:=by
    rcases Nat.lt_or_ge kk lo with h' | h'
    ·rw [hlo kk h'] at hz; cases hz
    ·exact h'
   have hltw:kk<lo+rs.length:=by
    rcases Nat.lt_or_ge kk (lo+rs.length) with h' | h'
    ·exact h'
    ·have:=hwin (fun j=>listed.getD j false) kk o hc ho (fun e he hb=>hready e (by simpa using he) hb) h' j0 hj0;rw [hb0] at this; cases this
   obtain ⟨k,rfl⟩:∃ k,kk=lo+k:=⟨kk - lo,by omega⟩
   obtain ⟨nm,kn,rc,hrc,hok⟩:=h.at' k o (by omega) ho;have hready':∀ o',ops[lo+k]? =some o'->∀ e∈o'.after.toList,Region.binds .any e=true->listed.getD e.on false=true:=by
    intro o' ho' e he';rw [ho] at ho';obtain rfl:=uC ho';exact hready e (by simpa using he')
   have hset:∀ j,(listed.setIfInBounds (lo+k) true).getD j false=(listed.getD j false || j==lo+k):=by
    intro j;by_cases hjk:lo+k=j
    ·subst hjk; simp [hlt]
    ·rw [getD_set_ne false hjk];have:(j==lo+k)=false:=by simp; omega
     simp [this]
   have hselset:dF (fun j=>(listed.setIfInBounds (lo+k) true).getD j false) rs=dF (fun j=>listed.getD j false || j==lo+k) rs:=by simp only [hset]
   have hclosed:cC ops (fun j=>(listed.setIfInBounds (lo+k) true).getD j false):=by
    intro j o' hj ho' e he' hb;simp only [hset,Bool.or_eq_true,beq_iff_eq] at hj ⊢;rcases hj with hj | hj
    ·exact .inl (hc j o' hj ho' e he' hb)
    ·subst hj; exact .inl (hready' o' ho' e he' hb)
   have hcount:(listed.setIfInBounds (lo+k) true).toList.count false<=fuel:=by
    rw [Array.toList_setIfInBounds,List.count_set (by simpa using hlt)];have h1:listed.toList[lo+k]=false:=by simpa using hkf
    rw [h1];simp only [beq_self_eq_true,if_true];have:false∈listed.toList:=by rw [<-h1]; simp
    have:=List.count_pos_iff.2 this;simp only [show (true==false)=false from rfl,Bool.false_eq_true,if_false,Nat.add_zero];omega
   have hheap:=h.heap hc hrc hready' hz;have hslots:=h.cF hc hrc hready' hz;have hgo:∀ (K':KM) (mv:Value) (w':World),Ext K (Bk σ (dF (fun j=>listed.getD j false) rs)) w K' (Al (Bk σ (dF (fun j=>listed.getD j false) rs)) rc.eR) w'->
     Rel K' (Al (Bk σ (dF (fun j=>listed.getD j false) rs)) rc.eR) w'->VR K' w' rc.v mv->wpAnyIn (eE ro) 0 P .any ops Q fuel (listed.setIfInBounds (lo+k) true) (a.put o.dst mv) w':=by
    intro K' mv w' e1 r1 v1;refine ih _ K' _ w' (by simp [hsz]) hcount hclosed ?_ ?_ ?_ ?_ (hG.ext e1 hrel) ?_ (by rw [put_defers]; exact hd)
    ·intro j hj;rw [hset,hhi j hj];simp; omega
    ·intro j hj;rw [hset,hlo j hj]; rfl
    ·rw [hselset,<-hheap]; exact he.trans e1
    ·rw [hselset,<-hheap]; exact r1
    ·rw [hselset,<-hslots,hok.dst]; exact (ht.ext e1 hrel).put o.dst v1
   have hwant:Region.wanted o (yielded ops a.tmps)=rc.run:=by
    have hlk:∀ t∈o.looksAt ops,(D3 tmps (dF (fun j=>listed.getD j false) rs))[t]? =(D3 tmps (rs.take k))[t]? :=fun t htm=>h.looks hc hrc hready' hz (by rw [hok.looks]; exact htm);refine hok.want.wanted (K:=K) (w:=w) fun j want dst hg hdst v hv=>?_;rw [<-hlk dst (by simp [Oper.looksAt,hg,hdst])] at hv;obtain ⟨h1,rfl⟩:=List.getElem?_eq_some_iff.1 hv;have h2:dst<a.tmps.size:=by rw [<-ht.1]; exact h1
    exact ⟨a.tmps[dst],by simp [h2],ht.2 dst h1 h2⟩
   unfold wpOpIn;simp only [ho,hwant];cases hrun:rc.run with
   | true=>
    simp only [if_true];have hsem:=hok.sem hrun K _ w a hrel hG (fun r ob hr=>?_) (fun i hi=>?_) (fun s hs=>by cases hs) (fun σ' hs=>by cases hs) (fun x=>?_)
    ·exact hsem.wp (hok.nd hrun) (fun mv w' hv=>by obtain ⟨K',e1,r1,v1⟩:=hv; exact hgo K' mv w' e1 r1 v1)
    ·unfold S0 at hr;split at hr
     ·rename_i hcn;rw [h.reads hc hrc hready' hz (by simpa using hcn)]; exact hr
     ·cases hr
    ·obtain ⟨h1,h2⟩:=hok.free hrun i hi;rw [h.reads hc hrc hready' hz h1]; exact h2
    ·rw [<-WB (t1:=D3 tmps (dF (fun j=>listed.getD j false) rs)) (fun t htm=>h.looks hc hrc hready' hz htm)];exact WC hG ht x
   | false=>
    simp only [Bool.false_eq_true,if_false];obtain ⟨h1,h2⟩:=hok.idle hrun;have:=hgo K undef w (by rw [h2]; exact Ext.refl _ _ _) (by rw [h2]; exact hrel) (by rw [h1]; exact .pure _ _ (.tuple [] #[] rfl fun i h=>by simp at h));exact ⟨fun _ _=>trivial,this⟩
theorem QY {bf:Array Nat}{n k:Nat}(h:Kx bf n k=true):(∀ i,i<k->(bf.getD k 0).testBit i=true)/\∀ j,j<n->k<j->(bf.getD j 0).testBit k=true:=by
 simp only [Kx,uF,List.all_eq_true,List.mem_range] at h;refine ⟨h.1,fun j hj hk=>?_⟩;have:=h.2 j hj;simpa [hk] using this
theorem Ix (he:FK ops.toList 0=true){k:Nat}(hb:Kx (Region.before ops) ops.size k=true)(Z:Nat->Bool)(j:Nat)(o:Oper)(hc:cC ops Z)(ho:ops[j]? =some o)
  (hr:∀ e∈o.after.toList,Region.binds .any e=true->Z e.on=true) (hk:k<=j):(∀ i,i<k->Z i=true)/\(k<j->Z k=true):=by
 obtain ⟨h1,h2⟩:=QY hb;have hr':∀ o',ops[j]? =some o'->∀ e∈o'.after.toList,Region.binds .any e=true->Z e.on=true:=by
  intro o' ho';rw [ho] at ho';obtain rfl:=uC ho';exact hr
 rcases Nat.lt_or_ge k j with hlt | hge
 ·have hzk:Z k=true:=hc.before he j j k (Nat.le_refl _) (h2 j (Array.getElem?_eq_some_iff.1 ho).1 hlt) hr';exact ⟨fun i hi=>hc.before he k k i (Nat.le_refl _) (h1 i hi) fun o' ho' e he' hbd=>hc k o' hzk ho' e he' hbd,fun _=>hzk⟩
 ·obtain rfl:k=j:=by omega
  exact ⟨fun i hi=>hc.before he k k i (Nat.le_refl _) (h1 i hi) hr',fun h=>by omega⟩
def QZ (P:Program)(G:Nat->Option (List EV))(ops:Array Oper)(lo:Nat)(tmps:List EV)(σ:AL)(r:List EV×AL):Prop:=
 ∀ (ro:Option Nat) (ds:List Deferred) (Q:Exit->Act->World->Prop) (K0:KM) (σ0:AL) (w0:World),(∀ K' w' a',Ext K0 σ0 w0 K' r.2 w'->Rel K' r.2 w'->aU K' w' r.1 a'.tmps->a'.defers=ds->Q .normal a' w')->
  ∀ (fuel:Nat) (listed:Array Bool) (K:KM) (a:Act) (w:World),listed.size=ops.size->listed.toList.count false<=fuel->(∀ j,listed.getD j false=true↔j<lo)->
   Ext K0 σ0 w0 K σ w->Rel K σ w->dY G K.F w->aU K w tmps a.tmps->a.defers=ds->wpAnyIn (eE ro) 0 P .any ops Q fuel listed a w
theorem LA (he:FK ops.toList 0=true){listed:Array Bool}{lo:Nat}(hl:∀ j,listed.getD j false=true↔j<lo):cC ops (fun j=>listed.getD j false):=by
 intro j o hj ho e he' hb;have h1:=(hl j).1 hj;have:=GM ops.toList 0 he j o (by simpa using ho) e he' hb;exact (hl e.on).2 (by omega)
theorem RF (hD:dK V P G D)(o:Oper)(tmps:List EV)(σ:AL):Ok V (NV D G o tmps σ) fun _=>True:=by
 unfold NV;split
 ·exact Ok.pure trivial
 ·split
  ·exact Ok.bind (hD.fresh _) fun b=>Ok.ite (fun _=>Ok.pure fun _=>trivial) fun _=>Ok.pure fun _=>trivial
  ·exact Ok.pure trivial
 ·exact Ok.pure trivial
 ·exact Ok.pure trivial
theorem Nr (hD:dK V P G D):∀ (os:List Oper) (tmps:List EV) (σ:AL),Ok V (Kw D P G os tmps σ) fun _=>True
 | [],tmps,σ=>by unfold Kw; exact Ok.pure trivial
 | o :: rest,tmps,σ=>by
  unfold Kw;exact Ok.bind (RF hD o tmps σ) fun rs=>Ok.bind (Φ:=fun _=>True) (Ψ:=fun _=>True->True) (Nr hD rest _ σ) fun rs'=>Ok.pure fun _ _=>trivial
theorem Ns (hD:dK V P G D)(kk:Nat)(ops:Array Oper)(he:FK ops.toList 0=true):∀ (f:Nat) (os:List Oper) (lo nm:Nat) (tmps:List EV) (σ:AL),os=ops.toList.drop lo->lo<=ops.size->
  Ok V (Oo D P G kk ops (Region.before ops) f os lo nm tmps σ) (QZ P G ops lo tmps σ)
 | 0,os,lo,nm,tmps,σ,_,_=>by unfold Oo; exact Ok.fail
 | f+1,os,lo,nm,tmps,σ,hos,hlo=>by
  unfold Oo;have hsegl:∀ (os:List Oper) (i:Nat),∃ rest,os=Q4 (Region.before ops) ops.size os i++rest:=by
   intro os;induction os with
   | nil=>intro i; exact ⟨[],rfl⟩
   | cons o os ih=>
    intro i;unfold Q4;split
    ·exact ⟨o :: os,rfl⟩
    ·obtain ⟨rest,hr⟩:=ih (i+1);exact ⟨rest,by rw [List.cons_append,<-hr]⟩
  obtain ⟨rest0,hrest0⟩:=hsegl os lo;generalize hseg:Q4 (Region.before ops) ops.size os lo=seg at*;dsimp only;refine Ok.bind (Nr hD seg tmps σ) fun pre=>?_;refine Ok.mono (Φ:=QZ P G ops lo tmps σ) ?_ fun r h _=>h;refine Ok.dI fun u hu=>?_;generalize hL:List.filter (Vz σ) pre=L at hu;refine Ok.bind (Iw hD kk ops seg lo nm tmps _) fun rs=>?_;refine Ok.ite (fun hc=>?_) fun _=>Ok.fail;have hdrop:os.drop seg.length=rest0:=by rw [hrest0]; simp
  have hget:∀ k,k<seg.length->seg[k]? =ops[lo+k]? :=by
   intro k hk;have h1:os[k]? =seg[k]? :=by rw [hrest0,List.getElem?_append_left hk]
   rw [<-h1,hos,List.getElem?_drop]; simp
  have hlen:lo+os.length=ops.size:=by rw [hos]; simp; omega
  have hlens:seg.length<=os.length:=by
   have:=congrArg List.length hrest0;simp at this; omega
  have hfast:dP P G ops seg lo tmps (Al σ u) rs->rs.length=seg.length/\dV P G ops lo tmps (Al σ u) rs:=by
   intro hds;obtain ⟨h1,h2⟩:=hds.at;refine ⟨h1,he,hc,by omega,fun k o hk ho=>?_⟩;obtain ⟨nm,kk,rc,g1,g2⟩:=h2 k o (by rw [hget k (by omega)]; exact ho);exact ⟨nm,kk,rc,g1,g2⟩
  have hstart:∀ {ro:Option Nat} {ds:List Deferred} {Q:Exit->Act->World->Prop} {K0:KM} {σ0:AL} {w0:World},dP P G ops seg lo tmps (Al σ u) rs->
    (∀ (Z:Nat->Bool) (j:Nat) (o:Oper),cC ops Z->ops[j]? =some o->(∀ e∈o.after.toList,Region.binds .any e=true->Z e.on=true)->lo+seg.length<=j->∀ i,i<lo+seg.length->Z i=true)->
    (∀ (fuel:Nat) (listed:Array Bool) (K:KM) (a:Act) (w:World),listed.size=ops.size->listed.toList.count false<=fuel->(∀ j,listed.getD j false=true↔j<lo+seg.length)->
     Ext K0 σ0 w0 K (Bk (Al σ u) rs) w->Rel K (Bk (Al σ u) rs) w->dY G K.F w->aU K w (D3 tmps rs) a.tmps->a.defers=ds->wpAnyIn (eE ro) 0 P .any ops Q fuel listed a w)->
    ∀ (fuel:Nat) (listed:Array Bool) (K:KM) (a:Act) (w:World),listed.size=ops.size->listed.toList.count false<=fuel->(∀ j,listed.getD j false=true↔j<lo)->
     Ext K0 σ0 w0 K σ w->Rel K σ w->dY G K.F w->aU K w tmps a.tmps->a.defers=ds->wpAnyIn (eE ro) 0 P .any ops Q fuel listed a w:=by
   intro ro ds Q K0 σ0 w0 hds hwin hnext fuel listed K a w hsz hcnt hl e0 r0 hG ht hd;obtain ⟨h1,hF⟩:=hfast hds;obtain ⟨e1,r1⟩:=Rel.aS L K σ u r0 (fun r o h=>.inl h) hu;have hsel:dF (fun j=>listed.getD j false) rs=[]:=List.filter_eq_nil_iff.2 fun rc hm=>by
    obtain ⟨k,hk,rfl⟩:=List.mem_iff_getElem.1 hm;have h2:=hF.bV k rs[k] (by simp [hk]);intro hh;have:=(hl _).1 hh;omega
   refine hF.any (K0:=K0) (σ0:=σ0) (w0:=w0) (by rw [h1]; exact hwin) (by rw [h1]; exact hnext) fuel listed (K.frzs L) a w hsz hcnt (LA he hl) ?_ ?_ ?_ ?_ (hG.ext e1 r0) ?_ hd
   ·intro j hj;cases hb:listed.getD j false with
    | false=>rfl
    | true=>have:=(hl j).1 hb; omega
   ·intro j hj; exact (hl j).2 hj
   ·rw [hsel]; exact e0.trans e1
   ·rw [hsel]; exact r1
   ·rw [hsel]; exact ht.ext e1 r0
  split
  ·rename_i hnil;rw [hdrop] at hnil;subst hnil;have hsl:seg.length=os.length:=by rw [hrest0]; simp
   refine Ok.pure fun hds ro ds Q K0 σ0 w0 hQ=>?_;refine hstart hds (fun Z j o _ ho _ hj=>?_) fun fuel listed K a w hsz hcnt hl e0 r0 hG ht hd=>?_
   ·have:=(Array.getElem?_eq_some_iff.1 ho).1;omega
   ·have hr:Region.ready .any ops listed=[]:=by
     apply List.eq_nil_iff_forall_not_mem.2;intro j hj;obtain ⟨h0,o,ho,_⟩:=mem_ready.1 hj;have hlt:=(Array.getElem?_eq_some_iff.1 ho).1;have:=(hl j).2 (by omega);have hjl:j<listed.size:=by omega
     simp only [Array.getD,hjl,dif_pos] at h0 this;rw [h0] at this; cases this
    cases fuel with
    | zero=>exact ⟨hr,hQ K w a e0 r0 ht hd⟩
    | succ fuel=>exact ⟨fun _=>hQ K w a e0 r0 ht hd,fun i hi=>by rw [hr] at hi; cases hi⟩
  ·rename_i o rest hcons;rw [hdrop] at hcons;have hopk:ops[lo+seg.length]? =some o:=by
    have h1:os[seg.length]? =some o:=by rw [hrest0,List.getElem?_append_right (Nat.le_refl _),hcons]; simp
    rw [hos,List.getElem?_drop] at h1;simpa using h1
   have hrestdrop:rest=ops.toList.drop (lo+seg.length+1):=by
    have h1:os.drop (seg.length+1)=rest:=by rw [<-List.drop_drop,hdrop,hcons]; rfl
    rw [<-h1,hos,List.drop_drop]; congr 1
   have hltk:=(Array.getElem?_eq_some_iff.1 hopk).1;refine Ok.ite (fun hbar=>?_) fun _=>Ok.fail;have halone:∀ {ro:Option Nat} {ds:List Deferred} {Q:Exit->Act->World->Prop} {K0:KM} {σ0:AL} {w0:World} {t2:List EV} {σ2:AL} {v:EV} (σ1:AL),
     (∀ (fuel:Nat) (listed:Array Bool) (K:KM) (a:Act) (w:World),listed.size=ops.size->listed.toList.count false<=fuel->(∀ j,listed.getD j false=true↔j<lo+seg.length+1)->
      Ext K0 σ0 w0 K σ2 w->Rel K σ2 w->dY G K.F w->aU K w (F7 t2 o.dst v) a.tmps->a.defers=ds->wpAnyIn (eE ro) 0 P .any ops Q fuel listed a w)->
     ∀ (fuel:Nat) (listed:Array Bool) (K:KM) (a:Act) (w:World),listed.size=ops.size->listed.toList.count false<=fuel->(∀ j,listed.getD j false=true↔j<lo+seg.length)->
      Ext K0 σ0 w0 K σ1 w->Rel K σ1 w->dY G K.F w->aU K w t2 a.tmps->a.defers=ds->
      (∀ Kk:Act->World->Prop,(∀ K' mv w',Ext K σ1 w K' σ2 w'->Rel K' σ2 w'->VR K' w' v mv->Kk (a.put o.dst mv) w')->wpOpIn (eE ro) 0 P ops Q (lo+seg.length) Kk a w)->
      wpAnyIn (eE ro) 0 P .any ops Q fuel listed a w:=by
    intro ro ds Q K0 σ0 w0 t2 σ2 v σ1 hnext fuel listed K a w hsz hcnt hl e0 r0 hG ht hd hop;have hkf:listed.getD (lo+seg.length) false=false:=by
     cases hb:listed.getD (lo+seg.length) false with
     | false=>rfl
     | true=>have:=(hl _).1 hb; omega
    have hlt:lo+seg.length<listed.size:=by omega
    have hkf':listed[lo+seg.length]=false:=by simpa [Array.getD,hlt] using hkf
    have hmem:false∈listed.toList:=by rw [<-hkf']; simp
    have hpos:=List.count_pos_iff.2 hmem;cases fuel with
    | zero=>omega
    | succ fuel=>
     refine ⟨fun hr=>absurd hr (K9 hsz he hltk hkf),fun kk hkk=>?_⟩;obtain ⟨h0,o',ho',hready⟩:=mem_ready.1 hkk;have hkl:kk<listed.size:=by rw [hsz]; exact (Array.getElem?_eq_some_iff.1 ho').1
     have hz:listed.getD kk false=false:=by
      have:listed[kk]=false:=by simpa [Array.getD,hkl] using h0
      simp [Array.getD,hkl,this]
     have hge:lo+seg.length<=kk:=by
      rcases Nat.lt_or_ge kk (lo+seg.length) with h' | h'
      ·rw [(hl kk).2 h'] at hz; cases hz
      ·exact h'
     have heq:kk=lo+seg.length:=by
      rcases Nat.lt_or_ge (lo+seg.length) kk with h' | h'
      ·have:=(Ix he hbar (fun j=>listed.getD j false) kk o' (LA he hl) ho' (fun e he hb=>hready e (by simpa using he) hb) hge).2 h';rw [hkf] at this; cases this
      ·omega
     subst heq;refine hop _ fun K' mv w' e1 r1 v1=>?_;refine hnext fuel _ K' _ w' (by simp [hsz]) ?_ ?_ (e0.trans e1) r1 (hG.ext e1 r0) ((ht.ext e1 r0).put o.dst v1) (by rw [put_defers]; exact hd)
     ·rw [Array.toList_setIfInBounds,List.count_set (by simpa using hlt)];have h1:listed.toList[lo+seg.length]=false:=by simpa using hkf'
      rw [h1];simp only [beq_self_eq_true,if_true,show (true==false)=false from rfl,Bool.false_eq_true,if_false,Nat.add_zero];omega
     ·intro j;by_cases hj:lo+seg.length=j
      ·subst hj; simp [hlt]
      ·rw [getD_set_ne false hj,hl j]; omega
   have hguard:∀ {K:KM} {w:World} {a:Act},aU K w (D3 tmps rs) a.tmps->∀ j want dst,o.guard=some (j,want)->((ops[j]?).bind (·.dst))=some dst->∀ v,(D3 tmps rs)[dst]? =some v->∃ mv,a.tmps[dst]? =some mv/\VR K w v mv:=by
    intro K w a ht j want dst _ _ v hv;obtain ⟨h1,rfl⟩:=List.getElem?_eq_some_iff.1 hv;have h2:dst<a.tmps.size:=by rw [<-ht.1]; exact h1
    exact ⟨a.tmps[dst],by simp [h2],ht.2 dst h1 h2⟩
   refine Ok.bind (Φ:=dM ops (D3 tmps rs) o) (Ψ:=fun r=>_->QZ P G ops lo tmps σ r) (Ka hD ops _ o) fun d=>?_;refine Ok.ite (fun hdt=>?_) fun hdf=>?_
   ·refine Ok.ite (fun hfree=>?_) fun _=>Ok.fail;refine Ok.bind (QV hD (FJ G (D3 tmps rs)) (fun r=>(Bk (Al σ u) rs)[r]?) (nm+DH kk seg) kk (some (Bk (Al σ u) rs)) o) fun q=>?_;obtain ⟨v,e⟩:=q;dsimp only;refine (Ns hD kk ops he f rest _ _ (F7 (D3 tmps rs) o.dst v) (e.on (Bk (Al σ u) rs)) hrestdrop (by omega)).mono fun r hr hsem hw hds ro ds Q K0 σ0 w0 hQ=>?_;refine hstart hds (fun Z j o' hcl ho' hrd hj i hi=>(Ix he hbar Z j o' hcl ho' hrd hj).1 i hi) fun fuel listed K a w hsz hcnt hl e0 r0 hG ht hd=>?_;refine halone _ (hr ro ds Q K0 σ0 w0 hQ) fuel listed K a w hsz hcnt hl e0 r0 hG ht hd fun Kk hKk=>?_;have hwant:Region.wanted o (yielded ops a.tmps)=true:=by rw [hw.wanted (hguard ht)]; exact hdt
    unfold wpOpIn;simp only [hopk,hwant,if_true];have hrun:=hsem K _ w a r0 hG (fun r o h=>h) (Lk hfree) (fun s hs=>uC hs) (fun _ _=>by simp) (fun x=>GK hG ht x);exact hrun.wp (Ll hfree) (fun mv w' hv=>by obtain ⟨K',e1,r1,v1⟩:=hv; exact hKk K' mv w' e1 r1 v1)
   ·refine (Ns hD kk ops he f rest _ _ (F7 (D3 tmps rs) o.dst (.tuple [])) (Bk (Al σ u) rs) hrestdrop (by omega)).mono fun r hr hw hds ro ds Q K0 σ0 w0 hQ=>?_;refine hstart hds (fun Z j o' hcl ho' hrd hj i hi=>(Ix he hbar Z j o' hcl ho' hrd hj).1 i hi) fun fuel listed K a w hsz hcnt hl e0 r0 hG ht hd=>?_;refine halone _ (hr ro ds Q K0 σ0 w0 hQ) fuel listed K a w hsz hcnt hl e0 r0 hG ht hd fun Kk hKk=>?_;have hwant:Region.wanted o (yielded ops a.tmps)=false:=by rw [hw.wanted (hguard ht)]; simpa using hdf
    unfold wpOpIn;simp only [hopk,hwant,Bool.false_eq_true,if_false];exact ⟨fun _ _=>trivial,hKk K undef w (Ext.refl _ _ _) r0 (.pure _ _ (.tuple [] #[] rfl fun i h=>by simp at h))⟩
theorem SM (hD:dK V P G D)(hm:P.follows .mixedOrders=true)(id:Nat)(ops:Array Oper)(draw rnd:Bool)(tmps:List EV)(σ:AL):
  Ok V (QK D P G ops draw tmps σ) fun r=>aE P G rnd (.region id ops draw) tmps σ (.normal,r.1,r.2):=by
 unfold QK;refine Ok.bind (hD.room draw) fun kk=>?_;refine Ok.mono (Φ:=fun r=>aE P G rnd (.region id ops draw) tmps σ (.normal,r.1,r.2)) ?_ fun r h _=>h;cases draw with
 | true=>
  simp only [if_true];refine Ok.ite (fun he=>?_) fun _=>Ok.fail;refine (Ns hD kk ops he (ops.size+1) ops.toList 0 σ.length tmps _ (by simp) (by omega)).mono fun r hr ro K w a _ hR hG ht=>?_;obtain ⟨e0,r0⟩:=hR.pad (DH kk ops.toList);obtain ⟨e1,r1⟩:=r0.drawn (w.drawn+1);refine wpIn_region_any hm (hr ro a.defers (aJ K σ w a.defers (.normal,r.1,r.2)) K σ w (fun K' w' a' he hr hv hd'=>⟨trivial,K',[],he,hr,hv,by rw [hd']; exact Marks.none⟩) ops.size (Array.replicate ops.size false) K a _ (by simp) (by simp) ?_
   (e0.trans e1) r1 (hG.ext e1 r0) ((ht.ext e0 hR).ext e1 r0) rfl)
  intro j;simp [Array.getD]
 | false=>
  simp only [Bool.false_eq_true,if_false];refine (QW hD kk ops ops.toList σ.length tmps _).mono fun r hsem ro K w a _ hR hG ht=>?_;obtain ⟨e0,r0⟩:=hR.pad (DH kk ops.toList);refine wpIn_region (hsem ro a.defers K w a _ r0 hG (ht.ext e0 hR) rfl ?_ (aJ K σ w a.defers (.normal,r.1,r.2)) fun K' w' a' he hr hv hd'=>⟨trivial,K',[],e0.trans he,hr,hv,by rw [hd']; exact Marks.none⟩);apply List.ext_getElem?;intro i;by_cases hi:i<ops.size
  ·simp [hi]
  ·simp [hi]
end
end Go.Ev
namespace Go.Ev
section
variable {P:Program}{S:Type}{V:S->Prop}{G:Nat->Option (List EV)}{D:Drv S}
theorem aJ.trans {K K1:KM}{σ σ1:AL}{w w1:World}(h:Ext K σ w K1 σ1 w1){ds ds1:List Deferred}{bs1:List Nat}(hm:Marks K1 σ1 w w1 ds ds1 bs1)
  {r:EX×List EV×AL} {e:Exit} {a:Act} {w':World} (hp:aJ K1 σ1 w1 ds1 r e a w'):aJ K σ w ds r e a w':=by
 cases e with
 | outgrown=>exact hp.elim
 | normal=>obtain ⟨h1,K',bs,e1,h3,h4,h5⟩:=hp; exact ⟨h1,K',_,h.trans e1,h3,h4,hm.trans h.size e1 h5⟩
 | exit i=>obtain ⟨h1,K',bs,e1,h3,h4,h5⟩:=hp; exact ⟨h1,K',_,h.trans e1,h3,h4,hm.trans h.size e1 h5⟩
 | goto l=>obtain ⟨h1,K',bs,e1,h3,h4,h5⟩:=hp; exact ⟨h1,K',_,h.trans e1,h3,h4,hm.trans h.size e1 h5⟩
 | ret=>obtain ⟨h1,K',bs,e1,h3,h4,h5⟩:=hp; exact ⟨h1,K',_,h.trans e1,h3,h4,hm.trans h.size e1 h5⟩
 | panic c=>obtain ⟨h1,K',bs,e1,h3,h4,h5⟩:=hp; exact ⟨h1,K',_,h.trans e1,h3,h4,hm.trans h.size e1 h5⟩
theorem aJ.other {K:KM}{σ:AL}{w:World}{ds:List Deferred}{r:EX×List EV×AL}(hr:r.1≠.normal){next:Act->World->Prop}{e:Exit}{a:Act}{w':World}
  (hp:aJ K σ w ds r e a w'):Exit.then next (aJ K σ w ds r) e a w':=by
 cases e with
 | outgrown=>exact hp.elim
 | normal=>
  obtain ⟨h1,_⟩:=hp;obtain ⟨ex,t,s⟩:=r;cases ex with
  | normal=>exact absurd rfl hr
  | leave i=>exact h1.elim
  | ret=>exact h1.elim
 | exit i=>exact hp
 | goto l=>exact hp
 | ret=>exact hp
 | panic c=>exact hp
theorem HX {ro:Option Nat}{c:Code}{Q:Exit->Act->World->Prop}{a:Act}{w:World}(h:c.wpIn (eE ro) 0 P (Exit.then (wpL ro P c Q) Q) a w):wpL ro P c Q a w:=by
 intro b k cs hro;obtain ⟨e,a₁,w₁,hq,harr⟩:=h b (.inLoop c :: k) cs hro trivial (NX _ _);cases e with
 | normal=>
  obtain ⟨e₂,a₂,w₂,hq₂,harr₂⟩:=hq b k cs hro;exact ⟨e₂,a₂,w₂,hq₂,.of_steps (StepsIn.trans harr (.one (fenced_calm (n:=0) trivial (NX _ _) rfl) stepR_inLoop)) harr₂⟩
 | exit id=>exact ⟨_,a₁,w₁,hq,.pass (x:=.inLoop c) rfl (fun _ _=>.inl (by simp)) harr⟩
 | goto l=>exact ⟨_,a₁,w₁,hq,.pass (x:=.inLoop c) rfl (fun _ _=>.inl (by simp)) harr⟩
 | ret=>exact ⟨_,a₁,w₁,hq,.pass (x:=.inLoop c) rfl (fun _ _=>.inl (by simp)) harr⟩
 | panic ch=>exact ⟨_,a₁,w₁,hq,.pass (x:=.inLoop c) rfl (fun _ _=>.inl (by simp)) harr⟩
 | outgrown=>exact ⟨_,a₁,w₁,hq,.pass (x:=.inLoop c) rfl (fun _ _=>.inl (by simp)) harr⟩
theorem UI {ro:Option Nat}{c:Code}{Q:Exit->Act->World->Prop}{a:Act}{w:World}(h:wpL ro P c Q a w):(Code.loop c).wpIn (eE ro) 0 P Q a w:=by
 intro b k cs hro hb hr;obtain ⟨e,a',w',hq,harr⟩:=h b k cs hro;exact ⟨e,a',w',hq,.of_steps (.one (fenced_calm hb hr rfl) stepR_loop) harr⟩
theorem Hh {ro:Option Nat}{c:Code}{Q Q':Exit->Act->World->Prop}{a:Act}{w:World}(h:wpL ro P c Q a w)(hq:∀ e a w,Q e a w->Q' e a w):wpL ro P c Q' a w:=
 fun b k cs hro=>let ⟨e,a',w',q,r⟩:=h b k cs hro; ⟨e,a',w',hq _ _ _ q,r⟩
theorem aB.step {rnd:Bool}{c:Code}{tmps t:List EV}{σ s:AL}{r:EX×List EV×AL}(h:aE P G rnd c tmps σ (.normal,t,s))(hl:aB P G rnd c t s r):aB P G rnd c tmps σ r:=by
 intro ro K w a hro hR hG ht;refine HX (wpIn_mono (h ro K w a hro hR hG ht) fun e a' w' hp=>hp.normal fun K' w'' a'' bs e1 r1 v1 d1=>?_);exact Hh (hl ro K' w'' a'' hro r1 (hG.ext e1 hR) v1) fun e a w hq=>aJ.trans e1 d1 hq
theorem aB.last {rnd:Bool}{c:Code}{tmps:List EV}{σ:AL}{r:EX×List EV×AL}(h:aE P G rnd c tmps σ r)(hr:r.1≠.normal):aB P G rnd c tmps σ r:=by
 intro ro K w a hro hR hG ht;exact HX (wpIn_mono (h ro K w a hro hR hG ht) fun e a' w' hp=>hp.other hr)
theorem aB.toC {rnd:Bool}{c:Code}{tmps:List EV}{σ:AL}{r:EX×List EV×AL}(h:aB P G rnd c tmps σ r):aE P G rnd (.loop c) tmps σ r:=
 fun ro K w a hro hR hG ht=>UI (h ro K w a hro hR hG ht)
theorem aE.seq {rnd:Bool}{x y:Code}{tmps t:List EV}{σ s:AL}{r:EX×List EV×AL}(h:aE P G rnd x tmps σ (.normal,t,s))(hl:aE P G rnd y t s r):aE P G rnd (.seq x y) tmps σ r:=by
 intro ro K w a hro hR hG ht;refine wpIn_seq (wpIn_mono (h ro K w a hro hR hG ht) fun e a' w' hp=>hp.normal fun K' w'' a'' bs e1 r1 v1 d1=>?_);exact wpIn_mono (hl ro K' w'' a'' hro r1 (hG.ext e1 hR) v1) fun e a w hq=>aJ.trans e1 d1 hq
theorem aE.seq_out {rnd:Bool}{x y:Code}{tmps:List EV}{σ:AL}{r:EX×List EV×AL}(h:aE P G rnd x tmps σ r)(hr:r.1≠.normal):aE P G rnd (.seq x y) tmps σ r:=by
 intro ro K w a hro hR hG ht;exact wpIn_seq (wpIn_mono (h ro K w a hro hR hG ht) fun e a' w' hp=>hp.other hr)
theorem aE.block {rnd:Bool}{id:Nat}{c:Code}{tmps:List EV}{σ:AL}{ex:EX}{t:List EV}{s:AL}(h:aE P G rnd c tmps σ (ex,t,s)):
  aE P G rnd (.block id c) tmps σ (match ex with | .leave i=>if i=id then .normal else .leave i | e=>e,t,s):=by
 intro ro K w a hro hR hG ht;refine wpIn_block (wpIn_mono (h ro K w a hro hR hG ht) fun e a' w' hp=>?_);cases e with
 | outgrown=>exact hp.elim
 | normal=>
  cases ex with
  | normal=>exact hp
  | leave i=>exact hp.1.elim
  | ret=>exact hp.1.elim
 | exit j=>
  cases ex with
  | normal=>exact hp.1.elim
  | leave i=>
   obtain ⟨h1,h2⟩:=hp;have h1:i=j:=h1;subst h1;simp only [Exit.inBlock];by_cases hi:i=id
   ·rw [if_pos hi,if_pos hi]; exact ⟨trivial,h2⟩
   ·rw [if_neg hi,if_neg hi]; exact ⟨rfl,h2⟩
  | ret=>exact hp.1.elim
 | goto l=>cases ex<;>exact hp.1.elim
 | ret=>
  cases ex with
  | normal=>exact hp.1.elim
  | leave i=>exact hp.1.elim
  | ret=>exact hp
 | panic c=>cases ex<;>exact hp.1.elim
theorem Rel.grow {K:KM}{σ:AL}{w w':World}(hR:Rel K σ w){o:Obj}(hN:New w w' o):Ext K σ w K σ w'/\Rel K σ w':=by
 have hE:Ext K σ w K σ w':=⟨Nat.le_refl _,fun r h=>h,fun r h=>⟨rfl,rfl,rfl,rfl⟩,fun b h=>h,fun b h=>.inl h,fun b h=>.inr h,fun b hb _=>hN.other b hb,by rw [hN.size]; omega,hN.os,hN.tape,hN.output⟩
 refine ⟨hE,fun r o ho=>?_,hR.inj,hR.cD,fun r o ho ht=>Nat.lt_of_lt_of_le (hR.lt r o ho ht) hE.size,fun b h=>Nat.lt_of_lt_of_le (hR.Flt b h) hE.size,hR.alt⟩;by_cases hf:o=.free
 ·subst hf; exact hR.obj r _ ho
 ·exact (hR.obj r o ho).ext hE hR hf fun ht=>hN.other _ (hR.lt r o ho ht)
theorem aE.rangeFunc {g:Operand}{ps:Array Tmp}{assign body:Code}{tmps:List EV}{σ:AL}{f:FuncId}{first captured:List EV}{v:EV}{σ2:AL}
  {st:LoopState} {t':List EV} {ps':Array Tmp} {x' y':Code} {pend:Option Code} {ex:EX}
  (hev:FJ G tmps g=.func (.func f) first captured)
  (hsem:aA P G f (first++[.it σ.length]++captured) ((σ++List.replicate 1 fE.free).set σ.length (.loop .ready tmps ps assign body none)) v σ2)
  (h2:σ2[σ.length]? =some (.loop st t' ps' x' y' pend)) (hst:st≠.busy) (hp:ex.jump=pend):
  aE P G false (.rangeFunc g ps assign body) tmps σ (ex,tmps,σ2.set σ.length (.loop .exhausted t' ps' x' y' pend)):=by
 intro ro K w a hro hR hG ht;have hro':ro=none:=by cases ro with | none=>rfl | some _=>simp at hro
 subst hro';refine wpIn_rangeFunc fun fn _=>?_;obtain ⟨⟨fn',hfn,hb,hne⟩,hcall⟩:=hsem;have hbn:fn'.body.isNone=false:=by cases h:fn'.body<;>simp_all
 have hg:=GK hG ht g;rw [hev] at hg;obtain ⟨mf,mc,hge,hf1,hf2⟩:=hg.cE;have N1:New w (w.alloc (.deferred (some []))) (.deferred (some [])):=New.push w _;obtain ⟨e1,r1⟩:=hR.grow N1;obtain ⟨e2,r2⟩:=r1.pad 1;have hfree:(σ++List.replicate 1 fE.free)[σ.length]? =some .free:=by simp
 have N2:New (w.alloc (.deferred (some []))) ((w.alloc (.deferred (some []))).alloc (.loop { state:=.ready,pending:=none,fn,tmps:=a.tmps,params:=ps,assign,body,defers:=w.heap.size })) _:=New.push _ _;have hsz:(w.alloc (.deferred (some []))).heap.size=w.heap.size+1:=N1.size;have e12:=e1.trans e2;obtain ⟨e3,r3⟩:=r2.new (nm:=σ.length) hfree N2 (obj:=.loop .ready tmps ps assign body none) rfl (off:=0) (e:=0) (l:=0) fun σ' hE=>by
  have ht':=(ht.ext e12 hR).ext hE r2;refine ⟨.inl rfl,fn,a.tmps,w.heap.size,?_,ht'.1,ht'.2⟩;simpa [KM.new] using N2.here
 have e123:=e12.trans e3;generalize hW:((w.alloc (.deferred (some []))).alloc (.loop { state:=.ready,pending:=none,fn,tmps:=a.tmps,params:=ps,assign,body,defers:=w.heap.size }))=W at*;have hval:VR (K.new σ.length (w.alloc (.deferred (some []))).heap.size 0 0 0) W (.it σ.length) (.func (.yield (w.heap.size+1)) #[] #[]):=by
  have:=VR.it (K:=K.new σ.length (w.alloc (.deferred (some []))).heap.size 0 0 0) (w:=W) σ.length (.inl rfl);simpa [KM.new,hsz] using this
 have hargs:aU (K.new σ.length (w.alloc (.deferred (some []))).heap.size 0 0 0) W (first++[.it σ.length]++captured) (mf++#[.func (.yield (w.heap.size+1)) #[] #[]]++mc):=
  (aU.append ((hf1.ext e123 hR)) ⟨rfl,fun i h1 h2=>by
   have:i=0:=by simp at h1; omega
   subst this; exact hval⟩).append (hf2.ext e123 hR)
 refine ⟨w.heap.size+1,[Ld w.heap.size],W,{ target:=.fn (.func f) mc,args:=mf++#[.func (.yield (w.heap.size+1)) #[] #[]] },W,f,mf++#[.func (.yield (w.heap.size+1)) #[] #[]]++mc,W,?_,?_,fun _ _=>trivial,?_,by simp [eE],?_⟩
 ·rw [<-hW]; exact run_enterLoop_outer fn a.tmps ps assign body
 ·have hc:a.eval (.const (.func (.yield (w.heap.size+1)) #[] #[]))=.func (.yield (w.heap.size+1)) #[] #[]:=rfl;have harr:(#[Operand.const (.func (.yield (w.heap.size+1)) #[] #[])]:Array Operand).map a.eval=#[.func (.yield (w.heap.size+1)) #[] #[]]:=by simp [hc]
  simp only [resolve,rangeCall,hge,harr,Deferred.ofValue,Sem.run_pure]
 ·simp only [invoke,callFunc,Sem.run_bind,Sem.run_pure,uE,run_program,hfn,hne,hbn,Bool.false_eq_true,if_false]
 ·refine (Ot (hcall _ W _ r3 (hG.ext e123 hR) hargs)).mono fun e w' he=>?_;cases e with
  | outgrown=>exact he.elim
  | panicked _=>exact he.elim
  | returned mv=>
   obtain ⟨K',x1,x2,x3⟩:=he;have hE:=e123.trans x1;obtain ⟨rec,g1,g2,g3,g4,g5,g6,g7,hal,hturn⟩:=HN x2 h2;obtain ⟨y1,y2⟩:=hturn .exhausted pend;have hblk:K'.vP σ.length=w.heap.size+1:=by
    rw [(x1.vP σ.length (.inl rfl)).1];simp [KM.new,hsz]
   rw [hblk] at y1 y2;have hend:=run_endLoop (P:=P) (hblk▸g1) (by rw [g2]; exact hst);have heq:({ rec with state:=.exhausted }:Loop)={ rec with state:=.exhausted,pending:=pend }:=by rw [<-g3]
   rw [heq,g3] at hend;have hE2:=hE.trans y1;have hbs:¬ aD K' (σ2.set σ.length (.loop .exhausted t' ps' x' y' pend)) w.heap.size/\¬ K'.F w.heap.size:=by
    have hEE:=(e2.trans (e3.trans x1)).trans y1;have hno:¬ aD K σ w.heap.size:=by
     rintro ⟨r,o,h1,h2,h3⟩
     have:=hR.lt r o h1 (BY h2);omega
    refine ⟨fun ho=>?_,fun hF=>?_⟩
    ·rcases hEE.own _ ho with h | h
     ·omega
     ·exact hno h
    ·rcases hEE.F' _ hF with h | h | h
     ·have:=hR.Flt _ h; omega
     ·omega
     ·exact hno h
   have hmark:Marks K' (σ2.set σ.length (.loop .exhausted t' ps' x' y' pend)) w (w'.putObj (w.heap.size+1) (.loop { rec with state:=.exhausted,pending:=pend })) a.defers (Ld w.heap.size :: a.defers) [w.heap.size]:=by
    refine ⟨rfl,by simp,fun b hb=>?_⟩;obtain rfl:b=w.heap.size:=by simpa using hb
    refine ⟨Nat.le_refl _,?_,hbs.1,hbs.2⟩;have hEE:=(e2.trans (e3.trans x1)).trans y1;rw [hEE.stay _ (by omega) (fun ho=>by
     obtain ⟨r,o,h1,h2,h3⟩:=ho;have:=hR.lt r o h1 (BY h2);omega)]
    exact N1.here
   refine ⟨pend,_,hend,?_⟩;have fin:∀ e,ex.same e->aJ K σ w a.defers (ex,tmps,σ2.set σ.length (.loop .exhausted t' ps' x' y' pend)) e { a with defers:=[Ld w.heap.size]++a.defers } (w'.putObj (w.heap.size+1) (.loop { rec with state:=.exhausted,pending:=pend })):=by
    intro e hs;have hh:∃ K'' bs,Ext K σ w K'' (σ2.set σ.length (.loop .exhausted t' ps' x' y' pend)) _/\Rel K'' _ _/\aU K'' _ tmps a.tmps/\Marks K'' _ w _ a.defers (Ld w.heap.size :: a.defers) bs:=⟨K',_,hE2,y2,ht.ext hE2 hR,hmark⟩
    cases e with
    | outgrown=>cases ex<;>exact hs.elim
    | normal=>exact ⟨hs,hh⟩
    | exit i=>exact ⟨hs,hh⟩
    | ret=>exact ⟨hs,hh⟩
    | goto l=>exact ⟨hs,hh⟩
    | panic c=>exact ⟨hs,hh⟩
   subst hp;cases ex with
   | normal=>exact fin .normal trivial
   | leave i=>exact wpIn_exit (fin (.exit i) rfl)
   | ret=>exact wpIn_ret (fin .ret trivial)
theorem Ef {b:Frame}{a:Act}{k:List Item}{cs:List Frame}{w:World}{c:Code}:step P (lone (b.atR a (.code (.scope c) :: k)) cs w)=.next (lone (b.atR a (.code c :: .inScope c :: k)) cs w):=
 step_lone_go (by simp [stepG,stepG.exec,Frame.atR])
theorem Ol {b:Frame}{a:Act}{k:List Item}{cs:List Frame}{w:World}{c:Code}:step P (lone (b.atR a (.inScope c :: k)) cs w)=.next (lone (b.atR a k) cs w):=
 step_lone_go (by simp [stepG,stepG.exec,Frame.atR])
theorem aE.scope {rnd:Bool}{c:Code}{tmps:List EV}{σ:AL}{r:EX×List EV×AL}(h:aE P G rnd c tmps σ r):aE P G rnd (.scope c) tmps σ r:=by
 intro ro K w a hro hR hG ht b k cs hb hf hr;have h0:(lone (b.atR a (.code (.scope c) :: k)) cs w).fenced P (eE ro):=fenced_calm hf hr rfl;obtain ⟨e,a₁,w₁,hq,harr⟩:=h ro K w a hro hR hG ht b (.inScope c :: k) cs hb hf hr;cases e with
 | normal=>exact ⟨.normal,a₁,w₁,hq,.head h0 Ef (StepsIn.trans harr (.one (fenced_calm hf hr rfl) Ol))⟩
 | exit id=>
  have hx:exitTo id (.inScope c :: k)=exitTo id k:=by simp [exitTo]
  exact ⟨.exit id,a₁,w₁,hq,fun k' hk=>.head h0 Ef (harr.1 k' (by rw [hx]; exact hk)),
   fun hr' hk=>let ⟨k₁,h1,h2⟩:=harr.2 hr' (by rw [hx]; exact hk); ⟨k₁,h1,.head h0 Ef h2⟩⟩
 | goto l=>
  obtain ⟨hs,_⟩:=hq;obtain ⟨ex,t,s⟩:=r;cases ex<;>exact hs.elim
 | ret=>exact ⟨_,a₁,w₁,hq,.of_steps (.one h0 Ef) harr⟩
 | panic ch=>exact ⟨_,a₁,w₁,hq,.of_steps (.one h0 Ef) harr⟩
 | outgrown=>exact ⟨_,a₁,w₁,hq,.of_steps (.one h0 Ef) harr⟩
theorem D7 (hD:dK V P G D)(hm:P.follows .mixedOrders=true):∀ (rnd:Bool) (n:Nat) (c:Code) (tmps:List EV) (σ:AL),
  Ok V (BX D P G rnd n c tmps σ) fun r=>aE P G rnd c tmps σ r/\∀ b,c=.loop b->aB P G rnd b tmps σ r
 | rnd,0,c,tmps,σ=>by unfold BX; exact Ok.fail
 | rnd,n+1,c,tmps,σ=>by
  unfold BX;have ih:=D7 hD hm rnd n;refine Ok.bind (hD.piece rnd c tmps σ) fun o=>?_;cases o with
  | some r=>exact Ok.pure fun h=>h r rfl
  | none=>
  refine Ok.mono (Φ:=fun r=>aE P G rnd c tmps σ r/\∀ b,c=.loop b->aB P G rnd b tmps σ r) ?_ fun r h _=>h;dsimp only;split
  ·exact Ok.pure ⟨fun ro K w a hro hR hG ht=>wpIn_skip ⟨trivial,K,[],Ext.refl _ _ _,hR,ht,Marks.none⟩,fun b hb=>by cases hb⟩
  ·rename_i id ops draw;refine Ok.bind (SM hD hm id ops draw rnd tmps σ) fun r=>Ok.pure fun h=>⟨h,fun b hb=>by cases hb⟩
  ·rename_i x y;refine Ok.bind (ih x tmps σ) fun r=>?_;obtain ⟨ex,t,s⟩:=r;split
   ·rename_i he;dsimp only at he;subst he;exact (ih y t s).mono fun r2 h2 h1=>⟨h1.1.seq h2.1,fun b hb=>by cases hb⟩
   ·rename_i he;exact Ok.pure fun h1=>⟨h1.1.seq_out (by simpa using he),fun b hb=>by cases hb⟩
  ·rename_i c x y;split
   ·rename_i b hb;refine Ok.bind (hD.br b) fun d=>?_;refine Ok.ite (fun hd=>?_) fun hd=>?_
    ·refine (ih x tmps σ).mono fun r h hdb=>⟨fun ro K w a hro hR hG ht=>?_,fun b hb=>by cases hb⟩
     have h1:=GK hG ht c;rw [hb] at h1;have:=h1.bC;rw [hdb.symm.trans hd] at this;exact wpIn_cond_true this (h.1 ro K w a hro hR hG ht)
    ·refine (ih y tmps σ).mono fun r h hdb=>⟨fun ro K w a hro hR hG ht=>?_,fun b hb=>by cases hb⟩
     have h1:=GK hG ht c;rw [hb] at h1;have:=h1.bC;rw [hdb.symm.trans (by simpa using hd)] at this;exact wpIn_cond_false this (h.1 ro K w a hro hR hG ht)
   ·exact Ok.fail
  ·rename_i id c;refine Ok.bind (ih c tmps σ) fun r=>?_;obtain ⟨ex,t,s⟩:=r;split
   ·rename_i i he;dsimp only at he;subst he;refine Ok.ite (fun hi=>Ok.pure fun h=>⟨?_,fun b hb=>by cases hb⟩) fun hi=>Ok.pure fun h=>⟨?_,fun b hb=>by cases hb⟩
    ·have:=h.1.block (id:=id); simpa only [if_pos hi] using this
    ·have:=h.1.block (id:=id); simpa only [if_neg hi] using this
   ·rename_i he;refine Ok.pure fun h=>⟨?_,fun b hb=>by cases hb⟩
    have:=h.1.block (id:=id);cases ex with
    | normal=>exact this
    | leave i=>exact absurd rfl (he i)
    | ret=>exact this
  ·exact Ok.pure ⟨fun ro K w a hro hR hG ht=>wpIn_exit ⟨rfl,K,[],Ext.refl _ _ _,hR,ht,Marks.none⟩,fun b hb=>by cases hb⟩
  ·exact (ih _ tmps σ).mono fun r h=>⟨h.1.scope,fun b hb=>by cases hb⟩
  ·exact Ok.pure ⟨fun ro K w a hro hR hG ht=>wpIn_label ⟨trivial,K,[],Ext.refl _ _ _,hR,ht,Marks.none⟩,fun b hb=>by cases hb⟩
  ·exact Ok.pure ⟨fun ro K w a hro hR hG ht=>wpIn_ret ⟨trivial,K,[],Ext.refl _ _ _,hR,ht,Marks.none⟩,fun b hb=>by cases hb⟩
  ·rename_i c;refine Ok.bind (ih c tmps σ) fun r=>?_;obtain ⟨ex,t,s⟩:=r;dsimp only;split
   ·refine (ih (.loop c) t s).mono fun r2 h2 h1=>?_;have:=aB.step h1.1 (h2.2 c rfl);exact ⟨this.toC,fun b hb=>by cases hb; exact this⟩
   ·rename_i he;refine Ok.pure fun h1=>?_;have:=aB.last h1.1 (by simpa using he);exact ⟨this.toC,fun b hb=>by cases hb; exact this⟩
  ·rename_i g ps assign body;refine Ok.ite (fun _=>Ok.fail) fun hrnd=>?_;split
   ·rename_i f first captured hev
    refine Ok.bind (hD.bZ f _ _) fun r=>?_;obtain ⟨v,σ2⟩:=r;dsimp only;split
    ·rename_i st t' ps' x' y' pend h2;refine Ok.ite (fun _=>Ok.fail) fun hst=>?_;split
     ·rename_i ex hex;refine Ok.pure fun h=>⟨?_,fun b hb=>by cases hb⟩
      have hr:rnd=false:=by simpa using hrnd
      subst hr;exact aE.rangeFunc hev h h2 hst (EX.ofJump_ok hex)
     ·exact Ok.fail
    ·exact Ok.fail
   ·exact Ok.fail
  ·exact Ok.fail
theorem mapM_some {α β:Type}{f:α->Option β}:∀ {l:List α} {r:List β},l.mapM f=some r->r.length=l.length/\∀ i (h:i<l.length) (h':i<r.length),f l[i]=some r[i]:=by
 intro l;induction l with
 | nil=>intro r h; simp at h; subst h; simp
 | cons x xs ih=>
  intro r h;rw [List.mapM_cons] at h;cases hx:f x with
  | none=>rw [hx] at h; simp at h
  | some y=>
   cases hxs:xs.mapM f with
   | none=>rw [hx,hxs] at h; simp at h
   | some ys=>
    rw [hx,hxs] at h;simp at h;subst h;obtain ⟨h1,h2⟩:=ih hxs;refine ⟨by simp [h1],fun i hi hi'=>?_⟩;cases i with
    | zero=>simpa using hx
    | succ i=>simpa using h2 i (by simpa using hi) (by simpa using hi')
def Xi (mt:Array Value):ResultVar->Sem Value
 | .tmp t=>pure (mt.getD t undef)
 | .cell a t=>do loadVar t (<-asAddr (mt.getD a undef))
theorem SN (fn:Func)(mt:Array Value):results fn mt=(do let vs<-fn.results.mapM (Xi mt); pure (if h:vs.size=1 then vs[0] else .tuple vs)):=by
 unfold results
 congr 1
theorem SO {K:KM}{w:World}{σ:AL}{tmps:List EV}{mt:Array Value}(hR:Rel K σ w)(ht:aU K w tmps mt){rv:ResultVar}{v:EV}(h:JA P tmps σ rv=some v):
  ∃ mv,(Xi mt rv).run P w=.ok mv w/\VR K w v mv:=by
 have hget:∀ t,VR K w (tmps.getD t .undef) (mt.getD t undef):=by
  intro t;by_cases h:t<tmps.length
  ·have h':t<mt.size:=by rw [<-ht.1]; exact h
   have:=ht.2 t h h';simpa [uA,h,h'] using this
  ·have:tmps.getD t .undef=.undef:=by simp [uA,h]
   rw [this]; exact .pure _ _ (.undef _)
 cases rv with
 | tmp t=>
  simp only [JA,GI,uB] at h;subst h;exact ⟨_,rfl,hget t⟩
 | cell a t=>
  simp only [JA,GI] at h;split at h
  ·rename_i n g r k hn hg hp;split at h
   ·rename_i fr pf cells hr;have h1:=hget a;rw [hp] at h1;obtain ⟨he,_⟩:=h1.bO;obtain ⟨mv,h2,h3⟩:=He (P:=P) hn hg (bQ.ofVar (hR.obj r _ hr)) h;exact ⟨mv,by simp [Xi,he,asAddr,h2],h3⟩
   ·cases h
  ·cases h
theorem RG {K:KM}{w:World}{σ:AL}{tmps:List EV}{mt:Array Value}(hR:Rel K σ w)(ht:aU K w tmps mt){fn:Func}{v:EV}(h:Io P fn tmps σ=some v):
  ∃ mv,(results fn mt).run P w=.ok mv w/\VR K w v mv:=by
 unfold Io at h;cases hm:fn.results.toList.mapM (JA P tmps σ) with
 | none=>rw [hm] at h; simp at h
 | some vs=>
  rw [hm] at h;obtain ⟨hl,hi⟩:=mapM_some hm;have hall:∀ (l:List ResultVar) (vs:List EV),l.length=vs.length->(∀ i (h:i<l.length) (h':i<vs.length),JA P tmps σ l[i]=some vs[i])->
    ∃ mvs:List Value,(l.mapM (Xi mt)).run P w=.ok mvs w/\
     mvs.length=vs.length/\∀ i (h:i<vs.length) (h':i<mvs.length),VR K w vs[i] mvs[i]:=by
   intro l;induction l with
   | nil=>
    intro vs h _;obtain rfl:vs=[]:=List.length_eq_zero_iff.1 h.symm;exact ⟨[],by simp,rfl,by simp⟩
   | cons rv l ih=>
    intro vs h h1;cases vs with
    | nil=>simp at h
    | cons x xs=>
     obtain ⟨mv,p1,p2⟩:=SO (P:=P) hR ht (h1 0 (by simp) (by simp));obtain ⟨mvs,q1,q2,q3⟩:=ih xs (by simpa using h) fun i a b=>h1 (i+1) (by simpa using a) (by simpa using b);refine ⟨mv :: mvs,?_,by simp [q2],fun i a b=>?_⟩
     ·rw [List.mapM_cons,Sem.run_bind];simp only [List.getElem_cons_zero] at p1;rw [p1,uE,Sem.run_bind,q1,uE,Sem.run_pure]
     ·cases i with
      | zero=>simpa using p2
      | succ i=>simpa using q3 i (by simpa using a) (by simpa using b)
  obtain ⟨mvs,g1,g2,g3⟩:=hall fn.results.toList vs hl.symm fun i a b=>hi i a b;refine ⟨if h:mvs.toArray.size=1 then mvs.toArray[0] else .tuple mvs.toArray,?_,?_⟩
  ·rw [SN,Sem.run_bind,Array.mapM_eq_mapM_toList,map_eq_pure_bind,Sem.run_bind,g1];rfl
  ·cases vs with
   | nil=>
    obtain rfl:mvs=[]:=List.length_eq_zero_iff.1 g2;obtain rfl:=uC h;exact .tuple _ _ rfl (by simp)
   | cons x xs=>
    cases xs with
    | nil=>
     obtain rfl:=uC h;have hs:mvs.toArray.size=1:=by simpa using g2
     rw [dif_pos hs];have:=g3 0 (by simp) (by rw [g2]; simp);simpa using this
    | cons y ys=>
     obtain rfl:=uC h;have hs:¬ mvs.toArray.size=1:=by simp [g2]
     rw [dif_neg hs];exact .tuple _ _ (by simp [g2]) fun i a b=>by simpa using g3 i a (by simpa using b)
theorem VR.stay {K:KM}{w w':World}(hs:Tl K.F w w'){v:EV}{mv:Value}(h:VR K w v mv):VR K w' v mv:=by
 induction h with
 | pure v mv hp=>exact .pure v mv (hp.mono (fun _ h=>h) hs)
 | ptr r k ha=>exact .ptr r k ha
 | pe r esz i k ha hi=>exact .pe r esz i k ha hi
 | ms r esz off len cap mcap a ha hle hlen hcap hnone haddr=>exact .ms r esz off len cap mcap a ha hle hlen hcap hnone haddr
 | mm r ha=>exact .mm r ha
 | it r ha=>exact .it r ha
 | agg cs mcs hl h1 _ ih=>exact .agg cs mcs hl h1 ih
 | tuple cs mcs hl _ ih=>exact .tuple cs mcs hl ih
 | func fn a c mf mc hl hl' _ _ ih ih'=>exact .func fn a c mf mc hl hl' ih ih'
 | iface t v mv _ ih=>exact .iface t v mv ih
theorem Qa {K K':KM}{σ σ':AL}{w0 w:World}{b:Nat}{o:Obj}(e:Ext K σ w0 K' σ' w)(r:Rel K' σ' w)(hb:w0.heap.size<=b)(ho:¬ aD K' σ' b)(hF:¬ K'.F b):
  Ext K σ w0 K' σ' (w.putObj b o)/\Rel K' σ' (w.putObj b o)/\Tl K'.F w (w.putObj b o):=by
 have hother:∀ b',b'≠b->(w.putObj b o).heap[b']? =w.heap[b']? :=by
  intro b' h;simp only [World.putObj];exact Array.getElem?_setIfInBounds_ne (Ne.symm h)
 have hsz:(w.putObj b o).heap.size=w.heap.size:=by simp [World.putObj]
 have hst:Tl K'.F w (w.putObj b o):=fun b' h=>hother b' fun hb=>hF (hb▸h);refine ⟨⟨e.len,e.al,e.vP,e.F,e.F',e.own,fun b' h1 h2=>by rw [hother b' (by omega)]; exact e.stay b' h1 h2,by rw [hsz]; exact e.size,e.os,e.tape,e.output⟩,?_,hst⟩;have e1:∀ r' o',σ'[r']? =some o'->o'.there=true->K'.vP r'≠b:=by
  intro r' o' h1 ht hbk;cases hl:o'.live with
  | true=>exact ho ⟨r',o',h1,hl,hbk⟩
  | false=>
   apply hF;rw [<-hbk];have h2:=r.obj r' o' h1;cases o' with
   | free=>simp [fE.there] at ht
   | dead=>simp [fE.there] at ht
   | var fr pf c=>simp only [fE.live,Bool.not_eq_false'] at hl; obtain ⟨_,_,_,_,_,_,_,_,h5,_⟩:=h2; exact h5 hl
   | arr fr pf esz ex len row=>simp only [fE.live,Bool.not_eq_false'] at hl; obtain ⟨_,_,_,_,_,_,_,_,_,_,_,h7,_⟩:=h2; exact h7 hl
   | map fr pf es=>simp only [fE.live,Bool.not_eq_false'] at hl; obtain ⟨_,_,_,_,_,h3,_⟩:=h2; exact h3 hl
   | loop st t ps x y p=>simp [fE.live] at hl
   | dfr=>simp [fE.live] at hl
   | flat fr len cell over=>simp only [fE.live,Bool.not_eq_false'] at hl; obtain ⟨_,_,_,_,_,_,_,_,_,_,h5,_⟩:=h2; exact h5 hl
 refine ⟨fun r' o' h1=>?_,r.inj,r.cD,fun r' o' h1 ht=>by rw [hsz]; exact r.lt r' o' h1 ht,fun b' h=>by rw [hsz]; exact r.Flt b' h,r.alt⟩;have h2:=r.obj r' o' h1;cases o' with
 | free=>exact h2
 | dead=>trivial
 | var fr pf cells=>
  obtain ⟨ha,h0,c,e,h1',a2,a3,a4,a5,a6,a7⟩:=h2;exact ⟨ha,h0,c,e,by rw [hother _ (e1 r' _ h1 rfl)]; exact h1',a2,a3,a4,a5,fun i x y=>(a6 i x y).stay hst,fun hp i x y=>(a7 hp i x y).mono (fun _ h=>h) hst⟩
 | arr fr pf esz ex len row=>
  obtain ⟨ha,hl,c,e,fz,h1',a2,a3,a4,a5,a6,a7,a8,a9,a10⟩:=h2;exact ⟨ha,hl,c,e,fz,by rw [hother _ (e1 r' _ h1 rfl)]; exact h1',a2,a3,a4,a5,a6,a7,a8,fun i hi j hj hc=>(a9 i hi j hj hc).stay hst,fun hp i hi j hj hc=>(a10 hp i hi j hj hc).mono (fun _ h=>h) hst⟩
 | map fr pf es=>
  obtain ⟨ha,mes,clock,h1',a2,a3,a4,a5,a6,a7⟩:=h2;exact ⟨ha,mes,clock,by rw [hother _ (e1 r' _ h1 rfl)]; exact h1',a2,a3,fun i x y=>⟨(a4 i x y).1.stay hst,(a4 i x y).2.stay hst⟩,fun i x y=>(a5 i x y).mono (fun _ h=>h) hst,fun hp i x y=>(a6 hp i x y).mono (fun _ h=>h) hst,a7⟩
 | loop st t ps x y p=>
  obtain ⟨ha,fn,mt,d,h1',a2,a3⟩:=h2;exact ⟨ha,fn,mt,d,by rw [hother _ (e1 r' _ h1 rfl)]; exact h1',a2,fun i x y=>(a3 i x y).stay hst⟩
 | dfr=>
  obtain ⟨ha,h1'⟩:=h2;exact ⟨ha,by rw [hother _ (e1 r' _ h1 rfl)]; exact h1'⟩
 | flat fr len cell over=>
  obtain ⟨ha,h0,hl,hp,c,e,h1',a2,a3,a4,a5,a6⟩:=h2;exact ⟨ha,h0,hl,hp,c,e,by rw [hother _ (e1 r' _ h1 rfl)]; exact h1',a2,a3,a4,a5,fun i x=>(a6 i x).imp (fun ⟨v,q1,q2⟩=>⟨v,q1,q2.stay hst⟩) fun ⟨q1,q2⟩=>⟨q1,q2.mono (fun _ h=>h) hst⟩⟩
theorem Ma {K K':KM}{σ σ':AL}{w0:World}{fn:Func}{t:List EV}{mt:Array Value}{v:EV}(hv:Io P fn t σ'=some v):∀ (bs:List Nat) (w:World),
  Ext K σ w0 K' σ' w->Rel K' σ' w->aU K' w t mt->bs.Nodup->(∀ b∈bs,w0.heap.size<=b/\w.heap[b]? =some (.deferred (some []))/\¬ aD K' σ' b/\¬ K'.F b)->
  LeavesInM (eE none) 0 P fn mt (S1 K σ w0 v σ') (bs.map Ld) .returning w:=by
 intro bs;induction bs with
 | nil=>
  intro w e r ht _ _;obtain ⟨mv,q1,q2⟩:=RG r ht hv;exact ⟨mv,q1,K',e,r,q2⟩
 | cons b bs ih=>
  intro w e r ht hn hb;obtain ⟨h1,h2,h3,h4⟩:=hb b (by simp);obtain ⟨e1,r1,st⟩:=Qa (o:=.deferred none) e r h1 h3 h4;refine ⟨by simp,.inl ⟨b,_,rfl,run_takeDeferred h2,ih _ e1 r1 ⟨ht.1,fun i x y=>(ht.2 i x y).stay st⟩ (List.nodup_cons.1 hn).2 fun b' hb'=>?_⟩⟩;obtain ⟨g1,g2,g3,g4⟩:=hb b' (by simp [hb']);have hne:b'≠b:=fun h=>(List.nodup_cons.1 hn).1 (h▸hb');exact ⟨g1,by simp only [World.putObj]; rw [Array.getElem?_setIfInBounds_ne (Ne.symm hne)]; exact g2,g3,g4⟩
theorem M8 (hD:dK V P G D)(hm:P.follows .mixedOrders=true)(n:Nat)(f:FuncId)(args:List EV)(σ:AL):
  Ok V (Ie D P G n f args σ) fun r=>∀ (K:KM) (w:World) (margs:Array Value),Rel K σ w->dY G K.F w->aU K w args margs->Calls P f margs w (S1 K σ w r.1 r.2):=by
 unfold Ie;split
 ·rename_i fn hfn;split
  ·rename_i c hc;refine Ok.bind (D7 hD hm false n c _ σ) fun r=>?_;obtain ⟨ex,t,s⟩:=r;have main:ex≠.normal->ex≠.ret->Ok V (M.fail:M S (EV×AL)) fun r=>True:=fun _ _=>Ok.fail;split
   ·exact Ok.fail
   ·rename_i he;refine Ok.bind (Ok.lift (Φ:=fun v=>Io P fn t s=some v) fun v h=>h) fun v=>Ok.pure fun hv h K w margs hR hG ha=>?_;refine CallsIn.calls (callsIn_of_wp_marks (F:=eE none) (n:=0) hfn hc trivial (wpIn_mono (h.1 none K w _ (fun h=>by simp at h) hR hG ?_) fun e a' w' hp=>?_)) (NX none)
    ·obtain ⟨h1,h2⟩:=ha;refine ⟨by simp [h1],fun i g1 g2=>?_⟩;by_cases hi:i<args.length
     ·have hi':i<margs.size:=by omega
      rw [List.getElem_append_left hi,Array.getElem_append_left hi'];exact h2 i hi hi'
     ·rw [List.getElem_append_right (by omega),List.getElem_replicate];exact .pure _ _ (.undef _)
    ·have hex:∀ i,ex≠.leave i:=fun i hi=>he i hi;cases e with
     | outgrown=>exact hp.elim
     | normal=>
      obtain ⟨_,K',bs,e1,r1,v1,m1,m2,m3⟩:=hp;show LeavesInM _ _ _ _ _ _ a'.defers _ _;rw [m1,List.append_nil];exact Ma hv bs w' e1 r1 v1 m2 m3
     | ret=>
      obtain ⟨_,K',bs,e1,r1,v1,m1,m2,m3⟩:=hp;show LeavesInM _ _ _ _ _ _ a'.defers _ _;rw [m1,List.append_nil];exact Ma hv bs w' e1 r1 v1 m2 m3
     | exit i=>
      cases ex with
      | leave j=>exact absurd rfl (hex j)
      | normal=>exact hp.1.elim
      | ret=>exact hp.1.elim
     | goto l=>cases ex<;>exact hp.1.elim
     | panic c=>cases ex<;>exact hp.1.elim
  ·exact Ok.fail
 ·exact Ok.fail
def Cc (P:Program)(f:FuncId):Bool:=
 match P.funcs[f]? with
 | some fn=>fn.body.isSome && !(fn.name== "runtime.NumGoroutine")
 | none=>false
theorem Nt {f:FuncId}(h:Cc P f=true):NW P f:=by
 unfold Cc at h;split at h
 ·rename_i fn hfn;simp only [uF,Bool.not_eq_true'] at h;exact ⟨fn,hfn,h.1,h.2⟩
 ·cases h
theorem LB (hD:dK V P G D)(hm:P.follows .mixedOrders=true){n:Nat}{f:FuncId}{args:List EV}{σ:AL}{s s':S}{v:EV}{σ':AL}(he:Cc P f=true)
  (h:Ie D P G n f args σ s=some ((v,σ'),s')) (hv:V s'):aA P G f args σ v σ':=
 ⟨Nt he,(M8 hD hm n f args σ s _ s' h hv).2⟩
theorem Xj {F:Nat->Prop}{w:World}(hF:∀ b,F b->b<w.heap.size):Rel ⟨fun _=>0,fun _=>0,fun _=>0,fun _=>0,fun _=>False,F⟩ [] w:=by
 refine ⟨fun r o h=>by simp at h,fun r r' o o' h=>by simp at h,?_,fun r o h=>by simp at h,hF,fun r h=>h.elim⟩
 rintro b ⟨r,o,h,_⟩
 simp at h
theorem dY.mono {F F':Nat->Prop}{w:World}(hF:∀ b,F b->F' b)(hG:dY G F w):dY G F' w:=by
 intro g c hg;obtain ⟨h1,h2,mv,h3⟩:=hG g c hg;exact ⟨hF _ h1,h2,mv,fun j hj=>⟨(h3 j hj).1,(h3 j hj).2.1,(h3 j hj).2.2.mono hF fun _ _=>rfl⟩⟩
theorem JD (hD:dK V P G D)(hm:P.follows .mixedOrders=true){n:Nat}{f:FuncId}{args:List EV}{s s':S}{v:EV}(he:Cc P f=true)
  (h:EY D P G n f args s=some (v,s')) (hv:V s'):V s/\uY P G f args v:=by
 have hok:Ok V (EY D P G n f args) fun v=>uY P G f args v:=by
  unfold EY;refine Ok.bind (M8 hD hm n f args []) fun r=>?_;obtain ⟨v,σ⟩:=r;refine Ok.bind (Ok.lift (Φ:=fun p=>Vx (fun i=>σ[i]?) v=some p) fun p h=>h) fun p=>?_;refine Ok.bind (Ok.lift (Φ:=fun u=>aS (fun i=>σ[i]?) p.2=some u) fun p h=>h) fun u=>Ok.pure fun hu hp hf=>?_;obtain ⟨v',rs⟩:=p;dsimp only at hu hf ⊢;refine ⟨Nt he,fun F w margs hF hG ha=>?_⟩;have hrel:=Xj hF;refine (hf _ w margs hrel hG ⟨ha.1,fun i h1 h2=>.pure _ _ (ha.2 i h1 h2)⟩).mono fun e w' hpost=>?_;cases e with
  | outgrown=>exact hpost
  | panicked _=>exact hpost
  | returned mv=>
   obtain ⟨K',e1,r1,v1⟩:=hpost;obtain ⟨e2,r2⟩:=Rel.aS rs K' σ u r1 (fun r o h=>.inl h) hu;have hpr:PR (K'.frzs rs).F w' v' mv:=Iq (fun r o h=>r1.obj r o h) (fun b hb=>(Lg K' rs b).2 (.inl hb)) _ _ _ _ _ hp v1 fun r hr=>(Lg K' rs _).2 (.inr ⟨r,hr,rfl⟩);have e3:=e1.trans e2;have hno:∀ b,¬ aD ⟨fun _=>0,fun _=>0,fun _=>0,fun _=>0,fun _=>False,F⟩ ([]:AL) b:=by
    rintro b ⟨r,o,h,_⟩
    simp at h
   refine ⟨(K'.frzs rs).F,e3.F,fun b hb=>?_,r2.Flt,fun b hb=>e3.stay b hb (hno b),e3.size,e3.os,e3.tape,e3.output,hpr⟩;rcases e3.F' b hb with h | h | h
   ·exact .inl h
   ·exact .inr h
   ·exact absurd h (hno b)
 exact hok s v s' h hv
end
end Go.Ev
namespace Go.Ev
noncomputable def RH (P:Program)(G:Nat->Option (List EV))(pures news:FuncId->Bool):Nat->Drv Unit
 | 0=>{
   br:=pure,bJ:=fun b=>if b then pure () else M.fail,nw:=pure,mode:=fun f=>pure (pures f),fresh:=fun f=>pure (news f),room:=fun b=>pure (if b then 3 else 0),dC:=fun _ _=>M.fail,bZ:=fun _ _ _=>M.fail,
   piece:=fun _ _ _ _=>M.fail,round:=fun _ _ _=>M.fail,uX:=pure,find:=fun _ _ _=>pure none }
 | n+1=>{
   br:=pure,bJ:=fun b=>if b then pure () else M.fail,nw:=pure,mode:=fun f=>pure (pures f),fresh:=fun f=>pure (news f),room:=fun b=>pure (if b then 3 else 0)
   dC:=fun f args=>if Cc P f then EY (RH P G pures news n) P G 100000 f args else M.fail
   bZ:=fun f args σ=>if Cc P f then Ie (RH P G pures news n) P G 100000 f args σ else M.fail
   piece:=fun _ _ _ _=>pure none
   uX:=pure
   find:=fun _ _ _=>pure none
   round:=fun c t σ=>BX (RH P G pures news n) P G true 100000 c t σ }
theorem WD {P:Program}(G:Nat->Option (List EV))(pures news:FuncId->Bool)(hm:P.follows .mixedOrders=true):∀ n,dK (fun _:Unit=>True) P G (RH P G pures news n):=by
 have hchk:∀ b:Bool,Ok (fun _:Unit=>True) (if b then pure () else M.fail:M Unit Unit) fun _=>b=true:=fun b=>Ok.ite (fun h=>Ok.pure h) fun _=>Ok.fail;intro n;induction n with
 | zero=>
  exact { br:=fun b=>Ok.pure rfl,bJ:=hchk,nw:=fun b=>Ok.pure id,mode:=fun f=>Ok.pure trivial,fresh:=fun f=>Ok.pure trivial,room:=fun _=>Ok.pure trivial,dC:=fun f args=>Ok.fail,bZ:=fun f args σ=>Ok.fail,round:=fun c t σ=>Ok.fail,piece:=fun rnd c t σ=>Ok.fail,uX:=fun q=>Ok.pure rfl,find:=fun _ _ _=>Ok.pure (fun r h=>by cases h) }
 | succ n ih=>
  exact {
    br:=fun b=>Ok.pure rfl,bJ:=hchk,nw:=fun b=>Ok.pure id,mode:=fun f=>Ok.pure trivial,fresh:=fun f=>Ok.pure trivial,room:=fun _=>Ok.pure trivial
    dC:=fun f args=>Ok.ite (fun he s v s' h hv=>JD ih hm he h hv) fun _=>Ok.fail
    bZ:=fun f args σ=>Ok.ite (fun he s r s' h hv=>⟨trivial,LB ih hm he h hv⟩) fun _=>Ok.fail
    round:=fun c t σ=>(D7 ih hm true 100000 c t σ).mono fun r h=>h.1
    piece:=fun rnd c t σ=>Ok.pure (fun r h=>by cases h)
    uX:=fun q=>Ok.pure rfl,find:=fun _ _ _=>Ok.pure (fun r h=>by cases h) }
end Go.Ev
namespace Go.Ev
def uT (P:Program)(G:Nat->Option (List EV))(rnd:Bool)(c:Code)(tmps:List EV)(σ:AL)(r:EX×List EV×AL):Prop:=
 aE P G rnd c tmps σ r/\∀ b,c=.loop b->aB P G rnd b tmps σ r
theorem HO {S α:Type}{V:S->Prop}{c:Prop}[Decidable c]{m:M S α}{s s':S}{a:α}(h:(if c then m s else none)=some (a,s')):c/\m s=some (a,s'):=by
 by_cases hc:c
 ·rw [if_pos hc] at h; exact ⟨hc,h⟩
 ·rw [if_neg hc] at h; cases h
end Go.Ev
namespace Go.Ev
def aG (v v':EV):Prop:=∀ (F:Nat->Prop) (w:World) (mv:Value),PR F w v mv->PR F w v' mv
def bL (v v':EV):Prop:=∀ (K:KM) (w:World) (mv:Value),VR K w v mv->VR K w v' mv
theorem aG.refl (v:EV):aG v v:=fun _ _ _ h=>h
theorem aG.eq {v v':EV}(h:v=v'):aG v v':=h▸aG.refl v
theorem aG.undef {v:EV}:aG v .undef:=fun _ _ _ _=>.undef _
theorem aG.trans {a b c:EV}(h:aG a b)(g:aG b c):aG a c:=fun F w mv x=>g F w mv (h F w mv x)
theorem bL.refl (v:EV):bL v v:=fun _ _ _ h=>h
theorem bL.eq {v v':EV}(h:v=v'):bL v v':=h▸bL.refl v
theorem bL.undef {v:EV}:bL v .undef:=fun _ _ _ _=>.pure _ _ (.undef _)
theorem bL.trans {a b c:EV}(h:bL a b)(g:bL b c):bL a c:=fun F w mv x=>g F w mv (h F w mv x)
theorem aG.uS {nn:Bool}{esz len:Nat}{row row':Nat->List EV}(h:∀ i,i<len->row i=row' i):aG (.uS nn esz len row) (.uS nn esz len row'):=by
 intro F w mv hp;cases hp with
 | bB=>exact .bB _ _
 | uS _ _ _ b o cap mv hF hcap sp hsp hl hc hv=>
  exact .uS esz len row' b o cap mv hF hcap sp hsp (fun i hi=>h i hi▸hl i hi) hc (fun i hi j hj=>by
   have:=hv i hi j (by rw [h i hi]; exact hj);simpa only [h i hi] using this)
theorem bL.uS {nn:Bool}{esz len:Nat}{row row':Nat->List EV}(h:∀ i,i<len->row i=row' i):bL (.uS nn esz len row) (.uS nn esz len row'):=by
 intro K w mv hv;cases hv with
 | pure _ _ hp=>exact .pure _ _ (aG.uS h _ _ _ hp)
inductive aT:List EV->List EV->Prop where
 | nil:aT [] []
 | cons {v v':EV} {l l':List EV} (h:bL v v') (t:aT l l'):aT (v :: l) (v' :: l')
theorem aT.refl:∀ l,aT l l
 | []=>.nil
 | v :: l=>.cons (bL.refl v) (aT.refl l)
theorem uI (l:List EV):aT l l:=aT.refl l
theorem aT.len {l l':List EV}(h:aT l l'):l.length=l'.length:=by
 induction h with
 | nil=>rfl
 | cons _ _ ih=>simp [ih]
theorem aT.get {l l':List EV}(h:aT l l'):∀ i (h1:i<l.length) (h2:i<l'.length),bL l[i] l'[i]:=by
 induction h with
 | nil=>intro i h; simp at h
 | cons h t ih=>
  intro i h1 h2;cases i with
  | zero=>exact h
  | succ i=>simpa using ih i (by simpa using h1) (by simpa using h2)
theorem aT.vrs {l l':List EV}(h:aT l l'){K:KM}{w:World}{mt:Array Value}(ht:aU K w l mt):aU K w l' mt:=
 ⟨h.len.symm.trans ht.1,fun i h1 h2=>h.get i (by rw [h.len]; exact h1) h1 K w _ (ht.2 i (by rw [h.len]; exact h1) h2)⟩
structure uU (o o':fE):Prop where
 obj:∀ K w r,OR K w r o->OR K w r o'
 live:o'.live=true->o.live=true
 there:o'.there=true->o.there=true
theorem uU.refl (o:fE):uU o o:=⟨fun _ _ _ h=>h,id,id⟩
theorem uH (o:fE):uU o o:=uU.refl o
theorem uU.eq {o o':fE}(h:o=o'):uU o o':=h▸uH o
theorem uU.dead {o:fE}:uU o .dead:=⟨fun _ _ _ _=>trivial,(fun h=>by cases h),(fun h=>by cases h)⟩
theorem uU.arr {fr pf ex:Bool}{esz len:Nat}{row row':Nat->List EV}(h:∀ i,i<len->row i=row' i):uU (.arr fr pf esz ex len row) (.arr fr pf esz ex len row'):=by
 refine ⟨fun K w r ho=>?_,id,id⟩;obtain ⟨h1,h2,c,e,fz,q2,q3,q4,q5,q6,q7,q8,q9,q10,q11⟩:=ho;exact ⟨h1,h2,c,e,fz,q2,q3,q4,q5,q6,q7,q8,fun i hi=>h i hi▸q9 i hi,fun i hi j hj hc=>by
  have:=q10 i hi j (by rw [h i hi]; exact hj) hc;simpa only [h i hi] using this,fun hp i hi j hj hc=>by
  have:=q11 hp i hi j (by rw [h i hi]; exact hj) hc;simpa only [h i hi] using this⟩
theorem uU.var {fr:Bool}{cells cells':List EV}(h:aT cells cells'):uU (.var fr false cells) (.var fr false cells'):=by
 refine ⟨fun K w r ho=>?_,id,id⟩;obtain ⟨h1,h2,c,e,q1,q2,q3,q4,q5,q6,q7⟩:=ho;exact ⟨h1,h2,c,e,q1,by rw [q2,h.len],q3,q4,q5,fun i a b=>h.get i (by rw [h.len]; exact a) a K w _ (q6 i (by rw [h.len]; exact a) b),fun h=>by cases h⟩
theorem uU.varf {fr pf:Bool}{cells:List EV}:uU (.var fr pf cells) (.var fr false cells):=by
 refine ⟨fun K w r ho=>?_,id,id⟩;obtain ⟨h1,h2,c,e,q1,q2,q3,q4,q5,q6,q7⟩:=ho;exact ⟨h1,h2,c,e,q1,q2,q3,q4,q5,q6,fun h=>by cases h⟩
theorem uU.trans {a b c:fE}(h:uU a b)(g:uU b c):uU a c:=⟨fun K w r x=>g.obj K w r (h.obj K w r x),fun x=>h.live (g.live x),fun x=>h.there (g.there x)⟩
inductive eW:AL->AL->Prop where
 | nil:eW [] []
 | cons {o o':fE} {l l':AL} (h:uU o o') (t:eW l l'):eW (o :: l) (o' :: l')
theorem eW.refl:∀ l,eW l l
 | []=>.nil
 | v :: l=>.cons (uH v) (eW.refl l)
theorem eW.len {l l':AL}(h:eW l l'):l.length=l'.length:=by
 induction h with
 | nil=>rfl
 | cons _ _ ih=>simp [ih]
theorem eW.get {l l':AL}(h:eW l l'):∀ (i:Nat) (o':fE),l'[i]? =some o'->∃ o,l[i]? =some o/\uU o o':=by
 induction h with
 | nil=>intro i o' h; simp at h
 | cons h t ih=>
  intro i o' h1;cases i with
  | zero=>
   simp only [List.getElem?_cons_zero,uB] at h1;subst h1;exact ⟨_,by simp,h⟩
  | succ i=>
   simp only [List.getElem?_cons_succ] at h1 ⊢;exact ih i o' h1
theorem eW.owned {σ σ':AL}(h:eW σ σ'){K:KM}{b:Nat}(ho:aD K σ' b):aD K σ b:=by
 obtain ⟨r,o',h1,h2,h3⟩:=ho;obtain ⟨o,g1,g2⟩:=h.get r o' h1;exact ⟨r,o,g1,g2.live h2,h3⟩
theorem eW.rel {σ σ':AL}(h:eW σ σ'){K:KM}{w:World}(hR:Rel K σ w):Rel K σ' w:=by
 refine ⟨fun r o' h1=>?_,fun r r' o1 o2 h1 h2 l1 l2 hb=>?_,fun b ho=>hR.cD b (h.owned ho),fun r o' h1 ht=>?_,hR.Flt,fun r ha=>by rw [<-h.len]; exact hR.alt r ha⟩
 ·obtain ⟨o,g1,g2⟩:=h.get r o' h1;exact g2.obj K w r (hR.obj r o g1)
 ·obtain ⟨o,g1,g2⟩:=h.get r o1 h1;obtain ⟨p,q1,q2⟩:=h.get r' o2 h2;exact hR.inj r r' o p g1 q1 (g2.live l1) (q2.live l2) hb
 ·obtain ⟨o,g1,g2⟩:=h.get r o' h1;exact hR.lt r o g1 (g2.there ht)
theorem Ext.weaken {K K':KM}{σ0 σ1 σ2 σ3:AL}{w w':World}(h0:eW σ0 σ1)(h:Ext K σ1 w K' σ2 w')(h2:eW σ2 σ3):Ext K σ0 w K' σ3 w':=
 ⟨by rw [h0.len,<-h2.len]; exact h.len,h.al,h.vP,h.F,fun b hb=>(h.F' b hb).imp id (Or.imp id h0.owned),fun b hb=>(h.own b (h2.owned hb)).imp id h0.owned,
  fun b hb hn=>h.stay b hb fun ho=>hn (h0.owned ho),h.size,h.os,h.tape,h.output⟩
section
variable {P:Program}{G:Nat->Option (List EV)}
theorem aJ.weaken {K:KM}{σ0 σ1:AL}{w:World}{ds:List Deferred}{ex:EX}{t2 t3:List EV}{σ2 σ3:AL}(h0:eW σ0 σ1)(ht:aT t2 t3)(h2:eW σ2 σ3){e:Exit}{a:Act}{w':World}
  (h:aJ K σ1 w ds (ex,t2,σ2) e a w'):aJ K σ0 w ds (ex,t3,σ3) e a w':=by
 have main:(∃ K' bs,Ext K σ1 w K' σ2 w'/\Rel K' σ2 w'/\aU K' w' t2 a.tmps/\Marks K' σ2 w w' ds a.defers bs)->∃ K' bs,Ext K σ0 w K' σ3 w'/\Rel K' σ3 w'/\aU K' w' t3 a.tmps/\Marks K' σ3 w w' ds a.defers bs:=by
  rintro ⟨K',bs,h3,h4,h5,h6,h7,h8⟩
  exact ⟨K',bs,h3.weaken h0 h2,h2.rel h4,ht.vrs h5,h6,h7,fun b hb=>let ⟨x,y,z,u⟩:=h8 b hb; ⟨x,y,fun ho=>z (h2.owned ho),u⟩⟩
 cases e with
 | outgrown=>exact h.elim
 | normal=>exact ⟨h.1,main h.2⟩
 | exit i=>exact ⟨h.1,main h.2⟩
 | goto l=>exact ⟨h.1,main h.2⟩
 | ret=>exact ⟨h.1,main h.2⟩
 | panic c=>exact ⟨h.1,main h.2⟩
theorem aE.weaken {rnd:Bool}{c:Code}{t0 t1 t2 t3:List EV}{σ0 σ1 σ2 σ3:AL}{ex:EX}(ht:aT t0 t1)(h0:eW σ0 σ1)(h:aE P G rnd c t1 σ1 (ex,t2,σ2))(ht':aT t2 t3)(h2:eW σ2 σ3):
  aE P G rnd c t0 σ0 (ex,t3,σ3):=
 fun ro K w a hro hR hG hv=>wpIn_mono (h ro K w a hro (h0.rel hR) hG (ht.vrs hv)) fun _ _ _ hp=>aJ.weaken h0 ht' h2 hp
theorem aB.weaken {rnd:Bool}{c:Code}{t0 t1 t2 t3:List EV}{σ0 σ1 σ2 σ3:AL}{ex:EX}(ht:aT t0 t1)(h0:eW σ0 σ1)(h:aB P G rnd c t1 σ1 (ex,t2,σ2))(ht':aT t2 t3)(h2:eW σ2 σ3):
  aB P G rnd c t0 σ0 (ex,t3,σ3):=
 fun ro K w a hro hR hG hv=>Hh (h ro K w a hro (h0.rel hR) hG (ht.vrs hv)) fun _ _ _ hp=>aJ.weaken h0 ht' h2 hp
inductive eJ:List EV->List EV->Prop where
 | nil:eJ [] []
 | cons {v v':EV} {l l':List EV} (h:aG v v') (t:eJ l l'):eJ (v :: l) (v' :: l')
theorem eJ.refl:∀ l,eJ l l
 | []=>.nil
 | v :: l=>.cons (aG.refl v) (eJ.refl l)
theorem eJ.prs {l l':List EV}(h:eJ l l'){F:Nat->Prop}{w:World}:∀ {mt:Array Value},PRs F w l mt->PRs F w l' mt:=by
 have len:l.length=l'.length:=by
  induction h with
  | nil=>rfl
  | cons _ _ ih=>simp [ih]
 have get:∀ i (h1:i<l.length) (h2:i<l'.length),aG l[i] l'[i]:=by
  clear len
  induction h with
  | nil=>intro i h; simp at h
  | cons h t ih=>
   intro i h1 h2;cases i with
   | zero=>exact h
   | succ i=>simpa using ih i (by simpa using h1) (by simpa using h2)
 intro mt ht;exact ⟨len.symm.trans ht.1,fun i h1 h2=>get i (by rw [len]; exact h1) h1 F w _ (ht.2 i (by rw [len]; exact h1) h2)⟩
theorem uY.weaken {f:FuncId}{as as':List EV}{v v':EV}(ha:eJ as as')(h:uY P G f as' v)(hv:aG v v'):uY P G f as v':=
 ⟨h.1,fun F w margs hF hG hp=>(h.2 F w margs hF hG (ha.prs hp)).mono fun e w' hpost=>by
  cases e with
  | outgrown=>exact hpost
  | panicked _=>exact hpost
  | returned mv=>
   obtain ⟨F',a1,a2,a3,a4,a5,a6,a7,a8,a9⟩:=hpost;exact ⟨F',a1,a2,a3,a4,a5,a6,a7,a8,hv _ _ _ a9⟩⟩
theorem uY.res {f:FuncId}{as:List EV}{v v':EV}(h:uY P G f as v)(hv:aG v v'):uY P G f as v':=h.weaken (eJ.refl as) hv
theorem uT.weaken {rnd:Bool}{c:Code}{t0 t1 t2 t3:List EV}{σ0 σ1 σ2 σ3:AL}{ex:EX}(ht:aT t0 t1)(h0:eW σ0 σ1)(h:uT P G rnd c t1 σ1 (ex,t2,σ2))(ht':aT t2 t3)(h2:eW σ2 σ3):
  uT P G rnd c t0 σ0 (ex,t3,σ3):=⟨h.1.weaken ht h0 ht' h2,fun b hb=>(h.2 b hb).weaken ht h0 ht' h2⟩
def AY (P:Program)(f:FuncId):Code:=match P.funcs[f]? with | some fn=>fn.body.getD .skip | none=>.skip
def cL:Code->Code | .seq a _=>a | c=>c
def cR:Code->Code | .seq _ b=>b | c=>c
def cT1:Code->Code | .cond _ a _=>a | c=>c
def cT2:Code->Code | .cond _ _ b=>b | c=>c
def cB:Code->Code | .block _ b=>b | .loop b=>b | .scope b=>b | c=>c
end
def frame (n:Nat)(l:List (Nat×EV)):List EV:=l.foldl (fun t p=>t.set p.1 p.2) (List.replicate n .undef)
def JE:List (Nat×EV)->Bool
 | []=>true
 | [_]=>true
 | p :: q :: t=>Nat.blt p.1 q.1 && JE (q :: t)
inductive FLe:List (Nat×EV)->List (Nat×EV)->Prop where
 | nil:FLe [] []
 | uX {k:Nat} {v v':EV} {l l':List (Nat×EV)} (h:bL v v') (t:FLe l l'):FLe ((k,v) :: l) ((k,v') :: l')
 | drop {k:Nat} {v:EV} {l l':List (Nat×EV)} (t:FLe l l'):FLe ((k,v) :: l) l'
theorem aT.of_get {l l':List EV}(hl:l.length=l'.length)(h:∀ i (h1:i<l.length) (h2:i<l'.length),bL l[i] l'[i]):aT l l':=by
 induction l generalizing l' with
 | nil=>cases l' with
  | nil=>exact .nil
  | cons _ _=>simp at hl
 | cons x xs ih=>
  cases l' with
  | nil=>simp at hl
  | cons y ys=>exact .cons (h 0 (by simp) (by simp)) (ih (by simpa using hl) fun i h1 h2=>h (i+1) (by simpa using h1) (by simpa using h2))
theorem LC {p:Nat×EV}{t:List (Nat×EV)}(h:JE (p :: t)=true):JE t=true/\∀ q∈t,p.1<q.1:=by
 induction t generalizing p with
 | nil=>exact ⟨rfl,fun q hq=>by simp at hq⟩
 | cons q t ih=>
  simp only [JE,uF] at h;have h1:p.1<q.1:=by simpa using h.1
  obtain ⟨a,b⟩:=ih h.2;refine ⟨h.2,fun x hx=>?_⟩;rcases List.mem_cons.1 hx with rfl | hx
  ·exact h1
  ·have:=b x hx; omega
theorem FLe.vles_aux {l l':List (Nat×EV)}(h:FLe l l'):JE l=true->∀ (b b':List EV),aT b b'->(∀ p∈l,∀ (hi:p.1<b'.length),b'[p.1]=.undef)->
  aT (l.foldl (fun t p=>t.set p.1 p.2) b) (l'.foldl (fun t p=>t.set p.1 p.2) b'):=by
 induction h with
 | nil=>intro _ b b' hb _; exact hb
 | uX hv t ih=>
  rename_i k v v' l l';intro hs b b' hb hu;obtain ⟨s1,s2⟩:=LC hs;simp only [List.foldl_cons];refine ih s1 _ _ (aT.of_get (by simp [hb.len]) fun i h1 h2=>?_) fun p hp hi=>?_
  ·by_cases hk:k=i
   ·subst hk; simpa using hv
   ·rw [List.getElem_set_ne hk,List.getElem_set_ne hk];exact hb.get i _ _
  ·have:=s2 p hp;rw [List.getElem_set_ne (by simp only at this; omega)];exact hu p (List.mem_cons_of_mem _ hp) _
 | drop t ih=>
  rename_i k v l l';intro hs b b' hb hu;obtain ⟨s1,s2⟩:=LC hs;simp only [List.foldl_cons];refine ih s1 _ _ (aT.of_get (by simp [hb.len]) fun i h1 h2=>?_) fun p hp hi=>hu p (List.mem_cons_of_mem _ hp) _;by_cases hk:k=i
  ·subst hk;rw [hu (k,v) (List.mem_cons_self ..) h2];exact bL.undef
  ·rw [List.getElem_set_ne hk];exact hb.get i _ _
theorem FLe.vles {n:Nat}{l l':List (Nat×EV)}(hs:JE l=true)(h:FLe l l'):aT (frame n l) (frame n l'):=
 h.vles_aux hs _ _ (uI _) fun p _ hi=>by simp
def Ox (m:Nat):Nat->List EV->List EV
 | _,[]=>[]
 | i,v :: l=>(bif m.testBit i then v else .undef) :: Ox m (i+1) l
theorem Hi (m:Nat):∀ (i:Nat) (l:List EV),aT l (Ox m i l)
 | _,[]=>.nil
 | i,v :: l=>by
  refine .cons ?_ (Hi m (i+1) l);cases m.testBit i with
  | true=>exact bL.refl _
  | false=>exact bL.undef
theorem C0 (n:Int):inR .i64 n=(Decidable.decide (-9223372036854775808<=n) && Decidable.decide (n<=9223372036854775807)):=rfl
theorem JF (n:Int):inR .i32 n=(Decidable.decide (-2147483648<=n) && Decidable.decide (n<=2147483647)):=rfl
theorem Lm (n:Int):inR .u8 n=(Decidable.decide (0<=n) && Decidable.decide (n<=255)):=rfl
theorem JG (n:Int):inR .u16 n=(Decidable.decide (0<=n) && Decidable.decide (n<=65535)):=rfl
theorem JH (n:Int):inR .u32 n=(Decidable.decide (0<=n) && Decidable.decide (n<=4294967295)):=rfl
theorem JI (n:Int):inR .u64 n=(Decidable.decide (0<=n) && Decidable.decide (n<=18446744073709551615)):=rfl
theorem uU.loop {st:LoopState}{t t':List EV}{ps:Array Tmp}{a b:Code}{p:Option Code}(h:aT t t'):uU (.loop st t ps a b p) (.loop st t' ps a b p):=by
 refine ⟨fun K w r ho=>?_,id,id⟩;obtain ⟨ha,fn,mt,d,q1,q2,q3⟩:=ho;have:=h.vrs (K:=K) (w:=w) (mt:=mt) ⟨q2,q3⟩;exact ⟨ha,fn,mt,d,q1,this.1,this.2⟩
theorem eW.trans {a b c:AL}(h:eW a b)(g:eW b c):eW a c:=by
 induction h generalizing c with
 | nil=>exact g
 | cons h _ ih=>cases g with | cons g gs=>exact .cons (uU.trans h g) (ih gs)
def Zb (n:Nat)(v:EV):EV:=bif v.refs.all fun r=>Decidable.decide (r<n) then v else .undef
def Zc (n:Nat):fE->fE
 | .loop st t ps a b p=>.loop st (t.map (Zb n)) ps a b p
 | o=>o
theorem S8 (n:Nat):∀ t:List EV,aT t (t.map (Zb n))
 | []=>.nil
 | v :: t=>.cons (by unfold Zb; cases (v.refs.all fun r=>Decidable.decide (r<n)) with | true=>exact bL.refl _ | false=>exact fun _ _ _ _=>.pure _ _ (.undef _)) (S8 n t)
theorem S9 (n:Nat):∀ l:AL,eW l (l.map (Zc n))
 | []=>.nil
 | o :: l=>.cons (by cases o<;>first | exact uH _ | exact uU.loop (S8 n _)) (S9 n l)
def KM.upto (K:KM)(n:Nat):KM:={ K with al:=fun r=>K.al r/\r<n }
theorem VR.low {K:KM}{w:World}{v:EV}{mv:Value}{n:Nat}(h:VR K w v mv):(∀ r∈v.refs,r<n)->VR (K.upto n) w v mv:=by
 induction h with
 | pure v mv h=>intro _; exact .pure _ _ h
 | ptr r k ha=>intro hr; exact .ptr r k ⟨ha,hr r (by simp [EV.refs])⟩
 | pe r esz i k ha hi=>intro hr; exact .pe r esz i k ⟨ha,hr r (by simp [EV.refs])⟩ hi
 | ms r esz off len cap mcap a ha hle hlen hcap hnone haddr=>intro hr; exact .ms r esz off len cap mcap a ⟨ha,hr r (by simp [EV.refs])⟩ hle hlen hcap hnone haddr
 | mm r ha=>intro hr; exact .mm r ⟨ha,hr r (by simp [EV.refs])⟩
 | it r ha=>intro hr; exact .it r ⟨ha,hr r (by simp [EV.refs])⟩
 | agg cs mcs hl h1 _ ih=>intro hr; exact .agg cs mcs hl h1 fun i a b=>ih i a b fun r hx=>hr r (by simp only [EV.refs]; exact CG a hx)
 | tuple cs mcs hl _ ih=>intro hr; exact .tuple cs mcs hl fun i a b=>ih i a b fun r hx=>hr r (by simp only [EV.refs]; exact CG a hx)
 | func fn a c mf mc hl hl' _ _ ih ih'=>
  intro hr;exact .func fn a c mf mc hl hl' (fun i x y=>ih i x y fun r hx=>hr r (by simp only [EV.refs,List.mem_append]; exact .inl (CG x hx))) fun i x y=>ih' i x y fun r hx=>hr r (by simp only [EV.refs,List.mem_append]; exact .inr (CG x hx))
 | iface t v mv _ ih=>intro hr; exact .iface t v mv (ih fun r hx=>hr r (by simpa only [EV.refs] using hx))
def SP (n:Nat):fE->Bool
 | .loop _ t ..=>t.all fun v=>v.refs.all fun r=>Decidable.decide (r<n)
 | o=>o.refs.all fun r=>Decidable.decide (r<n)
theorem OR.low {K:KM}{w:World}{r n:Nat}{o:fE}(hrn:r<n)(h:OR K w r o)(hl:SP n o=true):OR (K.upto n) w r o:=by
 cases o with
 | free=>exact fun ha=>h ha.1
 | dead=>trivial
 | loop st t ps a b p=>
  obtain ⟨ha,fn,mt,d,q1,q2,q3⟩:=h;exact ⟨⟨ha,hrn⟩,fn,mt,d,q1,q2,fun i x y=>(q3 i x y).low fun r' hr'=>by simpa using List.all_eq_true.1 (List.all_eq_true.1 hl _ (List.getElem_mem x)) r' hr'⟩
 | dfr=>exact ⟨⟨h.1,hrn⟩,h.2⟩
 | var fr pf cells=>
  have hr:∀ r'∈(fE.var fr pf cells).refs,r'<n:=fun r' hr'=>by simpa using List.all_eq_true.1 hl r' hr'
  obtain ⟨ha,h0,c,e,q1,q2,q3,q4,q5,q6,q7⟩:=h;refine ⟨⟨ha,hrn⟩,h0,c,e,q1,q2,q3,q4,q5,fun i a b=>?_,q7⟩;cases pf with
  | true=>exact .pure _ _ (q7 rfl i a b)
  | false=>exact (q6 i a b).low fun r' hr'=>hr r' (by simp only [fE.refs,List.mem_flatMap]; exact ⟨_,List.getElem_mem a,hr'⟩)
 | arr fr pf esz ex len row=>
  have hr:∀ r'∈(fE.arr fr pf esz ex len row).refs,r'<n:=fun r' hr'=>by simpa using List.all_eq_true.1 hl r' hr'
  obtain ⟨ha,h0,c,e,fz,q1,q2,q3,q4,q5,q6,q7,q8,q9,q10⟩:=h;refine ⟨⟨ha,hrn⟩,h0,c,e,fz,q1,q2,q3,q4,q5,q6,q7,q8,fun i hi j hj hc=>?_,q10⟩;cases pf with
  | true=>exact .pure _ _ (q10 rfl i hi j hj hc)
  | false=>exact (q9 i hi j hj hc).low fun r' hr'=>hr r' (by simp only [fE.refs,List.mem_flatMap]; exact ⟨i,by simpa using hi,_,List.getElem_mem hj,hr'⟩)
 | map fr pf es=>
  have hr:∀ r'∈(fE.map fr pf es).refs,r'<n:=fun r' hr'=>by simpa using List.all_eq_true.1 hl r' hr'
  obtain ⟨ha,mes,clock,q1,q2,q3,q4,q5,q6,q7⟩:=h;refine ⟨⟨ha,hrn⟩,mes,clock,q1,q2,q3,fun i a b=>⟨.pure _ _ (q5 i a b),?_⟩,q5,q6,q7⟩;cases pf with
  | true=>exact .pure _ _ (q6 rfl i a b)
  | false=>exact (q4 i a b).2.low fun r' hr'=>hr r' (by simp only [fE.refs,List.mem_flatMap]; exact ⟨_,List.getElem_mem a,hr'⟩)
 | flat fr len cell over=>
  have hr:∀ r'∈(fE.flat fr len cell over).refs,r'<n:=fun r' hr'=>by simpa using List.all_eq_true.1 hl r' hr'
  obtain ⟨ha,h0,hln,hp,c,e,q1,q2,q3,q4,q5,q6⟩:=h;refine ⟨⟨ha,hrn⟩,h0,hln,hp,c,e,q1,q2,q3,q4,q5,fun i a=>?_⟩;rcases q6 i a with ⟨v,g1,g2⟩ | ⟨g1,g2⟩
  ·exact .inl ⟨v,g1,g2.low fun r' hr'=>hr r' (by simp only [fE.refs,List.mem_flatMap]; obtain ⟨u,hu⟩:=Nj g1; exact ⟨_,hu,hr'⟩)⟩
  ·exact .inr ⟨g1,g2⟩
theorem uU.flat {fr:Bool}{len:Nat}{cell cell':Nat->EV}{over over':List (Nat×EV)}
  (h:∀ i,i<len->(Ay over' i=Ay over i/\(Ay over i=none->cell' i=cell i))∨(Ay over' i=none/\∃ v,Ay over i=some v/\v=cell' i/\v.plain=true)):
  uU (.flat fr len cell over) (.flat fr len cell' over'):=by
 refine ⟨fun K w r ho=>?_,id,id⟩;obtain ⟨ha,h0,hln,hp,c,e,q1,q2,q3,q4,q5,q6⟩:=ho;refine ⟨ha,h0,hln,hp,c,e,q1,q2,q3,q4,q5,fun i a=>?_⟩;rcases h i (by omega) with ⟨h1,h2⟩ | ⟨h1,v,h2,h3,h4⟩
 ·rcases q6 i a with ⟨v,g1,g2⟩ | ⟨g1,g2⟩
  ·exact .inl ⟨v,h1.trans g1,g2⟩
  ·exact .inr ⟨h1.trans g1,by rw [h2 g1]; exact g2⟩
 ·rcases q6 i a with ⟨v',g1,g2⟩ | ⟨g1,g2⟩
  ·rw [h2] at g1;obtain rfl:=uC g1;exact .inr ⟨h1,h3▸g2.cN h4⟩
  ·rw [h2] at g1; cases g1
theorem LD {σ g:AL}{r:Nat}{o:fE}(h:σ[r]? =some o):(σ++g)[r]? =some o:=by
 rw [List.getElem?_append_left (List.getElem?_eq_some_iff.1 h).1]; exact h
theorem aD.pre {K:KM}{σ g:AL}{n b:Nat}(h:aD (K.upto n) σ b):aD K (σ++g) b:=by
 obtain ⟨r,o,h1,h2,h3⟩:=h;exact ⟨r,o,LD h1,h2,h3⟩
theorem Rel.low {K:KM}{σ g:AL}{w:World}(h:Rel K (σ++g) w)(hl:σ.all (SP σ.length)=true):Rel (K.upto σ.length) σ w:=by
 refine ⟨fun r o ho=>?_,fun r r' o o' h1 h2=>h.inj r r' o o' (LD h1) (LD h2),fun b hb=>h.cD b hb.pre,fun r o ho=>h.lt r o (LD ho),h.Flt,fun r ha=>ha.2⟩;exact (h.obj r o (LD ho)).low (List.getElem?_eq_some_iff.1 ho).1 (List.all_eq_true.1 hl o (List.mem_of_getElem? ho))
theorem aE.trunc {P:Program}{G:Nat->Option (List EV)}{rnd:Bool}{c:Code}{t t':List EV}{σ σ0 g:AL}{ex:EX}(h:aE P G rnd c t σ (ex,t',σ0++g))(hlen:σ.length<=σ0.length)
  (hl:σ0.all (SP σ0.length)=true) (ht:(t'.all fun v=>v.refs.all fun r=>Decidable.decide (r<σ0.length))=true):aE P G rnd c t σ (ex,t',σ0):=by
 intro ro K w a hro hR hG hv;refine wpIn_mono (h ro K w a hro hR hG hv) fun e a' w' hp=>?_;have main:(∃ K' bs,Ext K σ w K' (σ0++g) w'/\Rel K' (σ0++g) w'/\aU K' w' t' a'.tmps/\Marks K' (σ0++g) w w' a.defers a'.defers bs)->∃ K' bs,Ext K σ w K' σ0 w'/\Rel K' σ0 w'/\aU K' w' t' a'.tmps/\Marks K' σ0 w w' a.defers a'.defers bs:=by
  rintro ⟨K',bs,h3,h4,h5,h6,h7,h8⟩
  refine ⟨K'.upto σ0.length,bs,⟨hlen,fun r ha=>⟨h3.al r ha,Nat.lt_of_lt_of_le (hR.alt r ha) hlen⟩,h3.vP,h3.F,h3.F',fun b hb=>h3.own b hb.pre,h3.stay,h3.size,h3.os,h3.tape,h3.output⟩,h4.low hl,⟨h5.1,fun i a b=>?_⟩,h6,h7,fun b hb=>let ⟨x,y,z,u⟩:=h8 b hb; ⟨x,y,fun ho=>z ho.pre,u⟩⟩;exact (h5.2 i a b).low fun r hr=>by simpa using List.all_eq_true.1 (List.all_eq_true.1 ht _ (List.getElem_mem a)) r hr
 cases e with
 | outgrown=>exact hp.elim
 | normal=>exact ⟨hp.1,main hp.2⟩
 | exit i=>exact ⟨hp.1,main hp.2⟩
 | goto l=>exact ⟨hp.1,main hp.2⟩
 | ret=>exact ⟨hp.1,main hp.2⟩
 | panic c=>exact ⟨hp.1,main hp.2⟩
end Go.Ev
