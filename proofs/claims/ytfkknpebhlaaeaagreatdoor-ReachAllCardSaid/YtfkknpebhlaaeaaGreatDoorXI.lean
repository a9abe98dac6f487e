/- A part of the proof. -/
import Derived.Test.YtfkknpebhlaaeaaGreatDoorXH
import Derived.Test.YtfkknpebhlaaeaaGreatDoorTie
import Derived.Test.YtfkknpebhlaaeaaGreatDoorCards
import Derived.ProofKit
import Derived.LaidMore
import Derived.OpenShut
import Derived.Carry
import Derived.MakeChecks
import Derived.LaidLaws
import Derived.SevenTiedAt
set_option linter.unusedSimpArgs false
set_option linter.unusedVariables false
set_option linter.unusedSectionVars false
namespace Go.Proofs.YtfkknpebhlaaeaaGreatDoor
open Go Go.ChangeShapes Go.WideShapes Go.ChangeAt Go.WideMaps Go.WideElems Go.RowKit
set_option maxRecDepth 100000
def laidR:List (String×DataW Unit):=[("math/bits.deBruijn32tab",Rows.laid_math_bits_deBruijn32tab),("math/bits.deBruijn64tab",Rows.laid_math_bits_deBruijn64tab),("internal/strconv.uint64pow10",Rows.laid_internal_strconv_uint64pow10),("assize/typing.spans",Rows.laid_assize_typing_spans)]
theorem own:ownKnob Tryz.prog.godebug=none:=by kernel_rfl
theorem laidOut:laidOutB Tryz.prog=true:=by kernel_rfl
theorem XU (os:Os)(args:Array Value):laidMetH Tryz.prog laidR ((World.doorLaid Tryz.prog 33 os).forCall (fun _ _=>0) ⟨#[],args,[]⟩).memory:=
 laidMetH_of_parts3 (fuel:=8) (laidMet_of_run' 8 (by kernel_rfl) (by kernel_rfl)) (by kernel_rfl) (by kernel_rfl)
theorem gok {w:World}(h:laidMet Tryz.prog laidR w):Go.Ev.dY Go.Ev.fF (fun b=>b<w.heap.size) w:=by
 intro g cells hg;unfold Go.Ev.fF at hg;split at hg
 ·obtain rfl:=Option.some.inj hg;exact Go.Ev.eQ (fun _ h=>h) h (n:= "assize/typing.spans") (d:=Rows.laid_assize_typing_spans) (.tail _ (.tail _ (.tail _ (.head _)))) (t:=408) (k:=6) (by kernel_rfl) (by kernel_rfl) (by kernel_rfl) (by kernel_rfl) (by intro e; cases e)
 ·obtain rfl:=Option.some.inj hg;exact Go.Ev.eQ (fun _ h=>h) h (n:= "internal/strconv.uint64pow10") (d:=Rows.laid_internal_strconv_uint64pow10) (.tail _ (.tail _ (.head _))) (t:=508) (k:=6) (by kernel_rfl) (by kernel_rfl) (by kernel_rfl) (by kernel_rfl) (by intro e; cases e)
 ·obtain rfl:=Option.some.inj hg;exact Go.Ev.eQ (fun _ h=>h) h (n:= "math/bits.deBruijn32tab") (d:=Rows.laid_math_bits_deBruijn32tab) (.head _) (t:=133) (k:=6) (by kernel_rfl) (by kernel_rfl) (by kernel_rfl) (by kernel_rfl) (by intro e; cases e)
 ·obtain rfl:=Option.some.inj hg;exact Go.Ev.eQ (fun _ h=>h) h (n:= "math/bits.deBruijn64tab") (d:=Rows.laid_math_bits_deBruijn64tab) (.tail _ (.head _)) (t:=525) (k:=6) (by kernel_rfl) (by kernel_rfl) (by kernel_rfl) (by kernel_rfl) (by intro e; cases e)
 ·cases hg
theorem Vp {F:Nat->Prop}{w:World}{e:Ending}{w':World}(h:Go.Ev.PostP F w (.bool true) e w'):e=.returned (.bool true)/\Below w.heap.size w w':=by
 unfold Go.Ev.PostP at h;split at h
 ·obtain ⟨F',_,_,_,h1,h2,h3,h4,h5,h6⟩:=h;cases h6;exact ⟨rfl,h3,h4,h5,h2,h1⟩
 ·cases h
 ·cases h
theorem Yr {F:Nat->Prop}{w:World}:Go.Ev.PRs F w [] #[]:=⟨rfl,fun i h=>by simp at h⟩
theorem XV {F:Nat->Prop}{w:World}{a:Go.Ev.EV}{xs:List Go.Ev.EV}{v:Value}{vs:List Value}(h:Go.Ev.PR F w a v)(g:Go.Ev.PRs F w xs vs.toArray):Go.Ev.PRs F w (a :: xs) (v :: vs).toArray:=by
 obtain ⟨g1,g2⟩:=g;refine ⟨by simpa using g1,fun i h1 h2=>?_⟩;cases i with
 | zero=>simpa using h
 | succ i=>
  have:=g2 i (by simpa using h1) (by simpa using h2);simpa using this
def Rx:Option TypeDesc->Bool
 | some (.struct _)=>true
 | _=>false
theorem Vq {o:Option TypeDesc}(h:Rx o=true):∃ fs,o=some (.struct fs):=by
 unfold Rx at h;split at h
 ·exact ⟨_,rfl⟩
 ·cases h
theorem XW:∃ fs,Tryz.prog.underlying 25=some (.struct fs):=Vq (by kernel_rfl)
theorem XX {H:Type}{enc:TypeId×Value->H}{W:World}{base:Nat}{v:Value}{d:DataW H}{p:List MemPlace}(hval:Value.okWide Tryz.prog W .any base 25 v)(hd:DataW.Trod enc Tryz.prog W 0 (fun _=>true) true 25 v d p):
  ∃ q:Go.Ev.fG,Go.Ev.PR (fun b=>b<W.heap.size) W (.agg q.cells) v/\(q.m'≠0->q.np=true)/\(q.m≠0->q.no=true):=by
 obtain ⟨fs,hu⟩:=XW;obtain ⟨vs,h1,h2⟩:=Go.Ev.arg_pure (F:=fun b=>b<W.heap.size) (n:=6) (fun _ h=>h) hu hval (by kernel_rfl) hd;obtain ⟨q,hq,hnp⟩:=Go.Ev.typed_race h2;exact ⟨q,hq _ _ _ h1,hnp⟩
abbrev Kj:Array Value:=#[.agg #[.int .i64 0,.int .i64 0,.slice none 0 0,.slice none 0 0,.slice none 0 0,.int .i64 0,.int .i64 0]]
theorem Sw (os:Os)(args:Array Value):((World.doorLaid Tryz.prog 33 os).forCall (fun _ _=>0) ⟨#[],args,[]⟩).Shaped Tryz.prog:=World.shaped_of_RefB (by kernel_rfl) (by kernel_rfl)
theorem Ys (os:Os):Input.okWideB Tryz.prog ((World.doorLaid Tryz.prog 33 os).forCall (fun _ _=>0) ⟨#[],Kj,[]⟩) 3 ⟨#[],Kj,[]⟩=true:=by kernel_rfl
theorem XY (os:Os)(H:Type)(enc:TypeId×Value->H):Rows.reachAllSpec.preB enc Tryz.prog Tryz.f3 [] false ((World.doorLaid Tryz.prog 33 os).forCall (fun _ _=>0) ⟨#[],Kj,[]⟩).memory Kj 8=true:=by kernel_rfl
theorem Sx (os:Os)(H:Type)(enc:TypeId×Value->H):Rows.reachAllSpec.sizedB enc Tryz.prog Tryz.f3 false ((World.doorLaid Tryz.prog 33 os).forCall (fun _ _=>0) ⟨#[],Kj,[]⟩).memory Kj 8=true:=by kernel_rfl
theorem Yt:Tryz.prog.inits.idxOf? 3=none:=by kernel_rfl
theorem Vr:(laidR.all fun x=>x.2.handleName?.isNone)=true:=by kernel_rfl
theorem ADI:Tryz.prog.readableRec 25=true:=by kernel_rfl
theorem ADJ:25<Tryz.prog.types.size:=of_decide_eq_true (by kernel_rfl)
theorem Vs (H:Type)(enc:TypeId×Value->H)(W:World)(base:Nat)(args:Array Value)(ds gs:List (DataW H))(before:List MemPlace)
  (hval:∀ (j:Nat) t v,Tryz.f3.params[j]? =some t->args[j]? =some v->Value.okWide Tryz.prog W .any base t v)
  (hW':DataW.Whole enc Tryz.prog Tryz.f3.params.toList Rows.reachAllSpec.vars false W args.toList ds gs before) (hL:laidMetH Tryz.prog laidR W):
  Calls Tryz.prog 3 args W fun e W'=>∃ v,e=.returned v/\Rows.reachAllSpec.post enc Tryz.prog Tryz.f3 false true false false W args v W':=by
 have hW:=hW';obtain ⟨p,q,hA0,hV,rfl,hfz,hnd⟩:=hW;have hA:DataW.TrodAll enc Tryz.prog W 0 (fun _=>true) true Tryz.f3.params.toList args.toList ds p:=hA0;rw [Tryz.params3] at hA hval;obtain ⟨v0,vs0,d0,ds0,p0,q0,hargs,rfl,rfl,h0,hA⟩:=trodAll_cons hA;obtain ⟨rfl,rfl,rfl⟩:=trodAll_nil hA;obtain rfl:args=#[v0]:=by cases args; simp_all
 obtain ⟨rfl,rfl⟩:=trodVars_none hV;obtain ⟨q,hq,hnp,hno⟩:=XX (hval 0 25 v0 rfl rfl) h0;rw [MakeChecks.laidMetH_plain _ _ _ Vr] at hL;have hc:=(Go.Ev.all_sem q hnp hno).2 (fun b=>b<W.heap.size) W #[v0] (fun _ h=>h) (gok hL) (XV hq Yr);refine hc.mono fun e W' he=>?_;obtain ⟨rfl,hB⟩:=Vp he;have hlt:∀ x∈(p0++[]),x.block<W.heap.size:=fun x hx=>hW'.lt x (by simpa using hx);refine ⟨_,rfl,_,_,_,[],(p0++[]),[],hW',?_,?_,?_,hB.frame _,fun h=>by cases h⟩
 ·exact trodAll_mk1 (shut_bool (by kernel_rfl) true)
 ·rw [Tryz.params3]; exact (trodAll_cons_mk (Below.trod laidOut ADI ADJ h0 hB fun x hx=>hlt x (by simp [hx])) trodAll_mk0)
 ·rfl
end Go.Proofs.YtfkknpebhlaaeaaGreatDoor
