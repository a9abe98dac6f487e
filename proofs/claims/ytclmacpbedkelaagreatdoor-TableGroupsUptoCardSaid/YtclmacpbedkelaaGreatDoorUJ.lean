/- A part of the proof. -/
import Derived.Test.YtclmacpbedkelaaGreatDoorUG
import Derived.Test.YtclmacpbedkelaaGreatDoorUH
import Derived.Test.YtclmacpbedkelaaGreatDoorUI
import Derived.Test.YtclmacpbedkelaaGreatDoorTie
import Derived.Test.YtclmacpbedkelaaGreatDoorCards
import Derived.ProofKit
import Derived.LaidMore
import Derived.OpenShut
import Derived.Carry
import Derived.MakeChecks
import Derived.LaidLaws
import Derived.SevenTiedAt
import Derived.Deep.DeepHandedRow
import Derived.Deep.DeepWitnessRowRef
set_option linter.unusedSimpArgs false
set_option linter.unusedVariables false
set_option linter.unusedSectionVars false
namespace Go.Proofs.YtclmacpbedkelaaGreatDoor
open Go Go.ChangeShapes Go.WideShapes Go.ChangeAt Go.WideMaps Go.WideElems Go.RowKit
set_option maxRecDepth 100000
def laidR:List (String×DataW Unit):=[("math/bits.deBruijn32tab",Rows.laid_math_bits_deBruijn32tab),("math/bits.deBruijn64tab",Rows.laid_math_bits_deBruijn64tab),("internal/strconv.uint64pow10",Rows.laid_internal_strconv_uint64pow10),("assize/typing.spans",Rows.laid_assize_typing_spans),("assize/table.names",Rows.laid_assize_table_names)]
theorem own:ownKnob Tryz.prog.godebug=none:=by kernel_rfl
theorem laidOut:laidOutB Tryz.prog=true:=by kernel_rfl
theorem VF (os:Os)(args:Array Value):laidMetH Tryz.prog laidR ((World.doorLaid Tryz.prog 38 os).forCall (fun _ _=>0) ⟨#[],args,[]⟩).memory:=
 laidMetH_of_parts3 (fuel:=8) (laidMet_of_run' 8 (by kernel_rfl) (by kernel_rfl)) (by kernel_rfl) (by kernel_rfl)
theorem gok {w:World}(h:laidMet Tryz.prog laidR w):Go.Ev.GOk Go.Ev.globs' (fun b=>b<w.heap.size) w:=by
 intro g cells hg
 unfold Go.Ev.globs' at hg
 split at hg
 ·obtain rfl:=Option.some.inj hg
  exact Go.Ev.laid_gok (fun _ h=>h) h (n:= "assize/table.names") (d:=Rows.laid_assize_table_names) (.tail _ (.tail _ (.tail _ (.tail _ (.head _))))) (t:=151) (k:=6) (by kernel_rfl) (by kernel_rfl) (by kernel_rfl) (by kernel_rfl) (by intro e; cases e)
 ·obtain rfl:=Option.some.inj hg
  exact Go.Ev.laid_gok (fun _ h=>h) h (n:= "assize/typing.spans") (d:=Rows.laid_assize_typing_spans) (.tail _ (.tail _ (.tail _ (.head _)))) (t:=327) (k:=6) (by kernel_rfl) (by kernel_rfl) (by kernel_rfl) (by kernel_rfl) (by intro e; cases e)
 ·obtain rfl:=Option.some.inj hg
  exact Go.Ev.laid_gok (fun _ h=>h) h (n:= "internal/strconv.uint64pow10") (d:=Rows.laid_internal_strconv_uint64pow10) (.tail _ (.tail _ (.head _))) (t:=432) (k:=6) (by kernel_rfl) (by kernel_rfl) (by kernel_rfl) (by kernel_rfl) (by intro e; cases e)
 ·obtain rfl:=Option.some.inj hg
  exact Go.Ev.laid_gok (fun _ h=>h) h (n:= "math/bits.deBruijn32tab") (d:=Rows.laid_math_bits_deBruijn32tab) (.head _) (t:=66) (k:=6) (by kernel_rfl) (by kernel_rfl) (by kernel_rfl) (by kernel_rfl) (by intro e; cases e)
 ·obtain rfl:=Option.some.inj hg
  exact Go.Ev.laid_gok (fun _ h=>h) h (n:= "math/bits.deBruijn64tab") (d:=Rows.laid_math_bits_deBruijn64tab) (.tail _ (.head _)) (t:=460) (k:=6) (by kernel_rfl) (by kernel_rfl) (by kernel_rfl) (by kernel_rfl) (by intro e; cases e)
 ·cases hg
theorem Tq {F:Nat->Prop}{w:World}{e:Ending}{w':World}(h:Go.Ev.PostP F w (.bool true) e w'):e=.returned (.bool true)/\Below w.heap.size w w':=by
 unfold Go.Ev.PostP at h
 split at h
 ·obtain ⟨F',_,_,_,h1,h2,h3,h4,h5,h6⟩:=h
  cases h6
  exact ⟨rfl,h3,h4,h5,h2,h1⟩
 ·cases h
 ·cases h
theorem Xx {F:Nat->Prop}{w:World}:Go.Ev.PRs F w [] #[]:=⟨rfl,fun i h=>by simp at h⟩
theorem H9 {F:Nat->Prop}{w:World}{a:Go.Ev.EV}{xs:List Go.Ev.EV}{v:Value}{vs:List Value}(h:Go.Ev.PR F w a v)(g:Go.Ev.PRs F w xs vs.toArray):Go.Ev.PRs F w (a :: xs) (v :: vs).toArray:=by
 obtain ⟨g1,g2⟩:=g
 refine ⟨by simpa using g1,fun i h1 h2=>?_⟩
 cases i with
 | zero=>simpa using h
 | succ i=>
  have:=g2 i (by simpa using h1) (by simpa using h2)
  simpa using this
section
variable {H:Type}
theorem one_le (d:DataW H):1<=Rows.uptoBulk d:=by
 cases d with
 | lit l=>cases l<;>simp [Rows.uptoBulk]
 | nil=>simp [Rows.uptoBulk]
 | ptr d=>simp [Rows.uptoBulk]
 | slice elems spare=>simp [Rows.uptoBulk]
 | agg parts=>simp [Rows.uptoBulk]
 | iface t d=>simp [Rows.uptoBulk]
 | map entries=>simp [Rows.uptoBulk]
 | held h=>simp [Rows.uptoBulk]
theorem Ph {d:DataW H}{l:List (DataW H)}(h:d∈l):Rows.uptoBulk d<=Rows.uptoBulkAll l:=by
 induction l with
 | nil=>cases h
 | cons x r ih=>
  simp only [Rows.uptoBulkAll]
  cases List.mem_cons.1 h with
  | inl e=>subst e; omega
  | inr e=>have:=ih e; omega
theorem KE (k:Nat):∀ (l:List (DataW H)),(∀ e∈l,k<=Rows.uptoBulk e)->l.length*k<=Rows.uptoBulkAll l
 | [],_=>by simp [Rows.uptoBulkAll]
 | x :: r,h=>by
  have h1:=h x List.mem_cons_self
  have h2:=KE k r fun e he=>h e (List.mem_cons_of_mem _ he)
  simp only [Rows.uptoBulkAll,List.length_cons,Nat.add_mul,Nat.one_mul]
  omega
theorem KF (es sp:List (DataW H)):(∀ k,(∀ e∈es,k<=Rows.uptoBulk e)->es.length*k<=Rows.uptoBulk (.slice es sp))/\∀ e∈es,Rows.uptoBulk e<=Rows.uptoBulk (.slice es sp):=by
 refine ⟨fun k h=>?_,fun e he=>?_⟩
 ·have:=KE k es h
  simp only [Rows.uptoBulk]
  omega
 ·have:=Ph he
  simp only [Rows.uptoBulk]
  omega
theorem NN (ps:List (DataW H)):ps.length+1<=Rows.uptoBulk (.agg ps)/\∀ e∈ps,Rows.uptoBulk e<=Rows.uptoBulk (.agg ps):=by
 refine ⟨?_,fun e he=>?_⟩
 ·have:=KE 1 ps fun e _=>one_le e
  simp only [Rows.uptoBulk]
  omega
 ·have:=Ph he
  simp only [Rows.uptoBulk]
  omega
variable {enc:TypeId×Value->H}{W:World}{base:Nat}{v:Value}{d:DataW H}{p:List MemPlace}
abbrev FW (W:World):Nat->Prop:=fun b=>b<W.heap.size
theorem NO (hval:Value.okWide Tryz.prog W .any base 23 v)(hd:DataW.Trod enc Tryz.prog W 0 (fun _=>true) true 23 v d p)(hB:Rows.uptoBulk d<=1048576):
  ∃ nn len w,Go.Ev.PR (FW W) W (Go.Ev.nums nn len w) v/\(nn=true∨len=0)/\len<=1048576:=by
 obtain ⟨x,h1,n,h2⟩:=Go.Ev.arg_sliceB (F:=FW W) (bulk:=Rows.uptoBulk) (B:=1048576) Go.Ev.okA Go.Ev.okA_ok (fun _ h=>h) one_le KF NN (e:=3) (by kernel_rfl) hval rfl hd hB
 obtain ⟨nn,len,w,h3,h4,h5⟩:=Go.Ev.tb_nums h2
 exact ⟨nn,len,w,h3 _ _ _ h1,h4,h5⟩
theorem QW (hval:Value.okWide Tryz.prog W .any base 22 v)(hd:DataW.Trod enc Tryz.prog W 0 (fun _=>true) true 22 v d p)(hB:Rows.uptoBulk d<=1048576):
  ∃ nn len,∃ rs:Nat->Go.Ev.ResD,Go.Ev.PR (FW W) W (.isl nn 13 len fun i=>(rs i).cells) v/\(nn=true∨len=0)/\len<=1048576:=by
 obtain ⟨x,h1,n,h2⟩:=Go.Ev.arg_sliceB (F:=FW W) (bulk:=Rows.uptoBulk) (B:=1048576) Go.Ev.okA Go.Ev.okA_ok (fun _ h=>h) one_le KF NN (e:=78) (by kernel_rfl) hval rfl hd hB
 obtain ⟨nn,len,w,h3,h4,h5⟩:=Go.Ev.tb_results h2
 exact ⟨nn,len,w,h3 _ _ _ h1,h4,h5⟩
def QX:Option TypeDesc->Bool
 | some (.struct _)=>true
 | _=>false
theorem Tr {o:Option TypeDesc}(h:QX o=true):∃ fs,o=some (.struct fs):=by
 unfold QX at h
 split at h
 ·exact ⟨_,rfl⟩
 ·cases h
theorem VG:∃ fs,Tryz.prog.underlying 27=some (.struct fs):=Tr (by kernel_rfl)
theorem Ts (hval:Value.okWide Tryz.prog W .any base 27 v)(hd:DataW.Trod enc Tryz.prog W 0 (fun _=>true) true 27 v d p)(hB:Rows.uptoBulk d<=1048576):
  ∃ (R:Go.Ev.RulesV) (k:Nat),Go.Ev.PR (FW W) W (.agg R.cells) v/\R.Tree k:=by
 obtain ⟨fs,hu⟩:=VG
 obtain ⟨vs,h1,n,h2⟩:=Go.Ev.arg_structB (F:=FW W) (bulk:=Rows.uptoBulk) (B:=1048576) Go.Ev.okA Go.Ev.okA_ok (fun _ h=>h) one_le KF NN hu hval rfl hd hB
 obtain ⟨R,k,h3,h4⟩:=Go.Ev.tb_rules h2
 exact ⟨R,k,h3 _ _ _ h1,h4⟩
theorem VH (hval:Value.okWide Tryz.prog W .any base 4 v):∃ b,Go.Ev.PR (FW W) W (.bool b) v:=by
 obtain ⟨b,rfl⟩:=okWide_bool (by kernel_rfl) hval
 exact ⟨b,.bool b⟩
end
theorem Tt:(laidR.all fun x=>x.2.handleName?.isNone)=true:=by kernel_rfl
theorem ACd:Tryz.prog.readableRec 22=true:=by kernel_rfl
theorem VI:Tryz.prog.readableRec 23=true:=by kernel_rfl
theorem ACe:Tryz.prog.readableRec 27=true:=by kernel_rfl
theorem ADU:Tryz.prog.readableRec 4=true:=by kernel_rfl
theorem Oo:27<Tryz.prog.types.size:=of_decide_eq_true (by kernel_rfl)
end Go.Proofs.YtclmacpbedkelaaGreatDoor
