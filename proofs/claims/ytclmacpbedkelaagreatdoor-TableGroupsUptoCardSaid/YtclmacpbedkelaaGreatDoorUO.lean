/- A part of the proof. -/
import Derived.Test.YtclmacpbedkelaaGreatDoorUJ
import Derived.Test.YtclmacpbedkelaaGreatDoorUN
set_option linter.unusedSimpArgs false
set_option linter.unusedVariables false
set_option linter.unusedSectionVars false
namespace Go.Proofs.YtclmacpbedkelaaGreatDoor
open Go Go.ChangeShapes Go.WideShapes Go.ChangeAt Go.WideMaps Go.WideElems Go.RowKit
set_option maxRecDepth 100000
theorem AF2 (H:Type)(enc:TypeId×Value->H)(W:World)(base:Nat)(args:Array Value)(ds gs:List (DataW H))(before:List MemPlace)
  (hval:∀ (j:Nat) t v,Tryz.f6.params[j]? =some t->args[j]? =some v->Value.okWide Tryz.prog W .any base t v)
  (hW':DataW.Whole enc Tryz.prog Tryz.f6.params.toList Rows.tableGroupsSpec.vars false W args.toList ds gs before) (hk:Rows.uptoSmall H (ds++gs)=true) (hL:laidMetH Tryz.prog laidR W):
  Calls Tryz.prog 6 args W fun e W'=>∃ v,e=.returned v/\Rows.tableGroupsSpec.post enc Tryz.prog Tryz.f6 false true false false W args v W':=by
 have hW:=hW'
 obtain ⟨p,q,hA0,hV,rfl,hfz,hnd⟩:=hW
 have hA:DataW.TrodAll enc Tryz.prog W 0 (fun _=>true) true Tryz.f6.params.toList args.toList ds p:=hA0
 rw [Tryz.params6] at hA hval
 obtain ⟨v0,vs0,d0,ds0,p0,q0,hargs,rfl,rfl,h0,hA⟩:=trodAll_cons hA
 obtain ⟨v1,vs1,d1,ds1,p1,q1,rfl,rfl,rfl,h1,hA⟩:=trodAll_cons hA
 obtain ⟨v2,vs2,d2,ds2,p2,q2,rfl,rfl,rfl,h2,hA⟩:=trodAll_cons hA
 obtain ⟨v3,vs3,d3,ds3,p3,q3,rfl,rfl,rfl,h3,hA⟩:=trodAll_cons hA
 obtain ⟨v4,vs4,d4,ds4,p4,q4,rfl,rfl,rfl,h4,hA⟩:=trodAll_cons hA
 obtain ⟨v5,vs5,d5,ds5,p5,q5,rfl,rfl,rfl,h5,hA⟩:=trodAll_cons hA
 obtain ⟨rfl,rfl,rfl⟩:=trodAll_nil hA
 obtain rfl:args=#[v0,v1,v2,v3,v4,v5]:=by cases args; simp_all
 obtain ⟨rfl,rfl⟩:=trodVars_none hV
 have hb:∀ d∈[d0,d1,d2,d3,d4,d5],Rows.uptoBulk d<=1048576:=fun d hd=>by
  have hk':Rows.uptoBulkAll ([d0,d1,d2,d3,d4,d5]++[])<=1048576:=of_decide_eq_true hk
  rw [List.append_nil] at hk'
  exact Nat.le_trans (Ph hd) hk'
 obtain ⟨n0,N,rs,a0,b0,_⟩:=QW (hval 0 22 v0 rfl rfl) h0 (hb d0 (by simp))
 obtain ⟨n1,m,w,a1,b1,_⟩:=NO (hval 1 23 v1 rfl rfl) h1 (hb d1 (by simp))
 obtain ⟨n2,m2,o,a2,_,_⟩:=NO (hval 2 23 v2 rfl rfl) h2 (hb d2 (by simp))
 obtain ⟨R,k,a3,hT⟩:=Ts (hval 3 27 v3 rfl rfl) h3 (hb d3 (by simp))
 obtain ⟨fin,a4⟩:=VH (hval 4 4 v4 rfl rfl)
 obtain ⟨n3,ln,lw,a5,_,_⟩:=NO (hval 5 23 v5 rfl rfl) h5 (hb d5 (by simp))
 rw [MakeChecks.laidMetH_plain _ _ _ Tt] at hL
 have hc:=(Go.Ev.law6 Go.Ev.sane_ok n0 N rs n1 m w n2 m2 o n3 ln lw R fin hT b0 b1).2 (fun b=>b<W.heap.size) W #[v0,v1,v2,v3,v4,v5] (fun _ h=>h) (gok hL) (H9 a0 (H9 a1 (H9 a2 (H9 a3 (H9 a4 (H9 a5 Xx))))))
 refine hc.mono fun e W' he=>?_
 obtain ⟨rfl,hB⟩:=Tq he
 have hlt:∀ x∈p0++(p1++(p2++(p3++(p4++(p5++[]))))),x.block<W.heap.size:=fun x hx=>hW'.lt x (by simpa using hx)
 refine ⟨_,rfl,_,_,_,[],p0++(p1++(p2++(p3++(p4++(p5++[]))))),[],hW',?_,?_,?_,hB.frame _,fun h=>by cases h⟩
 ·exact trodAll_mk1 (shut_bool (by kernel_rfl) true)
 ·rw [Tryz.params6]
  exact trodAll_cons_mk (Below.trod laidOut ACd (Nat.lt_trans (by omega) Oo) h0 hB fun x hx=>hlt x (by simp [hx])) (trodAll_cons_mk (Below.trod laidOut VI (Nat.lt_trans (by omega) Oo) h1 hB fun x hx=>hlt x (by simp [hx]))
   (trodAll_cons_mk (Below.trod laidOut VI (Nat.lt_trans (by omega) Oo) h2 hB fun x hx=>hlt x (by simp [hx])) (trodAll_cons_mk (Below.trod laidOut ACe Oo h3 hB fun x hx=>hlt x (by simp [hx]))
   (trodAll_cons_mk (Below.trod laidOut ADU (Nat.lt_trans (by omega) Oo) h4 hB fun x hx=>hlt x (by simp [hx])) (trodAll_cons_mk (Below.trod laidOut VI (Nat.lt_trans (by omega) Oo) h5 hB fun x hx=>hlt x (by simp [hx])) trodAll_mk0)))))
 ·rfl
theorem AGG:Tryz.prog.inits.idxOf? 6=none:=by kernel_rfl
abbrev wArgs6:Array Value:=#[.slice none 0 0,.slice none 0 0,.slice none 0 0,.agg #[.string ⟨#[]⟩,.int .i64 0,.int .i64 0,.int .i64 0,.slice none 0 0,.slice none 0 0],.bool false,.slice none 0 0]
theorem VK (os:Os)(args:Array Value):((World.doorLaid Tryz.prog 38 os).forCall (fun _ _=>0) ⟨#[],args,[]⟩).variablesRefB Tryz.prog=true:=by kernel_rfl
theorem VL (os:Os)(args:Array Value):(((World.doorLaid Tryz.prog 38 os).forCall (fun _ _=>0) ⟨#[],args,[]⟩).heap.toList.drop Tryz.prog.globals.size).take ((begin Tryz.prog (fun _ _=>0) default).world.heap.size - Tryz.prog.globals.size)=
   (begin Tryz.prog (fun _ _=>0) default).world.heap.toList.drop Tryz.prog.globals.size:=by kernel_rfl
theorem AGH (os:Os):Input.okWideB Tryz.prog ((World.doorLaid Tryz.prog 38 os).forCall (fun _ _=>0) ⟨#[],wArgs6,[]⟩) 6 ⟨#[],wArgs6,[]⟩=true:=by kernel_rfl
theorem AFs (os:Os){H:Type}(enc:TypeId×Value->H):∃ places,DataW.whole enc Tryz.prog ((World.doorLaid Tryz.prog 38 os).forCall (fun _ _=>0) ⟨#[],wArgs6,[]⟩).memory Tryz.f6.params.toList Rows.tableGroupsSpec.vars false wArgs6.toList 8=
  some ([.nil,.nil,.nil,.agg [.lit (.string []),.lit (.int .i64 0),.lit (.int .i64 0),.lit (.int .i64 0),.nil,.nil],.lit (.bool false),.nil],[],places):=⟨[],by kernel_rfl⟩
theorem AF8 (os:Os){H:Type}(enc:TypeId×Value->H):(Rows.OpenSpec.upto Rows.tableGroupsSpec).preRow enc Tryz.prog Tryz.f6 [] false laidR ((World.doorLaid Tryz.prog 38 os).forCall (fun _ _=>0) ⟨#[],wArgs6,[]⟩).memory wArgs6:=by
 obtain ⟨places,hx⟩:=AFs os enc
 exact OpenSpec.preRow_of_cond 8 hx (by kernel_rfl) (fun k hk=>by cases hk; kernel_rfl) (by kernel_rfl) (VF os wArgs6)
theorem AHB (os:Os)(C:Checked)(hC:C.prog=Tryz.prog){H:Type}(enc:TypeId×Value->H):∃ (w:World) (tape:Tape) (i:Input),w.os=os/\(w.forCall tape i).Shaped C.prog/\i.vars=[]/\Input.okWide C.prog (w.forCall tape i) .any w.heap.size 6 i/\
   (Rows.OpenSpec.upto Rows.tableGroupsSpec).preRow enc C.prog Tryz.f6 [] false laidR (w.forCall tape i).memory i.args/\({}:Assume).holds C.prog (lone (Frame.enter C.prog 6 i.args .normal) [] (w.forCall tape i)):=
 witness_row_atRef (enc:=enc) (C:=C) false (World.doorLaid Tryz.prog 38 os) wArgs6 rfl (by rw [hC]; exact VK os _) (by rw [hC]; exact VL os _) (by rw [hC]; exact AGH os) (by rw [hC]; exact AF8 os enc)
theorem RQ (C:Checked)(hC:C.prog=Tryz.prog)(os:Os)(started:os.Started)(H:Type)(enc:TypeId×Value->H)(F:Stop.Interp):
  ReturnsInHanded {} C os 6 .any ((Rows.OpenSpec.upto Rows.tableGroupsSpec).preRow enc C.prog Tryz.f6 [] false laidR) (((Rows.OpenSpec.upto Rows.tableGroupsSpec).at F).post enc C.prog Tryz.f6 false true false false):=
 returnsInHanded_of_row (C:=C) (s:=Rows.OpenSpec.upto Rows.tableGroupsSpec) (hC.symm▸own) started (hC.symm▸AGG) (hC.symm▸Tryz.func6) (AHB os C hC enc)
  (fun W base args ds gs before hval hW _ hcond _ hL _ _=>by
   rw [hC] at hval hW hL ⊢
   exact AF2 H enc W base args ds gs before hval hW (hcond _ rfl) hL)
theorem VN:Tryz.checked.prog=Tryz.prog:=rfl
theorem AGI (os:Os)(started:os.Started)(H:Type)(enc:TypeId×Value->H)(F:Stop.Interp):
  ReturnsInHanded {} Tryz.checked os 6 .any ((Rows.OpenSpec.upto Rows.tableGroupsSpec).preRow enc Tryz.prog Tryz.f6 [] false laidR) (((Rows.OpenSpec.upto Rows.tableGroupsSpec).at F).post enc Tryz.prog Tryz.f6 false true false false):=by
 have h:=RQ Tryz.checked VN os started H enc F
 rw [VN] at h
 exact h
end Go.Proofs.YtclmacpbedkelaaGreatDoor
