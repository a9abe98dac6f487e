/- A part of the proof. -/
import Derived.Test.YtclmacpbedkelaaGreatDoorTJ
import Derived.Test.YtclmacpbedkelaaGreatDoorTN
set_option linter.unusedSimpArgs false
set_option linter.unusedVariables false
set_option linter.unusedSectionVars false
namespace Go.Proofs.YtclmacpbedkelaaGreatDoor
open Go Go.ChangeShapes Go.WideShapes Go.ChangeAt Go.WideMaps Go.WideElems Go.RowKit
set_option maxRecDepth 100000
theorem AEB (H:Type)(enc:TypeId×Value->H)(W:World)(base:Nat)(args:Array Value)(ds gs:List (DataW H))(before:List MemPlace)
  (hval:∀ (j:Nat) t v,Tryz.f5.params[j]? =some t->args[j]? =some v->Value.okWide Tryz.prog W .any base t v)
  (hW':DataW.Whole enc Tryz.prog Tryz.f5.params.toList Rows.tableOffSpec.vars false W args.toList ds gs before) (hk:Rows.uptoSmall H (ds++gs)=true) (hL:laidMetH Tryz.prog laidR W):
  Calls Tryz.prog 5 args W fun e W'=>∃ v,e=.returned v/\Rows.tableOffSpec.post enc Tryz.prog Tryz.f5 false true false false W args v W':=by
 have hW:=hW'
 obtain ⟨p,q,hA0,hV,rfl,hfz,hnd⟩:=hW
 have hA:DataW.TrodAll enc Tryz.prog W 0 (fun _=>true) true Tryz.f5.params.toList args.toList ds p:=hA0
 rw [Tryz.params5] at hA hval
 obtain ⟨v0,vs0,d0,ds0,p0,q0,hargs,rfl,rfl,h0,hA⟩:=trodAll_cons hA
 obtain ⟨v1,vs1,d1,ds1,p1,q1,rfl,rfl,rfl,h1,hA⟩:=trodAll_cons hA
 obtain ⟨v2,vs2,d2,ds2,p2,q2,rfl,rfl,rfl,h2,hA⟩:=trodAll_cons hA
 obtain ⟨v3,vs3,d3,ds3,p3,q3,rfl,rfl,rfl,h3,hA⟩:=trodAll_cons hA
 obtain ⟨v4,vs4,d4,ds4,p4,q4,rfl,rfl,rfl,h4,hA⟩:=trodAll_cons hA
 obtain ⟨v5,vs5,d5,ds5,p5,q5,rfl,rfl,rfl,h5,hA⟩:=trodAll_cons hA
 obtain ⟨v6,vs6,d6,ds6,p6,q6,rfl,rfl,rfl,h6,hA⟩:=trodAll_cons hA
 obtain ⟨v7,vs7,d7,ds7,p7,q7,rfl,rfl,rfl,h7,hA⟩:=trodAll_cons hA
 obtain ⟨rfl,rfl,rfl⟩:=trodAll_nil hA
 obtain rfl:args=#[v0,v1,v2,v3,v4,v5,v6,v7]:=by cases args; simp_all
 obtain ⟨rfl,rfl⟩:=trodVars_none hV
 have hb:∀ d∈[d0,d1,d2,d3,d4,d5,d6,d7],Rows.uptoBulk d<=1048576:=fun d hd=>by
  have hk':Rows.uptoBulkAll ([d0,d1,d2,d3,d4,d5,d6,d7]++[])<=1048576:=of_decide_eq_true hk
  rw [List.append_nil] at hk'
  exact Nat.le_trans (Ph hd) hk'
 obtain ⟨n0,N,rs,a0,b0,_⟩:=QW (hval 0 22 v0 rfl rfl) h0 (hb d0 (by simp))
 obtain ⟨n1,m,w,a1,b1,_⟩:=NO (hval 1 23 v1 rfl rfl) h1 (hb d1 (by simp))
 obtain ⟨n2,m2,o,a2,b2,_⟩:=NO (hval 2 23 v2 rfl rfl) h2 (hb d2 (by simp))
 obtain ⟨R,k,a3,hT⟩:=Ts (hval 3 27 v3 rfl rfl) h3 (hb d3 (by simp))
 obtain ⟨fin,a4⟩:=VH (hval 4 4 v4 rfl rfl)
 obtain ⟨n3,ln,lw,a5,_,_⟩:=NO (hval 5 23 v5 rfl rfl) h5 (hb d5 (by simp))
 obtain ⟨wh,a6⟩:=AD8 (hval 6 3 v6 rfl rfl)
 obtain ⟨pts,a7⟩:=AD8 (hval 7 3 v7 rfl rfl)
 rw [MakeChecks.laidMetH_plain _ _ _ Tt] at hL
 have hc:=(Go.Ev.law5 Go.Ev.sane_ok n0 N rs n1 m w n2 m2 o n3 ln lw R fin wh pts hT b0 b1 b2).2 (fun b=>b<W.heap.size) W #[v0,v1,v2,v3,v4,v5,v6,v7] (fun _ h=>h) (gok hL) (H9 a0 (H9 a1 (H9 a2 (H9 a3 (H9 a4 (H9 a5 (H9 a6 (H9 a7 Xx))))))))
 refine hc.mono fun e W' he=>?_
 obtain ⟨rfl,hB⟩:=Tq he
 have hlt:∀ x∈p0++(p1++(p2++(p3++(p4++(p5++(p6++(p7++[]))))))),x.block<W.heap.size:=fun x hx=>hW'.lt x (by simpa using hx)
 refine ⟨_,rfl,_,_,_,[],p0++(p1++(p2++(p3++(p4++(p5++(p6++(p7++[]))))))),[],hW',?_,?_,?_,hB.frame _,fun h=>by cases h⟩
 ·exact trodAll_mk1 (shut_bool (by kernel_rfl) true)
 ·rw [Tryz.params5]
  exact trodAll_cons_mk (Below.trod laidOut ACd (Nat.lt_trans (by omega) Oo) h0 hB fun x hx=>hlt x (by simp [hx])) (trodAll_cons_mk (Below.trod laidOut VI (Nat.lt_trans (by omega) Oo) h1 hB fun x hx=>hlt x (by simp [hx]))
   (trodAll_cons_mk (Below.trod laidOut VI (Nat.lt_trans (by omega) Oo) h2 hB fun x hx=>hlt x (by simp [hx])) (trodAll_cons_mk (Below.trod laidOut ACe Oo h3 hB fun x hx=>hlt x (by simp [hx]))
   (trodAll_cons_mk (Below.trod laidOut ADU (Nat.lt_trans (by omega) Oo) h4 hB fun x hx=>hlt x (by simp [hx])) (trodAll_cons_mk (Below.trod laidOut VI (Nat.lt_trans (by omega) Oo) h5 hB fun x hx=>hlt x (by simp [hx]))
   (trodAll_cons_mk (Below.trod laidOut AEK (Nat.lt_trans (by omega) Oo) h6 hB fun x hx=>hlt x (by simp [hx])) (trodAll_cons_mk (Below.trod laidOut AEK (Nat.lt_trans (by omega) Oo) h7 hB fun x hx=>hlt x (by simp [hx])) trodAll_mk0)))))))
 ·rfl
theorem AEG:Tryz.prog.inits.idxOf? 5=none:=by kernel_rfl
abbrev wArgs5:Array Value:=#[.slice none 0 0,.slice none 0 0,.slice none 0 0,.agg #[.string ⟨#[]⟩,.int .i64 0,.int .i64 0,.int .i64 0,.slice none 0 0,.slice none 0 0],.bool false,.slice none 0 0,.int .i64 0,.int .i64 0]
theorem VK (os:Os)(args:Array Value):((World.doorLaid Tryz.prog 38 os).forCall (fun _ _=>0) ⟨#[],args,[]⟩).variablesRefB Tryz.prog=true:=by kernel_rfl
theorem VL (os:Os)(args:Array Value):(((World.doorLaid Tryz.prog 38 os).forCall (fun _ _=>0) ⟨#[],args,[]⟩).heap.toList.drop Tryz.prog.globals.size).take ((begin Tryz.prog (fun _ _=>0) default).world.heap.size - Tryz.prog.globals.size)=
   (begin Tryz.prog (fun _ _=>0) default).world.heap.toList.drop Tryz.prog.globals.size:=by kernel_rfl
theorem AEH (os:Os):Input.okWideB Tryz.prog ((World.doorLaid Tryz.prog 38 os).forCall (fun _ _=>0) ⟨#[],wArgs5,[]⟩) 5 ⟨#[],wArgs5,[]⟩=true:=by kernel_rfl
theorem AD7 (os:Os){H:Type}(enc:TypeId×Value->H):∃ places,DataW.whole enc Tryz.prog ((World.doorLaid Tryz.prog 38 os).forCall (fun _ _=>0) ⟨#[],wArgs5,[]⟩).memory Tryz.f5.params.toList Rows.tableOffSpec.vars false wArgs5.toList 8=
  some ([.nil,.nil,.nil,.agg [.lit (.string []),.lit (.int .i64 0),.lit (.int .i64 0),.lit (.int .i64 0),.nil,.nil],.lit (.bool false),.nil,.lit (.int .i64 0),.lit (.int .i64 0)],[],places):=⟨[],by kernel_rfl⟩
theorem AED (os:Os){H:Type}(enc:TypeId×Value->H):(Rows.OpenSpec.upto Rows.tableOffSpec).preRow enc Tryz.prog Tryz.f5 [] false laidR ((World.doorLaid Tryz.prog 38 os).forCall (fun _ _=>0) ⟨#[],wArgs5,[]⟩).memory wArgs5:=by
 obtain ⟨places,hx⟩:=AD7 os enc
 exact OpenSpec.preRow_of_cond 8 hx (by kernel_rfl) (fun k hk=>by cases hk; kernel_rfl) (by kernel_rfl) (VF os wArgs5)
theorem AEW (os:Os)(C:Checked)(hC:C.prog=Tryz.prog){H:Type}(enc:TypeId×Value->H):∃ (w:World) (tape:Tape) (i:Input),w.os=os/\(w.forCall tape i).Shaped C.prog/\i.vars=[]/\Input.okWide C.prog (w.forCall tape i) .any w.heap.size 5 i/\
   (Rows.OpenSpec.upto Rows.tableOffSpec).preRow enc C.prog Tryz.f5 [] false laidR (w.forCall tape i).memory i.args/\({}:Assume).holds C.prog (lone (Frame.enter C.prog 5 i.args .normal) [] (w.forCall tape i)):=
 witness_row_atRef (enc:=enc) (C:=C) false (World.doorLaid Tryz.prog 38 os) wArgs5 rfl (by rw [hC]; exact VK os _) (by rw [hC]; exact VL os _) (by rw [hC]; exact AEH os) (by rw [hC]; exact AED os enc)
theorem RQ (C:Checked)(hC:C.prog=Tryz.prog)(os:Os)(started:os.Started)(H:Type)(enc:TypeId×Value->H)(F:Stop.Interp):
  ReturnsInHanded {} C os 5 .any ((Rows.OpenSpec.upto Rows.tableOffSpec).preRow enc C.prog Tryz.f5 [] false laidR) (((Rows.OpenSpec.upto Rows.tableOffSpec).at F).post enc C.prog Tryz.f5 false true false false):=
 returnsInHanded_of_row (C:=C) (s:=Rows.OpenSpec.upto Rows.tableOffSpec) (hC.symm▸own) started (hC.symm▸AEG) (hC.symm▸Tryz.func5) (AEW os C hC enc)
  (fun W base args ds gs before hval hW _ hcond _ hL _ _=>by
   rw [hC] at hval hW hL ⊢
   exact AEB H enc W base args ds gs before hval hW (hcond _ rfl) hL)
theorem VN:Tryz.checked.prog=Tryz.prog:=rfl
theorem AEI (os:Os)(started:os.Started)(H:Type)(enc:TypeId×Value->H)(F:Stop.Interp):
  ReturnsInHanded {} Tryz.checked os 5 .any ((Rows.OpenSpec.upto Rows.tableOffSpec).preRow enc Tryz.prog Tryz.f5 [] false laidR) (((Rows.OpenSpec.upto Rows.tableOffSpec).at F).post enc Tryz.prog Tryz.f5 false true false false):=by
 have h:=RQ Tryz.checked VN os started H enc F
 rw [VN] at h
 exact h
end Go.Proofs.YtclmacpbedkelaaGreatDoor
