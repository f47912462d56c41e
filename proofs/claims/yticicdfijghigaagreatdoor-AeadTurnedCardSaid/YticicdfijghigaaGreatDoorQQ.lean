/- THE STATEMENT: AeadTurned answers true for every input, and the input reads as it did. Conditions: the listed package-level variables hold what the program's text lays; the card ties them. -/
import Derived.Test.YticicdfijghigaaGreatDoorQP
open Go
set_option maxRecDepth 100000
section
open Go Go.Proofs.YticicdfijghigaaGreatDoor
set_option maxRecDepth 100000
namespace Go.Proofs.YticicdfijghigaaGreatDoor.AeadTurned
open Go.ChangeShapes Go.WideShapes Go.ChangeAt Go.RowKit Go.Proofs.YticicdfijghigaaGreatDoor.Sx Go.Proofs.YticicdfijghigaaGreatDoor.Aea
section
variable {H:Type} {enc:TypeId × Value->H} {P:Program}
theorem pS {f:Func} {s:ChangeSpec} {apart fresh handsOn again:Bool} {W W':World} {args:Array Value} {v:Value} {ds gs:List (DataW H)} {before pa pv:List MemPlace}
 (hW:DataW.Whole enc P f.params.toList s.vars apart W args.toList ds gs before)
 (Nc:∀ (b:Nat) (sp:Nat->Bool) (hd:Bool),DataW.TrodAll enc P W' b sp hd f.resultTypes.toList (v.resultList f.resultTypes.size) (s.fn H (ds++gs)).results [])
 (rT:∀ sp:Nat->Bool,(∀ p∈before,sp p.block=true)->DataW.TrodAll enc P W' 0 sp true f.params.toList args.toList (s.fn H (ds++gs)).args pa)
 (zT:∀ sp:Nat->Bool,(∀ p∈before,sp p.block=true)->DataW.TrodVars enc P W' sp s.vars (s.fn H (ds++gs)).vars pv)
 (VF:before=pa++pv) (hb:Below W.heap.size W W')
 (lQ:∀ (j:Nat) (t:TypeId) (r:Value),f.resultTypes[j]?=some t->(v.resultList f.resultTypes.size)[j]?=some r->Value.okWide P W' .any 0 t r) :
 s.post enc P f apart fresh handsOn again W args v W':=by
 have lt:∀ p∈before,p.block<W.heap.size:=fun p hp=>hW.lt p hp
 have zM:∀ p∈before,(fun b=>decide (b<W.heap.size)) p.block=true:=fun p hp=>decide_eq_true (lt p hp)
 subst VF
 refine ⟨ds,gs,_,[],pa,pv,hW,Nc _ _ _,rT _ zM,zT _ zM,World.keptBut_mono (fun p hp=>⟨hp,.inr (List.mem_append.1 hp)⟩) (hb.frame (· ∈ pa++pv)),fun _=>?_⟩
 obtain ⟨_,_,_,_,_,hz,hn⟩:=hW
 refine ⟨lQ,_,_,([]++pa)++pv,⟨[]++pa,pv,trodAll_append (rT _ (fun _ _=>rfl)) (Nc _ _ _),zT _ (fun _ _=>rfl),rfl,fun b off hp=>?_,fun ha=>by simpa using hn ha⟩,fun p hp _=>by simpa using hp⟩
 have Wu:MemPlace.cell b off∈pa++pv:=by simpa using hp
 rw [hb.frozen (lt _ Wu)]
 exact hz b off Wu
end
theorem own:ownKnob Tryz.prog.godebug=none:=by kernel_rfl
theorem EX:Tryz.prog.cellsOf 5=1:=by kernel_rfl
theorem GV:Tryz.prog.cellsOf 23=32:=by kernel_rfl
theorem sG (H:Type) (enc:TypeId × Value->H) (W:World) (base:Nat) (args:Array Value) (ds gs:List (DataW H)) (before:List MemPlace)
 (gW:∀ (j:Nat) t v,Tryz.f5.params[j]?=some t->args[j]?=some v->Value.okWide Tryz.prog W .any base t v)
 (hW:DataW.Whole enc Tryz.prog Tryz.f5.params.toList Rows.aeadTurnedSpec.vars false W args.toList ds gs before) (hL:laidMetH Tryz.prog Rows.aeadTurnedRow.laid W) :
 Calls Tryz.prog 5 args W fun e W'=>∃ v,e = .returned v/\Rows.aeadTurnedSpec.post enc Tryz.prog Tryz.f5 false true false false W args v W':=by
 rw [MakeChecks.laidMetH_plain _ _ _ (by kernel_rfl)] at hL
 have FZ:=hW
 obtain ⟨p,q,hA0,hV,rfl,FR,hnd⟩:=hW
 have hA:DataW.TrodAll enc Tryz.prog W 0 (fun _=>true) true Tryz.f5.params.toList args.toList ds p:=hA0
 rw [Tryz.params5] at hA gW
 obtain ⟨v0,eN,d0,ds0,p0,q0,rT,rfl,rfl,h0,r0⟩:=trodAll_cons hA
 obtain ⟨v1,vs1,d1,ds1,p1,q1,rfl,rfl,rfl,h1,r1⟩:=trodAll_cons r0
 obtain ⟨v2,vs2,d2,ds2,p2,q2,rfl,rfl,rfl,h2,r2⟩:=trodAll_cons r1
 obtain ⟨v3,vs3,d3,ds3,p3,q3,rfl,rfl,rfl,h3,r3⟩:=trodAll_cons r2
 obtain ⟨v4,vs4,d4,ds4,p4,q4,rfl,rfl,rfl,h4,r4⟩:=trodAll_cons r3
 obtain ⟨v5,vs5,d5,ds5,p5,q5,rfl,rfl,rfl,h5,r5⟩:=trodAll_cons r4
 obtain ⟨v6,vs6,d6,ds6,p6,q6,rfl,rfl,rfl,h6,r6⟩:=trodAll_cons r5
 obtain ⟨rfl,rfl,rfl⟩:=trodAll_nil r6
 obtain rfl:args = #[v0,v1,v2,v3,v4,v5,v6]:=by cases args;simp_all
 obtain ⟨rfl,rfl⟩:=trodVars_none hV
 obtain ⟨i0,rfl,rfl,rfl,Gd⟩:=open_int Tryz.underlying3 (gW 0 3 v0 rfl rfl) h0
 have ok1:=gW 1 23 v1 rfl rfl
 simp only [Value.okWide,show Tryz.prog.underlying 23=some (.array 32 5) from Tryz.underlying23] at ok1
 obtain ⟨cs1,rfl,_⟩:=ok1
 obtain ⟨i2,rfl,rfl,rfl,UG⟩:=open_int Tryz.underlying24 (gW 2 24 v2 rfl rfl) h2
 obtain ⟨a3,n3,c3,rfl⟩:=okWide_slice Tryz.underlying25 (gW 3 25 v3 rfl rfl)
 obtain ⟨a4,n4,c4,rfl⟩:=okWide_slice Tryz.underlying25 (gW 4 25 v4 rfl rfl)
 obtain ⟨i5,rfl,rfl,rfl,hn5⟩:=open_int Tryz.underlying3 (gW 5 3 v5 rfl rfl) h5
 obtain ⟨i6,rfl,rfl,rfl,hn6⟩:=open_int Tryz.underlying5 (gW 6 5 v6 rfl rfl) h6
 clear hA0
 simp only [List.append_nil,zzv] at FZ
 obtain ⟨f1,hf1⟩:=h1
 obtain ⟨f3,hf3⟩:=h3
 obtain ⟨f4,hf4⟩:=h4
 obtain ⟨x1,l1,e1,b1⟩:=sN Tryz.underlying23 Tryz.underlying5 EX GV hf1
 have bEt:cs1=(x1.map (Value.int .u8)).toArray:=by
  apply Array.ext'
  simpa [Value.cells] using e1
 subst bEt
 obtain ⟨w3,x3,e3,ro3,b3⟩:=jE Tryz.underlying25 Tryz.underlying5 EX hf3
 simp only [Value.cells,List.cons.injEq,and_true] at e3
 subst e3
 obtain ⟨w4,x4,e4,ro4,b4⟩:=jE Tryz.underlying25 Tryz.underlying5 EX hf4
 simp only [Value.cells,List.cons.injEq,and_true] at e4
 subst e4
 have cM:∀ x∈p1++(p3++p4),x.block<W.heap.size:=fun x hx=>FZ.lt x (by simpa using hx)
 refine (walk hL Gd l1 b1 UG ro3 b3 ro4 b4 hn5 hn6).mono fun e W' ⟨he,hb⟩=>?_
 subst he
 have st:∀ (t:TypeId) (v:Value) (d:DataW H) (ps:List MemPlace) (sp:Nat->Bool),t<Tryz.prog.types.size->Tryz.prog.readableRec t=true->(∀ x∈ps,x∈p1++(p3++p4))->DataW.Trod enc Tryz.prog W 0 (fun _=>true) true t v d ps->(∀ p∈p1++(p3++p4),sp p.block=true) ->
  DataW.Trod enc Tryz.prog W' 0 sp true t v d ps:=fun t v d ps sp ht hr aK h AK=>
  WideElems.Trod_stays (by kernel_rfl) hr ht h (fun x hx=>hb.same (cM x (aK x hx))) (fun x hx=>AK x (aK x hx))
 refine ⟨_,rfl,pS (pa:=p1++(p3++p4)) (pv:=[]) FZ (fun _ _ _=>trodAll_cons_mk (shut_bool Tryz.underlying4 _) trodAll_mk0) (fun sp AK=>?_) (fun _ _=>rfl) (by simp) hb (ok_one (by kernel_rfl) rfl (okWide_bool_mk Tryz.underlying4 _))⟩
 have At:∀ p∈p1++(p3++p4),sp p.block=true:=fun p hp=>AK p (by simpa using hp)
 have both:=trodAll_cons_mk (shut_int (w:=W') Tryz.underlying3 Gd) (trodAll_cons_mk (st 23 _ _ p1 sp (zzD (by kernel_rfl)) (by kernel_rfl) (fun x hx=>by simp [hx]) ⟨f1,hf1⟩ At) (trodAll_cons_mk (shut_int (w:=W') Tryz.underlying24 UG) (trodAll_cons_mk (st 25 _ _ p3 sp (zzD (by kernel_rfl)) (by kernel_rfl) (fun x hx=>by simp [hx]) ⟨f3,hf3⟩ At) (trodAll_cons_mk (st 25 _ _ p4 sp (zzD (by kernel_rfl)) (by kernel_rfl) (fun x hx=>by simp [hx]) ⟨f4,hf4⟩ At) (trodAll_cons_mk (shut_int (w:=W') Tryz.underlying3 hn5) (trodAll_cons_mk (shut_int (w:=W') Tryz.underlying5 hn6) trodAll_mk0))))))
 simp only [List.append_nil,zzv] at both
 exact both
theorem sD (os:Os):laidMetH Tryz.prog Rows.aeadTurnedRow.laid ((World.laidAll Tryz.prog os Rows.aeadTurnedRow.laid).forCall (fun _ _=>0) ⟨#[],#[.int .i64 0,.agg (Array.replicate 32 (.int .u8 0)),.int .u64 0,.slice none 0 0,.slice none 0 0,.int .i64 0,.int .u8 0],[]⟩).memory:=by
 rw [MakeChecks.laidMetH_plain _ _ _ (by kernel_rfl)]
 exact laidMet_laidAll _ (by kernel_rfl) (by kernel_rfl)
theorem reads (os:Os) {H:Type} (enc:TypeId × Value->H):∃ places,DataW.whole enc Tryz.prog ((World.laidAll Tryz.prog os Rows.aeadTurnedRow.laid).forCall (fun _ _=>0) ⟨#[],#[.int .i64 0,.agg (Array.replicate 32 (.int .u8 0)),.int .u64 0,.slice none 0 0,.slice none 0 0,.int .i64 0,.int .u8 0],[]⟩).memory Tryz.f5.params.toList Rows.aeadTurnedSpec.vars false
 #[Value.int .i64 0,Value.agg (Array.replicate 32 (Value.int .u8 0)),Value.int .u64 0,Value.slice none 0 0,Value.slice none 0 0,Value.int .i64 0,Value.int .u8 0].toList 8=some ([.lit (.int .i64 0),.agg (List.replicate 32 (.lit (.int .u8 0))),.lit (.int .u64 0),.nil,.nil,.lit (.int .i64 0),.lit (.int .u8 0)],[],places):=⟨[],by kernel_rfl⟩
noncomputable abbrev start (os:Os):World:=(World.laidAll Tryz.prog os Rows.aeadTurnedRow.laid).forCall (fun _ _=>0) ⟨#[],#[.int .i64 0,.agg (Array.replicate 32 (.int .u8 0)),.int .u64 0,.slice none 0 0,.slice none 0 0,.int .i64 0,.int .u8 0],[]⟩
theorem pP (os:Os):(start os).variablesZipB Tryz.prog=true:=by kernel_rfl
theorem nP (os:Os):((start os).heap.toList.drop Tryz.prog.globals.size).take ((begin Tryz.prog (fun _ _=>0) default).world.heap.size-Tryz.prog.globals.size)=(begin Tryz.prog (fun _ _=>0) default).world.heap.toList.drop Tryz.prog.globals.size:=by kernel_rfl
theorem lK (os:Os):Input.okWideB Tryz.prog (start os) 5 ⟨#[],#[.int .i64 0,.agg (Array.replicate 32 (.int .u8 0)),.int .u64 0,.slice none 0 0,.slice none 0 0,.int .i64 0,.int .u8 0],[]⟩=true:=by kernel_rfl
theorem pQ (os:Os) {H:Type} (enc:TypeId × Value->H):(OpenSpec.ofChange Rows.aeadTurnedSpec).preRow enc Tryz.prog Tryz.f5 Rows.aeadTurnedRow.domain false Rows.aeadTurnedRow.laid (start os).memory #[.int .i64 0,.agg (Array.replicate 32 (.int .u8 0)),.int .u64 0,.slice none 0 0,.slice none 0 0,.int .i64 0,.int .u8 0]:=by
 obtain ⟨places,hx⟩:=reads os enc
 exact OpenSpec.preRow_of_cond 8 hx (by kernel_rfl) (fun k hk=>by cases hk) (by kernel_rfl) (sD os)
theorem witness (os:Os) {H:Type} (enc:TypeId × Value->H):∃ (w:World) (tape:Tape) (i:Input),w.os=os/\(w.forCall tape i).Shaped Tryz.checked.prog/\i.vars=[]/\Input.okWide Tryz.checked.prog (w.forCall tape i) .any w.heap.size 5 i /\
 (OpenSpec.ofChange Rows.aeadTurnedSpec).preRow enc Tryz.checked.prog Tryz.f5 Rows.aeadTurnedRow.domain false Rows.aeadTurnedRow.laid (w.forCall tape i).memory i.args/\({}:Assume).holds Tryz.checked.prog (lone (Frame.enter Tryz.checked.prog 5 i.args .normal) [] (w.forCall tape i)):=
 ⟨World.laidAll Tryz.prog os Rows.aeadTurnedRow.laid,fun _ _=>0,⟨#[],#[.int .i64 0,.agg (Array.replicate 32 (.int .u8 0)),.int .u64 0,.slice none 0 0,.slice none 0 0,.int .i64 0,.int .u8 0],[]⟩,World.laidAll_os _ _ _,World.shaped_of_ZipB (pP os) (nP os),(Input.okWide_of_okWideB (base:=0) (lK os)).1,(Input.okWide_of_okWideB (lK os)).2,pQ os enc,by
  simp only [Assume.holds]
  exact ⟨by simp,by simp,by simp,by simp,by simp⟩⟩
theorem lifted (os:Os) (started:os.Started) (H:Type) (enc:TypeId × Value->H) (F:Stop.Interp) :
 ReturnsInHanded {} Tryz.checked os 5 .any ((OpenSpec.ofChange Rows.aeadTurnedSpec).preRow enc Tryz.prog Tryz.f5 Rows.aeadTurnedRow.domain false Rows.aeadTurnedRow.laid) (((OpenSpec.ofChange Rows.aeadTurnedSpec).at F).post enc Tryz.prog Tryz.f5 false true false false):=by
 refine returnsInHanded_of_row (C:=Tryz.checked) (s:=OpenSpec.ofChange Rows.aeadTurnedSpec) own started (by kernel_rfl) Tryz.func5 (witness os enc) ?_
 intro W base args ds gs before gW hW _ _ _ hL _ _
 exact sG H enc W base args ds gs before gW hW hL
theorem said:Rows.AeadTurnedSaid:=
 OpenClaim.holds_of_cond 5 Tryz.f5 rfl rfl rfl rfl rfl rfl rfl ⟨rfl,rfl,rfl,rfl,rfl⟩ rfl rfl rfl rfl rfl (by kernel_rfl) Tryz.func5 facts
  (zzD (by kernel_rfl)) (by unfold Func.isWrapper;first | (rw [if_pos (by decide +kernel)];kernel_rfl) | (rw [if_neg (by decide +kernel)];exact ⟨rfl,rfl⟩))
  (fun os started H enc _ F=>by rw [OpenClaim.pre_eq_preRow];exact lifted os started H enc F)
theorem plain (f:FuncId) (fn:Func) (hf:Tryz.pinned.checked.prog.funcNamed "pintle/pintlelaw11.AeadTurned" = some f) (tJ:Tryz.pinned.checked.prog.funcs[f]?=some fn) :
 true=Tryz.pinned.checked.prog.looks []/\∀ (j:Nat) t,fn.params[j]?=some t->Tryz.pinned.checked.prog.wantsStandIn t=false:=by
 obtain rfl:f=5:=Option.some.inj ((show Tryz.prog.funcNamed "pintle/pintlelaw11.AeadTurned" = some 5 by kernel_rfl).symm.trans hf) |>.symm
 obtain rfl:fn=Tryz.f5:=(Option.some.inj (Tryz.func5.symm.trans tJ)).symm
 refine ⟨by kernel_rfl,fun j t ht=>?_⟩
 rw [Tryz.params5] at ht
 have ht:t=3\/t=5\/t=23\/t=24\/t=25:=by
  have h:=Array.mem_of_getElem? ht
  simp only [List.mem_toArray,List.mem_cons,List.not_mem_nil,or_false] at h
  rcases h with rfl | rfl | rfl | rfl | rfl | rfl | rfl <;> decide
 rcases ht with rfl | rfl | rfl | rfl | rfl
 .exact (show Tryz.prog.wantsStandIn 3=false by kernel_rfl)
 .exact (show Tryz.prog.wantsStandIn 5=false by kernel_rfl)
 .exact (show Tryz.prog.wantsStandIn 23=false by kernel_rfl)
 .exact (show Tryz.prog.wantsStandIn 24=false by kernel_rfl)
 .exact (show Tryz.prog.wantsStandIn 25=false by kernel_rfl)
theorem card:Rows.AeadTurnedCardSaid:=
 Claim7.holds_tied_plain_at .later [] _ _ _ _ said (fun _ h=>by cases h) (by kernel_rfl) (fun _ h=>by cases h) aeadTurned_row_tie rfl ⟨rfl,rfl⟩ (by kernel_rfl) rfl plain (by kernel_rfl)
end Go.Proofs.YticicdfijghigaaGreatDoor.AeadTurned
end
