/- THE STATEMENT: CipherEnds answers true for every input, and the input reads as it did. Conditions: the listed package-level variables hold what the program's text lays; the card ties them. -/
import Derived.Test.YtnodfocobmghiaaGreatDoorQO
open Go
set_option maxRecDepth 100000
section
open Go Go.Proofs.YtnodfocobmghiaaGreatDoor
set_option maxRecDepth 100000
namespace Go.Proofs.YtnodfocobmghiaaGreatDoor.CipherEnds
open Go.ChangeShapes Go.WideShapes Go.ChangeAt Go.RowKit Go.Proofs.YtnodfocobmghiaaGreatDoor.Sx Go.Proofs.YtnodfocobmghiaaGreatDoor.Aea
section
variable {H:Type} {enc:TypeId × Value->H} {P:Program}
theorem We {f:Func} {s:ChangeSpec} {apart fresh handsOn again:Bool} {W W':World} {args:Array Value} {v:Value} {ds gs:List (DataW H)} {before pa pv:List MemPlace}
 (hW:DataW.Whole enc P f.params.toList s.vars apart W args.toList ds gs before)
 (aKa:∀ (b:Nat) (sp:Nat->Bool) (hd:Bool),DataW.TrodAll enc P W' b sp hd f.resultTypes.toList (v.resultList f.resultTypes.size) (s.fn H (ds++gs)).results [])
 (CV:∀ sp:Nat->Bool,(∀ p∈before,sp p.block=true)->DataW.TrodAll enc P W' 0 sp true f.params.toList args.toList (s.fn H (ds++gs)).args pa)
 (aAi:∀ sp:Nat->Bool,(∀ p∈before,sp p.block=true)->DataW.TrodVars enc P W' sp s.vars (s.fn H (ds++gs)).vars pv)
 (hps:before=pa++pv) (hb:Below W.heap.size W W')
 (mV:∀ (j:Nat) (t:TypeId) (r:Value),f.resultTypes[j]?=some t->(v.resultList f.resultTypes.size)[j]?=some r->Value.okWide P W' .any 0 t r) :
 s.post enc P f apart fresh handsOn again W args v W':=by
 have lt:∀ p∈before,p.block<W.heap.size:=fun p hp=>hW.lt p hp
 have Dh:∀ p∈before,(fun b=>decide (b<W.heap.size)) p.block=true:=fun p hp=>decide_eq_true (lt p hp)
 subst hps
 refine ⟨ds,gs,_,[],pa,pv,hW,aKa _ _ _,CV _ Dh,aAi _ Dh,World.keptBut_mono (fun p hp=>⟨hp,.inr (List.mem_append.1 hp)⟩) (hb.frame (· ∈ pa++pv)),fun _=>?_⟩
 obtain ⟨_,_,_,_,_,hz,hn⟩:=hW
 refine ⟨mV,_,_,([]++pa)++pv,⟨[]++pa,pv,trodAll_append (CV _ (fun _ _=>rfl)) (aKa _ _ _),aAi _ (fun _ _=>rfl),rfl,fun b off hp=>?_,fun ha=>by simpa using hn ha⟩,fun p hp _=>by simpa using hp⟩
 have YY:MemPlace.cell b off∈pa++pv:=by simpa using hp
 rw [hb.frozen (lt _ YY)]
 exact hz b off YY
end
theorem own:ownKnob Tryz.prog.godebug=none:=by kernel_rfl
theorem hc5:Tryz.prog.cellsOf 5=1:=by kernel_rfl
theorem aTm:Tryz.prog.cellsOf 23=32:=by kernel_rfl
theorem LU (H:Type) (enc:TypeId × Value->H) (W:World) (base:Nat) (args:Array Value) (ds gs:List (DataW H)) (before:List MemPlace)
 (sV:∀ (j:Nat) t v,Tryz.f7.params[j]?=some t->args[j]?=some v->Value.okWide Tryz.prog W .any base t v)
 (hW:DataW.Whole enc Tryz.prog Tryz.f7.params.toList Rows.cipherEndsSpec.vars false W args.toList ds gs before) (hL:laidMetH Tryz.prog Rows.cipherEndsRow.laid W) :
 Calls Tryz.prog 7 args W fun e W'=>∃ v,e = .returned v/\Rows.cipherEndsSpec.post enc Tryz.prog Tryz.f7 false true false false W args v W':=by
 rw [MakeChecks.laidMetH_plain _ _ _ (by kernel_rfl)] at hL
 have hW':=hW
 obtain ⟨p,q,hA0,hV,rfl,hfz,hnd⟩:=hW
 have hA:DataW.TrodAll enc Tryz.prog W 0 (fun _=>true) true Tryz.f7.params.toList args.toList ds p:=hA0
 rw [Tryz.params7] at hA sV
 obtain ⟨v0,eN,d0,ds0,p0,q0,CV,rfl,rfl,h0,r0⟩:=trodAll_cons hA
 obtain ⟨v1,vs1,d1,ds1,p1,q1,rfl,rfl,rfl,h1,r1⟩:=trodAll_cons r0
 obtain ⟨v2,vs2,d2,ds2,p2,q2,rfl,rfl,rfl,h2,r2⟩:=trodAll_cons r1
 obtain ⟨v3,vs3,d3,ds3,p3,q3,rfl,rfl,rfl,h3,r3⟩:=trodAll_cons r2
 obtain ⟨v4,vs4,d4,ds4,p4,q4,rfl,rfl,rfl,h4,r4⟩:=trodAll_cons r3
 obtain ⟨rfl,rfl,rfl⟩:=trodAll_nil r4
 obtain rfl:args = #[v0,v1,v2,v3,v4]:=by cases args;simp_all
 obtain ⟨rfl,rfl⟩:=trodVars_none hV
 obtain ⟨i0,rfl,rfl,rfl,Md⟩:=open_int Tryz.underlying3 (sV 0 3 v0 rfl rfl) h0
 have ok1:=sV 1 23 v1 rfl rfl
 simp only [Value.okWide,show Tryz.prog.underlying 23=some (.array 32 5) from Tryz.underlying23] at ok1
 obtain ⟨cs1,rfl,_⟩:=ok1
 obtain ⟨a2,n2,c2,rfl⟩:=okWide_slice Tryz.underlying25 (sV 2 25 v2 rfl rfl)
 obtain ⟨a3,n3,c3,rfl⟩:=okWide_slice Tryz.underlying25 (sV 3 25 v3 rfl rfl)
 obtain ⟨i4,rfl,rfl,rfl,hn4⟩:=open_int Tryz.underlying3 (sV 4 3 v4 rfl rfl) h4
 clear hA0
 simp only [List.append_nil,oR] at hW'
 obtain ⟨f1,hf1⟩:=h1
 obtain ⟨f2,hf2⟩:=h2
 obtain ⟨f3,hf3⟩:=h3
 obtain ⟨x1,l1,e1,b1⟩:=Lz Tryz.underlying23 Tryz.underlying5 hc5 aTm hf1
 have aUt:cs1=(x1.map (Value.int .u8)).toArray:=by
  apply Array.ext'
  simpa [Value.cells] using e1
 subst aUt
 obtain ⟨w2,x2,e2,ro2,b2⟩:=Bu Tryz.underlying25 Tryz.underlying5 hc5 hf2
 simp only [Value.cells,List.cons.injEq,and_true] at e2
 subst e2
 obtain ⟨w3,x3,e3,ro3,b3⟩:=Bu Tryz.underlying25 Tryz.underlying5 hc5 hf3
 simp only [Value.cells,List.cons.injEq,and_true] at e3
 subst e3
 have cL:∀ x∈p1++(p2++p3),x.block<W.heap.size:=fun x hx=>hW'.lt x (by simpa using hx)
 refine (walk hL Md l1 b1 ro2 b2 ro3 b3 hn4).mono fun e W' ⟨he,hb⟩=>?_
 subst he
 have st:∀ (t:TypeId) (v:Value) (d:DataW H) (ps:List MemPlace) (sp:Nat->Bool),t<Tryz.prog.types.size->Tryz.prog.readableRec t=true->(∀ x∈ps,x∈p1++(p2++p3))->DataW.Trod enc Tryz.prog W 0 (fun _=>true) true t v d ps->(∀ p∈p1++(p2++p3),sp p.block=true) ->
  DataW.Trod enc Tryz.prog W' 0 sp true t v d ps:=fun t v d ps sp ht hr aO h hsp=>
  WideElems.Trod_stays (by kernel_rfl) hr ht h (fun x hx=>hb.same (cL x (aO x hx))) (fun x hx=>hsp x (aO x hx))
 refine ⟨_,rfl,We (pa:=p1++(p2++p3)) (pv:=[]) hW' (fun _ _ _=>trodAll_cons_mk (shut_bool Tryz.underlying4 _) trodAll_mk0) (fun sp hsp=>?_) (fun _ _=>rfl) (by simp) hb (ok_one (by kernel_rfl) rfl (okWide_bool_mk Tryz.underlying4 _))⟩
 have aBu:∀ p∈p1++(p2++p3),sp p.block=true:=fun p hp=>hsp p (by simpa using hp)
 have both:=trodAll_cons_mk (shut_int (w:=W') Tryz.underlying3 Md) (trodAll_cons_mk (st 23 _ _ p1 sp (jG (by kernel_rfl)) (by kernel_rfl) (fun x hx=>by simp [hx]) ⟨f1,hf1⟩ aBu) (trodAll_cons_mk (st 25 _ _ p2 sp (jG (by kernel_rfl)) (by kernel_rfl) (fun x hx=>by simp [hx]) ⟨f2,hf2⟩ aBu) (trodAll_cons_mk (st 25 _ _ p3 sp (jG (by kernel_rfl)) (by kernel_rfl) (fun x hx=>by simp [hx]) ⟨f3,hf3⟩ aBu) (trodAll_cons_mk (shut_int (w:=W') Tryz.underlying3 hn4) trodAll_mk0))))
 simp only [List.append_nil,oR] at both
 exact both
theorem HN (os:Os):laidMetH Tryz.prog Rows.cipherEndsRow.laid ((World.laidAll Tryz.prog os Rows.cipherEndsRow.laid).forCall (fun _ _=>0) ⟨#[],#[.int .i64 0,.agg (Array.replicate 32 (.int .u8 0)),.slice none 0 0,.slice none 0 0,.int .i64 0],[]⟩).memory:=by
 rw [MakeChecks.laidMetH_plain _ _ _ (by kernel_rfl)]
 exact laidMet_laidAll _ (by kernel_rfl) (by kernel_rfl)
theorem reads (os:Os) {H:Type} (enc:TypeId × Value->H):∃ places,DataW.whole enc Tryz.prog ((World.laidAll Tryz.prog os Rows.cipherEndsRow.laid).forCall (fun _ _=>0) ⟨#[],#[.int .i64 0,.agg (Array.replicate 32 (.int .u8 0)),.slice none 0 0,.slice none 0 0,.int .i64 0],[]⟩).memory Tryz.f7.params.toList Rows.cipherEndsSpec.vars false
 #[Value.int .i64 0,Value.agg (Array.replicate 32 (Value.int .u8 0)),Value.slice none 0 0,Value.slice none 0 0,Value.int .i64 0].toList 8=some ([.lit (.int .i64 0),.agg (List.replicate 32 (.lit (.int .u8 0))),.nil,.nil,.lit (.int .i64 0)],[],places):=⟨[],by kernel_rfl⟩
noncomputable abbrev start (os:Os):World:=(World.laidAll Tryz.prog os Rows.cipherEndsRow.laid).forCall (fun _ _=>0) ⟨#[],#[.int .i64 0,.agg (Array.replicate 32 (.int .u8 0)),.slice none 0 0,.slice none 0 0,.int .i64 0],[]⟩
theorem Wa (os:Os):(start os).variablesZipB Tryz.prog=true:=by kernel_rfl
theorem Pf (os:Os):((start os).heap.toList.drop Tryz.prog.globals.size).take ((begin Tryz.prog (fun _ _=>0) default).world.heap.size-Tryz.prog.globals.size)=(begin Tryz.prog (fun _ _=>0) default).world.heap.toList.drop Tryz.prog.globals.size:=by kernel_rfl
theorem Kk (os:Os):Input.okWideB Tryz.prog (start os) 7 ⟨#[],#[.int .i64 0,.agg (Array.replicate 32 (.int .u8 0)),.slice none 0 0,.slice none 0 0,.int .i64 0],[]⟩=true:=by kernel_rfl
theorem Wb (os:Os) {H:Type} (enc:TypeId × Value->H):(OpenSpec.ofChange Rows.cipherEndsSpec).preRow enc Tryz.prog Tryz.f7 Rows.cipherEndsRow.domain false Rows.cipherEndsRow.laid (start os).memory #[.int .i64 0,.agg (Array.replicate 32 (.int .u8 0)),.slice none 0 0,.slice none 0 0,.int .i64 0]:=by
 obtain ⟨places,hx⟩:=reads os enc
 exact OpenSpec.preRow_of_cond 8 hx (by kernel_rfl) (fun k hk=>by cases hk) (by kernel_rfl) (HN os)
theorem witness (os:Os) {H:Type} (enc:TypeId × Value->H):∃ (w:World) (tape:Tape) (i:Input),w.os=os/\(w.forCall tape i).Shaped Tryz.checked.prog/\i.vars=[]/\Input.okWide Tryz.checked.prog (w.forCall tape i) .any w.heap.size 7 i /\
 (OpenSpec.ofChange Rows.cipherEndsSpec).preRow enc Tryz.checked.prog Tryz.f7 Rows.cipherEndsRow.domain false Rows.cipherEndsRow.laid (w.forCall tape i).memory i.args/\({}:Assume).holds Tryz.checked.prog (lone (Frame.enter Tryz.checked.prog 7 i.args .normal) [] (w.forCall tape i)):=
 ⟨World.laidAll Tryz.prog os Rows.cipherEndsRow.laid,fun _ _=>0,⟨#[],#[.int .i64 0,.agg (Array.replicate 32 (.int .u8 0)),.slice none 0 0,.slice none 0 0,.int .i64 0],[]⟩,World.laidAll_os _ _ _,World.shaped_of_ZipB (Wa os) (Pf os),(Input.okWide_of_okWideB (base:=0) (Kk os)).1,(Input.okWide_of_okWideB (Kk os)).2,Wb os enc,by
  simp only [Assume.holds]
  exact ⟨by simp,by simp,by simp,by simp,by simp⟩⟩
theorem lifted (os:Os) (started:os.Started) (H:Type) (enc:TypeId × Value->H) (F:Stop.Interp) :
 ReturnsInHanded {} Tryz.checked os 7 .any ((OpenSpec.ofChange Rows.cipherEndsSpec).preRow enc Tryz.prog Tryz.f7 Rows.cipherEndsRow.domain false Rows.cipherEndsRow.laid) (((OpenSpec.ofChange Rows.cipherEndsSpec).at F).post enc Tryz.prog Tryz.f7 false true false false):=by
 refine returnsInHanded_of_row (C:=Tryz.checked) (s:=OpenSpec.ofChange Rows.cipherEndsSpec) own started (by kernel_rfl) Tryz.func7 (witness os enc) ?_
 intro W base args ds gs before sV hW _ _ _ hL _ _
 exact LU H enc W base args ds gs before sV hW hL
theorem said:Rows.CipherEndsSaid:=
 OpenClaim.holds_of_cond 7 Tryz.f7 rfl rfl rfl rfl rfl rfl rfl ⟨rfl,rfl,rfl,rfl,rfl⟩ rfl rfl rfl rfl rfl (by kernel_rfl) Tryz.func7 facts
  (jG (by kernel_rfl)) (by unfold Func.isWrapper;first | (rw [if_pos (by decide +kernel)];kernel_rfl) | (rw [if_neg (by decide +kernel)];exact ⟨rfl,rfl⟩))
  (fun os started H enc _ F=>by rw [OpenClaim.pre_eq_preRow];exact lifted os started H enc F)
theorem plain (f:FuncId) (fn:Func) (hf:Tryz.pinned.checked.prog.funcNamed "pintle/pintlelaw13.CipherEnds" = some f) (sR:Tryz.pinned.checked.prog.funcs[f]?=some fn) :
 true=Tryz.pinned.checked.prog.looks []/\∀ (j:Nat) t,fn.params[j]?=some t->Tryz.pinned.checked.prog.wantsStandIn t=false:=by
 obtain rfl:f=7:=Option.some.inj ((show Tryz.prog.funcNamed "pintle/pintlelaw13.CipherEnds" = some 7 by kernel_rfl).symm.trans hf) |>.symm
 obtain rfl:fn=Tryz.f7:=(Option.some.inj (Tryz.func7.symm.trans sR)).symm
 refine ⟨by kernel_rfl,fun j t ht=>?_⟩
 rw [Tryz.params7] at ht
 have ht:t=3\/t=23\/t=25:=by
  have h:=Array.mem_of_getElem? ht
  simp only [List.mem_toArray,List.mem_cons,List.not_mem_nil,or_false] at h
  rcases h with rfl | rfl | rfl | rfl | rfl <;> decide
 rcases ht with rfl | rfl | rfl
 .exact (show Tryz.prog.wantsStandIn 3=false by kernel_rfl)
 .exact (show Tryz.prog.wantsStandIn 23=false by kernel_rfl)
 .exact (show Tryz.prog.wantsStandIn 25=false by kernel_rfl)
theorem card:Rows.CipherEndsCardSaid:=
 Claim7.holds_tied_plain_at .later [] _ _ _ _ said (fun _ h=>by cases h) (by kernel_rfl) (fun _ h=>by cases h) cipherEnds_row_tie rfl ⟨rfl,rfl⟩ (by kernel_rfl) rfl plain (by kernel_rfl)
end Go.Proofs.YtnodfocobmghiaaGreatDoor.CipherEnds
end
