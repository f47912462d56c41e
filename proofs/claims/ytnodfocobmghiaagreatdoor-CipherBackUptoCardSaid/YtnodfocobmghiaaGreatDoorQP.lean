/- THE STATEMENT: CipherBack answers true for every input, and the input reads as it did. Conditions: the listed package-level variables hold what the program's text lays; the card ties them. -/
import Derived.Test.YtnodfocobmghiaaGreatDoorQO
open Go
set_option maxRecDepth 100000
section
open Go Go.Proofs.YtnodfocobmghiaaGreatDoor
set_option maxRecDepth 100000
namespace Go.Proofs.YtnodfocobmghiaaGreatDoor.CipherBack
open Go.ChangeShapes Go.WideShapes Go.ChangeAt Go.RowKit Go.Proofs.YtnodfocobmghiaaGreatDoor.Sx Go.Proofs.YtnodfocobmghiaaGreatDoor.Aea
section
variable {H:Type} {enc:TypeId × Value->H} {P:Program}
theorem Yr {f:Func} {s:ChangeSpec} {apart fresh handsOn again:Bool} {W W':World} {args:Array Value} {v:Value} {ds gs:List (DataW H)} {before pa pv:List MemPlace}
 (hW:DataW.Whole enc P f.params.toList s.vars apart W args.toList ds gs before)
 (aNe:∀ (b:Nat) (sp:Nat->Bool) (hd:Bool),DataW.TrodAll enc P W' b sp hd f.resultTypes.toList (v.resultList f.resultTypes.size) (s.fn H (ds++gs)).results [])
 (FW:∀ sp:Nat->Bool,(∀ p∈before,sp p.block=true)->DataW.TrodAll enc P W' 0 sp true f.params.toList args.toList (s.fn H (ds++gs)).args pa)
 (aDf:∀ sp:Nat->Bool,(∀ p∈before,sp p.block=true)->DataW.TrodVars enc P W' sp s.vars (s.fn H (ds++gs)).vars pv)
 (hps:before=pa++pv) (hb:Below W.heap.size W W')
 (kX:∀ (j:Nat) (t:TypeId) (r:Value),f.resultTypes[j]?=some t->(v.resultList f.resultTypes.size)[j]?=some r->Value.okWide P W' .any 0 t r) :
 s.post enc P f apart fresh handsOn again W args v W':=by
 have lt:∀ p∈before,p.block<W.heap.size:=fun p hp=>hW.lt p hp
 have Fg:∀ p∈before,(fun b=>decide (b<W.heap.size)) p.block=true:=fun p hp=>decide_eq_true (lt p hp)
 subst hps
 refine ⟨ds,gs,_,[],pa,pv,hW,aNe _ _ _,FW _ Fg,aDf _ Fg,World.keptBut_mono (fun p hp=>⟨hp,.inr (List.mem_append.1 hp)⟩) (hb.frame (· ∈ pa++pv)),fun _=>?_⟩
 obtain ⟨_,_,_,_,_,hz,hn⟩:=hW
 refine ⟨kX,_,_,([]++pa)++pv,⟨[]++pa,pv,trodAll_append (FW _ (fun _ _=>rfl)) (aNe _ _ _),aDf _ (fun _ _=>rfl),rfl,fun b off hp=>?_,fun ha=>by simpa using hn ha⟩,fun p hp _=>by simpa using hp⟩
 have Ju:MemPlace.cell b off∈pa++pv:=by simpa using hp
 rw [hb.frozen (lt _ Ju)]
 exact hz b off Ju
end
theorem own:ownKnob Tryz.prog.godebug=none:=by kernel_rfl
theorem PC {H:Type} (d:DataW H):1<=Rows.uptoBulk d:=by
 cases d with
 | lit l=>cases l <;> simp [Rows.uptoBulk]
 | _=>simp [Rows.uptoBulk]
theorem PD {H:Type} (l:List (DataW H)):l.length<=Rows.uptoBulkAll l:=by
 induction l with
 | nil=>simp [Rows.uptoBulkAll]
 | cons x r ih=>have:=PC x;simp only [Rows.uptoBulkAll,List.length_cons];omega
theorem PE {H:Type} {x y z:DataW H} {elems spare gs:List (DataW H)} (h:Rows.uptoSmall H (x::y::z :: .slice elems spare::gs)=true):elems.length<=1048576:=by
 have:=jP h
 have h2:=PD elems
 simp only [Rows.uptoBulkAll,Rows.uptoBulk] at this
 omega
theorem aIp:∃ fs,JE Tryz.prog 54 3 24 25 5 fs:=⟨_,{
 he:=Tryz.underlying54
 hf:=rfl
 hce:=by kernel_rfl
 hi:=Tryz.underlying3
 hci:=by kernel_rfl
 hu:=Tryz.underlying24
 hcu:=by kernel_rfl
 hb:=Tryz.underlying25
 hcb:=by kernel_rfl
 h5:=Tryz.underlying5
 hc5:=by kernel_rfl }⟩
theorem hc5:Tryz.prog.cellsOf 5=1:=by kernel_rfl
theorem aXi:Tryz.prog.cellsOf 23=32:=by kernel_rfl
theorem OW (H:Type) (enc:TypeId × Value->H) (W:World) (base:Nat) (args:Array Value) (ds gs:List (DataW H)) (before:List MemPlace)
 (wX:∀ (j:Nat) t v,Tryz.f6.params[j]?=some t->args[j]?=some v->Value.okWide Tryz.prog W .any base t v)
 (hW:DataW.Whole enc Tryz.prog Tryz.f6.params.toList Rows.cipherBackSpec.vars false W args.toList ds gs before) (hk:Rows.uptoSmall H (ds++gs)=true) (hL:laidMetH Tryz.prog Rows.cipherBackUptoRow.laid W) :
 Calls Tryz.prog 6 args W fun e W'=>∃ v,e = .returned v/\Rows.cipherBackSpec.post enc Tryz.prog Tryz.f6 false true false false W args v W':=by
 rw [MakeChecks.laidMetH_plain _ _ _ (by kernel_rfl)] at hL
 have hW':=hW
 obtain ⟨p,q,hA0,hV,rfl,hfz,hnd⟩:=hW
 have hA:DataW.TrodAll enc Tryz.prog W 0 (fun _=>true) true Tryz.f6.params.toList args.toList ds p:=hA0
 rw [Tryz.params6] at hA wX
 obtain ⟨v0,eL,d0,ds0,p0,q0,FW,rfl,rfl,h0,r0⟩:=trodAll_cons hA
 obtain ⟨v1,vs1,d1,ds1,p1,q1,rfl,rfl,rfl,h1,r1⟩:=trodAll_cons r0
 obtain ⟨v2,vs2,d2,ds2,p2,q2,rfl,rfl,rfl,h2,r2⟩:=trodAll_cons r1
 obtain ⟨v3,vs3,d3,ds3,p3,q3,rfl,rfl,rfl,h3,r3⟩:=trodAll_cons r2
 obtain ⟨rfl,rfl,rfl⟩:=trodAll_nil r3
 obtain rfl:args = #[v0,v1,v2,v3]:=by cases args;simp_all
 obtain ⟨rfl,rfl⟩:=trodVars_none hV
 obtain ⟨i0,rfl,rfl,rfl,Ob⟩:=open_int Tryz.underlying3 (wX 0 3 v0 rfl rfl) h0
 obtain ⟨i1,rfl,rfl,rfl,Hb⟩:=open_int Tryz.underlying3 (wX 1 3 v1 rfl rfl) h1
 have ok2:=wX 2 23 v2 rfl rfl
 simp only [Value.okWide,show Tryz.prog.underlying 23=some (.array 32 5) from Tryz.underlying23] at ok2
 obtain ⟨cs2,rfl,_⟩:=ok2
 have ok3:=wX 3 49 v3 rfl rfl
 obtain ⟨a,len,cap,rfl⟩:=okWide_slice Tryz.underlying49 ok3
 clear hA0
 simp only [List.append_nil,mZ] at hW'
 obtain ⟨f2,hf2⟩:=h2
 obtain ⟨x2,l2,e2,b2⟩:=Ny Tryz.underlying23 Tryz.underlying5 hc5 aXi hf2
 have aYx:cs2=(x2.map (Value.int .u8)).toArray:=by
  apply Array.ext'
  simpa [Value.cells] using e2
 subst aYx
 have cM:∀ x∈p2++p3,x.block<W.heap.size:=fun x hx=>hW'.lt x (by simpa using hx)
 have aOw:Calls Tryz.prog 6 #[.int .i64 i0,.int .i64 i1,.agg (x2.map (Value.int .u8)).toArray,.slice a len cap] W fun e w'=>e = .returned (.bool true)/\Below W.heap.size W w':=by
  have Ay:0<W.heap.size:=by
   obtain ⟨b,o,h1,_⟩:=oF hL "pintle/api.ErrArg" _ 3 (List.mem_of_getElem? (i:=2) rfl) (by kernel_rfl) (by kernel_rfl)
   have:=uX h1
   omega
  obtain ⟨fuel,hf⟩:=h3
  rcases DataW.trod_slice Tryz.underlying49 hf with ⟨kD,_⟩ | ⟨ad,bAr,bBa,elems,rest,n,_,kD,hx,_,hle,Hk,hlen,BH,_,_⟩
  .simp only [Value.cells,List.cons.injEq,and_true,Value.slice.injEq] at kD
   obtain ⟨rfl,rfl,rfl⟩:=kD
   exact JI hL l2 Ay
  .simp only [Value.cells,List.cons.injEq,and_true,Value.slice.injEq] at kD
   obtain ⟨rfl,rfl,rfl⟩:=kD
   simp only [Prod.mk.injEq] at hx
   obtain ⟨rfl,_⟩:=hx
   have Hl:len<=1048576:=by
    have:=PE hk
    rw [List.length_map] at this
    omega
   have has:W.has Tryz.prog .any base ad 54 cap:=by
    have u49:=Tryz.underlying49
    simp only [Value.okWide,u49,Cell.okWide,Cell.ok] at ok3
    exact ok3.2.2
   obtain ⟨b,o,spot⟩:=ad
   obtain ⟨_,hs,row,cells,Hx,_⟩:=has
   simp only at hs Hx
   subst hs
   have hb:b<W.heap.size:=by
    unfold World.shape? at Hx
    cases hh:W.heap[b]? with
    | none=>rw [hh] at Hx;cases Hx
    | some y=>exact (Array.getElem?_eq_some_iff.1 hh).1
   obtain ⟨fs,Dz⟩:=aIp
   have hce:=Dz.hce
   rw [hce] at BH
   have hE:∀ i,i<len->∃ x:Mv × Value × Value,∃ cs,UC W cs x.1 x.2.1 x.2.2/\∀ j v,cs[j]?=some v->W.cell? ⟨b,o+4*i+j,none⟩=some v:=by
    intro i hi
    have h1:=BH i hi
    rw [List.getElem?_eq_getElem (by omega)] at h1
    obtain ⟨cs,kD,hy⟩:=Option.bind_eq_some_iff.1 h1
    obtain ⟨_,hl,fP⟩:=World.cells?_some kD
    obtain ⟨s,va,vb,hs⟩:=Sd Dz hy
    refine ⟨⟨s,va,vb⟩,cs,hs,fun j v hj=>?_⟩
    have hj7:j<4:=by rw [<- hl];exact (List.getElem?_eq_some_iff.1 hj).1
    have:=fP j hj7
    rw [bJ,bJ,hj] at this
    rw [<- this,Nat.mul_comm 4 i]
   obtain ⟨E,hEl,hEp⟩:=yL len hE
   subst hEl
   refine walk hL l2 b o cap hb E (by omega) ⟨fun i x hx=>?_⟩ fun i x _ hx=>?_
   .rw [List.getElem?_take] at hx
    split at hx
    .exact hEp i x hx
    .cases hx
   .obtain ⟨cs,h1,_⟩:=hEp i x hx
    exact h1.ok
 refine aOw.mono fun e W' ⟨he,hb⟩=>?_
 subst he
 have st:∀ (t:TypeId) (v:Value) (d:DataW H) (ps:List MemPlace) (sp:Nat->Bool),t<Tryz.prog.types.size->Tryz.prog.readableRec t=true->(∀ x∈ps,x∈p2++p3)->DataW.Trod enc Tryz.prog W 0 (fun _=>true) true t v d ps->(∀ p∈p2++p3,sp p.block=true) ->
  DataW.Trod enc Tryz.prog W' 0 sp true t v d ps:=fun t v d ps sp ht hr aR h hsp=>
  WideElems.Trod_stays (by kernel_rfl) hr ht h (fun x hx=>hb.same (cM x (aR x hx))) (fun x hx=>hsp x (aR x hx))
 refine ⟨_,rfl,Yr (pa:=p2++p3) (pv:=[]) hW' (fun _ _ _=>trodAll_cons_mk (shut_bool Tryz.underlying4 _) trodAll_mk0) (fun sp hsp=>?_) (fun _ _=>rfl) (by simp) hb (ok_one (by kernel_rfl) rfl (okWide_bool_mk Tryz.underlying4 _))⟩
 have aNd:∀ p∈p2++p3,sp p.block=true:=fun p hp=>hsp p (by simpa using hp)
 have both:=trodAll_cons_mk (shut_int (w:=W') Tryz.underlying3 Ob) (trodAll_cons_mk (shut_int (w:=W') Tryz.underlying3 Hb) (trodAll_cons_mk (st 23 _ _ p2 sp (jP (by kernel_rfl)) (by kernel_rfl) (fun x hx=>by simp [hx]) ⟨f2,hf2⟩ aNd) (trodAll_cons_mk (st 49 _ _ p3 sp (jP (by kernel_rfl)) (by kernel_rfl) (fun x hx=>by simp [hx]) h3 aNd) trodAll_mk0)))
 simp only [List.append_nil,mZ] at both
 exact both
theorem KS (os:Os):laidMetH Tryz.prog Rows.cipherBackUptoRow.laid ((World.laidAll Tryz.prog os Rows.cipherBackUptoRow.laid).forCall (fun _ _=>0) ⟨#[],#[.int .i64 0,.int .i64 0,.agg (Array.replicate 32 (.int .u8 0)),.slice none 0 0],[]⟩).memory:=by
 rw [MakeChecks.laidMetH_plain _ _ _ (by kernel_rfl)]
 exact laidMet_laidAll _ (by kernel_rfl) (by kernel_rfl)
theorem reads (os:Os) {H:Type} (enc:TypeId × Value->H):∃ places,DataW.whole enc Tryz.prog ((World.laidAll Tryz.prog os Rows.cipherBackUptoRow.laid).forCall (fun _ _=>0) ⟨#[],#[.int .i64 0,.int .i64 0,.agg (Array.replicate 32 (.int .u8 0)),.slice none 0 0],[]⟩).memory Tryz.f6.params.toList Rows.cipherBackSpec.vars false
 #[Value.int .i64 0,Value.int .i64 0,Value.agg (Array.replicate 32 (Value.int .u8 0)),Value.slice none 0 0].toList 8=some ([.lit (.int .i64 0),.lit (.int .i64 0),.agg (List.replicate 32 (.lit (.int .u8 0))),.nil],[],places):=⟨[],by kernel_rfl⟩
noncomputable abbrev start (os:Os):World:=(World.laidAll Tryz.prog os Rows.cipherBackUptoRow.laid).forCall (fun _ _=>0) ⟨#[],#[.int .i64 0,.int .i64 0,.agg (Array.replicate 32 (.int .u8 0)),.slice none 0 0],[]⟩
theorem Yn (os:Os):(start os).variablesZipB Tryz.prog=true:=by kernel_rfl
theorem Rp (os:Os):((start os).heap.toList.drop Tryz.prog.globals.size).take ((begin Tryz.prog (fun _ _=>0) default).world.heap.size-Tryz.prog.globals.size)=(begin Tryz.prog (fun _ _=>0) default).world.heap.toList.drop Tryz.prog.globals.size:=by kernel_rfl
theorem Mb (os:Os):Input.okWideB Tryz.prog (start os) 6 ⟨#[],#[.int .i64 0,.int .i64 0,.agg (Array.replicate 32 (.int .u8 0)),.slice none 0 0],[]⟩=true:=by kernel_rfl
theorem Yo (os:Os) {H:Type} (enc:TypeId × Value->H):(Rows.OpenSpec.upto Rows.cipherBackSpec).preRow enc Tryz.prog Tryz.f6 Rows.cipherBackUptoRow.domain false Rows.cipherBackUptoRow.laid (start os).memory #[.int .i64 0,.int .i64 0,.agg (Array.replicate 32 (.int .u8 0)),.slice none 0 0]:=by
 obtain ⟨places,hx⟩:=reads os enc
 exact OpenSpec.preRow_of_cond 8 hx (by kernel_rfl) (fun k hk=>by cases hk;kernel_rfl) (by kernel_rfl) (KS os)
theorem witness (os:Os) {H:Type} (enc:TypeId × Value->H):∃ (w:World) (tape:Tape) (i:Input),w.os=os/\(w.forCall tape i).Shaped Tryz.checked.prog/\i.vars=[]/\Input.okWide Tryz.checked.prog (w.forCall tape i) .any w.heap.size 6 i /\
 (Rows.OpenSpec.upto Rows.cipherBackSpec).preRow enc Tryz.checked.prog Tryz.f6 Rows.cipherBackUptoRow.domain false Rows.cipherBackUptoRow.laid (w.forCall tape i).memory i.args/\({}:Assume).holds Tryz.checked.prog (lone (Frame.enter Tryz.checked.prog 6 i.args .normal) [] (w.forCall tape i)):=
 ⟨World.laidAll Tryz.prog os Rows.cipherBackUptoRow.laid,fun _ _=>0,⟨#[],#[.int .i64 0,.int .i64 0,.agg (Array.replicate 32 (.int .u8 0)),.slice none 0 0],[]⟩,World.laidAll_os _ _ _,World.shaped_of_ZipB (Yn os) (Rp os),(Input.okWide_of_okWideB (base:=0) (Mb os)).1,(Input.okWide_of_okWideB (Mb os)).2,Yo os enc,by
  simp only [Assume.holds]
  exact ⟨by simp,by simp,by simp,by simp,by simp⟩⟩
theorem lifted (os:Os) (started:os.Started) (H:Type) (enc:TypeId × Value->H) (F:Stop.Interp) :
 ReturnsInHanded {} Tryz.checked os 6 .any ((Rows.OpenSpec.upto Rows.cipherBackSpec).preRow enc Tryz.prog Tryz.f6 Rows.cipherBackUptoRow.domain false Rows.cipherBackUptoRow.laid) (((Rows.OpenSpec.upto Rows.cipherBackSpec).at F).post enc Tryz.prog Tryz.f6 false true false false):=by
 refine returnsInHanded_of_row (C:=Tryz.checked) (s:=Rows.OpenSpec.upto Rows.cipherBackSpec) own started (by kernel_rfl) Tryz.func6 (witness os enc) ?_
 intro W base args ds gs before wX hW _ Bv _ hL _ _
 exact OW H enc W base args ds gs before wX hW (Bv _ rfl) hL
theorem said:Rows.CipherBackUptoSaid:=
 OpenClaim.holds_of_cond 6 Tryz.f6 rfl rfl rfl rfl rfl rfl rfl ⟨rfl,rfl,rfl,rfl,rfl⟩ rfl rfl rfl rfl rfl (by kernel_rfl) Tryz.func6 facts
  (jP (by kernel_rfl)) (by unfold Func.isWrapper;first | (rw [if_pos (by decide +kernel)];kernel_rfl) | (rw [if_neg (by decide +kernel)];exact ⟨rfl,rfl⟩))
  (fun os started H enc _ F=>by rw [OpenClaim.pre_eq_preRow];exact lifted os started H enc F)
theorem plain (f:FuncId) (fn:Func) (hf:Tryz.pinned.checked.prog.funcNamed "pintle/pintlelaw13.CipherBack" = some f) (tU:Tryz.pinned.checked.prog.funcs[f]?=some fn) :
 true=Tryz.pinned.checked.prog.looks []/\∀ (j:Nat) t,fn.params[j]?=some t->Tryz.pinned.checked.prog.wantsStandIn t=false:=by
 obtain rfl:f=6:=Option.some.inj ((show Tryz.prog.funcNamed "pintle/pintlelaw13.CipherBack" = some 6 by kernel_rfl).symm.trans hf) |>.symm
 obtain rfl:fn=Tryz.f6:=(Option.some.inj (Tryz.func6.symm.trans tU)).symm
 refine ⟨by kernel_rfl,fun j t ht=>?_⟩
 rw [Tryz.params6] at ht
 have ht:t=3\/t=23\/t=49:=by
  have h:=Array.mem_of_getElem? ht
  simp only [List.mem_toArray,List.mem_cons,List.not_mem_nil,or_false] at h
  rcases h with rfl | rfl | rfl | rfl <;> decide
 rcases ht with rfl | rfl | rfl
 .exact (show Tryz.prog.wantsStandIn 3=false by kernel_rfl)
 .exact (show Tryz.prog.wantsStandIn 23=false by kernel_rfl)
 .exact (show Tryz.prog.wantsStandIn 49=false by kernel_rfl)
theorem card:Rows.CipherBackUptoCardSaid:=
 Claim7.holds_tied_plain_at .later [] _ _ _ _ said (fun _ h=>by cases h) (by kernel_rfl) (fun _ h=>by cases h) cipherBackUpto_row_tie rfl ⟨rfl,rfl⟩ (by kernel_rfl) rfl plain (by kernel_rfl)
end Go.Proofs.YtnodfocobmghiaaGreatDoor.CipherBack
end
