/- CipherOfNothing answers true for every script, whatever its steps, and the script reads as it did; conditions: what the call reads is of bulk at most 1048576, and the listed package-level variables hold what the program's text lays (the card ties them). -/
import Derived.Test.YtaibhjpgbckbkaaGreatDoorPK
open Go
set_option maxRecDepth 100000
namespace Go.Proofs.YtaibhjpgbckbkaaGreatDoor.Cip
open Go.ChangeShapes Go.WideShapes Go.ChangeAt Go.RowKit Go.Proofs.YtaibhjpgbckbkaaGreatDoor.Sx
section
variable {H:Type} {enc:TypeId × Value->H} {P:Program}
theorem Xl {f:Func} {s:ChangeSpec} {apart fresh handsOn again:Bool} {W W':World} {args:Array Value} {v:Value} {ds gs:List (DataW H)} {before pa pv:List MemPlace}
 (hW:DataW.Whole enc P f.params.toList s.vars apart W args.toList ds gs before)
 (aLs:∀ (b:Nat) (sp:Nat->Bool) (hd:Bool),DataW.TrodAll enc P W' b sp hd f.resultTypes.toList (v.resultList f.resultTypes.size) (s.fn H (ds++gs)).results [])
 (EK:∀ sp:Nat->Bool,(∀ p∈before,sp p.block=true)->DataW.TrodAll enc P W' 0 sp true f.params.toList args.toList (s.fn H (ds++gs)).args pa)
 (aBe:∀ sp:Nat->Bool,(∀ p∈before,sp p.block=true)->DataW.TrodVars enc P W' sp s.vars (s.fn H (ds++gs)).vars pv)
 (hps:before=pa++pv) (hb:Below W.heap.size W W')
 (oW:∀ (j:Nat) (t:TypeId) (r:Value),f.resultTypes[j]?=some t->(v.resultList f.resultTypes.size)[j]?=some r->Value.okWide P W' .any 0 t r) :
 s.post enc P f apart fresh handsOn again W args v W':=by
 have lt:∀ p∈before,p.block<W.heap.size:=fun p hp=>hW.lt p hp
 have Jz:∀ p∈before,(fun b=>decide (b<W.heap.size)) p.block=true:=fun p hp=>decide_eq_true (lt p hp)
 subst hps
 refine ⟨ds,gs,_,[],pa,pv,hW,aLs _ _ _,EK _ Jz,aBe _ Jz,World.keptBut_mono (fun p hp=>⟨hp,.inr (List.mem_append.1 hp)⟩) (hb.frame (· ∈ pa++pv)),fun _=>?_⟩
 obtain ⟨_,_,_,_,_,hz,hn⟩:=hW
 refine ⟨oW,_,_,([]++pa)++pv,⟨[]++pa,pv,trodAll_append (EK _ (fun _ _=>rfl)) (aLs _ _ _),aBe _ (fun _ _=>rfl),rfl,fun b off hp=>?_,fun ha=>by simpa using hn ha⟩,fun p hp _=>by simpa using hp⟩
 have NW:MemPlace.cell b off∈pa++pv:=by simpa using hp
 rw [hb.frozen (lt _ NW)]
 exact hz b off NW
end
theorem own:ownKnob Tryz.prog.godebug=none:=by kernel_rfl
theorem MV {H:Type} (d:DataW H):1<=Rows.uptoBulk d:=by
 cases d with
 | lit l=>cases l <;> simp [Rows.uptoBulk]
 | _=>simp [Rows.uptoBulk]
theorem MW {H:Type} (l:List (DataW H)):l.length<=Rows.uptoBulkAll l:=by
 induction l with
 | nil=>simp [Rows.uptoBulkAll]
 | cons x r ih=>have:=MV x;simp only [Rows.uptoBulkAll,List.length_cons];omega
theorem MX {H:Type} {elems spare gs:List (DataW H)} (h:Rows.uptoSmall H (.slice elems spare::gs)=true):elems.length<=1048576:=by
 have:=of_decide_eq_true h
 have h2:=MW elems
 simp only [Rows.uptoBulkAll,Rows.uptoBulk] at this
 omega
theorem aEe:∃ fs,HN Tryz.prog 49 38 3 26 47 5 fs:=⟨_,{
 he:=Tryz.underlying49
 hf:=rfl
 ZJ:=by kernel_rfl
 ha:=Tryz.underlying38
 jM:=by kernel_rfl
 hi:=Tryz.underlying3
 hci:=by kernel_rfl
 hu:=Tryz.underlying26
 hcu:=by kernel_rfl
 hb:=Tryz.underlying47
 PH:=by kernel_rfl
 h5:=Tryz.underlying5
 hc5:=by kernel_rfl }⟩
theorem MS (H:Type) (enc:TypeId × Value->H) (W:World) (base:Nat) (args:Array Value) (ds gs:List (DataW H)) (before:List MemPlace)
 (Ec:∀ (j:Nat) t v,Tryz.f3.params[j]?=some t->args[j]?=some v->Value.okWide Tryz.prog W .any base t v)
 (hW:DataW.Whole enc Tryz.prog Tryz.f3.params.toList Rows.cipherOfNothingSpec.vars false W args.toList ds gs before) (hk:Rows.uptoSmall H (ds++gs)=true) (hL:laidMetH Tryz.prog Rows.cipherOfNothingUptoRow.laid W) :
 Calls Tryz.prog 3 args W fun e W'=>∃ v,e = .returned v/\Rows.cipherOfNothingSpec.post enc Tryz.prog Tryz.f3 false true false false W args v W':=by
 rw [MakeChecks.laidMetH_plain _ _ _ (by kernel_rfl)] at hL
 have hW':=hW
 obtain ⟨p,q,hA0,hV,rfl,hfz,hnd⟩:=hW
 have hA:DataW.TrodAll enc Tryz.prog W 0 (fun _=>true) true Tryz.f3.params.toList args.toList ds p:=hA0
 rw [Tryz.params3] at hA Ec
 obtain ⟨v0,eR,d0,ds0,p0,q0,EK,rfl,rfl,h0,r0⟩:=trodAll_cons hA
 obtain ⟨rfl,rfl,rfl⟩:=trodAll_nil r0
 obtain rfl:args = #[v0]:=by cases args;simp_all
 obtain ⟨rfl,rfl⟩:=trodVars_none hV
 have ok0:=Ec 0 22 v0 rfl rfl
 obtain ⟨a,len,cap,rfl⟩:=okWide_slice Tryz.underlying22 ok0
 clear hA0
 simp only [List.append_nil] at hW'
 have cK:∀ x∈p0,x.block<W.heap.size:=fun x hx=>hW'.lt x hx
 have aNb:Calls Tryz.prog 3 #[.slice a len cap] W fun e w'=>e = .returned (.bool true)/\Below W.heap.size W w':=by
  have Wg:0<W.heap.size:=by
   obtain ⟨b,o,h1,_⟩:=nD hL "pintle/api.ErrArg" _ 0 (List.mem_of_getElem? (i:=2) rfl) (by kernel_rfl) (by kernel_rfl)
   have:=uJ h1
   omega
  obtain ⟨fuel,hf⟩:=h0
  rcases DataW.trod_slice Tryz.underlying22 hf with ⟨nK,_⟩ | ⟨ad,bCj,bCn,elems,rest,n,_,nK,hx,_,hle,Wj,hlen,ZG,_,_⟩
  .simp only [Value.cells,List.cons.injEq,and_true,Value.slice.injEq] at nK
   obtain ⟨rfl,rfl,rfl⟩:=nK
   exact HR hL Wg
  .simp only [Value.cells,List.cons.injEq,and_true,Value.slice.injEq] at nK
   obtain ⟨rfl,rfl,rfl⟩:=nK
   simp only [Prod.mk.injEq] at hx
   obtain ⟨rfl,_⟩:=hx
   have As:len<=1048576:=by
    have:=MX hk
    rw [List.length_map] at this
    omega
   have has:W.has Tryz.prog .any base ad 49 cap:=by
    have u22:=Tryz.underlying22
    simp only [Value.okWide,u22,Cell.okWide,Cell.ok] at ok0
    exact ok0.2.2
   obtain ⟨b,o,spot⟩:=ad
   obtain ⟨_,hs,row,cells,Hy,_⟩:=has
   simp only at hs Hy
   subst hs
   have hb:b<W.heap.size:=by
    unfold World.shape? at Hy
    cases hh:W.heap[b]? with
    | none=>rw [hh] at Hy;cases Hy
    | some y=>exact (Array.getElem?_eq_some_iff.1 hh).1
   obtain ⟨fs,Gn⟩:=aEe
   have ZJ:=Gn.ZJ
   rw [ZJ] at ZG
   have hE:∀ i,i<len->∃ x:Du × Value × Value,∃ cs,QZ W cs x.1 x.2.1 x.2.2/\∀ j v,cs[j]?=some v->W.cell? ⟨b,o+37*i+j,none⟩=some v:=by
    intro i hi
    have h1:=ZG i hi
    rw [List.getElem?_eq_getElem (by omega)] at h1
    obtain ⟨cs,nK,hy⟩:=Option.bind_eq_some_iff.1 h1
    obtain ⟨_,hl,kK⟩:=World.cells?_some nK
    obtain ⟨s,va,vb,hs⟩:=Rj Gn hy
    refine ⟨⟨s,va,vb⟩,cs,hs,fun j v hj=>?_⟩
    have hj7:j<37:=by rw [<- hl];exact (List.getElem?_eq_some_iff.1 hj).1
    have:=kK j hj7
    rw [bY,bY,hj] at this
    rw [<- this,Nat.mul_comm 37 i]
   obtain ⟨E,hEl,hEp⟩:=yJ len hE
   subst hEl
   refine walk hL b o cap hb E (by omega) ⟨fun i x hx=>?_⟩ fun i x _ hx=>?_
   .rw [List.getElem?_take] at hx
    split at hx
    .exact hEp i x hx
    .cases hx
   .obtain ⟨cs,h1,_⟩:=hEp i x hx
    exact h1.ok
 refine aNb.mono fun e W' ⟨he,hb⟩=>?_
 subst he
 exact ⟨_,rfl,Xl (pa:=p0) (pv:=[]) hW' (fun _ _ _=>trodAll_cons_mk (shut_bool Tryz.underlying4 _) trodAll_mk0)
  (fun sp hsp=>trodAll_mk1 (WideElems.Trod_stays (by kernel_rfl) (by kernel_rfl) (of_decide_eq_true (by kernel_rfl)) h0 (fun x hx=>hb.same (cK x hx)) hsp)) (fun _ _=>rfl) (by simp) hb (ok_one (by kernel_rfl) rfl (okWide_bool_mk Tryz.underlying4 _))⟩
theorem IS (os:Os):laidMetH Tryz.prog Rows.cipherOfNothingUptoRow.laid ((World.laidAll Tryz.prog os Rows.cipherOfNothingUptoRow.laid).forCall (fun _ _=>0) ⟨#[],#[.slice none 0 0],[]⟩).memory:=by
 rw [MakeChecks.laidMetH_plain _ _ _ (by kernel_rfl)]
 exact laidMet_laidAll _ (by kernel_rfl) (by kernel_rfl)
theorem reads (os:Os) {H:Type} (enc:TypeId × Value->H):∃ places,DataW.whole enc Tryz.prog ((World.laidAll Tryz.prog os Rows.cipherOfNothingUptoRow.laid).forCall (fun _ _=>0) ⟨#[],#[.slice none 0 0],[]⟩).memory Tryz.f3.params.toList Rows.cipherOfNothingSpec.vars false
 #[Value.slice none 0 0].toList 8=some ([.nil],[],places):=⟨[],by kernel_rfl⟩
noncomputable abbrev start (os:Os):World:=(World.laidAll Tryz.prog os Rows.cipherOfNothingUptoRow.laid).forCall (fun _ _=>0) ⟨#[],#[.slice none 0 0],[]⟩
theorem Wx (os:Os):(start os).variablesZipB Tryz.prog=true:=by kernel_rfl
theorem Qv (os:Os):((start os).heap.toList.drop Tryz.prog.globals.size).take ((begin Tryz.prog (fun _ _=>0) default).world.heap.size-Tryz.prog.globals.size)=(begin Tryz.prog (fun _ _=>0) default).world.heap.toList.drop Tryz.prog.globals.size:=by kernel_rfl
theorem Md (os:Os):Input.okWideB Tryz.prog (start os) 3 ⟨#[],#[.slice none 0 0],[]⟩=true:=by kernel_rfl
theorem Wy (os:Os) {H:Type} (enc:TypeId × Value->H):(Rows.OpenSpec.upto Rows.cipherOfNothingSpec).preRow enc Tryz.prog Tryz.f3 Rows.cipherOfNothingUptoRow.domain false Rows.cipherOfNothingUptoRow.laid (start os).memory #[.slice none 0 0]:=by
 obtain ⟨places,hx⟩:=reads os enc
 exact OpenSpec.preRow_of_cond 8 hx (by kernel_rfl) (fun k hk=>by cases hk;kernel_rfl) (by kernel_rfl) (IS os)
theorem witness (os:Os) {H:Type} (enc:TypeId × Value->H):∃ (w:World) (tape:Tape) (i:Input),w.os=os/\(w.forCall tape i).Shaped Tryz.checked.prog/\i.vars=[]/\Input.okWide Tryz.checked.prog (w.forCall tape i) .any w.heap.size 3 i /\
 (Rows.OpenSpec.upto Rows.cipherOfNothingSpec).preRow enc Tryz.checked.prog Tryz.f3 Rows.cipherOfNothingUptoRow.domain false Rows.cipherOfNothingUptoRow.laid (w.forCall tape i).memory i.args/\({}:Assume).holds Tryz.checked.prog (lone (Frame.enter Tryz.checked.prog 3 i.args .normal) [] (w.forCall tape i)):=
 ⟨World.laidAll Tryz.prog os Rows.cipherOfNothingUptoRow.laid,fun _ _=>0,⟨#[],#[.slice none 0 0],[]⟩,World.laidAll_os _ _ _,World.shaped_of_ZipB (Wx os) (Qv os),(Input.okWide_of_okWideB (base:=0) (Md os)).1,(Input.okWide_of_okWideB (Md os)).2,Wy os enc,by
  simp only [Assume.holds]
  exact ⟨by simp,by simp,by simp,by simp,by simp⟩⟩
theorem lifted (os:Os) (started:os.Started) (H:Type) (enc:TypeId × Value->H) (F:Stop.Interp) :
 ReturnsInHanded {} Tryz.checked os 3 .any ((Rows.OpenSpec.upto Rows.cipherOfNothingSpec).preRow enc Tryz.prog Tryz.f3 Rows.cipherOfNothingUptoRow.domain false Rows.cipherOfNothingUptoRow.laid) (((Rows.OpenSpec.upto Rows.cipherOfNothingSpec).at F).post enc Tryz.prog Tryz.f3 false true false false):=by
 refine returnsInHanded_of_row (C:=Tryz.checked) (s:=Rows.OpenSpec.upto Rows.cipherOfNothingSpec) own started (by kernel_rfl) Tryz.func3 (witness os enc) ?_
 intro W base args ds gs before Ec hW _ Ln _ hL _ _
 exact MS H enc W base args ds gs before Ec hW (Ln _ rfl) hL
theorem said:Rows.CipherOfNothingUptoSaid:=
 OpenClaim.holds_of_cond 3 Tryz.f3 rfl rfl rfl rfl rfl rfl rfl ⟨rfl,rfl,rfl,rfl,rfl⟩ rfl rfl rfl rfl rfl (by kernel_rfl) Tryz.func3 facts
  (of_decide_eq_true (by kernel_rfl)) (by unfold Func.isWrapper;first | (rw [if_pos (by decide +kernel)];kernel_rfl) | (rw [if_neg (by decide +kernel)];exact ⟨rfl,rfl⟩))
  (fun os started H enc _ F=>by rw [OpenClaim.pre_eq_preRow];exact lifted os started H enc F)
theorem plain (f:FuncId) (fn:Func) (hf:Tryz.pinned.checked.prog.funcNamed "pintle/pintlelaw13.CipherOfNothing" = some f) (tP:Tryz.pinned.checked.prog.funcs[f]?=some fn) :
 true=Tryz.pinned.checked.prog.looks []/\∀ (j:Nat) t,fn.params[j]?=some t->Tryz.pinned.checked.prog.wantsStandIn t=false:=by
 obtain rfl:f=3:=Option.some.inj ((show Tryz.prog.funcNamed "pintle/pintlelaw13.CipherOfNothing" = some 3 by kernel_rfl).symm.trans hf) |>.symm
 obtain rfl:fn=Tryz.f3:=(Option.some.inj (Tryz.func3.symm.trans tP)).symm
 refine ⟨by kernel_rfl,fun j t ht=>?_⟩
 rw [Tryz.params3] at ht
 obtain rfl:t=22:=by simpa using Array.mem_of_getElem? ht
 exact (show Tryz.prog.wantsStandIn 22=false by kernel_rfl)
theorem card:Rows.CipherOfNothingUptoCardSaid:=
 Claim7.holds_tied_plain_at .later [] _ _ _ _ said (fun _ h=>by cases h) (by kernel_rfl) (fun _ h=>by cases h) cipherOfNothingUpto_row_tie rfl ⟨rfl,rfl⟩ (by kernel_rfl) rfl plain (by kernel_rfl)
end Go.Proofs.YtaibhjpgbckbkaaGreatDoor.Cip
