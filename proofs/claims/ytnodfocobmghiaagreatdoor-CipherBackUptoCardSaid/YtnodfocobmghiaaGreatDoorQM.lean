/- The statements of the Aead laws: what is listed, variable by variable. -/
import Derived.Test.YtnodfocobmghiaaGreatDoorCards
import Derived.Test.YtnodfocobmghiaaGreatDoorTie
import Derived.ProofKit
import Derived.OpenShut
import Derived.Below
import Derived.Carry
import Derived.LaidLaws
import Derived.Lay
import Derived.MakeChecks
import Derived.Deep.DeepHandedRow
import Derived.Deep.DeepWitnessRowRef
import Derived.Lib.LaidTab
import Derived.Stop.ErrReads
import Derived.Test.YtnodfocobmghiaaGreatDoorQL
open Go
set_option maxRecDepth 100000
section
open Go Go.Proofs.YtnodfocobmghiaaGreatDoor
set_option maxRecDepth 100000
namespace Go.Proofs.YtnodfocobmghiaaGreatDoor.Aea
open Go.ChangeShapes Go.WideShapes Go.ChangeAt Go.RowKit Go.Proofs.YtnodfocobmghiaaGreatDoor.Sx
theorem calls {P:Program} {Γ:Env} {f:FuncId} {fn:Func} {c:Code} {vs:List SV} {T:aX} {lab F:Nat} {e:bK} (h:aF P Γ f vs T lab F e) (tU:P.funcs[f]?=some fn) (dI:(fn.name == "runtime.NumGoroutine")=false) (hc:fn.body=some c)
 {w0:World} {M:Nat->Prop} {V:bA} {w:World} {xs:List Value} (hT:aD w0 M V T w) (hg:bR Γ V) (hf:V.fresh lab) (hF:V.top F) (hx:aJ V vs=some xs)
 {R:Ending->World->Prop} (hR:∀ V' x w',V.ext lab V'->den V' e.val=some x->aD w0 M V' (eT T lab e) w'->R (.returned x) w'):Calls P f xs.toArray w R:=by
 have h1:=h w0 M V T w xs (fun _ _ h=>h) hT hg hf hF hx { dst:=some 0,op:=.ready 0,type:=0,pos := "",after := #[],guard:=none } { tmps := #[Value.nilFunc],defers:=[] } (fun a' w'=>∀ x,a'.tmps[0]?=some x->R (.returned x) w') (fun _ _ _=>False)
  (fun V' x w' h1 h2 h3 y hy=>by
   simp [Act.put] at hy
   subst hy
   exact hR V' _ w' h1 h2 h3)
 rw [gK tU hc dI,Oper.upon_enter] at h1
 refine h1.mono fun e w' he=>?_
 cases e with
 | returned v=>exact he v (by simp [Act.put])
 | panicked ch=>exact he.elim
 | outgrown=>obtain ⟨_,_,hh⟩:=he;exact hh.elim
theorem qR {P:Program} {W:World}:∀ {laid:List (String × DataW Unit)} {ps:List MemPlace},DataW.LaidVars P W laid ps->∀ name d,(name,d)∈laid ->
 ∃ g t cs fuel p,P.globalNamed name=some g/\(P.globals[g]?).map (·.type)=some t/\W.var? P name=some cs/\DataW.trod (fun _=>()) P W 0 (fun _=>true) false fuel t cs.toList=some (d,p)/\∀ x∈MemPlace.row ⟨g,0,none⟩ cs.size++p,x∈ps
 | [],_,_,_,_,h=>by cases h
 | (n,d0)::r,ps,hl,name,d,h=>by
   obtain ⟨g,t,cs,fuel,p,q,h1,h2,h3,h4,h5,rfl⟩:=hl
   rcases List.mem_cons.1 h with e | h
   .cases e
    exact ⟨g,t,cs,fuel,p,h1,h2,h3,h4,fun x hx=>List.mem_append_left _ hx⟩
   .obtain ⟨g',t',cs',aSb,p',k1,k2,k3,k4,k5⟩:=qR h5 name d h
    exact ⟨g',t',cs',aSb,p',k1,k2,k3,k4,fun x hx=>List.mem_append_right _ (k5 x hx)⟩
theorem Fe {P:Program} {W:World} {fuel:Nat} {t e c:TypeId} {n m:Nat} {k:IntKind} {cs:List Value} {zss:List (List Int)} {p:List MemPlace}
 (ht:P.underlying t=some (.array n e)) (he:P.underlying e=some (.array m c)) (hc:P.underlying c=some (.int k)) (Ee:P.cellsOf c=1) (hce:P.cellsOf e=m)
 (h:DataW.trod (fun _=>()) P W 0 (fun _=>true) false fuel t cs=some (.agg (zss.map fun zs=>Lib.tabData k zs),p)) (i j:Nat) (zs:List Int) (z:Int) (hi:zss[i]?=some zs) (hj:zs[j]?=some z) (hjm:j<m) :
 cs[i*m+j]?=some (.int k z):=by
 obtain ⟨xs,f,_,hx,hlen,hn,BH⟩:=DataW.trod_array ht h
 simp only [Prod.mk.injEq,DataW.agg.injEq] at hx
 have Ju:i<n:=by
  have h1:=(List.getElem?_eq_some_iff.1 hi).1
  have h2:=congrArg List.length hx.1
  simp only [List.length_map] at h2
  omega
 have bT:=BH i Ju
 have hxi:(xs.map (·.1))[i]?=some (Lib.tabData k zs):=by rw [<- hx.1,List.getElem?_map,hi];rfl
 rw [List.getElem?_map] at hxi
 obtain ⟨y,hy,Fh⟩:=Option.map_eq_some_iff.1 hxi
 rw [hy] at bT
 obtain ⟨d,q⟩:=y
 simp only at Fh
 subst Fh
 rw [hce] at bT
 have:=Lib.cells_of_tab he hc Ee hce bT
 have h3:=congrArg (·[j]?) this
 simp only [List.getElem?_take,List.getElem?_drop,List.getElem?_map,hj,gL,if_pos hjm] at h3
 exact h3
theorem uX {w:World} {b o:Nat} {v:Value} (h:w.cell? ⟨b,o,none⟩=some v):b<w.heap.size:=by
 unfold World.cell? at h
 simp only at h
 cases hb:w.heap[b]? with
 | none=>rw [hb] at h;simp at h
 | some x=>exact (Array.getElem?_eq_some_iff.1 hb).1
theorem Yl {W:World} {laid:List (String × DataW Unit)} (h:laidMet Tryz.prog laid W) (name:String) (g t e n:Nat) (k:IntKind) (zs:List Int) (hm:(name,Lib.tabData k zs)∈laid) (hg:Tryz.prog.globalNamed name=some g) (ht:(Tryz.prog.globals[g]?).map (·.type)=some t)
 (h1:Tryz.prog.underlying t=some (.array n e)) (h2:Tryz.prog.underlying e=some (.int k)) (h3:Tryz.prog.cellsOf e=1) (h4:Tryz.prog.cellsOf t=n) (j:Nat) (z:Int) (hj:zs[j]?=some z):W.cell? ⟨g,j,none⟩=some (.int k z):=by
 obtain ⟨ps,hl,_,_⟩:=h
 obtain ⟨g',t',cs,fuel,p,k1,k2,k3,k4,_⟩:=qR hl _ _ hm
 obtain rfl:=Option.some.inj (hg.symm.trans k1)
 obtain rfl:=Option.some.inj (ht.symm.trans k2)
 have kD:=Lib.cells_of_tab h1 h2 h3 h4 k4
 have:=World.var?_cell hg k3 j
 rw [this,<- Array.getElem?_toList,kD,List.getElem?_map,hj]
 rfl
theorem Rs {W:World} {laid:List (String × DataW Unit)} (h:laidMet Tryz.prog laid W) (name:String) (g t e c n m:Nat) (zss:List (List Int)) (hm:(name,DataW.agg (zss.map fun zs=>Lib.tabData .i64 zs))∈laid) (hg:Tryz.prog.globalNamed name=some g) (ht:(Tryz.prog.globals[g]?).map (·.type)=some t)
 (h1:Tryz.prog.underlying t=some (.array n e)) (h2:Tryz.prog.underlying e=some (.array m c)) (h3:Tryz.prog.underlying c=some (.int .i64)) (h4:Tryz.prog.cellsOf c=1) (h5:Tryz.prog.cellsOf e=m) (i j:Nat) (zs:List Int) (z:Int)
 (hi:zss[i]?=some zs) (hj:zs[j]?=some z) (hjm:j<m):W.cell? ⟨g,i*m+j,none⟩=some (.int .i64 z):=by
 obtain ⟨ps,hl,_,_⟩:=h
 obtain ⟨g',t',cs,fuel,p,k1,k2,k3,k4,_⟩:=qR hl _ _ hm
 obtain rfl:=Option.some.inj (hg.symm.trans k1)
 obtain rfl:=Option.some.inj (ht.symm.trans k2)
 have kD:=Fe h1 h2 h3 h4 h5 k4 i j zs z hi hj hjm
 have:=World.var?_cell hg k3 (i*m+j)
 rw [this,<- Array.getElem?_toList,kD]
theorem Dr (V:bA) (k:IntKind):∀ zs:List Int,aJ V (zs.map (SV.int true k))=some (zs.map (Value.int k))
 | []=>rfl
 | z::r=>by simp [aJ,den,Dr V k r]
theorem Mg {V:bA} {w:World} {l g:Nat} {k:IntKind} {zs:List Int} (h0:0<zs.length) (hl:V.β l=some (g,0)) (hc:∀ (j:Nat) (z:Int),zs[j]?=some z->w.cell? ⟨g,j,none⟩=some (.int k z)):okB V w l (.eQ (zs.map (SV.int true k))):=by
 refine ⟨zs.map (Value.int k),Dr V k zs,g,0,hl,⟨uX (hc 0 zs[0] (List.getElem?_eq_getElem h0)),fun s hs=>?_⟩,fun j v hj=>?_⟩
 .rw [List.getElem?_map] at hs
  obtain ⟨z,_,hz⟩:=Option.map_eq_some_iff.1 hs
  cases hz
 .rw [List.getElem?_map] at hj
  obtain ⟨z,hz,rfl⟩:=Option.map_eq_some_iff.1 hj
  simpa using hc j z hz
def EN:List (List Int):=[[0,4,8,12],[1,5,9,13],[2,6,10,14],[3,7,11,15],[0,5,10,15],[1,6,11,12],[2,7,8,13],[3,4,9,14]]
def FZ:List Int:=[0,4,8,12,1,5,9,13,2,6,10,14,3,7,11,15,0,5,10,15,1,6,11,12,2,7,8,13,3,4,9,14]
theorem Zu (j:Nat) (z:Int) (h:FZ[j]?=some z):∃ i k zs,j=i*4+k/\k<4/\EN[i]?=some zs/\zs[k]?=some z:=by
 have hj:j<32:=(List.getElem?_eq_some_iff.1 h).1
 have key:∀ j:Fin 32,(EN[j.1/4]?).bind (·[j.1%4]?)=FZ[j.1]?:=by decide
 have:=key ⟨j,hj⟩
 simp only [h,gM] at this
 obtain ⟨zs,h1,h2⟩:=this
 exact ⟨j/4,j%4,zs,by omega,Nat.mod_lt _ (by omega),h1,h2⟩
theorem aHu (u:TypeId) (h:Tryz.prog.typeName? 3 u=some "*errors.errorString"):u=407:=
 typeName_ptr_named (nm := "errors.errorString") (by rw [show "*" ++ "errors.errorString" = "*errors.errorString" by decide];kernel_rfl) (by kernel_rfl) (by decide) u (by rw [show "*" ++ "errors.errorString" = "*errors.errorString" by decide];exact h)
theorem OZ:Tryz.prog.cellsOf 429=1:=by kernel_rfl
theorem aLu:Tryz.prog.cellsOf 9=1:=by kernel_rfl
theorem oF {W:World} {laid:List (String × DataW Unit)} (h:laidMet Tryz.prog laid W) (name:String) (text:List UInt8) (g:Nat) (hm:(name,DataW.iface "*errors.errorString" (.ptr (.agg [.lit (.string text)])))∈laid)
 (hg:Tryz.prog.globalNamed name=some g) (ht:(Tryz.prog.globals[g]?).map (·.type)=some 41) :
 ∃ b off,W.cell? ⟨g,0,none⟩=some (.iface 407 (.pointer (some ⟨b,off,none⟩)))/\uD W b/\W.cell? ⟨b,off,none⟩=some (.string ⟨text.toArray⟩):=by
 obtain ⟨ps,hl,_,aDh⟩:=h
 obtain ⟨g',t',cs,fuel,p,h1,h2,h3,h4,h5⟩:=qR hl name _ hm
 obtain rfl:=Option.some.inj (hg.symm.trans h1)
 obtain rfl:=Option.some.inj (ht.symm.trans h2)
 obtain ⟨l⟩:=cs
 have ok:∀ u v,l=[.iface u v]->Value.okWide Tryz.prog W .any 0 u v:=fun u v e=>by
  subst e
  exact (aDh g 0 (h5 _ (by simp [MemPlace.row]))).2 u v (by simpa using World.var?_cell hg h3 0)
 obtain ⟨a,s,rfl,hc,hs,_,rfl⟩:=errorString_of_trod Tryz.underlying41 aHu Tryz.underlying407 Tryz.underlying429 rfl rfl Tryz.underlying9 OZ aLu h4 ok
 obtain ⟨b,off,spot⟩:=a
 have aRf:spot=none:=World.cell?_spot hc
 subst aRf
 have xX:s=⟨text.toArray⟩:=by
  obtain ⟨d⟩:=s
  simp only at hs
  subst hs
  rfl
 subst xX
 exact ⟨b,off,by simpa using World.var?_cell hg h3 0,(aDh b off (h5 _ (List.mem_append_right _ (by rw [row_one];exact List.mem_singleton.2 rfl)))).1,hc⟩
theorem Mq {W:World} {laid:List (String × DataW Unit)} (h:laidMet Tryz.prog laid W) (name:String) (z:Int) (g:Nat) (hm:(name,DataW.lit (.int .i64 z))∈laid)
 (hg:Tryz.prog.globalNamed name=some g) (ht:(Tryz.prog.globals[g]?).map (·.type)=some 3):W.cell? ⟨g,0,none⟩=some (.int .i64 z):=by
 obtain ⟨ps,hl,_,_⟩:=h
 obtain ⟨g',t',cs,fuel,p,h1,h2,h3,h4,_⟩:=qR hl name _ hm
 obtain rfl:=Option.some.inj (hg.symm.trans h1)
 obtain rfl:=Option.some.inj (ht.symm.trans h2)
 obtain ⟨k,e1,e2,_⟩:=DataW.trod_int Tryz.underlying3 h4
 simp only [Prod.mk.injEq,DataW.lit.injEq,Lit.int.injEq,true_and] at e2
 obtain ⟨rfl,_⟩:=e2
 have:=World.var?_cell hg h3 0
 obtain ⟨l⟩:=cs
 simp only at e1
 subst e1
 simpa using this
theorem uP {V:bA} {w:World} {l g e b o:Nat} (hl:V.β l=some (g,0)) (he:V.β e=some (b,o)) (hc:w.cell? ⟨g,0,none⟩=some (.iface 407 (.pointer (some ⟨b,o,none⟩)))):okB V w l (.eQ [.pX 407 (.ptr e true 0)]):=by
 refine ⟨[.iface 407 (.pointer (some ⟨b,o+0,none⟩))],by simp [SB.cells,aJ,den,he],g,0,hl,⟨uX hc,fun s hs=>by simp at hs⟩,fun j v hj=>?_⟩
 cases j with
 | zero=>simp only [List.getElem?_cons_zero,aW] at hj;subst hj;simpa using hc
 | succ j=>simp at hj
theorem qP {V:bA} {w:World} {l b o:Nat} {t:List UInt8} (hl:V.β l=some (b,o)) (h0:uD w b) (hc:w.cell? ⟨b,o,none⟩=some (.string ⟨t.toArray⟩)):okB V w l (erP t):=by
 refine ⟨[.string ⟨t.toArray⟩],by simp [erP,SB.cells,aJ,den],b,o,hl,⟨uX hc,fun s hs=>h0⟩,fun j v hj=>?_⟩
 cases j with
 | zero=>simp only [List.getElem?_cons_zero,aW] at hj;subst hj;simpa using hc
 | succ j=>simp at hj
theorem Vb {V:bA} {w:World} {l g:Nat} {z:Int} (hl:V.β l=some (g,0)) (hc:w.cell? ⟨g,0,none⟩=some (.int .i64 z)):okB V w l (.eQ [.int true .i64 z]):=by
 refine ⟨[.int .i64 z],by simp [SB.cells,aJ,den],g,0,hl,⟨uX hc,fun s hs=>by simp at hs⟩,fun j v hj=>?_⟩
 cases j with
 | zero=>simp only [List.getElem?_cons_zero,aW] at hj;subst hj;simpa using hc
 | succ j=>simp at hj
abbrev listed:List (String × DataW Unit):=Rows.cipherRekeysRow.laid
end Go.Proofs.YtnodfocobmghiaaGreatDoor.Aea
end
