/- The statements of the Aead laws: what is listed, variable by variable. -/
import Derived.Test.YticicdfijghigaaGreatDoorCards
import Derived.Test.YticicdfijghigaaGreatDoorTie
import Derived.ProofKit
import Derived.OpenShut
import Derived.Below
import Derived.Carry
import Derived.LaidLaws
import Derived.Lay
import Derived.MakeChecks
import Derived.Deep.DeepHandedRow
import Derived.Deep.DeepWitnessRowRef
import Derived.Lib.LaidTab
import Derived.Stop.ErrReads
import Derived.Test.YticicdfijghigaaGreatDoorQM
open Go
set_option maxRecDepth 100000
section
open Go Go.Proofs.YticicdfijghigaaGreatDoor
set_option maxRecDepth 100000
namespace Go.Proofs.YticicdfijghigaaGreatDoor.Aea
open Go.ChangeShapes Go.WideShapes Go.ChangeAt Go.RowKit Go.Proofs.YticicdfijghigaaGreatDoor.Sx
theorem calls {P:Program} {Γ:Env} {f:FuncId} {fn:Func} {c:Code} {vs:List SV} {T:bA} {lab F:Nat} {e:bL} (h:aE P Γ f vs T lab F e) (tJ:P.funcs[f]?=some fn) (dG:(fn.name == "runtime.NumGoroutine")=false) (hc:fn.body=some c)
 {w0:World} {M:Nat->Prop} {V:aZ} {w:World} {xs:List Value} (hT:aC w0 M V T w) (hg:bO Γ V) (hf:V.fresh lab) (hF:V.top F) (hx:aG V vs=some xs)
 {R:Ending->World->Prop} (hR:∀ V' x w',V.ext lab V'->den V' e.val=some x->aC w0 M V' (eG T lab e) w'->R (.returned x) w'):Calls P f xs.toArray w R:=by
 have h1:=h w0 M V T w xs (fun _ _ h=>h) hT hg hf hF hx { dst:=some 0,op:=.ready 0,type:=0,pos := "",after := #[],guard:=none } { tmps := #[Value.nilFunc],defers:=[] } (fun a' w'=>∀ x,a'.tmps[0]?=some x->R (.returned x) w') (fun _ _ _=>False)
  (fun V' x w' h1 h2 h3 y hy=>by
   simp [Act.put] at hy
   subst hy
   exact hR V' _ w' h1 h2 h3)
 rw [hY tJ hc dG,Oper.upon_enter] at h1
 refine h1.mono fun e w' he=>?_
 cases e with
 | returned v=>exact he v (by simp [Act.put])
 | panicked ch=>exact he.elim
 | outgrown=>obtain ⟨_,_,hh⟩:=he;exact hh.elim
theorem sC {P:Program} {W:World}:∀ {laid:List (String × DataW Unit)} {ps:List MemPlace},DataW.LaidVars P W laid ps->∀ name d,(name,d)∈laid ->
 ∃ g t cs fuel p,P.globalNamed name=some g/\(P.globals[g]?).map (·.type)=some t/\W.var? P name=some cs/\DataW.trod (fun _=>()) P W 0 (fun _=>true) false fuel t cs.toList=some (d,p)/\∀ x∈MemPlace.row ⟨g,0,none⟩ cs.size++p,x∈ps
 | [],_,_,_,_,h=>by cases h
 | (n,d0)::r,ps,hl,name,d,h=>by
   obtain ⟨g,t,cs,fuel,p,q,h1,h2,h3,h4,h5,rfl⟩:=hl
   rcases List.mem_cons.1 h with e | h
   .cases e
    exact ⟨g,t,cs,fuel,p,h1,h2,h3,h4,fun x hx=>List.mem_append_left _ hx⟩
   .obtain ⟨g',t',cs',aXf,p',k1,k2,k3,k4,k5⟩:=sC h5 name d h
    exact ⟨g',t',cs',aXf,p',k1,k2,k3,k4,fun x hx=>List.mem_append_right _ (k5 x hx)⟩
theorem Hk {P:Program} {W:World} {fuel:Nat} {t e c:TypeId} {n m:Nat} {k:IntKind} {cs:List Value} {zss:List (List Int)} {p:List MemPlace}
 (ht:P.underlying t=some (.array n e)) (he:P.underlying e=some (.array m c)) (hc:P.underlying c=some (.int k)) (Aj:P.cellsOf c=1) (hce:P.cellsOf e=m)
 (h:DataW.trod (fun _=>()) P W 0 (fun _=>true) false fuel t cs=some (.agg (zss.map fun zs=>Lib.tabData k zs),p)) (i j:Nat) (zs:List Int) (z:Int) (hi:zss[i]?=some zs) (hj:zs[j]?=some z) (hjm:j<m) :
 cs[i*m+j]?=some (.int k z):=by
 obtain ⟨xs,f,_,hx,hlen,hn,VL⟩:=DataW.trod_array ht h
 simp only [Prod.mk.injEq,DataW.agg.injEq] at hx
 have Wu:i<n:=by
  have h1:=(List.getElem?_eq_some_iff.1 hi).1
  have h2:=congrArg List.length hx.1
  simp only [List.length_map] at h2
  omega
 have bN:=VL i Wu
 have hxi:(xs.map (·.1))[i]?=some (Lib.tabData k zs):=by rw [<- hx.1,List.getElem?_map,hi];rfl
 rw [List.getElem?_map] at hxi
 obtain ⟨y,hy,Hn⟩:=Option.map_eq_some_iff.1 hxi
 rw [hy] at bN
 obtain ⟨d,q⟩:=y
 simp only at Hn
 subst Hn
 rw [hce] at bN
 have:=Lib.cells_of_tab he hc Aj hce bN
 have h3:=congrArg (·[j]?) this
 simp only [List.getElem?_take,List.getElem?_drop,List.getElem?_map,hj,zzm,if_pos hjm] at h3
 exact h3
theorem Bx {w:World} {b o:Nat} {v:Value} (h:w.cell? ⟨b,o,none⟩=some v):b<w.heap.size:=by
 unfold World.cell? at h
 simp only at h
 cases hb:w.heap[b]? with
 | none=>rw [hb] at h;simp at h
 | some x=>exact (Array.getElem?_eq_some_iff.1 hb).1
theorem BS {W:World} {laid:List (String × DataW Unit)} (h:laidMet Tryz.prog laid W) (name:String) (g t e n:Nat) (k:IntKind) (zs:List Int) (hm:(name,Lib.tabData k zs)∈laid) (hg:Tryz.prog.globalNamed name=some g) (ht:(Tryz.prog.globals[g]?).map (·.type)=some t)
 (h1:Tryz.prog.underlying t=some (.array n e)) (h2:Tryz.prog.underlying e=some (.int k)) (h3:Tryz.prog.cellsOf e=1) (h4:Tryz.prog.cellsOf t=n) (j:Nat) (z:Int) (hj:zs[j]?=some z):W.cell? ⟨g,j,none⟩=some (.int k z):=by
 obtain ⟨ps,hl,_,_⟩:=h
 obtain ⟨g',t',cs,fuel,p,k1,k2,k3,k4,_⟩:=sC hl _ _ hm
 obtain rfl:=Option.some.inj (hg.symm.trans k1)
 obtain rfl:=Option.some.inj (ht.symm.trans k2)
 have mK:=Lib.cells_of_tab h1 h2 h3 h4 k4
 have:=World.var?_cell hg k3 j
 rw [this,<- Array.getElem?_toList,mK,List.getElem?_map,hj]
 rfl
theorem Va {W:World} {laid:List (String × DataW Unit)} (h:laidMet Tryz.prog laid W) (name:String) (g t e c n m:Nat) (zss:List (List Int)) (hm:(name,DataW.agg (zss.map fun zs=>Lib.tabData .i64 zs))∈laid) (hg:Tryz.prog.globalNamed name=some g) (ht:(Tryz.prog.globals[g]?).map (·.type)=some t)
 (h1:Tryz.prog.underlying t=some (.array n e)) (h2:Tryz.prog.underlying e=some (.array m c)) (h3:Tryz.prog.underlying c=some (.int .i64)) (h4:Tryz.prog.cellsOf c=1) (h5:Tryz.prog.cellsOf e=m) (i j:Nat) (zs:List Int) (z:Int)
 (hi:zss[i]?=some zs) (hj:zs[j]?=some z) (hjm:j<m):W.cell? ⟨g,i*m+j,none⟩=some (.int .i64 z):=by
 obtain ⟨ps,hl,_,_⟩:=h
 obtain ⟨g',t',cs,fuel,p,k1,k2,k3,k4,_⟩:=sC hl _ _ hm
 obtain rfl:=Option.some.inj (hg.symm.trans k1)
 obtain rfl:=Option.some.inj (ht.symm.trans k2)
 have mK:=Hk h1 h2 h3 h4 h5 k4 i j zs z hi hj hjm
 have:=World.var?_cell hg k3 (i*m+j)
 rw [this,<- Array.getElem?_toList,mK]
theorem Fw (V:aZ) (k:IntKind):∀ zs:List Int,aG V (zs.map (SV.int true k))=some (zs.map (Value.int k))
 | []=>rfl
 | z::r=>by simp [aG,den,Fw V k r]
theorem Pj {V:aZ} {w:World} {l g:Nat} {k:IntKind} {zs:List Int} (h0:0<zs.length) (hl:V.β l=some (g,0)) (hc:∀ (j:Nat) (z:Int),zs[j]?=some z->w.cell? ⟨g,j,none⟩=some (.int k z)):okB V w l (.fS (zs.map (SV.int true k))):=by
 refine ⟨zs.map (Value.int k),Fw V k zs,g,0,hl,⟨Bx (hc 0 zs[0] (List.getElem?_eq_getElem h0)),fun s hs=>?_⟩,fun j v hj=>?_⟩
 .rw [List.getElem?_map] at hs
  obtain ⟨z,_,hz⟩:=Option.map_eq_some_iff.1 hs
  cases hz
 .rw [List.getElem?_map] at hj
  obtain ⟨z,hz,rfl⟩:=Option.map_eq_some_iff.1 hj
  simpa using hc j z hz
def IE:List (List Int):=[[0,4,8,12],[1,5,9,13],[2,6,10,14],[3,7,11,15],[0,5,10,15],[1,6,11,12],[2,7,8,13],[3,4,9,14]]
def JQ:List Int:=[0,4,8,12,1,5,9,13,2,6,10,14,3,7,11,15,0,5,10,15,1,6,11,12,2,7,8,13,3,4,9,14]
theorem DH (j:Nat) (z:Int) (h:JQ[j]?=some z):∃ i k zs,j=i*4+k/\k<4/\IE[i]?=some zs/\zs[k]?=some z:=by
 have hj:j<32:=(List.getElem?_eq_some_iff.1 h).1
 have key:∀ j:Fin 32,(IE[j.1/4]?).bind (·[j.1%4]?)=JQ[j.1]?:=by decide
 have:=key ⟨j,hj⟩
 simp only [h,zzB] at this
 obtain ⟨zs,h1,h2⟩:=this
 exact ⟨j/4,j%4,zs,by omega,Nat.mod_lt _ (by omega),h1,h2⟩
theorem aMi (u:TypeId) (h:Tryz.prog.typeName? 3 u=some "*errors.errorString"):u=428:=
 typeName_ptr_named (nm := "errors.errorString") (by rw [show "*" ++ "errors.errorString" = "*errors.errorString" by decide];kernel_rfl) (by kernel_rfl) (by decide) u (by rw [show "*" ++ "errors.errorString" = "*errors.errorString" by decide];exact h)
theorem TD:Tryz.prog.cellsOf 450=1:=by kernel_rfl
theorem aQn:Tryz.prog.cellsOf 9=1:=by kernel_rfl
theorem xN {W:World} {laid:List (String × DataW Unit)} (h:laidMet Tryz.prog laid W) (name:String) (text:List UInt8) (g:Nat) (hm:(name,DataW.iface "*errors.errorString" (.ptr (.agg [.lit (.string text)])))∈laid)
 (hg:Tryz.prog.globalNamed name=some g) (ht:(Tryz.prog.globals[g]?).map (·.type)=some 28) :
 ∃ b off,W.cell? ⟨g,0,none⟩=some (.iface 428 (.pointer (some ⟨b,off,none⟩)))/\vS W b/\W.cell? ⟨b,off,none⟩=some (.string ⟨text.toArray⟩):=by
 obtain ⟨ps,hl,_,aHq⟩:=h
 obtain ⟨g',t',cs,fuel,p,h1,h2,h3,h4,h5⟩:=sC hl name _ hm
 obtain rfl:=Option.some.inj (hg.symm.trans h1)
 obtain rfl:=Option.some.inj (ht.symm.trans h2)
 obtain ⟨l⟩:=cs
 have ok:∀ u v,l=[.iface u v]->Value.okWide Tryz.prog W .any 0 u v:=fun u v e=>by
  subst e
  exact (aHq g 0 (h5 _ (by simp [MemPlace.row]))).2 u v (by simpa using World.var?_cell hg h3 0)
 obtain ⟨a,s,rfl,hc,hs,_,rfl⟩:=errorString_of_trod Tryz.underlying28 aMi Tryz.underlying428 Tryz.underlying450 rfl rfl Tryz.underlying9 TD aQn h4 ok
 obtain ⟨b,off,spot⟩:=a
 have aWn:spot=none:=World.cell?_spot hc
 subst aWn
 have Gb:s=⟨text.toArray⟩:=by
  obtain ⟨d⟩:=s
  simp only at hs
  subst hs
  rfl
 subst Gb
 exact ⟨b,off,by simpa using World.var?_cell hg h3 0,(aHq b off (h5 _ (List.mem_append_right _ (by rw [row_one];exact List.mem_singleton.2 rfl)))).1,hc⟩
theorem Ps {W:World} {laid:List (String × DataW Unit)} (h:laidMet Tryz.prog laid W) (name:String) (z:Int) (g:Nat) (hm:(name,DataW.lit (.int .i64 z))∈laid)
 (hg:Tryz.prog.globalNamed name=some g) (ht:(Tryz.prog.globals[g]?).map (·.type)=some 3):W.cell? ⟨g,0,none⟩=some (.int .i64 z):=by
 obtain ⟨ps,hl,_,_⟩:=h
 obtain ⟨g',t',cs,fuel,p,h1,h2,h3,h4,_⟩:=sC hl name _ hm
 obtain rfl:=Option.some.inj (hg.symm.trans h1)
 obtain rfl:=Option.some.inj (ht.symm.trans h2)
 obtain ⟨k,e1,e2,_⟩:=DataW.trod_int Tryz.underlying3 h4
 simp only [Prod.mk.injEq,DataW.lit.injEq,Lit.int.injEq,true_and] at e2
 obtain ⟨rfl,_⟩:=e2
 have:=World.var?_cell hg h3 0
 obtain ⟨l⟩:=cs
 simp only at e1
 subst e1
 simpa using this
theorem Bo {V:aZ} {w:World} {l g e b o:Nat} (hl:V.β l=some (g,0)) (he:V.β e=some (b,o)) (hc:w.cell? ⟨g,0,none⟩=some (.iface 428 (.pointer (some ⟨b,o,none⟩)))):okB V w l (.fS [.rG 428 (.ptr e true 0)]):=by
 refine ⟨[.iface 428 (.pointer (some ⟨b,o+0,none⟩))],by simp [SB.cells,aG,den,he],g,0,hl,⟨Bx hc,fun s hs=>by simp at hs⟩,fun j v hj=>?_⟩
 cases j with
 | zero=>simp only [List.getElem?_cons_zero,zzI] at hj;subst hj;simpa using hc
 | succ j=>simp at hj
theorem xF {V:aZ} {w:World} {l b o:Nat} {t:List UInt8} (hl:V.β l=some (b,o)) (h0:vS w b) (hc:w.cell? ⟨b,o,none⟩=some (.string ⟨t.toArray⟩)):okB V w l (erP t):=by
 refine ⟨[.string ⟨t.toArray⟩],by simp [erP,SB.cells,aG,den],b,o,hl,⟨Bx hc,fun s hs=>h0⟩,fun j v hj=>?_⟩
 cases j with
 | zero=>simp only [List.getElem?_cons_zero,zzI] at hj;subst hj;simpa using hc
 | succ j=>simp at hj
theorem Yl {V:aZ} {w:World} {l g:Nat} {z:Int} (hl:V.β l=some (g,0)) (hc:w.cell? ⟨g,0,none⟩=some (.int .i64 z)):okB V w l (.fS [.int true .i64 z]):=by
 refine ⟨[.int .i64 z],by simp [SB.cells,aG,den],g,0,hl,⟨Bx hc,fun s hs=>by simp at hs⟩,fun j v hj=>?_⟩
 cases j with
 | zero=>simp only [List.getElem?_cons_zero,zzI] at hj;subst hj;simpa using hc
 | succ j=>simp at hj
theorem qE {w:World} {k:IntKind} {v:Value} {ys:List Int} (h:nI w k v ys):iP ys.length v=some v:=by
 rcases h with ⟨⟨a,rfl⟩,rfl⟩ | ⟨b,o,c,rfl,_,hle,_⟩
 .cases a <;> simp [iP]
 .simp [iP,hle]
abbrev listed:List (String × DataW Unit):=Rows.aeadBackRow.laid
theorem Bu {W:World} (h:laidMet Tryz.prog listed W) (xs:List (Nat × SB)) (sl:List (Nat × Value)) (Rb:sl.all (fun x=>Nat.blt x.1 100)=true)
 (hx:∀ V:aZ,(∀ l,V.σ l=Sx.look l sl)->∀ x∈xs,okB V W x.1 x.2/\x.2.owned=false/\lG W (fun _=>False) V x.1 x.2) :
 ∃ V:aZ,aC W (fun _=>False) V (fun l=>Sx.look l (xs++(erO++US))) W/\(∀ k l,Sx.look k aB=some l->V.β l=some (k,0))/\V.top 100/\∀ l,V.σ l=Sx.look l sl:=by
 have pick:∀ {x:String × DataW Unit} (i:Nat),listed[i]?=some x->x∈listed:=fun i hi=>List.mem_of_getElem? hi
 obtain ⟨b0,o0,e0,f0,g0⟩:=xN h "pintle/api.ErrArg" _ 1 (pick 2 rfl) (by kernel_rfl) (by kernel_rfl)
 obtain ⟨b2,o2,e2,f2,g2⟩:=xN h "pintle/api.ErrRoom" _ 2 (pick 3 rfl) (by kernel_rfl) (by kernel_rfl)
 obtain ⟨b4,o4,e4,f4,g4⟩:=xN h "pintle/api.ErrShort" _ 3 (pick 4 rfl) (by kernel_rfl) (by kernel_rfl)
 obtain ⟨b8,o8,e8,f8,g8⟩:=xN h "pintle/api.ErrAuth" _ 0 (pick 5 rfl) (by kernel_rfl) (by kernel_rfl)
 have i17:=Ps h "math/big.karatsubaThreshold" 40 12 (pick 8 rfl) (by kernel_rfl) (by kernel_rfl)
 have i18:=Ps h "math/big.divRecursiveThreshold" 40 13 (pick 7 rfl) (by kernel_rfl) (by kernel_rfl)
 have hbg:=BS h "pintle/slow.begin" 5 171 54 4 .u32 [1634760805,857760878,2036477234,1797285236] (pick 11 rfl) (by kernel_rfl) (by kernel_rfl) Tryz.underlying171 Tryz.underlying54 (by kernel_rfl) (by kernel_rfl)
 have hr:=Va h "pintle/slow.rows" 6 203 202 3 8 4 IE (pick 12 rfl) (by kernel_rfl) (by kernel_rfl) Tryz.underlying203 Tryz.underlying202 Tryz.underlying3 (by kernel_rfl) (by kernel_rfl)
 let bl:List (Nat × (Nat × Nat)):=[(0,(1,0)),(2,(2,0)),(4,(3,0)),(8,(0,0)),(10,(5,0)),(11,(6,0)),(15,(10,0)),(16,(11,0)),(17,(12,0)),(18,(13,0)),(27,(22,0)),(40,(b0,o0)),(42,(b2,o2)),(44,(b4,o4)),(48,(b8,o8))]
 let V:aZ:=⟨fun l=>Sx.look l bl,fun l=>Sx.look l sl⟩
 have all:∀ l B,Sx.look l (xs++(erO++US))=some B->okB V W l B/\B.owned=false/\lG W (fun _=>False) V l B:=by
  intro l B hl
  rcases List.mem_append.1 (gC hl) with hm | hm
  .exact hx V (fun _=>rfl) _ hm
  simp only [erO,US,Jx,List.cons_append,zzv,List.mem_cons,List.not_mem_nil,or_false,Prod.mk.injEq] at hm
  rcases hm with ⟨rfl,rfl⟩ | ⟨rfl,rfl⟩ | ⟨rfl,rfl⟩ | ⟨rfl,rfl⟩ | ⟨rfl,rfl⟩ | ⟨rfl,rfl⟩ | ⟨rfl,rfl⟩ | ⟨rfl,rfl⟩ | ⟨rfl,rfl⟩ | ⟨rfl,rfl⟩ | ⟨rfl,rfl⟩ | ⟨rfl,rfl⟩
  .exact ⟨xF rfl f0 g0,rfl,trivial⟩
  .exact ⟨xF rfl f2 g2,rfl,trivial⟩
  .exact ⟨xF rfl f4 g4,rfl,trivial⟩
  .exact ⟨xF rfl f8 g8,rfl,trivial⟩
  .exact ⟨Bo rfl rfl e0,rfl,trivial⟩
  .exact ⟨Bo rfl rfl e2,rfl,trivial⟩
  .exact ⟨Bo rfl rfl e4,rfl,trivial⟩
  .exact ⟨Bo rfl rfl e8,rfl,trivial⟩
  .exact ⟨Yl rfl i17,rfl,trivial⟩
  .exact ⟨Yl rfl i18,rfl,trivial⟩
  .exact ⟨Pj (zs:=[1634760805,857760878,2036477234,1797285236]) (by decide) rfl hbg,rfl,trivial⟩
  .exact ⟨Pj (zs:=JQ) (by decide) rfl fun j z hj=>(by
    obtain ⟨i,k,zs,rfl,hk,h1,h2⟩:=DH j z hj
    exact hr i k zs z h1 h2 hk),rfl,trivial⟩
 refine ⟨V,⟨fun l B hl=>(all l B hl).1,fun l B l' B' n _ hl _ ho=>?_,fun l B n hl ho=>?_,fO.refl _ _,fun l B hl=>(all l B hl).2.2⟩,fun k l hk=>?_,fun l hl=>⟨?_,?_⟩,fun _=>rfl⟩
 .rw [(all l B hl).2.1] at ho;cases ho
 .rw [(all l B hl).2.1] at ho;cases ho
 .have hm:=gC hk
  simp only [aB,List.mem_cons,List.not_mem_nil,or_false,Prod.mk.injEq] at hm
  rcases hm with ⟨rfl,rfl⟩ | ⟨rfl,rfl⟩ | ⟨rfl,rfl⟩ | ⟨rfl,rfl⟩ | ⟨rfl,rfl⟩ | ⟨rfl,rfl⟩ | ⟨rfl,rfl⟩ | ⟨rfl,rfl⟩ | ⟨rfl,rfl⟩ | ⟨rfl,rfl⟩ | ⟨rfl,rfl⟩ <;> rfl
 .show Sx.look l bl=none
  cases hlk:Sx.look l bl with
  | none=>rfl
  | some p=>
    exfalso
    have hm:=gC hlk
    have kU:bl.all (fun x=>Nat.blt x.1 100)=true:=rfl
    have:=List.all_eq_true.1 kU _ hm
    simp only [Nat.blt_eq] at this
    omega
 .show Sx.look l sl=none
  cases hlk:Sx.look l sl with
  | none=>rfl
  | some p=>
    exfalso
    have hm:=gC hlk
    have:=List.all_eq_true.1 Rb _ hm
    simp only [Nat.blt_eq] at this
    omega
end Go.Proofs.YticicdfijghigaaGreatDoor.Aea
end
