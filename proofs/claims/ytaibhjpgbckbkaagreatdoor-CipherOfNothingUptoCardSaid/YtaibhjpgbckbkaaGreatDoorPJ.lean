/- A part of the proof of CipherOfNothing: CRow to CRow. -/
import Derived.Test.YtaibhjpgbckbkaaGreatDoorPI
import Derived.Test.YtaibhjpgbckbkaaGreatDoorCards
import Derived.Test.YtaibhjpgbckbkaaGreatDoorTie
import Derived.ProofKit
import Derived.OpenShut
import Derived.Below
import Derived.Carry
import Derived.LaidLaws
import Derived.Lay
import Derived.MakeChecks
import Derived.Deep.DeepHandedRow
import Derived.Deep.DeepWitnessRowRef
import Derived.Lib.LaidTab
import Derived.Stop.ErrReads
open Go
set_option maxRecDepth 100000
namespace Go.Proofs.YtaibhjpgbckbkaaGreatDoor.Cip
open Go.ChangeShapes Go.WideShapes Go.ChangeAt Go.RowKit Go.Proofs.YtaibhjpgbckbkaaGreatDoor.Sx
theorem qU {P:Program} {W:World}:∀ {laid:List (String × DataW Unit)} {ps:List MemPlace},DataW.LaidVars P W laid ps->∀ name d,(name,d)∈laid ->
 ∃ g t cs fuel p,P.globalNamed name=some g/\(P.globals[g]?).map (·.type)=some t/\W.var? P name=some cs/\DataW.trod (fun _=>()) P W 0 (fun _=>true) false fuel t cs.toList=some (d,p)/\∀ x∈MemPlace.row ⟨g,0,none⟩ cs.size++p,x∈ps
 | [],_,_,_,_,h=>by cases h
 | (n,d0)::r,ps,hl,name,d,h=>by
   obtain ⟨g,t,cs,fuel,p,q,h1,h2,h3,h4,h5,rfl⟩:=hl
   rcases List.mem_cons.1 h with e | h
   .cases e
    exact ⟨g,t,cs,fuel,p,h1,h2,h3,h4,fun x hx=>List.mem_append_left _ hx⟩
   .obtain ⟨g',t',cs',aQx,p',k1,k2,k3,k4,k5⟩:=qU h5 name d h
    exact ⟨g',t',cs',aQx,p',k1,k2,k3,k4,fun x hx=>List.mem_append_right _ (k5 x hx)⟩
theorem Em {P:Program} {W:World} {fuel:Nat} {t e c:TypeId} {n m:Nat} {k:IntKind} {cs:List Value} {zss:List (List Int)} {p:List MemPlace}
 (ht:P.underlying t=some (.array n e)) (he:P.underlying e=some (.array m c)) (hc:P.underlying c=some (.int k)) (Dn:P.cellsOf c=1) (ZJ:P.cellsOf e=m)
 (h:DataW.trod (fun _=>()) P W 0 (fun _=>true) false fuel t cs=some (.agg (zss.map fun zs=>Lib.tabData k zs),p)) (i j:Nat) (zs:List Int) (z:Int) (hi:zss[i]?=some zs) (hj:zs[j]?=some z) (hjm:j<m) :
 cs[i*m+j]?=some (.int k z):=by
 obtain ⟨xs,f,_,hx,hlen,hn,ZG⟩:=DataW.trod_array ht h
 simp only [Prod.mk.injEq,DataW.agg.injEq] at hx
 have NW:i<n:=by
  have h1:=(List.getElem?_eq_some_iff.1 hi).1
  have h2:=congrArg List.length hx.1
  simp only [List.length_map] at h2
  omega
 have cN:=ZG i NW
 have hxi:(xs.map (·.1))[i]?=some (Lib.tabData k zs):=by rw [<- hx.1,List.getElem?_map,hi];rfl
 rw [List.getElem?_map] at hxi
 obtain ⟨y,hy,Ab⟩:=Option.map_eq_some_iff.1 hxi
 rw [hy] at cN
 obtain ⟨d,q⟩:=y
 simp only at Ab
 subst Ab
 rw [ZJ] at cN
 have:=Lib.cells_of_tab he hc Dn ZJ cN
 have h3:=congrArg (·[j]?) this
 simp only [List.getElem?_take,List.getElem?_drop,List.getElem?_map,hj,Option.map_some,if_pos hjm] at h3
 exact h3
theorem aGa (u:TypeId) (h:Tryz.prog.typeName? 3 u=some "*errors.errorString"):u=367:=
 typeName_ptr_named (nm := "errors.errorString") (by rw [show "*" ++ "errors.errorString" = "*errors.errorString" by decide];kernel_rfl) (by kernel_rfl) (by decide) u (by rw [show "*" ++ "errors.errorString" = "*errors.errorString" by decide];exact h)
theorem MT:Tryz.prog.cellsOf 388=1:=by kernel_rfl
theorem aJz:Tryz.prog.cellsOf 9=1:=by kernel_rfl
theorem uJ {w:World} {b o:Nat} {v:Value} (h:w.cell? ⟨b,o,none⟩=some v):b<w.heap.size:=by
 unfold World.cell? at h
 simp only at h
 cases hb:w.heap[b]? with
 | none=>rw [hb] at h;simp at h
 | some x=>exact (Array.getElem?_eq_some_iff.1 hb).1
theorem nD {W:World} {laid:List (String × DataW Unit)} (h:laidMet Tryz.prog laid W) (name:String) (text:List UInt8) (g:Nat) (hm:(name,DataW.iface "*errors.errorString" (.ptr (.agg [.lit (.string text)])))∈laid)
 (hg:Tryz.prog.globalNamed name=some g) (ht:(Tryz.prog.globals[g]?).map (·.type)=some 55) :
 ∃ b off,W.cell? ⟨g,0,none⟩=some (.iface 367 (.pointer (some ⟨b,off,none⟩)))/\tZ W b/\W.cell? ⟨b,off,none⟩=some (.string ⟨text.toArray⟩):=by
 obtain ⟨ps,hl,_,aBg⟩:=h
 obtain ⟨g',t',cs,fuel,p,h1,h2,h3,h4,h5⟩:=qU hl name _ hm
 obtain rfl:=Option.some.inj (hg.symm.trans h1)
 obtain rfl:=Option.some.inj (ht.symm.trans h2)
 obtain ⟨l⟩:=cs
 have ok:∀ u v,l=[.iface u v]->Value.okWide Tryz.prog W .any 0 u v:=fun u v e=>by
  subst e
  exact (aBg g 0 (h5 _ (by simp [MemPlace.row]))).2 u v (by simpa using World.var?_cell hg h3 0)
 obtain ⟨a,s,rfl,hc,hs,_,rfl⟩:=errorString_of_trod Tryz.underlying55 aGa Tryz.underlying367 Tryz.underlying388 rfl rfl Tryz.underlying9 MT aJz h4 ok
 obtain ⟨b,off,spot⟩:=a
 have aQd:spot=none:=World.cell?_spot hc
 subst aQd
 have Gp:s=⟨text.toArray⟩:=by
  obtain ⟨d⟩:=s
  simp only at hs
  subst hs
  rfl
 subst Gp
 exact ⟨b,off,by simpa using World.var?_cell hg h3 0,(aBg b off (h5 _ (List.mem_append_right _ (by rw [row_one];exact List.mem_singleton.2 rfl)))).1,hc⟩
theorem Mv {W:World} {laid:List (String × DataW Unit)} (h:laidMet Tryz.prog laid W) (name:String) (z:Int) (g:Nat) (hm:(name,DataW.lit (.int .i64 z))∈laid)
 (hg:Tryz.prog.globalNamed name=some g) (ht:(Tryz.prog.globals[g]?).map (·.type)=some 3):W.cell? ⟨g,0,none⟩=some (.int .i64 z):=by
 obtain ⟨ps,hl,_,_⟩:=h
 obtain ⟨g',t',cs,fuel,p,h1,h2,h3,h4,_⟩:=qU hl name _ hm
 obtain rfl:=Option.some.inj (hg.symm.trans h1)
 obtain rfl:=Option.some.inj (ht.symm.trans h2)
 obtain ⟨k,e1,e2,_⟩:=DataW.trod_int Tryz.underlying3 h4
 simp only [Prod.mk.injEq,DataW.lit.injEq,Lit.int.injEq,true_and] at e2
 obtain ⟨rfl,_⟩:=e2
 have:=World.var?_cell hg h3 0
 obtain ⟨l⟩:=cs
 simp only at e1
 subst e1
 simpa using this
theorem Ny {W:World} {laid:List (String × DataW Unit)} (h:laidMet Tryz.prog laid W) (hm:("pintle/slow.begin",Lib.tabData .u32 [1634760805,857760878,2036477234,1797285236])∈laid) (j:Nat) (z:Int)
 (hj:([1634760805,857760878,2036477234,1797285236]:List Int)[j]?=some z):W.cell? ⟨10,j,none⟩=some (.int .u32 z):=by
 obtain ⟨ps,hl,_,_⟩:=h
 obtain ⟨g',t',cs,fuel,p,h1,h2,h3,h4,_⟩:=qU hl _ _ hm
 have hg:Tryz.prog.globalNamed "pintle/slow.begin" = some 10:=by kernel_rfl
 obtain rfl:=Option.some.inj (hg.symm.trans h1)
 obtain rfl:=Option.some.inj ((show (Tryz.prog.globals[10]?).map (·.type)=some 148 by kernel_rfl).symm.trans h2)
 have nK:=Lib.cells_of_tab Tryz.underlying148 Tryz.underlying100 (by kernel_rfl) (by kernel_rfl) h4
 have:=World.var?_cell hg h3 j
 rw [this,<- Array.getElem?_toList,nK,List.getElem?_map,hj]
 rfl
def Sm:List (List Int):=[[0,4,8,12],[1,5,9,13],[2,6,10,14],[3,7,11,15],[0,5,10,15],[1,6,11,12],[2,7,8,13],[3,4,9,14]]
theorem Qz {W:World} {laid:List (String × DataW Unit)} (h:laidMet Tryz.prog laid W) (hm:("pintle/slow.rows",DataW.agg (Sm.map fun zs=>Lib.tabData .i64 zs))∈laid) (i j:Nat) (zs:List Int) (z:Int)
 (hi:Sm[i]?=some zs) (hj:zs[j]?=some z) (hj4:j<4):W.cell? ⟨11,i*4+j,none⟩=some (.int .i64 z):=by
 obtain ⟨ps,hl,_,_⟩:=h
 obtain ⟨g',t',cs,fuel,p,h1,h2,h3,h4,_⟩:=qU hl _ _ hm
 have hg:Tryz.prog.globalNamed "pintle/slow.rows" = some 11:=by kernel_rfl
 obtain rfl:=Option.some.inj (hg.symm.trans h1)
 obtain rfl:=Option.some.inj ((show (Tryz.prog.globals[11]?).map (·.type)=some 151 by kernel_rfl).symm.trans h2)
 have nK:=Em Tryz.underlying151 Tryz.underlying150 Tryz.underlying3 (by kernel_rfl) (by kernel_rfl) h4 i j zs z hi hj hj4
 have:=World.var?_cell hg h3 (i*4+j)
 rw [this,<- Array.getElem?_toList,nK]
theorem rJ {V:bF} {w:World} {l e b o:Nat} (hl:V.β l=some (l,0)) (he:V.β e=some (b,o)) (hc:w.cell? ⟨l,0,none⟩=some (.iface 367 (.pointer (some ⟨b,o,none⟩)))):okB V w l (.eY [.jS 367 (.ptr e true 0)]):=by
 refine ⟨[.iface 367 (.pointer (some ⟨b,o+0,none⟩))],by simp [SB.cells,aJ,den,he],l,0,hl,⟨uJ hc,fun s hs=>by simp at hs⟩,fun j v hj=>?_⟩
 cases j with
 | zero=>simp only [List.getElem?_cons_zero,Option.some.injEq] at hj;subst hj;simpa using hc
 | succ j=>simp at hj
theorem oQ {V:bF} {w:World} {l b o:Nat} {t:List UInt8} (hl:V.β l=some (b,o)) (h0:tZ w b) (hc:w.cell? ⟨b,o,none⟩=some (.string ⟨t.toArray⟩)):okB V w l (ZQ t):=by
 refine ⟨[.string ⟨t.toArray⟩],by simp [ZQ,SB.cells,aJ,den],b,o,hl,⟨uJ hc,fun s hs=>h0⟩,fun j v hj=>?_⟩
 cases j with
 | zero=>simp only [List.getElem?_cons_zero,Option.some.injEq] at hj;subst hj;simpa using hc
 | succ j=>simp at hj
theorem Tw {V:bF} {w:World} {l:Nat} {z:Int} (hl:V.β l=some (l,0)) (hc:w.cell? ⟨l,0,none⟩=some (.int .i64 z)):okB V w l (.eY [.int true .i64 z]):=by
 refine ⟨[.int .i64 z],by simp [SB.cells,aJ,den],l,0,hl,⟨uJ hc,fun s hs=>by simp at hs⟩,fun j v hj=>?_⟩
 cases j with
 | zero=>simp only [List.getElem?_cons_zero,Option.some.injEq] at hj;subst hj;simpa using hc
 | succ j=>simp at hj
theorem Da (V:bF) (k:IntKind):∀ zs:List Int,aJ V (zs.map (SV.int true k))=some (zs.map (Value.int k))
 | []=>rfl
 | z::r=>by simp [aJ,den,Da V k r]
theorem Mk {V:bF} {w:World} {l:Nat} {k:IntKind} {zs:List Int} (h0:0<zs.length) (hl:V.β l=some (l,0)) (hc:∀ (j:Nat) (z:Int),zs[j]?=some z->w.cell? ⟨l,j,none⟩=some (.int k z)):okB V w l (.eY (zs.map (SV.int true k))):=by
 refine ⟨zs.map (Value.int k),Da V k zs,l,0,hl,⟨uJ (hc 0 zs[0] (List.getElem?_eq_getElem h0)),fun s hs=>?_⟩,fun j v hj=>?_⟩
 .rw [List.getElem?_map] at hs
  obtain ⟨z,_,hz⟩:=Option.map_eq_some_iff.1 hs
  cases hz
 .rw [List.getElem?_map] at hj
  obtain ⟨z,hz,rfl⟩:=Option.map_eq_some_iff.1 hj
  simpa using hc j z hz
def EM:List Int:=[0,4,8,12,1,5,9,13,2,6,10,14,3,7,11,15,0,5,10,15,1,6,11,12,2,7,8,13,3,4,9,14]
theorem Yo (j:Nat) (z:Int) (h:EM[j]?=some z):∃ i k zs,j=i*4+k/\k<4/\Sm[i]?=some zs/\zs[k]?=some z:=by
 have hj:j<32:=(List.getElem?_eq_some_iff.1 h).1
 have key:∀ j:Fin 32,(Sm[j.1/4]?).bind (·[j.1%4]?)=EM[j.1]?:=by decide
 have:=key ⟨j,hj⟩
 simp only [h,Option.bind_eq_some_iff] at this
 obtain ⟨zs,h1,h2⟩:=this
 exact ⟨j/4,j%4,zs,by omega,Nat.mod_lt _ (by omega),h1,h2⟩
abbrev listed:List (String × DataW Unit):=Rows.cipherOfNothingUptoRow.laid
theorem aJa {W:World} {b o:Nat} {L:AW} (hE:Tm W b o L) {V:bF} (hσ:∀ k,200<=k->k<400->V.σ k=elV L k) (hL:L.length<=60) {k:Nat} {B:SB} (aYs:200<=k) (h:OF L k=some B):okB V W k B/\B.owned=false:=by
 have hV:OF L k≠none:=by rw [h];simp
 unfold OF at h
 cases hx:L[(k-200)/3]? with
 | none=>rw [hx] at h;cases h
 | some x=>
   have aYr:k<400:=by have:=(List.getElem?_eq_some_iff.1 hx).1;omega
   have hk:=hσ k aYs aYr
   unfold elV at hk
   rw [hx] at h hk
   obtain ⟨cs,hc,_⟩:=hE.el _ x hx
   simp only at h hk
   split at h
   .rename_i h0
    cases h
    rw [h0] at hk
    exact ⟨⟨_,rfl,x.2.1,hk,hc.a⟩,rfl⟩
   .rename_i h0
    cases h
    rw [h0] at hk
    exact ⟨⟨_,rfl,x.2.2,hk,hc.b⟩,rfl⟩
   .cases h
theorem zO {W:World} (h:laidMet Tryz.prog listed W) (b o:Nat) (hb:b<W.heap.size) (L:AW) (hL:L.length<=60) (hE:Tm W b o L) :
 ∃ V:bF,aG W (fun _=>False) V (oE (yZ 0 L) (OF L)) W/\(∀ k l,Sx.look k aB=some l->V.β l=some (k,0))/\V.top 400/\V.β 60=some (b,o):=by
 have pick:∀ {x:String × DataW Unit} (i:Nat),listed[i]?=some x->x∈listed:=fun i hi=>List.mem_of_getElem? hi
 obtain ⟨b0,o0,e0,f0,g0⟩:=nD h "pintle/api.ErrArg" _ 0 (pick 2 rfl) (by kernel_rfl) (by kernel_rfl)
 obtain ⟨b2,o2,e2,f2,g2⟩:=nD h "pintle/api.ErrRoom" _ 2 (pick 3 rfl) (by kernel_rfl) (by kernel_rfl)
 obtain ⟨b3,o3,e3,f3,g3⟩:=nD h "pintle/api.ErrNonce" _ 3 (pick 5 rfl) (by kernel_rfl) (by kernel_rfl)
 obtain ⟨b4,o4,e4,f4,g4⟩:=nD h "pintle/api.ErrShort" _ 4 (pick 4 rfl) (by kernel_rfl) (by kernel_rfl)
 obtain ⟨b5,o5,e5,f5,g5⟩:=nD h "pintle/api.ErrKey" _ 5 (pick 7 rfl) (by kernel_rfl) (by kernel_rfl)
 obtain ⟨b8,o8,e8,f8,g8⟩:=nD h "pintle/api.ErrAuth" _ 8 (pick 6 rfl) (by kernel_rfl) (by kernel_rfl)
 have i17:=Mv h "math/big.karatsubaThreshold" 40 17 (pick 10 rfl) (by kernel_rfl) (by kernel_rfl)
 have i18:=Mv h "math/big.divRecursiveThreshold" 40 18 (pick 9 rfl) (by kernel_rfl) (by kernel_rfl)
 have hbg:=Ny h (pick 13 rfl)
 have hr:=Qz h (pick 14 rfl)
 let bl:List (Nat × (Nat × Nat)):=[(60,(b,o)),(0,(0,0)),(1,(1,0)),(2,(2,0)),(3,(3,0)),(4,(4,0)),(5,(5,0)),(6,(6,0)),(7,(7,0)),(8,(8,0)),(10,(10,0)),(11,(11,0)),(15,(15,0)),(16,(16,0)),(17,(17,0)),(18,(18,0)),(27,(27,0)),
  (40,(b0,o0)),(42,(b2,o2)),(43,(b3,o3)),(44,(b4,o4)),(45,(b5,o5)),(48,(b8,o8))]
 let V:bF:=⟨fun l=>Sx.look l bl,fun k=>if 200<=k/\k<400 then elV L k else none⟩
 have hσ:∀ k,200<=k->k<400->V.σ k=elV L k:=fun k h1 h2=>if_pos ⟨h1,h2⟩
 have all:∀ l B,oE (yZ 0 L) (OF L) l=some B->okB V W l B/\B.owned=false:=by
  intro l B hl
  unfold oE at hl
  cases hk:Sx.look l ((60,SB.eY (yZ 0 L))::(ZR++Kg)) with
  | none=>
    rw [hk] at hl
    simp only at hl
    split at hl
    .cases hl
    .rename_i cK
     refine aJa hE hσ hL (Nat.le_of_not_lt fun q=>?_) hl
     rw [<- Nat.blt_eq,cK] at q
     cases q
  | some C=>
    rw [hk] at hl
    cases hl
    have hm:=gQ hk
    simp only [ZR,Kg,wE,List.cons_append,List.nil_append,List.mem_cons,List.not_mem_nil,or_false,Prod.mk.injEq] at hm
    rcases hm with ⟨rfl,rfl⟩ | ⟨rfl,rfl⟩ | ⟨rfl,rfl⟩ | ⟨rfl,rfl⟩ | ⟨rfl,rfl⟩ | ⟨rfl,rfl⟩ | ⟨rfl,rfl⟩ | ⟨rfl,rfl⟩ | ⟨rfl,rfl⟩ | ⟨rfl,rfl⟩ | ⟨rfl,rfl⟩ | ⟨rfl,rfl⟩ | ⟨rfl,rfl⟩ | ⟨rfl,rfl⟩ | ⟨rfl,rfl⟩ | ⟨rfl,rfl⟩ | ⟨rfl,rfl⟩
    .refine ⟨?_,rfl⟩
     obtain ⟨cs,h1,h2⟩:=Tx (V:=V) hσ hL hE L 0 fun i x hx=>by rwa [Nat.zero_add]
     refine ⟨cs,h1,b,o,rfl,⟨hb,fun s hs=>?_⟩,fun j v hj=>by simpa using h2 j v hj⟩
     cases L with
     | nil=>cases h1;simp at hs
     | cons x r=>
       obtain ⟨ds,hd,_⟩:=hE.el 0 x rfl
       have hc:=h2 0 _ hs
       obtain ⟨es,he,PF⟩:=hE.el 0 x rfl
       have:=PF 0 (.int .i64 x.1.kind) (by rw [he.cs];rfl)
       rw [hc] at this
       cases this
    .exact ⟨oQ rfl f0 g0,rfl⟩
    .exact ⟨oQ rfl f2 g2,rfl⟩
    .exact ⟨oQ rfl f3 g3,rfl⟩
    .exact ⟨oQ rfl f4 g4,rfl⟩
    .exact ⟨oQ rfl f5 g5,rfl⟩
    .exact ⟨oQ rfl f8 g8,rfl⟩
    .exact ⟨rJ rfl rfl e0,rfl⟩
    .exact ⟨rJ rfl rfl e2,rfl⟩
    .exact ⟨rJ rfl rfl e3,rfl⟩
    .exact ⟨rJ rfl rfl e4,rfl⟩
    .exact ⟨rJ rfl rfl e5,rfl⟩
    .exact ⟨rJ rfl rfl e8,rfl⟩
    .exact ⟨Tw rfl i17,rfl⟩
    .exact ⟨Tw rfl i18,rfl⟩
    .exact ⟨Mk (zs:=[1634760805,857760878,2036477234,1797285236]) (by decide) rfl hbg,rfl⟩
    .exact ⟨Mk (zs:=EM) (by decide) rfl fun j z hj=>(by
      obtain ⟨i,k,zs,rfl,hk,h1,h2⟩:=Yo j z hj
      exact hr i k zs z h1 h2 hk),rfl⟩
 refine ⟨V,⟨fun l B hl=>(all l B hl).1,fun l B l' B' n _ hl _ ho=>?_,fun l B n hl ho=>?_,gZ.refl _ _⟩,fun k l hk=>?_,fun l hl=>⟨?_,if_neg (by omega)⟩,rfl⟩
 .rw [(all l B hl).2] at ho;cases ho
 .rw [(all l B hl).2] at ho;cases ho
 .have hm:=gQ hk
  simp only [aB,List.mem_cons,List.not_mem_nil,or_false,Prod.mk.injEq] at hm
  rcases hm with ⟨rfl,rfl⟩ | ⟨rfl,rfl⟩ | ⟨rfl,rfl⟩ | ⟨rfl,rfl⟩ | ⟨rfl,rfl⟩ | ⟨rfl,rfl⟩ | ⟨rfl,rfl⟩ | ⟨rfl,rfl⟩ | ⟨rfl,rfl⟩ | ⟨rfl,rfl⟩ | ⟨rfl,rfl⟩ | ⟨rfl,rfl⟩ | ⟨rfl,rfl⟩ | ⟨rfl,rfl⟩ | ⟨rfl,rfl⟩ | ⟨rfl,rfl⟩ <;> rfl
 .show Sx.look l bl=none
  cases hlk:Sx.look l bl with
  | none=>rfl
  | some p=>
    exfalso
    have hm:=gQ hlk
    have jN:bl.all (fun x=>Nat.blt x.1 100)=true:=rfl
    have:=List.all_eq_true.1 jN _ hm
    simp only [Nat.blt_eq] at this
    omega
theorem walk {W:World} (h:laidMet Tryz.prog listed W) (b o cap:Nat) (hb:b<W.heap.size) (E:AW) (hl:E.length<=1073741824) (hE:Tm W b o (E.take 60)) (oW:∀ i x,i<60->E[i]?=some x->x.1.ok) :
 Calls Tryz.prog 3 #[.slice (some ⟨b,o,none⟩) E.length cap] W fun e w'=>e = .returned (.bool true)/\Below W.heap.size W w':=by
 obtain ⟨V,h1,h2,h3,h4⟩:=zO h b o hb (E.take 60) (by rw [List.length_take];omega) hE
 have hS:Fk (yZ 0 (E.take 60)) (OF (E.take 60)) (E.map (·.1)):=aFy _ _ fun i s hi hs=>by
  rw [List.getElem?_map] at hs
  obtain ⟨x,hx,rfl⟩:=Option.map_eq_some_iff.1 hs
  exact ⟨x,by rw [List.getElem?_take,if_pos hi];exact hx,rfl⟩
 obtain ⟨bb,hc⟩:=XF cap hS (by rw [List.length_map];exact hl) fun i s hi hs=>by
  rw [List.getElem?_map] at hs
  obtain ⟨x,hx,rfl⟩:=Option.map_eq_some_iff.1 hs
  exact oW i x hi hx
 refine hc.calls Tryz.func3 (by kernel_rfl) (c:=codeOf Tryz.f3) rfl h1 (fun n l hn=>h2 n l hn) (fun l NV _=>h3 l NV) h3 (xs:=[.slice (some ⟨b,o,none⟩) E.length cap]) ?_ fun V' x w' _ hx hT=>?_
 .simp only [aJ,den,h4,Option.bind_some,Nat.zero_mul,Nat.add_zero,decide_true,List.length_map,Option.map_some]
 .simp only [den,Option.some.injEq] at hx
  subst hx
  exact ⟨rfl,hT.frame.os,hT.frame.tape,hT.frame.output,hT.frame.size,fun k hk=>hT.frame.block k hk (fun h=>h)⟩
theorem HR {W:World} (h:laidMet Tryz.prog listed W) (hb:0<W.heap.size) :
 Calls Tryz.prog 3 #[.slice none 0 0] W fun e w'=>e = .returned (.bool true)/\Below W.heap.size W w':=by
 obtain ⟨V,h1,h2,h3,h4⟩:=zO h 0 0 hb [] (by simp) ⟨fun i x hx=>by simp at hx⟩
 have hT:aG W (fun _=>False) V AK W:=by
  have sub:∀ l B,AK l=some B->oE (yZ 0 []) (OF []) l=some B:=fun l B hl=>by
   unfold AK oE at hl
   unfold oE
   split at hl
   .rename_i hk;rw [show yZ 0 []=[] from rfl,hk];exact hl
   .split at hl <;> cases hl
  exact ⟨fun l B hl=>h1.ok l B (sub l B hl),fun l B l' B' n dP hl sB=>h1.kF l B l' B' n dP (sub l B hl) (sub l' B' sB),fun l B n hl=>h1.perm l B n (sub l B hl),h1.frame⟩
 refine aIm.calls Tryz.func3 (by kernel_rfl) (c:=codeOf Tryz.f3) rfl hT (fun n l hn=>h2 n l hn) (fun l NV _=>h3 l NV) h3 (xs:=[.slice none 0 0]) rfl fun V' x w' _ hx hT=>?_
 simp only [den,Option.some.injEq] at hx
 subst hx
 exact ⟨rfl,hT.frame.os,hT.frame.tape,hT.frame.output,hT.frame.size,fun k hk=>hT.frame.block k hk (fun h=>h)⟩
end Go.Proofs.YtaibhjpgbckbkaaGreatDoor.Cip
