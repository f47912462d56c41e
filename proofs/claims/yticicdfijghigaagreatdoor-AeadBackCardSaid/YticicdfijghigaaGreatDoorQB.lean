/- The symbolic executor, thirteenth text: copy, clear, literals of structs, arrays and slices, a slice as an array. -/
import Derived.IntWalk
import Derived.Defers
import Derived.LaidEql
import Derived.ChangeKeysEq
import Derived.Laws.BytesString
import Derived.LoopN
import Derived.Scope
import Derived.Test.YticicdfijghigaaGreatDoorQA
open Go
set_option maxRecDepth 100000
namespace Go.Proofs.YticicdfijghigaaGreatDoor.Sx
section Ht
variable {P:Program} {Γ:Env} {V:aY} {w w0:World} {M:Nat->Prop} {T:aZ} {g:Nat->Option SV} {a:Act} {o:Oper} {e:bJ}
def Ls:SV->Option (Nat × Nat × Nat)
 | .aG l true off len _=>some (l,off,len)
 | .cP l off len _=>some (l,off,len)
 | _=>none
theorem Cs {v:SV} {x:Value} {l off len:Nat} (h:Ls v=some (l,off,len)) (hv:den V v=some x):∃ p c,V.β l=some p/\x = .slice (some ⟨p.1,p.2+off,none⟩) len c:=by
 unfold Ls at h
 split at h
 .simp only [aU,Prod.mk.injEq] at h
  obtain ⟨rfl,rfl,rfl⟩:=h
  simp only [den,Option.map_eq_some_iff] at hv
  obtain ⟨p,hβ,rfl⟩:=hv
  exact ⟨p,_,hβ,rfl⟩
 .simp only [aU,Prod.mk.injEq] at h
  obtain ⟨rfl,rfl,rfl⟩:=h
  simp only [den,Option.map_eq_some_iff,Option.bind_eq_some_iff] at hv
  obtain ⟨p,hβ,c,_,rfl⟩:=hv
  exact ⟨p,_,hβ,rfl⟩
 .cases h
def Rq (T:aZ) (sz:Nat) (x y:SV):Option bJ:=
 match Ls x,Az T sz y with
 | some (l,off,len),some (m,ys)=>match T l with
   | some B=>match CM B true off (ys.take (Nat.min m len*sz)) with
     | some ([],B')=>some { val:=.int true .i64 ((Nat.min m len:Nat):Int),wr:=[(l,B')] }
     | _=>none
   | none=>none
 | none,some _=>match x with
   | .raw (.slice none 0 0)=>some { val:=.int true .i64 0 }
   | _=>none
 | _,_=>none
theorem BI (aT:cA P Γ) {T':aZ} (aL:∀ l B,T' l=some B->T l=some B) (hT:aC w0 M V T w) {lab:Nat} {dT sT ty el:TypeId} {te:TI} (ht:P.underlying dT=some (.slice el)) (eA:Γ.ty el=some te)
 {x y:SV} {u v:Value} (hx:den V x=some u) (hy:den V y=some v) (he:Rq T' te.size x y=some e):nZ P w0 M V T lab e (Builtin.copy_ #[dT,sT] ty #[u,v]) w:=by
 unfold Rq at he
 split at he
 case h_3=>cases he
 case h_2=>
  rename_i q hs hq
  split at he
  case h_2=>cases he
  cases he
  simp only [den,aU] at hx
  subst hx
  obtain ⟨_,i,z,hi,cD,_⟩:=aT el te eA
  refine ⟨V,.int .i64 0,w,?_,V.cN lab,rfl,by rw [jW T lab rfl rfl];exact hT⟩
  obtain ⟨m,ys⟩:=q
  obtain ⟨cy,Pn,iT,hh⟩:=rO (hT.sub aL) hy hq
  rcases hh with ⟨rfl,rfl,rfl⟩ | ⟨ad,c',rfl,hl,bV⟩
  .have hf:=run_firstCells_none (P:=P) (w:=w) te.size 0 0 0
   simp [Builtin.copy_,run_underlying ht,Builtin.lenOf,run_sizeOf hi,cD,hf,goInt]
  .have hf:=run_firstCells_some (P:=P) (w:=w) te.size 0 ad m c' [] (by simp) (fun j q hj=>by simp at hj)
   simp [Builtin.copy_,run_underlying ht,Builtin.lenOf,run_sizeOf hi,cD,hf,goInt]
 rename_i l off len m ys hs hq
 split at he
 case h_2=>cases he
 rename_i B hB
 split at he
 case h_2=>cases he
 rename_i B' hw
 simp only [aU] at he
 subst he
 obtain ⟨_,i,z,hi,cD,_⟩:=aT el te eA
 obtain ⟨p,c,hβ,rfl⟩:=Cs hs hx
 obtain ⟨cy,Pn,iT,hh⟩:=rO (hT.sub aL) hy hq
 have h1:=nQ iT Pn
 have hd:=eK (Nat.min m len*te.size) Pn
 obtain ⟨w',hr,oE⟩:=Il (P:=P) lab (.int true .i64 ((Nat.min m len:Nat):Int)) hT (aL l B hB) (b:=p.1) (o:=p.2) hβ hw (by simp) hd (fun q hq=>h1 q (List.mem_of_mem_take hq))
 refine ⟨V,_,w',?_,V.cN lab,rfl,oE⟩
 rcases hh with ⟨rfl,rfl,rfl⟩ | ⟨ad,c',rfl,hl,bV⟩
 .have hf:=run_firstCells_none (P:=P) (w:=w) te.size 0 0 0
  simp only [List.take_nil] at hr
  simp [Builtin.copy_,run_underlying ht,Builtin.lenOf,run_sizeOf hi,cD,hf,hr,goInt]
 .have hf:=run_firstCells_some (P:=P) (w:=w) te.size (Nat.min m len) ad m c' (cy.take (Nat.min m len*te.size))
   (by rw [List.length_take,hl];exact Nat.min_eq_left (Nat.mul_le_mul_right _ (Nat.min_le_left _ _)))
   (fun j q hj=>by
    rw [List.getElem?_take] at hj
    split at hj
    .exact bV j q hj
    .cases hj)
  simp [Builtin.copy_,run_underlying ht,Builtin.lenOf,run_sizeOf hi,cD,hf,hr,goInt]
def xD (zero:List SV) (n:Nat):List SV:=(List.range (n*zero.length)).map fun j=>zero.getD (j%zero.length) (.raw undef)
theorem Gl {zero:List SV} {z:Array Value} (h:aE V zero=some z.toList) (h0:0<zero.length) (n:Nat):aE V (xD zero n)=some (((Array.range (n*z.size)).map fun j=>z[j%z.size]!).toList):=by
 have hl:z.size=zero.length:=by have:=bB h;simpa using this
 have:=fZ (V:=V) (n*zero.length) (fun j=>zero.getD (j%zero.length) (.raw undef)) (fun j=>z[j%zero.length]!) (fun j _=>by
  have cI:j%zero.length<zero.length:=Nat.mod_lt _ h0
  obtain ⟨x,hx,hd⟩:=dX h (j%zero.length) _ (List.getElem?_eq_getElem cI)
  have e1:zero.getD (j%zero.length) (.raw undef)=zero[j%zero.length]:=by simp [List.getD_eq_getElem?_getD,cI]
  rw [e1,hd]
  have hz:j%zero.length<z.size:=by omega
  simp only [Array.getElem?_toList,Array.getElem?_eq_getElem hz,aU] at hx
  rw [<- hx]
  simp [getElem!_def,Array.getElem?_eq_getElem hz])
 rw [xD,this,hl]
 simp [Array.toList_range]
def Kg (T:aZ) (te:TI) (x:SV):Option bJ:=
 match x with
 | .raw (.slice none _ _)=>some { val:=.eL [] }
 | _=>match Ls x,Nat.blt 0 te.zero.length&&lL te.zero with
   | some (l,off,len),true=>match T l with
     | some B=>match CM B true off (xD te.zero len) with
       | some ([],B')=>some { val:=.eL [],wr:=[(l,B')] }
       | _=>none
     | none=>none
   | _,_=>none
theorem Zq {vs:List SV} (h:lL vs=true) {v:SV} (hv:v∈vs):TU v=true:=by
 unfold lL at h
 exact List.all_eq_true.1 h v hv
theorem Oc {zero:List SV} (h:lL zero=true) (h0:0<zero.length) (n:Nat):lL (xD zero n)=true:=by
 unfold lL xD
 rw [List.all_eq_true]
 intro v hv
 obtain ⟨j,_,rfl⟩:=List.mem_map.1 hv
 have cI:j%zero.length<zero.length:=Nat.mod_lt _ h0
 simp only [List.getD_eq_getElem?_getD,List.getElem?_eq_getElem cI,Option.getD_some]
 exact Zq h (List.getElem_mem cI)
theorem Tt (aT:cA P Γ) {T':aZ} (aL:∀ l B,T' l=some B->T l=some B) (hT:aC w0 M V T w) {lab:Nat} {t ty el:TypeId} {te:TI} (ht:P.underlying t=some (.slice el)) (eA:Γ.ty el=some te)
 {x:SV} {u:Value} (hx:den V x=some u) (he:Kg T' te x=some e):nZ P w0 M V T lab e (Builtin.clear_ #[t] ty #[u]) w:=by
 unfold Kg at he
 split at he
 .simp only [aU] at he
  subst he
  simp only [den,aU] at hx
  subst hx
  exact oX ⟨.tuple #[],by simp [Builtin.clear_,run_underlying ht],by simp [den,aE],rfl,rfl⟩ hT
 .split at he
  case h_2=>cases he
  rename_i l off len hs hz
  split at he
  case h_2=>cases he
  rename_i B hB
  split at he
  case h_2=>cases he
  rename_i B' hw
  simp only [aU] at he
  subst he
  simp only [Bool.and_eq_true] at hz
  have h0:0<te.zero.length:=by simpa [Nat.blt_eq] using hz.1
  obtain ⟨_,i,z,hi,cD,_,RY,hzero⟩:=aT el te eA
  obtain ⟨p,c,hβ,rfl⟩:=Cs hs hx
  have hd:=Gl (V:=V) (hzero V) h0 len
  have h1:=nQ (Oc hz.2 h0 len) hd
  obtain ⟨w',hr,oE⟩:=Il (P:=P) lab (.eL []) hT (aL l B hB) (b:=p.1) (o:=p.2) hβ hw (by simp) hd h1
  cases len with
  | zero=>
    refine ⟨V,.tuple #[],w,?_,V.cN lab,by simp [den,aE],?_⟩
    .simp [Builtin.clear_,run_underlying ht]
    .have:w'=w:=by
      have e0:((Array.range (0*z.cells.size)).map fun j=>z.cells[j%z.cells.size]!).toList=[]:=by simp
      rw [e0] at hr
      simp only [storeCells,Sem.run_pure,Result.ok.injEq,true_and] at hr
      exact hr.symm
     rw [<- this];exact oE
  | succ n=>
    refine ⟨V,.tuple #[],w',?_,V.cN lab,by simp [den,aE],oE⟩
    have zO:(Builtin.zeroCells z.cells (n+1)).toList=((Array.range ((n+1)*z.cells.size)).map fun j=>z.cells[j%z.cells.size]!).toList:=rfl
    rw [<- zO] at hr
    simp [Builtin.clear_,run_underlying ht,eF hi RY,hr]
def evP (Γ:Env) (g:Nat->Option SV):List (Nat × Operand)->Option (List (Nat × SV))
 | []=>some []
 | (i,x)::r=>match ev Γ g x,evP Γ g r with
   | some v,some vs=>some ((i,v)::vs)
   | _,_=>none
theorem Re (ht:cE V g a) (hg:bL Γ V):∀ {ps:List (Nat × Operand)} {vs:List (Nat × SV)},evP Γ g ps=some vs ->
 (ps.map fun p=>(p.1,a.eval p.2)).map (·.1)=vs.map (·.1)/\aE V (vs.map (·.2))=some ((ps.map fun p=>(p.1,a.eval p.2)).map (·.2))
 | [],vs,h=>by simp only [evP,aU] at h;subst h;simp [aE]
 | (i,x)::r,vs,h=>by
   simp only [evP] at h
   split at h
   .rename_i v us hv pA
    cases h
    obtain ⟨h1,h2⟩:=Re ht hg pA
    refine ⟨by simp only [List.map_cons,h1],?_⟩
    simp only [List.map_cons,aE,bF ht hg hv,Option.bind_some,h2,Option.map_some]
   .cases h
def placesOf (Γ:Env):List Field->Option (List (Nat × Nat))
 | []=>some []
 | f::r=>match Γ.ty f.type,placesOf Γ r with
   | some ti,some ps=>some ((f.offset,ti.size)::ps)
   | _,_=>none
theorem yP (aT:cA P Γ) (w:World):∀ {fs:List Field} {ps:List (Nat × Nat)},placesOf Γ fs=some ps ->
 (fs.mapM (m:=Sem) fun f=>do pure (f.offset,<- sizeOf f.type)).run P w = .ok ps w
 | [],ps,h=>by simp only [placesOf,aU] at h;subst h;simp
 | f::r,ps,h=>by
   simp only [placesOf] at h
   split at h
   .rename_i ti qs dV hqs
    cases h
    obtain ⟨_,i,z,hi,cD,_⟩:=aT _ _ dV
    have ih:=yP aT w hqs
    simp only [List.mapM_cons,Sem.run_bind,run_sizeOf hi,Result.andThen_ok,Sem.run_pure,ih,cD]
   .cases h
def yM (a b:IntKind):Bool:=decide (a=b)
def cO (k:IntKind) (n:Nat) (xs:List Int):List SV:=(List.range n).map fun j=>.int false k (xs.getD j 0)
theorem wD {V:aY} {k:IntKind} {n:Nat} {xs:List Int} (h:xs.length=n):aE V (cO k n xs)=some (xs.map (Value.int k)):=by
 unfold cO
 rw [fZ (V:=V) n (fun j=>.int false k (xs.getD j 0)) (fun j=>.int k (xs.getD j 0)) (fun j _=>rfl)]
 congr 1
 apply List.ext_getElem
 .simp [h]
 .intro i h1 h2
  have h3:i<xs.length:=by simpa using h2
  simp [List.getD_eq_getElem?_getD,h3]
def Ie (place:Nat->Option (Nat × Nat)):List (Nat × SV)->List Prop × List (Nat × SV)
 | []=>([],[])
 | (i,v)::r=>match Ie place r with
   | (ob,r')=>match v,place i with
     | .ai k xs,some (_,n)=>((xs.length=n)::ob,(i,.agg (cO k n xs))::r')
     | v,_=>(ob,(i,v)::r')
theorem Ac {place:Nat->Option (Nat × Nat)}:∀ {l r:List (Nat × SV)} {ob:List Prop},Ie place l=(ob,r)->(∀ q∈ob,q)->r.map (·.1)=l.map (·.1)/\aE V (r.map (·.2))=aE V (l.map (·.2))
 | [],r,ob,h,ho=>by simp only [Ie,Prod.mk.injEq] at h;obtain ⟨_,rfl⟩:=h;exact ⟨rfl,rfl⟩
 | (i,v)::l,r,ob,h,ho=>by
   simp only [Ie] at h
   obtain ⟨ob1,r1,h1⟩:∃ ob1 r1,Ie place l=(ob1,r1):=⟨_,_,rfl⟩
   rw [h1] at h
   simp only at h
   have plain:(ob1,(i,v)::r1)=(ob,r)->r.map (·.1)=((i,v)::l).map (·.1)/\aE V (r.map (·.2))=aE V (((i,v)::l).map (·.2)):=by
    intro h
    simp only [Prod.mk.injEq] at h
    obtain ⟨rfl,rfl⟩:=h
    obtain ⟨e1,e2⟩:=Ac h1 ho
    exact ⟨by simp [e1],by simp only [List.map_cons,aE,e2]⟩
   split at h
   .rename_i k xs _ n _
    simp only [Prod.mk.injEq] at h
    obtain ⟨rfl,rfl⟩:=h
    obtain ⟨e1,e2⟩:=Ac h1 (fun q hq=>ho q (List.mem_cons_of_mem _ hq))
    have hn:xs.length=n:=ho _ cM
    exact ⟨by simp [e1],by simp only [List.map_cons,aE,den,e2,wD hn,Option.map_some]⟩
   .exact plain h
def Rt (Γ:Env) (g:Nat->Option SV) (T:aZ) (t:TypeId) (parts:Array (Nat × Operand)):Option bJ:=
 match Γ.ty t,evP Γ g parts.toList with
 | some ti,some vs=>match ti.desc with
   | .struct fs=>match placesOf Γ fs.toList with
     | some ps=>match Ie (fun i=>ps[i]?) vs with
       | (ob,vs)=>(By T (fun i=>ps[i]?) ti.zero vs).map fun r=>{ bM:=ob,val:=.agg r }
     | none=>none
   | .array _ el=>match Γ.ty el with
     | some te=>match Ie (fun i=>some (i*te.size,te.size)) vs with
       | (ob,vs)=>(By T (fun i=>some (i*te.size,te.size)) ti.zero vs).map fun r=>{ bM:=ob,val:=.agg r }
     | none=>none
   | _=>none
 | _,_=>none
theorem BL (aT:cA P Γ) (ht:cE V g a) (hg:bL Γ V) {T':aZ} (aL:∀ l B,T' l=some B->T l=some B) (hT:aC w0 M V T w) {t:TypeId} {parts:Array (Nat × Operand)} (bT:o.op = .build t parts) (he:Rt Γ g T' t parts=some e) (ho:∀ q∈e.bM,q) (lab:Nat):kE P w0 M V T lab e o a w:=by
 unfold Rt at he
 split at he
 case h_2=>cases he
 rename_i ti vs dV hvs
 obtain ⟨hu,i,z,hi,cD,_,hz,hzero⟩:=aT t ti dV
 obtain ⟨h1,h2⟩:=Re ht hg hvs
 have Pk:(parts.map fun (p:Nat × Operand)=>(p.1,a.eval p.2)).toList=parts.toList.map fun p=>(p.1,a.eval p.2):=by simp
 split at he
 .rename_i fs hd
  rw [hd] at hu
  split at he
  case h_2=>cases he
  rename_i ps hps
  obtain ⟨ob,Kl,hex⟩:∃ ob Kl,Ie (fun i=>ps[i]?) vs=(ob,Kl):=⟨_,_,rfl⟩
  rw [hex] at he
  simp only [Option.map_eq_some_iff] at he
  obtain ⟨r,hr,rfl⟩:=he
  obtain ⟨e1,e2⟩:=Ac (V:=V) hex ho
  obtain ⟨rs,Ya,hdr⟩:=wF (V:=V) aL hT hr (hzero V) (h1.trans e1.symm) (e2.trans h2)
  refine bC (x:=.agg rs) ?_ (by simp [den,hdr]) rfl rfl hT
  have hm:(fs.mapM (m:=Sem) fun f=>do pure (f.offset,<- sizeOf f.type)).run P w = .ok ps.toArray w:=by
   rw [Array.mapM_eq_mapM_toList]
   simp only [map_eq_pure_bind,Sem.run_bind,yP aT w hps,Result.andThen_ok,Sem.run_pure]
  have Qb:Instr.fill (fun i=>ps.toArray[i]?) z.cells (parts.toList.map fun p=>(p.1,a.eval p.2))=some rs:=by
   simpa using Ya
  unfold execOp
  simp only [bT,Instr.build,Sem.run_bind,eF hi hz,Result.andThen_ok,run_underlying hu w,hm,Pk,Qb,Sem.run_pure]
 .rename_i n el hd
  rw [hd] at hu
  split at he
  case h_2=>cases he
  rename_i te eA
  obtain ⟨_,i2,z2,Ui,aTo,_⟩:=aT el te eA
  obtain ⟨ob,Kl,hex⟩:∃ ob Kl,Ie (fun i=>some (i*te.size,te.size)) vs=(ob,Kl):=⟨_,_,rfl⟩
  rw [hex] at he
  simp only [Option.map_eq_some_iff] at he
  obtain ⟨r,hr,rfl⟩:=he
  obtain ⟨e1,e2⟩:=Ac (V:=V) hex ho
  obtain ⟨rs,Ya,hdr⟩:=wF (V:=V) aL hT hr (hzero V) (h1.trans e1.symm) (e2.trans h2)
  refine bC (x:=.agg rs) ?_ (by simp [den,hdr]) rfl rfl hT
  have Qb:Instr.fill (fun i=>some (i*te.size,te.size)) z.cells (parts.toList.map fun p=>(p.1,a.eval p.2))=some rs:=by
   simpa using Ya
  unfold execOp
  simp only [bT,Instr.build,Sem.run_bind,eF hi hz,Result.andThen_ok,run_underlying hu w,run_sizeOf Ui,aTo,Pk,Qb,Sem.run_pure]
 .cases he
def rG (Γ:Env) (g:Nat->Option SV) (T:aZ) (t:TypeId) (len:Nat) (parts:Array (Nat × Operand)) (lab:Nat):Option bJ:=
 match Γ.ty t,evP Γ g parts.toList with
 | some ti,some vs=>match ti.desc with
   | .slice el=>match Γ.ty el with
     | some te=>match Nat.blt 0 te.size&&Nat.beq te.zero.length te.size&&Nat.ble (len*te.size) 16777216 with
       | true=>(By T (fun i=>some (i*te.size,te.size)) (xD te.zero len) vs).map fun r=>{ val:=.aG lab true 0 len len,new:=[.own r el] }
       | false=>none
     | none=>none
   | _=>none
 | _,_=>none
theorem Dw (aT:cA P Γ) (ht:cE V g a) (hg:bL Γ V) {T':aZ} (aL:∀ l B,T' l=some B->T l=some B) (hT:aC w0 M V T w) {t:TypeId} {len:Nat} {parts:Array (Nat × Operand)} (bT:o.op = .buildSlice t len parts) {lab:Nat} (hf:V.fresh lab)
 (he:rG Γ g T' t len parts lab=some e):kE P w0 M V T lab e o a w:=by
 unfold rG at he
 split at he
 case h_2=>cases he
 rename_i ti vs dV hvs
 obtain ⟨hu,_⟩:=aT t ti dV
 obtain ⟨h1,h2⟩:=Re ht hg hvs
 have Pk:(parts.map fun (p:Nat × Operand)=>(p.1,a.eval p.2)).toList=parts.toList.map fun p=>(p.1,a.eval p.2):=by simp
 split at he
 case h_2=>cases he
 rename_i el hd
 rw [hd] at hu
 split at he
 case h_2=>cases he
 rename_i te eA
 obtain ⟨_,i,z,hi,cD,_,hz,hzero⟩:=aT el te eA
 split at he
 case h_2=>cases he
 rename_i hc
 simp only [Bool.and_eq_true] at hc
 have DE:0<te.size:=by simpa [Nat.blt_eq] using hc.1.1
 have uC:=cH hc.1.2
 have hc3:=Nat.le_of_ble_eq_true hc.2
 have qJ:z.cells.size=te.size:=by
  have h1:=bB (hzero V)
  rw [<- uC,<- h1];simp
 simp only [Option.map_eq_some_iff] at he
 obtain ⟨r,hr,rfl⟩:=he
 have aYi:=Gl (V:=V) (hzero V) (by omega) len
 obtain ⟨rs,Ya,hdr⟩:=wF (V:=V) (T':=T') aL hT hr aYi h1 h2
 intro K Q hK
 unfold Oper.wp
 have Qb:Instr.fill (fun i=>some (i*te.size,te.size)) ((Array.range (len*te.size)).map (z.cells[· % z.cells.size]!)) (parts.toList.map fun p=>(p.1,a.eval p.2))=some rs:=by
  rw [<- Ya,qJ]
 have dR:(execOp a.eval o).run P w = .ok (.value (.slice (some ⟨w.heap.size,0,none⟩) len len)) (w.alloc (.cells rs el)):=by
  unfold execOp
  have Es:¬ (len*te.size>2^24):=by omega
  by_cases h0:len*te.size=0
  .have hlen:len=0:=by
    rcases Nat.mul_eq_zero.1 h0 with h | h
    .exact h
    .omega
   subst hlen
   have hr0:Array.range (0*te.size) = #[]:=by rw [Nat.zero_mul];rfl
   rw [hr0,Array.map_empty] at Qb
   simp only [bT,Instr.buildSlice,Sem.run_bind,run_underlying hu w,Result.andThen_ok,run_sizeOf hi,cD,if_neg Es,if_pos h0,Sem.run_pure,hr0,Array.map_empty,Pk,Qb]
   simp [newRow]
  .simp only [bT,Instr.buildSlice,Sem.run_bind,run_underlying hu w,Result.andThen_ok,run_sizeOf hi,cD,if_neg Es,if_neg h0,eF hi hz,Sem.run_pure,Pk,Qb]
   simp [newRow]
 rw [dR,Oper.upon_value]
 have:=hT.alloc hf (B:=.own r el) (cs:=rs.toList) (.inl rfl) hdr (.aG lab true 0 len len) []
 exact hK (V.put lab (w.heap.size,0)) _ _ (aY.jU hf lab (Nat.le_refl _) (by omega) _) (by simp [den,aY.put]) this
def aGx (Γ:Env) (g:Nat->Option SV) (t:TypeId) (x:Operand):Option bJ:=
 match Γ.ty t,ev Γ g x with
 | some ti,some v=>match ti.desc,Ls v with
   | .array n _,some (l,off,len)=>match Nat.ble n len with
     | true=>some { val:=.ptr l true off }
     | false=>none
   | .array n _,none=>match v with
     | .aG l false off len _=>some { bM:=[n<=len],val:=.ptr l false off }
     | .eV l len=>match Nat.blt 0 n with
       | true=>some { bM:=[n<=len],val:=.jH l 0 }
       | false=>none
     | _=>none
   | _,_=>none
 | _,_=>none
theorem aCr (aT:cA P Γ) (ht:cE V g a) (hg:bL Γ V) (hT:aC w0 M V T w) {t:TypeId} {x:Operand} (bT:o.op = .sliceToArrayPointer t x) (he:aGx Γ g t x=some e) (ho:∀ q∈e.bM,q) (lab:Nat):kE P w0 M V T lab e o a w:=by
 unfold aGx at he
 split at he
 case h_2=>cases he
 rename_i ti v dV hv
 split at he
 case h_3=>cases he
 case h_2=>
  rename_i n el hd hs
  split at he
  case h_3=>cases he
  case h_2=>
   rename_i l len
   split at he
   case h_2=>cases he
   rename_i Hq
   have Hq:0<n:=by simpa [Nat.blt_eq] using Hq
   simp only [aU] at he
   subst he
   have hle:n<=len:=ho _ cM
   obtain ⟨hu,_⟩:=aT t ti dV
   rw [hd] at hu
   have hx:=bF ht hg hv
   simp only [den,Option.bind_eq_some_iff] at hx
   obtain ⟨y,hσ,hx⟩:=hx
   obtain ⟨hx,hy⟩:=cY hx
   rcases hy with ⟨_,h0⟩ | ⟨b,base,c,rfl,_⟩
   .omega
   refine bC (x:=.pointer (some ⟨b,base,none⟩)) ?_ (by simp [den,hσ,Addr.add]) rfl rfl hT
   unfold execOp
   have Es:¬ len<n:=by omega
   simp only [bT,hx,Instr.arrayAt,Sem.run_bind,run_underlying hu w,Result.andThen_ok,if_neg Es,Sem.run_pure]
  rename_i l off len cap
  simp only [aU] at he
  subst he
  have hle:n<=len:=ho _ cM
  obtain ⟨hu,_⟩:=aT t ti dV
  rw [hd] at hu
  have hx:=bF ht hg hv
  simp only [den,Option.map_eq_some_iff] at hx
  obtain ⟨p,hβ,hx⟩:=hx
  refine bC (x:=.pointer (some ⟨p.1,p.2+off,none⟩)) ?_ (by simp [den,hβ]) rfl rfl hT
  unfold execOp
  have Es:¬ len<n:=by omega
  simp only [bT,<- hx,Instr.arrayAt,Sem.run_bind,run_underlying hu w,Result.andThen_ok,if_neg Es,Sem.run_pure]
 rename_i n el l off len hd hs
 split at he
 case h_2=>cases he
 rename_i hle
 have hle:=Nat.le_of_ble_eq_true hle
 simp only [aU] at he
 subst he
 obtain ⟨hu,_⟩:=aT t ti dV
 rw [hd] at hu
 obtain ⟨p,c,hβ,hx⟩:=Cs hs (bF ht hg hv)
 refine bC (x:=.pointer (some ⟨p.1,p.2+off,none⟩)) ?_ (by simp [den,hβ]) rfl rfl hT
 unfold execOp
 have Es:¬ len<n:=by omega
 simp only [bT,hx,Instr.arrayAt,Sem.run_bind,run_underlying hu w,Result.andThen_ok,if_neg Es,Sem.run_pure]
def zOf:SV->Option (SV × Value)
 | .int _ k z=>some (.int true k z,.int k z)
 | .raw (.slice none 0 0)=>some (.raw (.slice none 0 0),.slice none 0 0)
 | _=>none
theorem aHk {v s:SV} {x:Value} (h:zOf v=some (s,x)) (V:aY):den V v=some x/\den V s=some x/\x.oneCell'=true:=by
 unfold zOf at h
 split at h
 .cases h;exact ⟨rfl,rfl,rfl⟩
 .cases h;exact ⟨rfl,rfl,rfl⟩
 .cases h
def De (d:TypeDesc) (te:TI) (el:TypeId) (lab:Nat) (x y:SV):Option bJ:=
 match d,x,y with
 | .int _,.raw (.slice none 0 0),.int sn _ n=>match sB sn (0<n/\n*te.bytes<=140737488355328/\n<=9223372036854775807),te.zero,Nat.beq te.size 1 with
   | some ob,[z],true=>match zOf z with
     | some (s,_)=>some { bM:=ob,val:=.cP lab 0 n.toNat 0,new:=[.row 1 (List.replicate n.toNat s) el] }
     | none=>none
   | _,_,_=>none
 | _,_,_=>none
theorem iO (v:Value) (n:Nat):Builtin.zeroCells #[v] n=(List.replicate n v).toArray:=by
 apply Array.ext
 .simp [Builtin.zeroCells]
 .intro i h1 h2
  simp [Builtin.zeroCells,Nat.mod_one]
theorem qA (w:World) {t t2 ty el:TypeId} {ik:IntKind} {i:TypeInfo} {z:Value} (ht:P.underlying t=some (.slice el)) (Ph:P.underlying t2=some (.int ik)) (hi:P.info? el=some i) (hz:i.zero=some z) (gJ:i.size=1) (k0:IntKind) (n:Nat)
 (h0:0<n) (h63:(n:Int)<=9223372036854775807) (hb:n*i.bytes<=140737488355328) :
 (Builtin.append_ #[t,t2] ty #[.slice none 0 0,.int k0 n]).run P w = .ok (.slice (some ⟨w.heap.size,0,none⟩) n (grownCap w n 0 el))
  (w.drew.alloc (.cells (Builtin.zeroCells z.cells n++Builtin.zeroCells z.cells (grownCap w n 0 el-n)) el)):=by
 have hw:IntKind.i64.wrap (n:Int)=n:=IntWalk.i64_in _ (by omega)
 have hn:n≠0:=by omega
 have aGj:¬ (9223372036854775807<(n:Int)):=by omega
 have h1:¬ ((n:Int)<0):=by omega
 have h2:¬ (281474976710656<(n:Int)*(i.bytes:Int)):=by
  have:((n*i.bytes:Nat):Int)<=140737488355328:=by omega
  rw [Int.natCast_mul] at this
  omega
 have aGk:¬ (281474976710656<Builtin.nextslicecap n 0*i.bytes):=by rw [nextslicecap_zero h0];omega
 simp [Builtin.append_,run_underlying ht,run_underlying Ph,sizeOf,typeInfo,zeroValue,hi,hz,gJ,asInt,asIntOf,hw,h1,h2,hn,aGj,aGk,Question.forced,newRow,grownCap,Builtin.firstCells]
theorem On (aT:cA P Γ) (hT:aC w0 M V T w) {lab:Nat} (hf:V.fresh lab) {t t2 ty el:TypeId} {d:TypeDesc} {te:TI} (ht:P.underlying t=some (.slice el)) (Ph:P.underlying t2=some d) (eA:Γ.ty el=some te)
 {x y:SV} {u v:Value} (hx:den V x=some u) (hy:den V y=some v) (he:De d te el lab x y=some e) (ho:∀ q∈e.bM,q):nZ P w0 M V T lab e (Builtin.append_ #[t,t2] ty #[u,v]) w:=by
 unfold De at he
 split at he
 case h_2=>cases he
 rename_i ik sn kk n
 split at he
 case h_2=>cases he
 rename_i ob z0 hc QZ hs
 split at he
 case h_2=>cases he
 rename_i s x0 hzo
 have hs:=cH hs
 simp only [aU] at he
 subst he
 obtain ⟨h1,h2,h3⟩:=hH hc ho
 simp only [den,aU] at hx hy
 subst hx hy
 obtain ⟨_,i,zv,hi,cD,jJ,hz,hzero⟩:=aT el te eA
 obtain ⟨m,rfl⟩:=Int.eq_ofNat_of_zero_le (Int.le_of_lt h1)
 have hm:0<m:=by omega
 obtain ⟨zo1,zo2,zo3⟩:=aHk hzo V
 have zO:zv.cells = #[x0]:=by
  have:=hzero V
  rw [QZ] at this
  simp only [aE,zo1,Option.bind_some,Option.map_some,aU] at this
  apply Array.ext'
  exact this.symm
 have hb:m*i.bytes<=140737488355328:=by
  rw [jJ]
  have:((m*te.bytes:Nat):Int)<=140737488355328:=by rw [Int.natCast_mul];exact h2
  exact Int.ofNat_le.1 this
 have hr:=qA (P:=P) (ty:=ty) w ht Ph hi hz (cD.trans hs) kk m hm h3 hb
 have hgc:=grownCap_ge w m 0 el
 have hgm:grownCap w m 0 el<=maxLen:=grownCap_le_maxLen w m 0 el (by simp only [maxLen];omega)
 have bK:(w.drew.alloc (.cells (Builtin.zeroCells zv.cells m++Builtin.zeroCells zv.cells (grownCap w m 0 el-m)) el)).ownsRow 0 el 1 (.slice (some ⟨w.heap.size,0,none⟩) m (grownCap w m 0 el)) m (List.replicate m x0):=by
  refine ⟨by simp,.inr ⟨w.heap.size,_,_,rfl,Nat.zero_le _,heap_alloc_new w.drew _,hgc,hgm,?_,?_⟩⟩
  .rw [zO];simp [iO];omega
  .rw [zO];simp [iO]
 have qL:w.grownBy (w.drew.alloc (.cells (Builtin.zeroCells zv.cells m++Builtin.zeroCells zv.cells (grownCap w m 0 el-m)) el)) none:=⟨rfl,rfl,rfl,by simp,fun k hk _=>heap_alloc_old w.drew _ hk⟩
 have Yv:aE V (List.replicate m s)=some (List.replicate m x0):=by
  clear hr hgc hgm bK qL hb h1 h2 h3 hm hc ho
  induction m with
  | zero=>rfl
  | succ m ih=>simp [List.replicate_succ,aE,zo2,ih]
 obtain ⟨b,cap,Ov,oE⟩:=hT.Ah (lab:=lab) hf (lo:=none) (own:=none) Yv bK (by simp) qL (.inr rfl) (fun _=>rfl) (fun l hl=>(by cases hl)) (.cP lab 0 m 0) ob
 refine ⟨_,_,_,hr,aY.qZ hf lab (Nat.le_refl _) (by omega) _ _,?_,oE⟩
 simp [den,aY.En,aY.put,aY.aV,nP,Ov]
def EK (Γ:Env) (d:TypeDesc):Option IntKind:=match d with
 | .array _ el=>match Γ.ty el with
   | some te=>match te.desc,Nat.beq te.size 1 with
     | .int k,true=>some k
     | _,_=>none
   | none=>none
 | _=>none
def Rm (Γ:Env) (g:Nat->Option SV) (T:aZ) (t:TypeId) (x:Operand):Option bJ:=
 match ev Γ g x,Γ.ty t with
 | some (.ptr l s off),some ti=>match EK Γ ti.desc,T l with
   | some _,some (.ints k xs _)=>match s&&Nat.beq off 0 with
     | true=>some (dW (.ai k xs) [xs.length=ti.size])
     | false=>some (dW (.ai k ((xs.drop off).take ti.size)) [off+ti.size<=xs.length])
   | some _,some (.nM k xs)=>some (dW (.ai k ((xs.drop off).take ti.size)) [off+ti.size<=xs.length])
   | _,_=>none
 | _,_=>none
theorem pY (xs:List Int) (off n:Nat) (h:off+n<=xs.length) (k:IntKind):(List.range n).map (fun j=>Value.int k (xs.getD (off+j) 0))=((xs.drop off).take n).map (Value.int k):=by
 apply List.ext_getElem
 .simp;omega
 .intro i h1 h2
  simp only [List.length_map,List.length_range] at h1
  have h3:off+i<xs.length:=by omega
  simp [List.getD_eq_getElem?_getD,h3]
theorem BE (aT:cA P Γ) (ht:cE V g a) (hg:bL Γ V) {T':aZ} (aL:∀ l B,T' l=some B->T l=some B) (hT:aC w0 M V T w) {t:TypeId} {x:Operand} (bT:o.op = .load t x)
 (he:Rm Γ g T' t x=some e) (ho:∀ q∈e.bM,q) (lab:Nat):kE P w0 M V T lab e o a w:=by
 unfold Rm at he
 split at he
 case h_2=>cases he
 rename_i l s off ti hx dV
 have ex:=bF ht hg hx
 simp only [den,Option.map_eq_some_iff] at ex
 obtain ⟨⟨b,base⟩,hβ,ex⟩:=ex
 obtain ⟨hu,i,z,hi,gJ,_⟩:=aT t ti dV
 have main:∀ (B:SB) (k:IntKind) (xs ys:List Int),(B = .ints k xs (match B with | .ints _ _ ty=>ty | _=>0)\/B = .nM k xs)->T' l=some B->sE ti.desc=true->off+ti.size<=xs.length->ys=(xs.drop off).take ti.size->e.val = .ai k ys->e.new=[]->e.wr=[]->kE P w0 M V T lab e o a w:=by
  intro B k xs ys hBk hB gL hle qK h1 h2 h3
  have hr:Uc B false off ti.size=some ([off+ti.size<=xs.length],(List.range ti.size).map fun j=>.int false k (xs.getD (off+j) 0)):=by
   rcases hBk with q | q <;> rw [q] <;> rfl
  obtain ⟨zs,g1,g2,g3⟩:=pG (hT.ok l B (aL l B hB)) hβ hr (by intro q hq;simp only [List.mem_singleton] at hq;subst hq;exact hle)
  rw [fZ (V:=V) ti.size (fun j=>.int false k (xs.getD (off+j) 0)) (fun j=>.int k (xs.getD (off+j) 0)) (fun j _=>rfl),pY xs off ti.size hle k] at g1
  cases g1
  have:=(dK hu hi b (base+off) _ (by rw [g2,gJ]) g3).1 gL
  refine bC (x:=.agg (((xs.drop off).take ti.size).map (Value.int k)).toArray) ?_ (by rw [h1,qK];rfl) h2 h3 hT
  unfold execOp
  simp only [bT,<- ex,Instr.loadAt,Instr.sureAddr,Sem.run_bind,Sem.run_pure,Result.andThen_ok,this]
 have gL:∀ k0,EK Γ ti.desc=some k0->sE ti.desc=true:=by
  intro k0 h
  unfold EK at h
  split at h
  .rename_i hd;rw [hd];rfl
  .cases h
 split at he
 .rename_i k0 k xs ty ha hB
  split at he
  .rename_i hs
   simp only [Bool.and_eq_true] at hs
   have h0:=cH hs.2
   subst h0
   simp only [dW,aU] at he
   subst he
   have hl:xs.length=ti.size:=ho _ (by simp)
   exact main (.ints k xs ty) k xs xs (.inl rfl) hB (gL _ ha) (by omega) (by rw [List.drop_zero,<- hl,List.take_length]) rfl rfl rfl
  .simp only [dW,aU] at he
   subst he
   exact main (.ints k xs ty) k xs _ (.inl rfl) hB (gL _ ha) (ho _ (by simp)) rfl rfl rfl rfl
 .rename_i k0 k xs ha hB
  simp only [dW,aU] at he
  subst he
  exact main (.nM k xs) k xs _ (.inr rfl) hB (gL _ ha) (ho _ (by simp)) rfl rfl rfl rfl
 .cases he
def wrA (B:SB) (s:Bool) (off n:Nat) (k:IntKind) (xs:List Int):Option (List Prop × SB):=
 match B with
 | .ints k2 ys ty=>match yM k k2,s&&Nat.beq off 0 with
   | true,true=>some ([xs.length=n/\ys.length=n],.ints k xs ty)
   | true,false=>some ([xs.length=n/\off+n<=ys.length],.ints k (ys.take off++xs++ys.drop (off+n)) ty)
   | _,_=>none
 | .own cs ty=>match s&&(Nat.beq off 0&&Nat.beq cs.length n) with
   | true=>some ([xs.length=n],.ints k xs ty)
   | false=>match CM (.own cs ty) s off (cO k n xs) with
     | some (ob,B')=>some ((xs.length=n)::ob,B')
     | none=>none
 | B=>match CM B s off (cO k n xs) with
   | some (ob,B')=>some ((xs.length=n)::ob,B')
   | none=>none
def Jr (Γ:Env) (g:Nat->Option SV) (T:aZ) (t:TypeId) (x y:Operand):Option bJ:=
 match ev Γ g x,ev Γ g y,Γ.ty t with
 | some (.ptr l s off),some (.ai k xs),some ti=>match T l with
   | some B=>match wrA B s off ti.size k xs with
     | some (ob,B')=>some { bM:=ob,val:=.raw undef,wr:=[(l,B')] }
     | none=>none
   | none=>none
 | _,_,_=>none
theorem oW {l:Nat} {ys xs:List Int} {ty:TypeId} {k:IntKind} {off b o:Nat} (lab:Nat) (rv:SV) (ob:List Prop)
 (hT:aC w0 M V T w) (hl:T l=some (.ints k ys ty)) (hβ:V.β l=some (b,o)) (hle:off+xs.length<=ys.length) :
 ∃ w',(storeCells ⟨b,o+off,none⟩ (xs.map (Value.int k))).run P w = .ok () w'/\aC w0 M V (eI T lab { bM:=ob,val:=rv,wr:=[(l,.ints k (ys.take off++xs++ys.drop (off+xs.length)) ty)] }) w':=by
 obtain ⟨cs,hc,b',hb,hh⟩:=hT.ok l _ hl
 rw [hβ] at hb;cases hb
 simp only [SB.cells,aU] at hc
 subst hc
 refine ⟨_,run_storeCells_at P b (0+off) ty _ 0 _ w hh (by simp;omega) (by intro x hx;simp only [List.mem_map] at hx;obtain ⟨y,_,rfl⟩:=hx;rfl),?_⟩
 have bV:SB.cells V (.ints k (ys.take off++xs++ys.drop (off+xs.length)) ty)=some ((ys.map (Value.int k)).take off++xs.map (Value.int k)++(ys.map (Value.int k)).drop (off+(xs.map (Value.int k)).length)):=by
  simp [SB.cells,List.map_take,List.map_drop]
 have:=hT.write (B0:=.ints k ys ty) (B:=.ints k (ys.take off++xs++ys.drop (off+xs.length)) ty) hl hβ rfl (by simp [SB.aN,hβ]) hh bV (.inr (.inl rfl)) lab rv ob
 simpa using this
theorem aHq {l:Nat} {B B':SB} {s:Bool} {off n:Nat} {k:IntKind} {xs:List Int} {ob:List Prop} {b o:Nat} (lab:Nat) (rv:SV)
 (hT:aC w0 M V T w) (hl:T l=some B) (hβ:V.β l=some (b,o)) (h:wrA B s off n k xs=some (ob,B')) (ho:∀ q∈ob,q) :
 xs.length=n/\∃ w',(storeCells ⟨b,o+off,none⟩ (xs.map (Value.int k))).run P w = .ok () w'/\aC w0 M V (eI T lab { bM:=ob,val:=rv,wr:=[(l,B')] }) w':=by
 have rest:∀ ob',(match CM B s off (cO k n xs) with
   | some (ob,B')=>some ((xs.length=n)::ob,B')
   | none=>none)=some (ob',B')->(∀ q∈ob',q)->ob'=ob->xs.length=n/\∃ w',(storeCells ⟨b,o+off,none⟩ (xs.map (Value.int k))).run P w = .ok () w'/\aC w0 M V (eI T lab { bM:=ob,val:=rv,wr:=[(l,B')] }) w':=by
  intro ob' h kQ sQ
  split at h
  .rename_i ob2 B2 h2
   cases h
   have hn:xs.length=n:=kQ _ cM
   refine ⟨hn,?_⟩
   obtain ⟨w',h3,h4⟩:=Il (P:=P) lab rv hT hl hβ h2 (fun q hq=>kQ q (List.mem_cons_of_mem _ hq)) (wD hn) (by intro x hx;simp only [List.mem_map] at hx;obtain ⟨y,_,rfl⟩:=hx;rfl)
   exact ⟨w',h3,h4⟩
  .cases h
 cases B with
 | ints k2 ys ty=>
   simp only [wrA] at h
   split at h
   .rename_i hk hs
    cases h
    have hk:k=k2:=of_decide_eq_true hk
    subst hk
    simp only [Bool.and_eq_true] at hs
    have h0:=cH hs.2
    subst h0
    obtain ⟨h1,h2⟩:xs.length=n/\ys.length=n:=ho _ (by simp)
    refine ⟨h1,?_⟩
    obtain ⟨w',h3,h4⟩:=oW (P:=P) (xs:=xs) (off:=0) lab rv [xs.length=n/\ys.length=n] hT hl hβ (by omega)
    refine ⟨w',h3,?_⟩
    have e:ys.take 0++xs++ys.drop (0+xs.length)=xs:=by
     rw [Nat.zero_add,h1,<- h2,List.drop_length];simp
    rw [e] at h4
    exact h4
   .rename_i hk hs
    cases h
    have hk:k=k2:=of_decide_eq_true hk
    subst hk
    obtain ⟨h1,h2⟩:xs.length=n/\off+n<=ys.length:=ho _ (by simp)
    refine ⟨h1,?_⟩
    subst h1
    exact oW (P:=P) lab rv _ hT hl hβ h2
   .cases h
 | own cells ty=>
   simp only [wrA] at h
   split at h
   .rename_i hs
    cases h
    simp only [Bool.and_eq_true] at hs
    have h0:=cH hs.2.1
    have pT:=cH hs.2.2
    subst h0
    have h1:xs.length=n:=ho _ (by simp)
    refine ⟨h1,?_⟩
    obtain ⟨cs,hc,b',hb,hh⟩:=hT.ok l _ hl
    rw [hβ] at hb;cases hb
    have lW:=bB (show aE V cells=some cs from hc)
    refine ⟨_,run_storeCells_at P b (0+0) ty _ 0 _ w hh (by simp;omega) (by intro x hx;simp only [List.mem_map] at hx;obtain ⟨y,_,rfl⟩:=hx;rfl),?_⟩
    have e:cs.take 0++xs.map (Value.int k)++cs.drop (0+(xs.map (Value.int k)).length)=xs.map (Value.int k):=by
     simp;omega
    have:=hT.write (B0:=.own cells ty) (B:=.ints k xs ty) hl hβ rfl (by simp [SB.aN,hβ]) hh rfl (.inr (.inl rfl)) lab rv [xs.length=n]
    rw [<- e] at this
    simpa using this
   .exact rest ob h ho rfl
 | row sz cells ty=>exact rest ob h ho rfl
 | fP cells=>exact rest ob h ho rfl
 | nM k xs=>exact rest ob h ho rfl
 | cT k xs ty=>exact rest ob h ho rfl
 | fT sz n ty=>exact rest ob h ho rfl
 | eJ vs ty=>exact rest ob h ho rfl
 | gQ k xs=>exact rest ob h ho rfl
 | iS pre k ds ty=>exact rest ob h ho rfl
 | lU ds=>exact rest ob h ho rfl
 | nH d=>exact rest ob h ho rfl
 | fI ds ty=>exact rest ob h ho rfl
 | eM xs ty=>exact rest ob h ho rfl
 | qI xs=>exact rest ob h ho rfl
 | gK ds z=>exact rest ob h ho rfl
 | gone=>exact rest ob h ho rfl
theorem Ta (aT:cA P Γ) (ht:cE V g a) (hg:bL Γ V) {T':aZ} (aL:∀ l B,T' l=some B->T l=some B) (hT:aC w0 M V T w) {t:TypeId} {x y:Operand} (bT:o.op = .store t x y)
 (he:Jr Γ g T' t x y=some e) (ho:∀ q∈e.bM,q) (lab:Nat):kE P w0 M V T lab e o a w:=by
 unfold Jr at he
 split at he
 case h_2=>cases he
 rename_i l s off k xs ti hx hy dV
 split at he
 case h_2=>cases he
 rename_i B hB
 split at he
 case h_2=>cases he
 rename_i ob B' hw
 simp only [aU] at he
 subst he
 have ex:=bF ht hg hx
 simp only [den,Option.map_eq_some_iff] at ex
 obtain ⟨⟨b,base⟩,hβ,ex⟩:=ex
 have ey:=bF ht hg hy
 simp only [den,aU] at ey
 obtain ⟨hu,i,z,hi,gJ,_⟩:=aT t ti dV
 obtain ⟨hn,w',h1,h2⟩:=aHq (P:=P) lab (.raw undef) hT (aL l B hB) hβ hw ho
 intro K Q hK
 unfold Oper.wp
 have hl:(a.eval y).cells.size=i.size:=by rw [<- ey,gJ,<- hn];simp [Value.cells]
 have pT:(a.eval y).cells.toList=xs.map (Value.int k):=by rw [<- ey];simp [Value.cells]
 have dR:(execOp a.eval o).run P w = .ok .skip w':=by
  unfold execOp
  simp [bT,<- ex,Instr.storeAt,Instr.sureAddr,storeVar,run_sizeOf hi,hl,pT,h1]
 rw [dR,Oper.upon_skip]
 exact hK V undef w' (V.cN lab) rfl h2
def Jp (Γ:Env) (g:Nat->Option SV) (T:aZ) (t:TypeId) (x y:Operand):Option bJ:=
 match ev Γ g x,ev Γ g y,Γ.ty t with
 | some (.ptr l true off),some (.buf l2),some ti=>match T l,VC T l2,Nat.beq ti.size 1 with
   | some (.own cs ty),true,true=>match Nat.blt off cs.length with
     | true=>some { val:=.raw undef,wr:=[(l,.own (cs.take off++[.buf l2]++cs.drop (off+1)) ty)] }
     | false=>none
   | _,_,_=>none
 | _,_,_=>none
theorem Sy (aT:cA P Γ) (ht:cE V g a) (hg:bL Γ V) {T':aZ} (aL:∀ l B,T' l=some B->T l=some B) (hT:aC w0 M V T w) {t:TypeId} {x y:Operand} (bT:o.op = .store t x y)
 (he:Jp Γ g T' t x y=some e) (lab:Nat):kE P w0 M V T lab e o a w:=by
 unfold Jp at he
 split at he
 case h_2=>cases he
 rename_i l off l2 ti hx hy dV
 split at he
 case h_2=>cases he
 rename_i cells ty hB aZi gJ
 split at he
 case h_2=>cases he
 rename_i cI
 have cI:off<cells.length:=by simpa [Nat.blt_eq] using cI
 simp only [aU] at he
 subst he
 have ex:=bF ht hg hx
 simp only [den,Option.map_eq_some_iff] at ex
 obtain ⟨⟨b,base⟩,hβ,ex⟩:=ex
 have ey:=bF ht hg hy
 obtain ⟨hu,i,z,hi,cD,_⟩:=aT t ti dV
 obtain ⟨h1,h2⟩:=Xm aL hT aZi ey
 obtain ⟨cs,hc,b',hb,hh⟩:=hT.ok l _ (aL l _ hB)
 rw [hβ] at hb;cases hb
 have hlen:=bB (show aE V cells=some cs from hc)
 have bV:aE V (cells.take off++[SV.buf l2]++cells.drop (off+1))=some (cs.take off++[a.eval y]++cs.drop (off+[a.eval y].length)):=
  cF (cF (eK off hc) (by simp only [aE,ey,Option.bind_some,Option.map_some])) (jC _ hc)
 obtain ⟨w',h3,h4⟩:∃ w',(storeCells ⟨b,0+off,none⟩ [a.eval y]).run P w = .ok () w'/\aC w0 M V (eI T lab { val:=.raw undef,wr:=[(l,.own (cells.take off++[SV.buf l2]++cells.drop (off+1)) ty)] }) w':=by
  refine ⟨_,run_storeCells_at P b (0+off) ty [a.eval y] 0 cs.toArray w hh (by simp;omega) (fun q hq=>by simp only [List.mem_singleton] at hq;subst hq;exact h1),?_⟩
  have:=hT.write (B0:=.own cells ty) (B:=.own (cells.take off++[SV.buf l2]++cells.drop (off+1)) ty) (aL l _ hB) hβ rfl (by simp [SB.aN,hβ]) hh bV (.inl rfl) lab (.raw undef) []
  simpa using this
 intro K Q hK
 unfold Oper.wp
 have aGe:i.size=1:=by rw [cD];exact cH gJ
 have dR:(execOp a.eval o).run P w = .ok .skip w':=by
  unfold execOp
  simp only [Nat.zero_add] at h3
  simp [bT,<- ex,Instr.storeAt,Instr.sureAddr,storeVar,run_sizeOf hi,h2,aGe,h3]
 rw [dR,Oper.upon_skip]
 exact hK V undef w' (V.cN lab) rfl h4
def HH (Γ:Env) (g:Nat->Option SV) (t:TypeId) (x:Operand) (lab:Nat):Option bJ:=
 match ev Γ g x with
 | some (.ai k xs)=>some { val:=.ptr lab true 0,new:=[.ints k xs t] }
 | _=>none
theorem PS (ht:cE V g a) (hg:bL Γ V) (hT:aC w0 M V T w) {t:TypeId} {x:Operand} (bT:o.op = .box t x) {lab:Nat} (hf:V.fresh lab) (he:HH Γ g t x lab=some e):kE P w0 M V T lab e o a w:=by
 unfold HH at he
 split at he
 case h_2=>cases he
 rename_i k xs hx
 simp only [aU] at he
 subst he
 have ex:=bF ht hg hx
 simp only [den,aU] at ex
 intro K Q hK
 unfold Oper.wp
 have hr:(execOp a.eval o).run P w = .ok (.value (.pointer (some ⟨w.heap.size,0,none⟩))) (w.alloc (.cells (xs.map (Value.int k)).toArray t)):=by
  unfold execOp
  simp [bT,<- ex,Instr.box,newVar,newRow,Value.cells]
 rw [hr,Oper.upon_value]
 have:=hT.alloc hf (B:=.ints k xs t) (.inr (.inl rfl)) rfl (.ptr lab true 0) []
 exact hK _ _ _ (aY.jU hf lab (Nat.le_refl _) (by omega) _) (by simp [den,aY.put]) this
def Kc (Γ:Env) (g:Nat->Option SV) (t:TypeId) (x y:Operand):Option bJ:=
 match ev Γ g x,ev Γ g y,Γ.ty t with
 | some (.ai k xs),some (.int _ _ i),some ti=>match ti.desc with
   | .array len el=>match Γ.ty el with
     | some te=>match Nat.beq te.size 1,sE te.desc with
       | true,false=>some (dW (.int false k (xs.getD i.toNat 0)) [0<=i/\i<len/\i.toNat<xs.length])
       | _,_=>none
     | none=>none
   | _=>none
 | _,_,_=>none
theorem To (aT:cA P Γ) (ht:cE V g a) (hg:bL Γ V) (hT:aC w0 M V T w) {t:TypeId} {x y:Operand} (bT:o.op = .index t x y) (he:Kc Γ g t x y=some e) (ho:∀ q∈e.bM,q) (lab:Nat):kE P w0 M V T lab e o a w:=by
 unfold Kc at he
 split at he
 case h_2=>cases he
 rename_i k xs s2 k2 i ti hx hy dV
 split at he
 case h_2=>cases he
 rename_i len el hd
 split at he
 case h_2=>cases he
 rename_i te eA
 split at he
 case h_2=>cases he
 rename_i fQ gL
 have fQ:=cH fQ
 simp only [dW,aU] at he
 subst he
 obtain ⟨h1,h2,h3⟩:0<=i/\i<len/\i.toNat<xs.length:=ho _ (by simp)
 have ex:=bF ht hg hx
 have ey:=bF ht hg hy
 simp only [den,aU] at ex ey
 obtain ⟨Ef,ii,z,hi,cD,_⟩:=aT el te eA
 have hu:=(aT t ti dV).1
 rw [hd] at hu
 refine bC (x:=.int k (xs.getD i.toNat 0)) ?_ rfl rfl rfl hT
 have hy':(xs.map (Value.int k)).toArray[i.toNat*te.size]?=some (.int k (xs.getD i.toNat 0)):=by
  rw [fQ,Nat.mul_one];simp [h3,List.getD_eq_getElem?_getD]
 unfold execOp
 simp only [bT,<- ex,<- ey,Instr.index,asIntOf,Sem.run_bind,Sem.run_pure,run_underlying hu w,Result.andThen_ok,if_pos (And.intro h1 h2),part,eW Ef,gL,Bool.false_eq_true,if_false,run_sizeOf hi,cD,hy']
def yI:List SV->Option (IntKind × List Int)
 | .int s k n::r=>(cX k (.int s k n::r)).map fun ns=>(k,ns)
 | _=>none
theorem Da {V:aY} {vs:List SV} {k:IntKind} {ns:List Int} (h:yI vs=some (k,ns)):aE V vs=some (ns.map (Value.int k)):=by
 unfold yI at h
 split at h
 .simp only [Option.map_eq_some_iff,Prod.mk.injEq] at h
  obtain ⟨ms,hm,rfl,rfl⟩:=h
  exact cU hm
 .cases h
def cJ:SV->Option (IntKind × List Int)
 | .ai k xs=>some (k,xs)
 | .agg vs=>yI vs
 | _=>none
theorem Hb {v:SV} {k:IntKind} {xs:List Int} (h:cJ v=some (k,xs)):den V v=some (.agg (xs.map (Value.int k)).toArray):=by
 unfold cJ at h
 split at h
 .cases h;rfl
 .simp only [den,Da h,Option.map_some]
 .cases h
end Ht
section aUw
variable {P:Program} {Γ:Env} {V:aY} {w w0:World} {M:Nat->Prop} {T:aZ} {g:Nat->Option SV} {a:Act} {o:Oper} {e:bJ}
theorem Dp {v:Value} {us:List Value} {ty:TypeId} (h:w.ownsRow 0 ty 1 v us.length us):rU w (fun _=>False) v us:=by
 refine ⟨?_,fun n hn=>⟨kY h (dZ hn),fun q=>q⟩⟩
 rcases h.2 with ⟨rfl,h0⟩ | ⟨b,cap,cur,rfl,_,hh,hle,_,_,cR⟩
 .exact .inl ⟨.nil,List.eq_nil_of_length_eq_zero h0⟩
 .refine .inr ⟨b,0,cap,rfl,(Array.getElem?_eq_some_iff.1 hh).1,hle,fun j u hj=>?_⟩
  rw [cell_of_row w b _ _ _ _ hh]
  rw [<- cR,List.getElem?_take] at hj
  split at hj
  .simpa using hj
  .cases hj
def uK:SB->Option (List (List Int))
 | .lU ds=>some ds
 | .fI ds _=>some ds
 | .gK ds z=>some (ds++List.replicate z [])
 | _=>none
theorem Dt (l:Nat):∀ (i:Nat) (ds:List (List Int)),(Ec l i ds).length=ds.length
 | _,[]=>rfl
 | i,d::r=>by simp [Ec,Dt l (i+1) r]
theorem No (l:Nat):∀ (i:Nat) (ds:List (List Int)),lL (Ec l i ds)=true
 | _,[]=>rfl
 | i,d::r=>by
   have:=No l (i+1) r
   simp only [Ec,lL,List.all_cons,Bool.and_eq_true] at this |-
   exact ⟨rfl,this⟩
theorem Vt {v v':Value} {us us':List Value} (h:some (Value.tuple (v::us).toArray)=some (.tuple (v'::us').toArray)):v=v'/\us=us':=by
 have e:=congrArg (fun o:Option Value=>match o with | some (.tuple xs)=>xs.toList | _=>[]) h
 simp only at e
 cases e
 exact ⟨rfl,rfl⟩
theorem JG {w0:World} {M:Nat->Prop} {V:aY} {l z:Nat} {ds:List (List Int)} (h:kR w0 M V l (.gK ds z)):kR w0 M V l (.lU (ds++List.replicate z [])):=by
 obtain ⟨v,us,h1,h2,h3,h4,h5⟩:=h
 refine ⟨v,us,h1,h2,by simp [h3],fun i u d hu hd=>?_⟩
 by_cases hi:i<ds.length
 .rw [List.getElem?_append_left hi] at hd
  exact h4 i u d hu hd
 .rw [List.getElem?_append_right (by omega),List.getElem?_replicate] at hd
  split at hd
  .cases hd
   have:=h5 i u hu (by omega)
   subst this
   exact ⟨.inl ⟨.nil,rfl⟩,fun n hn=>by cases hn⟩
  .cases hd
theorem Ab (hT:aC w0 M V T w) {l:Nat} {B:SB} {ds:List (List Int)} (hB:T l=some B) (hd:uK B=some ds) :
 ∃ v us,V.σ l=some (.tuple (v::us).toArray)/\us.length=ds.length/\(∀ (i:Nat) (u:Value) (d:List Int),us[i]?=some u->ds[i]?=some d->dL w0 M u d) /\
   ((Lq v/\us=[])\/∃ b o c,v = .slice (some ⟨b,o,none⟩) us.length c/\b<w.heap.size/\us.length<=c/\∀ (j:Nat) (u:Value),us[j]?=some u->w.cell? ⟨b,o+j,none⟩=some u):=by
 have Ap:=hT.sL l B hB
 have lS:=hT.ok l B hB
 cases B <;> simp only [uK] at hd <;> first | (cases hd;done) | skip
 .cases hd
  obtain ⟨v,us,h1,h2,h3,h4⟩:=Ap
  exact ⟨v,us,h1,h3,h4,(h2.gG (M':=fun _=>False) hT.frame (fun _ h=>h.elim)).1⟩
 .cases hd
  obtain ⟨v,us,h1,h3,h4⟩:=Ap
  obtain ⟨_,_,v',us',Ei,bK⟩:=lS
  rw [h1] at Ei
  obtain ⟨rfl,rfl⟩:=Vt Ei
  exact ⟨v,us,h1,h3,h4,(Dp bK).1⟩
 .cases hd
  obtain ⟨v,us,h1,h2,h3,h4⟩:=JG Ap
  exact ⟨v,us,h1,h3,h4,(h2.gG (M':=fun _=>False) hT.frame (fun _ h=>h.elim)).1⟩
theorem Dh {l:Nat} {v:Value} {ws:List Value} (hσ:V.σ l=some (.tuple (v::ws).toArray)):∀ {i:Nat} {ds:List (List Int)} {us:List Value},us.length=ds.length->(∀ (j:Nat) (u:Value) (d:List Int),us[j]?=some u->ds[j]?=some d->iF d.length u=some u)->ws.drop i=us->aE V (Ec l i ds)=some us
 | i,[],us,h,_,_=>by
   have:us=[]:=List.eq_nil_of_length_eq_zero (by simpa using h)
   subst this
   rfl
 | i,d::r,us,h,hr,hw=>by
   cases us with
   | nil=>simp at h
   | cons u us=>
     have h0:=hr 0 u d rfl rfl
     have hu:ws[i]?=some u:=by
      have:=congrArg (fun q=>q[0]?) hw
      simpa [List.getElem?_drop] using this
     have hd:ws.drop (i+1)=us:=by
      have:=congrArg (List.drop 1) hw
      simpa [List.drop_drop,Nat.add_comm] using this
     have h2:=Dh hσ (i:=i+1) (ds:=r) (us:=us) (by simpa using h) (fun j x e h1 h2=>hr (j+1) x e (by simpa using h1) (by simpa using h2)) hd
     have h1:den V (.wT l i d.length)=some u:=by
      simp only [den,hσ,Option.bind_some,Kx,List.getElem?_cons_succ,hu,h0]
     simp only [Ec,aE,h1,h2,Option.bind_some,Option.map_some]
def Ka (Γ:Env) (g:Nat->Option SV) (t:TypeId) (x y:Operand):Option bJ:=
 match ev Γ g x,ev Γ g y,Γ.ty t with
 | some (.sP l n),some (.int _ _ k),some ti=>match ti.desc with
   | .slice el=>match Γ.ty el with
     | some te=>match Nat.beq te.size 1 with
       | true=>some (dW (.BZ l k.toNat) [0<=k/\k<n])
       | false=>none
     | none=>none
   | _=>none
 | _,_,_=>none
theorem Tm (aT:cA P Γ) (ht:cE V g a) (hg:bL Γ V) (hT:aC w0 M V T w) {t:TypeId} {x y:Operand} (bT:o.op = .indexAddr t x y) (he:Ka Γ g t x y=some e) (ho:∀ q∈e.bM,q) (lab:Nat):kE P w0 M V T lab e o a w:=by
 unfold Ka at he
 split at he
 case h_2=>cases he
 rename_i l n kk0 kk k ti hx hy dV
 split at he
 case h_2=>cases he
 rename_i el hd
 split at he
 case h_2=>cases he
 rename_i te eA
 split at he
 case h_2=>cases he
 rename_i fQ
 have fQ:=cH fQ
 simp only [dW,aU] at he
 subst he
 have hb:0<=k/\k<n:=ho _ (by simp)
 have ex:=bF ht hg hx
 have ey:=bF ht hg hy
 simp only [den,Option.bind_eq_some_iff,aU] at ex ey
 obtain ⟨tv,hσ,ex⟩:=ex
 unfold zA at ex
 split at ex
 case h_2=>cases ex
 rename_i xs
 simp only [Option.bind_eq_some_iff] at ex
 obtain ⟨v,hv,ex⟩:=ex
 obtain ⟨CI,Ov⟩:=cY ex
 rcases Ov with ⟨_,h0⟩ | ⟨b,base,c,rfl,_⟩
 .omega
 obtain ⟨_,i,z,hi,cD,_⟩:=aT el te eA
 have hu:=(aT t ti dV).1
 rw [hd] at hu
 refine bC (x:=.pointer (some ⟨b,base+k.toNat*te.size,none⟩)) ?_ (by simp [den,hσ,aFn,hv,bG,fQ]) rfl rfl hT
 unfold execOp
 simp only [bT,CI,<- ey,Instr.indexAt,asIntOf,Sem.run_bind,Sem.run_pure,run_underlying hu w,Result.andThen_ok,if_pos hb,run_sizeOf hi,cD,bG]
def Rl (Γ:Env) (g:Nat->Option SV) (T:aZ) (t:TypeId) (x:Operand):Option bJ:=
 match ev Γ g x,Γ.ty t with
 | some (.BZ l i),some ti=>match T l with
   | some B=>match uK B,sE ti.desc,Nat.beq ti.size 1 with
     | some ds,false,true=>some { bM:=[i<ds.length],val:=.wT l i (ds.getD i []).length }
     | _,_,_=>none
   | none=>none
 | _,_=>none
theorem BD (aT:cA P Γ) (ht:cE V g a) (hg:bL Γ V) {T':aZ} (aL:∀ l B,T' l=some B->T l=some B) (hT:aC w0 M V T w) {t:TypeId} {x:Operand} (bT:o.op = .load t x)
 (he:Rl Γ g T' t x=some e) (ho:∀ q∈e.bM,q) (lab:Nat):kE P w0 M V T lab e o a w:=by
 unfold Rl at he
 split at he
 case h_2=>cases he
 rename_i l i ti hx dV
 split at he
 case h_2=>cases he
 rename_i B hB
 split at he
 case h_2=>cases he
 rename_i ds hd gL fQ
 cases he
 have fQ:=cH fQ
 have cI:i<ds.length:=ho _ (by simp)
 have ex:=bF ht hg hx
 obtain ⟨v,us,hσ,hl,Ap,hv⟩:=Ab hT (aL l B hB) hd
 obtain ⟨hu,ii,z,hi,gJ,_⟩:=aT t ti dV
 rcases hv with ⟨_,rfl⟩ | ⟨b,base,c,rfl,_,hc,fE⟩
 .simp at hl;omega
 have hui:i<us.length:=by omega
 have CC:=List.getElem?_eq_getElem hui
 have CG:=List.getElem?_eq_getElem cI
 have SH:=Ap i _ _ CC CG
 simp only [den,hσ,Option.bind_some,aFn,List.head?_cons,bG,aU] at ex
 have dR:=(dK (P:=P) hu hi b (base+i) [us[i]] (by rw [gJ,fQ];rfl) (fun j u hj=>by
  cases j with
  | zero=>simp only [List.getElem?_cons_zero,aU] at hj;subst hj;exact fE i _ CC
  | succ j=>simp at hj)).2 gL us[i] rfl
 refine bC (x:=us[i]) ?_ ?_ rfl rfl hT
 .unfold execOp
  simp only [bT,<- ex,Instr.loadAt,Instr.sureAddr,Sem.run_bind,Sem.run_pure,Result.andThen_ok,dR]
 .simp only [den,hσ,Option.bind_some,Kx,List.getElem?_cons_succ,CC]
  rw [List.getD_eq_getElem?_getD,CG]
  exact SH.1.eV
def HL (T:aZ) (te:TI) (el:TypeId) (lab:Nat) (x y:SV):Option bJ:=match y with
 | .sP l m=>match T l with
   | some B=>match uK B,Nat.beq te.size 1&&Nat.beq te.zero.length 1,Gj T el 1 x with
     | some ds,true,some (lo,n,xs)=>match Nat.blt 0 n with
       | true=>some { bM:=[ds.length=m,(n+m)*te.bytes<=140737488355328/\n+m<=9223372036854775807],val:=.cP lab 0 (n+m) 0,new:=[.iS xs l ds el],wr:=fV lo }
       | false=>none
     | _,_,_=>none
   | none=>none
 | _=>none
theorem PW (aT:cA P Γ) {T':aZ} (aL:∀ l B,T' l=some B->T l=some B) (hT:aC w0 M V T w) {lab:Nat} (hf:V.fresh lab) {t ty el:TypeId} {te:TI} (ht:P.underlying t=some (.slice el)) (eA:Γ.ty el=some te)
 {x y:SV} {u v:Value} (hx:den V x=some u) (hy:den V y=some v) (he:HL T' te el lab x y=some e) (ho:∀ q∈e.bM,q):nZ P w0 M V T lab e (Builtin.append_ #[t,t] ty #[u,v]) w:=by
 unfold HL at he
 split at he
 case h_2=>cases he
 rename_i l m
 split at he
 case h_2=>cases he
 rename_i B hB
 split at he
 case h_2=>cases he
 rename_i ds lo n xs hd gY Yu
 split at he
 case h_2=>cases he
 rename_i Hq
 cases he
 simp only [Bool.and_eq_true] at gY
 have fQ:=cH gY.1
 have QY:=cH gY.2
 have Hq:0<n:=by simpa [Nat.blt_eq] using Hq
 have o1:ds.length=m:=ho _ (by simp)
 have o4:(n+m)*te.bytes<=140737488355328/\n+m<=9223372036854775807:=ho _ (by simp)
 obtain ⟨_,i,z,hi,cD,jJ,hz,hzero⟩:=aT el te eA
 have zR:i.size=1:=cD.trans fQ
 have qJ:z.cells.size=i.size:=by
  have h1:=bB (hzero V)
  rw [zR,<- QY,<- h1];simp
 obtain ⟨lv,us,hσ,hl,Ap,hv⟩:=Ab hT (aL l B hB) hd
 simp only [den,hσ,Option.bind_some,zA,List.head?_cons] at hy
 obtain ⟨rfl,_⟩:=cY hy
 have Pn:aE V (Ec l 0 ds)=some us:=Dh hσ hl (fun j u d hu hd=>(Ap j u d hu hd).1.eV) rfl
 have h1:=nQ (No l 0 ds) Pn
 have hlm:us.length=m:=hl.trans o1
 obtain ⟨cx,hcx,bK,iY,aEp,Hr⟩:=Df (hT.sub aL) hx Yu
 have iU:∀ l,lo=some l->∃ B,T l=some B/\B.owned=true/\∀ n,u.ownBlock=some n->B.aN V l=some n:=fun l hl=>by
  obtain ⟨B,h1,h2,h3⟩:=Hr l hl;exact ⟨B,aL l B h1,h2,h3⟩
 obtain ⟨v',w',hr,jP,qL,fA⟩:∃ v' w',(Builtin.append_ #[t,t] ty #[u,v]).run P w = .ok v' w'/\w'.ownsRow 0 el 1 v' (n+m) (cx++us)/\w.grownBy w' u.ownBlock/\(v'.ownBlock=u.ownBlock\/v'.ownBlock=some w.heap.size):=by
  have go:∀ (ad:Addr) (c:Nat),v = .slice (some ad) m c->(∀ (j:Nat) (u:Value),us[j]?=some u->w.cell? (ad.add j)=some u)->∃ v' w',(Builtin.append_ #[t,t] ty #[u,v]).run P w = .ok v' w'/\w'.ownsRow 0 el 1 v' (n+m) (cx++us)/\w.grownBy w' u.ownBlock/\(v'.ownBlock=u.ownBlock\/v'.ownBlock=some w.heap.size):=by
   rintro ad c rfl bV
   rw [<- zR] at bK |-
   have rK:us.length=m*i.size:=by rw [zR,Nat.mul_one];exact hlm
   obtain ⟨v',w',hr,jP,qL,_⟩:=run_append_own (P:=P) w 0 t ty el i z i.size i.bytes ht hi hz rfl rfl qJ (by omega) u n cx bK ad m c us rK bV h1 (by simp only [maxLen];omega) (by rw [jJ];exact o4.1) (Nat.zero_le _)
   exact ⟨v',w',hr,jP,qL,kJ (P:=P) ht hi hz bK rfl rK bV h1 (by simp only [maxLen];omega) (by rw [jJ];exact o4.1) hr⟩
  rcases hv with ⟨⟨ad,rfl⟩,rfl⟩ | ⟨b,base,c,rfl,_,hc,fE⟩
  .have hm:m=0:=by simpa using hlm.symm
   subst hm
   cases ad with
   | none=>
     rw [<- zR] at bK
     refine ⟨u,w,run_append_owned_none (P:=P) (w:=w) 0 t ty el i i.size ht hi u n _ bK,by rw [List.append_nil,<- zR];exact bK,⟨rfl,rfl,rfl,Nat.le_refl _,fun _ _ _=>rfl⟩,.inl rfl⟩
   | some ad=>exact go ad 0 rfl (fun j u hj=>by simp at hj)
  .exact go _ c (by rw [hlm]) (fun j u hj=>by rw [bG];exact fE j u hj)
 have dD:v' ≠ .slice none 0 0:=by
  intro h
  subst h
  rcases jP.2 with ⟨_,h4⟩ | ⟨_,_,_,h4,_⟩
  .omega
  .cases h4
 obtain ⟨b2,bCl,Ov,oE⟩:=hT.Ah (lab:=lab) hf (lo:=lo) (own:=u.ownBlock) (cF hcx Pn) jP dD qL fA (fun h=>by rw [iY h];rfl) iU (.cP lab 0 (n+m) 0) [ds.length=m,(n+m)*te.bytes<=140737488355328/\n+m<=9223372036854775807]
 have jY:look lab (fV lo)=none:=by
  cases UI:lo with
  | none=>rfl
  | some l1=>
    simp only [fV]
    rw [aD]
    .rfl
    .intro q
     subst q
     obtain ⟨B1,b1,b2,_⟩:=iU l1 UI
     rcases hT.known b1 (by rintro rfl;cases b2) with h3 | h3
     .exact h3 (hf l1 (Nat.le_refl _) (by omega)).1
     .exact h3 (hf l1 (Nat.le_refl _) (by omega)).2
 have h4:=oE.swap (l0:=lab) (B:=.row 1 (xs++Ec l 0 ds) el) (C:=.iS xs l ds el) (by simp only [eI,bJ.eG,fO];rw [bY,jY];simp only [aI]) (fun ⟨cs,h1,b,cap,cur,r⟩=>⟨cs,h1,b,cap,cur,r⟩) rfl rfl rfl
 have e4:(fun k=>if k=lab then some (SB.iS xs l ds el) else eI T lab { bM:=[ds.length=m,(n+m)*te.bytes<=140737488355328/\n+m<=9223372036854775807],val:=.cP lab 0 (n+m) 0,new:=[.row 1 (xs++Ec l 0 ds) el],wr:=fV lo } k)=eI T lab { bM:=[ds.length=m,(n+m)*te.bytes<=140737488355328/\n+m<=9223372036854775807],val:=.cP lab 0 (n+m) 0,new:=[.iS xs l ds el],wr:=fV lo }:=by
  funext k
  simp only [eI,bJ.eG,fO]
  rw [bY,bY]
  by_cases e:k=lab
  .subst e;simp only [if_true,jY,aI]
  .rw [aD (fun q=>e q.symm),aD (fun q=>e q.symm),if_neg e]
 rw [e4] at h4
 refine ⟨_,_,_,hr,aY.qZ hf lab (Nat.le_refl _) (by omega) _ _,?_,h4⟩
 simp [den,aY.En,aY.put,aY.aV,nP,Ov]
def aKr:List SV->Bool
 | .int .. :: _=>true
 | _=>false
def Jx (Γ:Env) (g:Nat->Option SV) (T:aZ) (t:TypeId) (x:Operand) (lo hi mx:Option Operand):Option bJ:=
 match hi,lo,mx with
 | some y,none,none=>match ev Γ g y with
   | some (.int true _ h)=>match decide (h=0) with
     | true=>match ev Γ g x,Γ.ty t with
       | some (.cP l 0 _ 0),some ti=>match ti.desc with
         | .slice el=>match Γ.ty el,T l with
           | some _,some (.row sz cs ty)=>match aKr cs with
             | true=>none
             | false=>some { val:=.cP l 0 0 0,wr:=[(l,.row sz [] ty)] }
           | _,_=>none
         | _=>none
       | _,_=>none
     | false=>none
   | _=>none
 | _,_,_=>none
theorem Tj (aT:cA P Γ) (ht:cE V g a) (hg:bL Γ V) {T':aZ} (aL:∀ l B,T' l=some B->T l=some B) (hT:aC w0 M V T w) {t:TypeId} {x:Operand} {lo hi mx:Option Operand} (bT:o.op = .slice t x lo hi mx)
 (he:Jx Γ g T' t x lo hi mx=some e) (lab:Nat):kE P w0 M V T lab e o a w:=by
 unfold Jx at he
 split at he
 case h_2=>cases he
 rename_i y
 split at he
 case h_2=>cases he
 rename_i kk h hy
 split at he
 case h_2=>cases he
 rename_i h0
 have h0:=of_decide_eq_true h0
 subst h0
 split at he
 case h_2=>cases he
 rename_i l len ti hx dV
 split at he
 case h_2=>cases he
 rename_i el hd
 split at he
 case h_2=>cases he
 rename_i te sz cells ty0 eA hB
 split at he
 case h_1=>cases he
 cases he
 have ex:=bF ht hg hx
 have ey:=bF ht hg hy
 simp only [den,Option.map_eq_some_iff,Option.bind_eq_some_iff,aU,Nat.add_zero,Nat.sub_zero] at ex ey
 obtain ⟨⟨b,base⟩,hβ,c,hc,ex⟩:=ex
 have hu:=(aT t ti dV).1
 rw [hd] at hu
 obtain ⟨_,i,z,fS,cD,_⟩:=aT el te eA
 have hr:=dY (P:=P) (w:=w) (a:=a) true len c (lo:=none) (hi:=some y) (mx:=none) (m:=(c:Int)) (h:=0) (k:=((0:Nat):Int)) (.inl ⟨rfl,rfl⟩) (.inr ⟨y,kk,rfl,ey.symm⟩) (.inl ⟨rfl,rfl⟩) rfl ⟨by omega,by omega,by omega,by omega,by omega,by omega⟩
 simp only [Option.map_none,Option.map_some,Int.toNat_natCast,Int.toNat_zero] at hr
 have hB:=aL l _ hB
 obtain ⟨xs,lV,b',cap,cur,r1,r2,r3,r4,r5,r6,r7⟩:=hT.ok l _ hB
 have oE:=hT.change (B:=.row sz [] ty0) (b:=b') hB rfl (by simp [SB.aN,r1]) ⟨[],rfl,b',cap,cur,r1,r2,r3,r4,r5,⟨0,by simp,Nat.zero_le _⟩,rfl⟩ (by simp [SB.aN,r1]) (Nat.le_refl _) (fun _ _ _=>rfl) rfl rfl rfl lab (.cP l 0 0 0) []
 have dR:(execOp a.eval o).run P w = .ok (.value (.slice (some ⟨b,base,none⟩) 0 c)) w:=?_
 .intro K Q hK
  unfold Oper.wp
  rw [dR,Oper.upon_value]
  exact hK V _ w (V.cN lab) (by simp [den,hβ,hc]) oE
 unfold execOp
 simp only [bT,<- ex,Instr.sliceAt,Instr.slice,Sem.run_bind,run_underlying hu w,Result.andThen_ok,Sem.run_pure,hr,run_sizeOf fS,Option.map_none,Option.map_some,Nat.zero_mul,Nat.sub_zero,bG,Nat.add_zero,ite_self]
theorem Qr {l i n:Nat} {x:Value} {B:SB} {ds:List (List Int)} (hT:aC w0 M V T w) (hv:den V (.wT l i n)=some x) (hB:T l=some B) (hd:uK B=some ds) :
 ∃ v us,V.σ l=some (.tuple (v::us).toArray)/\us[i]?=some x/\dL w0 M x (ds.getD i [])/\iF n x=some x:=by
 have key:∀ v us,V.σ l=some (.tuple (v::us).toArray)->us.length=ds.length->(∀ (i:Nat) (u:Value) (d:List Int),us[i]?=some u->ds[i]?=some d->dL w0 M u d)->∃ v us,V.σ l=some (.tuple (v::us).toArray)/\us[i]?=some x/\dL w0 M x (ds.getD i [])/\iF n x=some x:=by
  intro v us hσ hl hf
  simp only [den,hσ,Option.bind_some,Kx,List.getElem?_cons_succ,Option.bind_eq_some_iff] at hv
  obtain ⟨u,hu,hr⟩:=hv
  have hx:=(cY hr).1
  subst hx
  have hi:i<ds.length:=by rw [<- hl];exact (List.getElem?_eq_some_iff.1 hu).1
  refine ⟨v,us,hσ,hu,?_,hr⟩
  have hd:=List.getElem?_eq_getElem hi
  rw [List.getD_eq_getElem?_getD,hd]
  exact hf i _ _ hu hd
 obtain ⟨v,us,h1,h3,h4,_⟩:=Ab hT hB hd
 exact key v us h1 h3 h4
def aGl (T:aZ):SV->Option (List Int)
 | .raw (.slice none 0 0)=>some []
 | .eV l _=>match T l with
   | some (.nH d)=>some d
   | _=>none
 | .wT l i _=>match T l with
   | some B=>(uK B).map fun ds=>ds.getD i []
   | none=>none
 | _=>none
def UN (T:aZ):List SV->Option (List (List Int))
 | []=>some []
 | v::r=>match aGl T v,UN T r with
   | some d,some ds=>some (d::ds)
   | _,_=>none
theorem aBj (hT:aC w0 M V T w) {v:SV} {x:Value} {d:List Int} (hv:den V v=some x) (h:aGl T v=some d):dL w0 M x d:=by
 unfold aGl at h
 split at h
 .cases h
  simp only [den,aU] at hv
  subst hv
  exact ⟨.inl ⟨.nil,rfl⟩,fun n hn=>by cases hn⟩
 .split at h
  .rename_i hB
   cases h
   obtain ⟨u,hσ,hF⟩:=hT.sL _ _ hB
   simp only [den,hσ,Option.bind_some] at hv
   rw [(cY hv).1]
   exact hF
  .cases h
 .split at h
  .rename_i B hB
   simp only [Option.map_eq_some_iff] at h
   obtain ⟨ds,hd,rfl⟩:=h
   obtain ⟨_,_,_,_,hF,_⟩:=Qr hT hv hB hd
   exact hF
  .cases h
 .cases h
theorem Wx (hT:aC w0 M V T w):∀ {vs:List SV} {xs:List Value} {ds:List (List Int)},aE V vs=some xs->UN T vs=some ds->xs.length=ds.length/\∀ (i:Nat) (u:Value) (d:List Int),xs[i]?=some u->ds[i]?=some d->dL w0 M u d
 | [],xs,ds,h,hd=>by
   cases hd
   simp only [aE,aU] at h
   subst h
   exact ⟨rfl,fun i u d hu=>by simp at hu⟩
 | v::r,xs,ds,h,hd=>by
   simp only [UN] at hd
   split at hd
   case h_2=>cases hd
   rename_i d0 ds0 h1 h2
   cases hd
   simp only [aE,Option.map_eq_some_iff,Option.bind_eq_some_iff] at h
   obtain ⟨x,hx,ys,hy,rfl⟩:=h
   obtain ⟨g1,g2⟩:=Wx hT hy h2
   refine ⟨by simp [g1],fun i u d hu hd=>?_⟩
   cases i with
   | zero=>simp only [List.getElem?_cons_zero,aU] at hu hd;subst hu hd;exact aBj hT hx h1
   | succ i=>exact g2 i u d (by simpa using hu) (by simpa using hd)
def HO (T:aZ) (te:TI) (el:TypeId) (lab:Nat) (x y:SV):Option bJ:=match x with
 | .sP l n=>match T l with
   | some (.fI ds ty)=>match Nat.beq ty el&&(Nat.beq te.size 1&&Nat.beq te.zero.length 1),Az T 1 y with
     | true,some (m,ys)=>match Nat.blt 0 m,UN T ys with
       | true,some es=>some { bM:=[(n+m)*te.bytes<=140737488355328/\n+m<=9223372036854775807],val:=.sP lab (n+m),new:=[.fI (ds++es) el],wr:=fV (some l) }
       | _,_=>none
     | _,_=>none
   | _=>none
 | _=>none
theorem PZ (aT:cA P Γ) {T':aZ} (aL:∀ l B,T' l=some B->T l=some B) (hT:aC w0 M V T w) {lab:Nat} (hf:V.fresh lab) {t ty el:TypeId} {te:TI} (ht:P.underlying t=some (.slice el)) (eA:Γ.ty el=some te)
 {x y:SV} {u v:Value} (hx:den V x=some u) (hy:den V y=some v) (he:HO T' te el lab x y=some e) (ho:∀ q∈e.bM,q):nZ P w0 M V T lab e (Builtin.append_ #[t,t] ty #[u,v]) w:=by
 unfold HO at he
 split at he
 case h_2=>cases he
 rename_i l n
 split at he
 case h_2=>cases he
 rename_i ds ty' hB
 split at he
 case h_2=>cases he
 rename_i m ys gY Qa
 split at he
 case h_2=>cases he
 rename_i es hm SH
 cases he
 simp only [Bool.and_eq_true] at gY
 have aYn:=cH gY.1
 have fQ:=cH gY.2.1
 have QY:=cH gY.2.2
 subst aYn
 have hm:0<m:=by simpa [Nat.blt_eq] using hm
 have o4:(n+m)*te.bytes<=140737488355328/\n+m<=9223372036854775807:=ho _ (by simp)
 obtain ⟨_,i,z,hi,cD,jJ,hz,hzero⟩:=aT ty' te eA
 have zR:i.size=1:=cD.trans fQ
 have qJ:z.cells.size=i.size:=by
  have h1:=bB (hzero V)
  rw [zR,<- QY,<- h1];simp
 obtain ⟨_,_,lv,us,hσ,bK⟩:=hT.ok l _ (aL l _ hB)
 obtain ⟨lv',us',fU,hl,Ap⟩:=hT.sL l _ (aL l _ hB)
 rw [hσ] at fU
 obtain ⟨rfl,rfl⟩:=Vt fU
 simp only [den,hσ,Option.bind_some,zA,List.head?_cons] at hx
 obtain ⟨rfl,hu⟩:=cY hx
 have hn:n=us.length:=by
  rcases bK.2 with ⟨rfl,h0⟩ | ⟨b,cap,cur,rfl,_⟩
  .rcases hu with ⟨_,h1⟩ | ⟨_,_,_,h1,_⟩
   .omega
   .cases h1
  .rcases hu with ⟨⟨a,h1⟩,h2⟩ | ⟨_,_,_,h1,_⟩
   .injection h1 with _ h3 _;omega
   .injection h1 with _ h3 _;exact h3.symm
 subst hn
 obtain ⟨cy,Pn,iT,hh⟩:=rO (hT.sub aL) hy Qa
 have h1:=nQ iT Pn
 rcases hh with ⟨_,h0,_⟩ | ⟨ad,c,rfl,pT,bV⟩
 .omega
 obtain ⟨g1,g2⟩:=Wx (hT.sub aL) Pn SH
 rw [<- zR] at bK pT
 obtain ⟨v',w',hr,jP,qL,_⟩:=run_append_own (P:=P) w 0 t ty ty' i z i.size i.bytes ht hi hz rfl rfl qJ (by omega) u us.length us bK ad m c cy pT bV h1 (by simp only [maxLen];omega) (by rw [jJ];exact o4.1) (Nat.zero_le _)
 have fA:=kJ (P:=P) ht hi hz bK rfl pT bV h1 (by simp only [maxLen];omega) (by rw [jJ];exact o4.1) hr
 have DC:cy.length=m:=by rw [pT,zR,Nat.mul_one]
 rw [zR] at jP
 have hs:(V.aV lab (.tuple (v'::(us++cy)).toArray)).σ lab=some (.tuple (v'::(us++cy)).toArray):=by simp [aY.aV]
 have oE:=hT.pM (lab:=lab) hf (w':=w') (v:=u) (v':=v') (u':=.tuple (v'::(us++cy)).toArray) (lo:=some l) (B:=.fI (ds++es) ty')
  ⟨[],rfl,v',us++cy,hs,by rw [List.length_append,DC];exact jP⟩ (fun q hq=>by simpa [SB.aN,hs,sZ] using hq) qL fA (fun h=>by cases h)
  (fun l' rK=>by cases rK;exact ⟨_,aL l _ hB,rfl,fun q hq=>by simp [SB.aN,hσ,sZ,hq]⟩) (.sP lab (us.length+m)) [(us.length+m)*te.bytes<=140737488355328/\us.length+m<=9223372036854775807]
  ⟨v',us++cy,hs,by simp [hl,g1],fun q uu d hu hd=>by
   by_cases hq:q<us.length
   .rw [List.getElem?_append_left hq] at hu
    rw [List.getElem?_append_left (by omega)] at hd
    exact Ap q uu d hu hd
   .rw [List.getElem?_append_right (by omega)] at hu
    rw [List.getElem?_append_right (by omega),<- hl] at hd
    exact g2 _ uu d hu hd⟩
 refine ⟨_,v',w',hr,aY.bS hf lab (Nat.le_refl _) (by omega) _,?_,oE⟩
 simp only [den,hs,Option.bind_some,zA,List.head?_cons]
 rcases jP.2 with ⟨_,h0⟩ | ⟨b,cap,cur,rfl,_,_,hle,_⟩
 .omega
 .unfold iF;exact if_pos ⟨rfl,hle,.inr rfl⟩
def pW (j h:Nat):Value->Value
 | .slice ad _ c=>.slice (if c=j then ad else ad.map (·.add j)) (h-j) (c-j)
 | v=>v
theorem dL.part {u:Value} {xs:List Int} {j h:Nat} (hF:dL w0 M u xs) (hj:j<=h) (hh:h<=xs.length):dL w0 M (pW j h u) ((xs.drop j).take (h-j)):=by
 have hlen:((xs.drop j).take (h-j)).length=h-j:=by simp;omega
 obtain ⟨hr,hb⟩:=hF
 rcases hr with ⟨⟨ad,rfl⟩,rfl⟩ | ⟨b,base,c,rfl,cI,hle,fE⟩
 .have:j=0/\h=0:=by simp at hh;omega
  obtain ⟨rfl,rfl⟩:=this
  exact ⟨.inl ⟨⟨ad,by simp [pW]⟩,by simp⟩,fun n hn=>by simp [pW,eQ] at hn⟩
 .by_cases Oz:c=j
  .subst Oz
   have h0:h-c=0:=by omega
   refine ⟨.inr ⟨b,base,0,by simp [pW,h0],cI,by rw [hlen];omega,fun q v hq=>?_⟩,fun n hn=>?_⟩
   .rw [h0] at hq;simp at hq
   .simp [pW,eQ] at hn
  .refine ⟨.inr ⟨b,base+j,c-j,by simp [pW,Oz,hlen,bG],cI,by rw [hlen];omega,fun q v hq=>?_⟩,fun n hn=>?_⟩
   .rw [Nat.add_assoc]
    apply fE
    simp only [List.map_take,List.map_drop,List.getElem?_take] at hq
    split at hq
    .rwa [List.getElem?_drop] at hq
    .cases hq
   .refine hb n ?_
    simp only [pW,if_neg Oz] at hn
    have:=dZ hn
    obtain ⟨c',rfl⟩:∃ c',c=c'+1:=⟨c-1,by omega⟩
    simpa [eQ,Value.ownBlock,bG] using this
def Jw (Γ:Env) (g:Nat->Option SV) (T:aZ) (t:TypeId) (x:Operand) (lo hi mx:Option Operand) (lab:Nat):Option bJ:=
 match ev Γ g x,Γ.ty t,mx with
 | some (.eV l n),some ti,none=>match ti.desc with
   | .slice el=>match Γ.ty el,T l,wY Γ g hi false n,wY Γ g lo true 0 with
     | some te,some (.nH xs),some (_,h),some (_,j)=>match Nat.beq te.size 1 with
       | true=>some { bM:=[0<=j/\j<=h/\h<=n],val:=.eV lab (h.toNat-j.toNat),new:=[.nH ((xs.drop j.toNat).take (h.toNat-j.toNat))] }
       | false=>none
     | _,_,_,_=>none
   | _=>none
 | _,_,_=>none
theorem Ti (aT:cA P Γ) (ht:cE V g a) (hg:bL Γ V) {T':aZ} (aL:∀ l B,T' l=some B->T l=some B) (hT:aC w0 M V T w) {t:TypeId} {x:Operand} {lo hi mx:Option Operand} (bT:o.op = .slice t x lo hi mx) {lab:Nat} (hf:V.fresh lab)
 (he:Jw Γ g T' t x lo hi mx lab=some e) (ho:∀ q∈e.bM,q):kE P w0 M V T lab e o a w:=by
 unfold Jw at he
 split at he
 case h_2=>cases he
 rename_i l n ti hx dV
 split at he
 case h_2=>cases he
 rename_i el hd
 split at he
 case h_2=>cases he
 rename_i te xs sh h sj j eA hB hh hj
 split at he
 case h_2=>cases he
 rename_i fQ
 have fQ:=cH fQ
 simp only [aU] at he
 subst he
 have hb:0<=j/\j<=h/\h<=n:=ho _ (by simp)
 have ex:=bF ht hg hx
 obtain ⟨u,hσ,hF⟩:=hT.sL l _ (aL l _ hB)
 simp only [den,hσ,Option.bind_some] at ex
 obtain ⟨CI,hv⟩:=cY ex
 have hnx:n=xs.length:=by
  have h1:=hF.1.eV
  rcases hv with ⟨⟨ad,rfl⟩,h0⟩ | ⟨b,base,c,rfl,_⟩
  .rcases hF.1 with ⟨_,rfl⟩ | ⟨_,_,_,h2,_⟩
   .simpa using h0
   .injection h2 with _ h3 _;omega
  .rcases hF.1 with ⟨⟨ad,h2⟩,rfl⟩ | ⟨_,_,_,h2,_⟩
   .injection h2 with _ h3 _
   .injection h2 with _ h3 _
 obtain ⟨ad,c,rfl,hc⟩:∃ ad c,u = .slice ad n c/\n<=c:=by
  rcases hv with ⟨⟨ad,rfl⟩,h0⟩ | ⟨b,base,c,rfl,hc⟩
  .exact ⟨ad,0,by rw [h0],by omega⟩
  .exact ⟨_,c,rfl,hc⟩
 have hu:=(aT t ti dV).1
 rw [hd] at hu
 obtain ⟨_,i,z,fS,cD,_⟩:=aT el te eA
 have hr:=dY (P:=P) (w:=w) (a:=a) true n c (lo:=lo) (hi:=hi) (mx:=none) (m:=(c:Int)) (h:=h) (k:=j) (.inl ⟨rfl,rfl⟩) (eH ht hg hh) (eH ht hg hj) rfl ⟨by omega,by omega,by omega,by omega,by omega,by omega⟩
 have hFp:=hF.part (j:=j.toNat) (h:=h.toNat) (by omega) (by omega)
 have hlen:((xs.drop j.toNat).take (h.toNat-j.toNat)).length=h.toNat-j.toNat:=by simp;omega
 have dR:(execOp a.eval o).run P w = .ok (.value (pW j.toNat h.toNat (.slice ad n c))) w:=by
  unfold execOp
  simp only [bT,CI,Option.map_none,Instr.sliceAt,Instr.slice,Sem.run_bind,run_underlying hu w,Result.andThen_ok,Sem.run_pure,run_sizeOf fS] at hr |-
  simp only [hr,Result.andThen_ok,cD,fQ,Nat.mul_one,Int.toNat_natCast,pW]
 intro K Q hK
 unfold Oper.wp
 rw [dR,Oper.upon_value]
 have rY:(V.aV lab (pW j.toNat h.toNat (.slice ad n c))).σ lab=some (pW j.toNat h.toNat (.slice ad n c)):=by simp [aY.aV]
 refine hK (V.aV lab (pW j.toNat h.toNat (.slice ad n c))) _ w (aY.bS hf lab (Nat.le_refl _) (by omega) _) ?_ ?_
 .have:=hFp.1.eV
  rw [hlen] at this
  simp only [den,rY,Option.bind_some,this]
 .refine hT.step (N:=fun m=>if m=lab then some (.nH ((xs.drop j.toNat).take (h.toNat-j.toNat))) else none) (aY.bS hf lab (Nat.le_refl _) (by omega) _).1 (fun m C hm=>?_) (fun m C hm=>?_) (fun m C q hm hq=>?_) (fun m C m' C' q dD hm jX sR _=>?_) (Nat.le_refl _) (fun _ _ _=>rfl) rfl rfl rfl (fun m C hm=>?_)
  .unfold eI bJ.eG at hm
   simp only [fO,List.nil_append,look] at hm
   by_cases e:m=lab
   .subst e
    left
    simpa using hm
   .right
    refine ⟨if_neg e,?_⟩
    have:Nat.beq lab m=false:=by
     cases lA:Nat.beq lab m with
     | false=>rfl
     | true=>exact absurd (cH lA).symm e
    simpa [this] using hm
  .split at hm
   .cases hm;exact ⟨[],rfl,trivial⟩
   .cases hm
  .split at hm
   .cases hm;cases hq
   .cases hm
  .split at hm
   .cases hm;cases sR
   .cases hm
  .split at hm
   .rename_i e
    subst e
    cases hm
    exact ⟨_,rY,hFp⟩
   .cases hm
end aUw
def uL:SV->Option Nat
 | .aG l _ _ _ _=>some l
 | .buf l=>some l
 | .mS l _ _=>some l
 | .eV l _=>some l
 | .cP l _ _ _=>some l
 | _=>none
section aUv
variable {P:Program} {Γ:Env} {V:aY} {w w0:World} {M:Nat->Prop} {T:aZ} {g:Nat->Option SV} {a:Act} {o:Oper} {e:bJ}
def aFp:SB->Option (List (Int × Int))
 | .eM xs _=>some xs
 | .qI xs=>some xs
 | _=>none
def Fu (T:aZ):SV->Option (List (Int × Int))
 | .raw (.slice none 0 0)=>some []
 | .buf l=>match T l with
   | some B=>aFp B
   | _=>none
 | .eV l _=>match T l with
   | some (.qI xs)=>some xs
   | _=>none
 | _=>none
theorem Jh {l:Nat} {B:SB} {xs:List (Int × Int)} (lS:okB V w l B) (h:aFp B=some xs):∃ u,V.σ l=some u/\Lp w u xs/\∀ n,eQ u=some n->B.aN V l=some n:=by
 obtain ⟨cs,hc,hh⟩:=lS
 cases B with
 | eM ys ty=>
   cases h
   cases hc
   obtain ⟨u,hσ,bK⟩:=hh
   refine ⟨u,hσ,?_,fun n hn=>by simp [SB.aN,hσ,dZ hn]⟩
   rcases bK.2 with ⟨rfl,h0⟩ | ⟨gb,cap,cur,rfl,_,hh,hle,_,_,cR⟩
   .exact .inl ⟨.nil,List.eq_nil_of_length_eq_zero h0⟩
   .refine .inr ⟨gb,0,cap,rfl,(Array.getElem?_eq_some_iff.1 hh).1,hle,fun j u hj=>?_⟩
    rw [cell_of_row w gb _ _ _ _ hh]
    rw [<- cR,List.getElem?_take] at hj
    split at hj
    .simpa using hj
    .cases hj
 | qI ys=>
   cases h
   obtain ⟨u,hσ,bK⟩:=hh
   exact ⟨u,hσ,bK,fun n hn=>by simp [SB.aN,hσ,hn]⟩
 | _=>cases h
theorem Ct {v:SV} {x:Value} {ys:List (Int × Int)} (hT:aC w0 M V T w) (hv:den V v=some x) (h:Fu T v=some ys) :
 Lp w x ys/\∀ n,eQ x=some n->∃ l B,uL v=some l/\T l=some B/\B.aN V l=some n:=by
 unfold Fu at h
 split at h
 .cases h
  simp only [den,aU] at hv
  subst hv
  exact ⟨.inl ⟨.nil,rfl⟩,fun n hn=>by cases hn⟩
 .rename_i l
  split at h
  case h_2=>cases h
  rename_i B hB
  obtain ⟨u,hσ,h1,h2⟩:=Jh (hT.ok l _ hB) h
  simp only [den,hσ,aU] at hv
  subst hv
  exact ⟨h1,fun n hn=>⟨l,_,rfl,hB,h2 n hn⟩⟩
 .rename_i l n0
  split at h
  case h_2=>cases h
  rename_i xs hB
  cases h
  obtain ⟨cs,hc,u,hσ,bK⟩:=hT.ok l _ hB
  simp only [den,Option.bind_eq_some_iff] at hv
  obtain ⟨u',fU,hv⟩:=hv
  rw [hσ] at fU
  cases fU
  obtain ⟨rfl,_⟩:=cY hv
  exact ⟨bK,fun n hn=>⟨l,_,rfl,hB,by simp [SB.aN,hσ,hn]⟩⟩
 .cases h
theorem Lp.eV {x:Value} {ys:List (Int × Int)} (h:Lp w x ys):iF ys.length x=some x:=by
 rcases h with ⟨⟨a,rfl⟩,rfl⟩ | ⟨b,o,c,rfl,_,hc,_⟩
 .cases a <;> simp [iF]
 .simp [iF,hc]
def zZ:List SV->Option (List (Int × Int))
 | []=>some []
 | .int _ .i64 x :: .int _ .i64 y::r=>(zZ r).map ((x,y) :: ·)
 | _=>none
theorem Sm {V:aY}:∀ {cs:List SV} {ps:List (Int × Int)},zZ cs=some ps->aE V cs=some (eC ps):=by
 intro cs
 fun_induction zZ cs with
 | case1=>intro ps h;cases h;rfl
 | case2 s1 x s2 y r ih=>
   intro ps h
   simp only [Option.map_eq_some_iff] at h
   obtain ⟨qs,hq,rfl⟩:=h
   simp [aE,den,ih hq,eC]
 | case3=>intro ps h;cases h
def aFj (T:aZ) (y:SV):Option (List (Int × Int)):=match Fu T y with
 | some ys=>some ys
 | none=>match Az T 2 y with
   | some (m,cs)=>match zZ cs with
     | some ys=>match Nat.beq ys.length m with
       | true=>some ys
       | false=>none
     | none=>none
   | none=>none
theorem oY:∀ xs:List (Int × Int),(eC xs).length=xs.length*2
 | []=>rfl
 | p::r=>by
   have:=oY r
   simp only [eC,List.flatMap_cons,List.length_append,List.length_cons,List.length_nil] at this |-
   omega
theorem pR (xs ys:List (Int × Int)):eC (xs++ys)=eC xs++eC ys:=by simp [eC]
theorem Gv (xs:List (Int × Int)):∀ q∈eC xs,q.oneCell'=true:=by
 intro q hq
 simp only [eC,List.mem_flatMap] at hq
 obtain ⟨p,_,hq⟩:=hq
 simp only [List.mem_cons,List.not_mem_nil,or_false] at hq
 rcases hq with rfl | rfl <;> rfl
theorem WA {y:SV} {v:Value} {ys:List (Int × Int)} (hT:aC w0 M V T w) (hv:den V y=some v) (h:aFj T y=some ys) :
 (∃ a,v = .slice a 0 0/\ys=[])\/∃ (ad:Addr) (c:Nat),v = .slice (some ad) ys.length c/\∀ (j:Nat) (u:Value),(eC ys)[j]?=some u->w.cell? (ad.add j)=some u:=by
 unfold aFj at h
 split at h
 .rename_i ys' hs
  cases h
  rcases (Ct hT hv hs).1 with ⟨⟨a,rfl⟩,rfl⟩ | ⟨b,o,c,rfl,_,_,hc⟩
  .exact .inl ⟨a,rfl,rfl⟩
  .exact .inr ⟨_,c,rfl,fun j u hj=>by rw [bG];exact hc j u hj⟩
 .split at h
  case h_2=>cases h
  rename_i m cs hs
  split at h
  case h_2=>cases h
  rename_i ys' hp
  split at h
  case h_2=>cases h
  rename_i hl
  have hl:=cH hl
  cases h
  obtain ⟨xs,h1,_,h3⟩:=rO hT hv hs
  have e:=h1.symm.trans (Sm hp)
  cases e
  rcases h3 with ⟨rfl,rfl,h0⟩ | ⟨ad,c,rfl,_,hc⟩
  .exact .inl ⟨_,rfl,List.eq_nil_of_length_eq_zero hl⟩
  .exact .inr ⟨ad,c,by rw [hl],hc⟩
def aGy (T:aZ) (el:TypeId):SV->Option (Option Nat × List (Int × Int))
 | .raw (.slice none 0 0)=>some (none,[])
 | .buf l=>match T l with
   | some (.eM xs ty)=>match Nat.beq ty el with
     | true=>some (some l,xs)
     | false=>none
   | _=>none
 | _=>none
theorem aCt {el:TypeId} {v:SV} {x:Value} {lo:Option Nat} {xs:List (Int × Int)} (hT:aC w0 M V T w) (hv:den V v=some x) (h:aGy T el v=some (lo,xs)) :
 w.ownsRow 0 el 2 x xs.length (eC xs)/\(lo=none->x.ownBlock=none)/\∀ l,lo=some l->∃ B,T l=some B/\B.owned=true/\∀ n,x.ownBlock=some n->B.aN V l=some n:=by
 unfold aGy at h
 split at h
 .cases h
  simp only [den,aU] at hv
  subst hv
  exact ⟨World.ownsRow_nil w 0 el 2,fun _=>rfl,fun l hl=>(by cases hl)⟩
 .rename_i l
  split at h
  case h_2=>cases h
  rename_i ys ty hB
  split at h
  case h_2=>cases h
  rename_i aT
  have:=cH aT
  subst this
  cases h
  obtain ⟨cs,hc,u,hσ,bK⟩:=hT.ok l _ hB
  cases hc
  simp only [den,hσ,aU] at hv
  subst hv
  exact ⟨bK,fun h=>(by cases h),fun l' rK=>by cases rK;exact ⟨_,hB,rfl,fun n hn=>by simp [SB.aN,hσ,hn]⟩⟩
 .cases h
def HK (T:aZ) (te:TI) (el:TypeId) (lab:Nat) (x y:SV):Option bJ:=
 match Nat.beq te.size 2&&Nat.beq te.zero.length 2,aGy T el x with
 | true,some (lo,xs)=>match aFj T y with
   | some ys=>some { bM:=[(xs.length+ys.length)*te.bytes<=140737488355328/\xs.length+ys.length<=9223372036854775807],val:=.buf lab,new:=[.eM (xs++ys) el],wr:=fV lo }
   | none=>none
 | _,_=>none
theorem PV (aT:cA P Γ) {T':aZ} (aL:∀ l B,T' l=some B->T l=some B) (hT:aC w0 M V T w) {lab:Nat} (hf:V.fresh lab) {t ty el:TypeId} {te:TI} (ht:P.underlying t=some (.slice el)) (eA:Γ.ty el=some te)
 {x y:SV} {u v:Value} (hx:den V x=some u) (hy:den V y=some v) (he:HK T' te el lab x y=some e) (ho:∀ q∈e.bM,q):nZ P w0 M V T lab e (Builtin.append_ #[t,t] ty #[u,v]) w:=by
 unfold HK at he
 split at he
 case h_2=>cases he
 rename_i lo xs gJ hd
 split at he
 case h_2=>cases he
 rename_i ys hr
 cases he
 simp only [Bool.and_eq_true] at gJ
 have rY:=cH gJ.1
 have hz2:=cH gJ.2
 obtain ⟨_,i,z,hi,cD,jJ,hz,hzero⟩:=aT el te eA
 have Ui:i.size=2:=cD.trans rY
 have qJ:z.cells.size=i.size:=by
  have h1:=bB (hzero V)
  rw [Ui,<- hz2,<- h1];simp
 obtain ⟨qH,lA⟩:=ho _ cM
 obtain ⟨bK,iY,Hr⟩:=aCt (hT.sub aL) hx hd
 have iU:∀ l,lo=some l->∃ B,T l=some B/\B.owned=true/\∀ n,u.ownBlock=some n->B.aN V l=some n:=fun l hl=>by
  obtain ⟨B,h1,h2,h3⟩:=Hr l hl;exact ⟨B,aL l B h1,h2,h3⟩
 rw [<- Ui] at bK
 have Ib:xs.length+ys.length<=maxLen:=by simp only [maxLen];omega
 have go:∀ (ad:Addr) (c:Nat),v = .slice (some ad) ys.length c->(∀ (j:Nat) (u:Value),(eC ys)[j]?=some u->w.cell? (ad.add j)=some u)->nZ P w0 M V T lab { bM:=[(xs.length+ys.length)*te.bytes<=140737488355328/\xs.length+ys.length<=9223372036854775807],val:=.buf lab,new:=[.eM (xs++ys) el],wr:=fV lo } (Builtin.append_ #[t,t] ty #[u,v]) w:=by
  rintro ad c rfl bV
  have hl:(eC ys).length=ys.length*i.size:=by rw [Ui];exact oY ys
  obtain ⟨v',w',dR,jP,qL,_⟩:=run_append_own (P:=P) w 0 t ty el i z i.size i.bytes ht hi hz rfl rfl qJ (by omega) u xs.length (eC xs) bK ad ys.length c (eC ys) hl bV (Gv ys) Ib (by rw [jJ];exact qH) (Nat.zero_le _)
  have fA:=kJ (P:=P) ht hi hz bK rfl hl bV (Gv ys) Ib (by rw [jJ];exact qH) dR
  refine ⟨V.aV lab v',v',w',dR,aY.bS hf lab (Nat.le_refl _) (by omega) v',by simp [den,aY.aV],?_⟩
  have lS:okB (V.aV lab v') w' lab (.eM (xs++ys) el):=⟨eC (xs++ys),rfl,v',by simp [aY.aV],by rw [List.length_append,pR,<- Ui];exact jP⟩
  exact hT.pM hf lS (fun n hb=>by simpa [SB.aN,aY.aV] using hb) qL fA iY iU _ _
 rcases WA (hT.sub aL) hy hr with ⟨ad,rfl,rfl⟩ | ⟨ad,c,hv,bV⟩
 .cases ad with
  | some ad=>exact go ad 0 rfl (fun j u hj=>by simp [eC] at hj)
  | none=>
    have dR:=run_append_owned_none (P:=P) (w:=w) 0 t ty el i i.size ht hi u xs.length _ bK
    refine ⟨V.aV lab u,u,w,dR,aY.bS hf lab (Nat.le_refl _) (by omega) u,by simp [den,aY.aV],?_⟩
    have lS:okB (V.aV lab u) w lab (.eM (xs++[]) el):=⟨eC (xs++[]),rfl,u,by simp [aY.aV],by rw [List.append_nil,<- Ui];exact bK⟩
    exact hT.pM hf lS (fun n hb=>by simpa [SB.aN,aY.aV] using hb) ⟨rfl,rfl,rfl,Nat.le_refl _,fun _ _ _=>rfl⟩ (.inl rfl) iY iU _ _
 .exact go ad c hv bV
def Jz (Γ:Env) (g:Nat->Option SV) (t:TypeId) (x y:Operand):Option bJ:=
 match ev Γ g x,ev Γ g y,Γ.ty t with
 | some (.eV l n),some (.int _ _ k),some ti=>match ti.desc with
   | .slice el=>match Γ.ty el with
     | some te=>match Nat.beq te.size 2 with
       | true=>some { bM:=[0<=k/\k<n],val:=.jH l (2*k.toNat) }
       | false=>none
     | none=>none
   | _=>none
 | _,_,_=>none
theorem Tl (aT:cA P Γ) (ht:cE V g a) (hg:bL Γ V) (hT:aC w0 M V T w) {t:TypeId} {x y:Operand} (bT:o.op = .indexAddr t x y)
 (he:Jz Γ g t x y=some e) (ho:∀ q∈e.bM,q) (lab:Nat):kE P w0 M V T lab e o a w:=by
 unfold Jz at he
 split at he
 case h_2=>cases he
 rename_i l n sk kk k ti hx hy dV
 split at he
 case h_2=>cases he
 rename_i el hd
 split at he
 case h_2=>cases he
 rename_i te eA
 split at he
 case h_2=>cases he
 rename_i rY
 have rY:=cH rY
 simp only [aU] at he
 subst he
 have hb:0<=k/\k<n:=ho _ (by simp)
 have ex:=bF ht hg hx
 have ey:=bF ht hg hy
 simp only [den,aU] at ey
 simp only [den,Option.bind_eq_some_iff] at ex
 obtain ⟨u,hσ,hv⟩:=ex
 obtain ⟨e1,hv⟩:=cY hv
 subst e1
 rcases hv with ⟨_,rfl⟩ | ⟨b,o0,c,hv,_⟩
 .omega
 obtain ⟨_,i,z,hi,cD,_⟩:=aT el te eA
 have hu:=(aT t ti dV).1
 rw [hd] at hu
 refine bC (x:=.pointer (some ⟨b,o0+k.toNat*te.size,none⟩)) ?_ (by simp [den,hσ,hv,bG,rY,Nat.mul_comm]) rfl rfl hT
 unfold execOp
 simp only [bT,hv,<- ey,Instr.indexAt,asIntOf,Sem.run_bind,Sem.run_pure,run_underlying hu w,Result.andThen_ok,if_pos hb,run_sizeOf hi,cD,bG]
def Rk (Γ:Env) (g:Nat->Option SV) (T:aZ) (t:TypeId) (x:Operand):Option bJ:=
 match ev Γ g x,Γ.ty t with
 | some (.jH l off),some ti=>match (T l).bind aFp,sE ti.desc&&Nat.beq ti.size 2 with
   | some xs,true=>some { bM:=[off=2*(off/2)/\off/2<xs.length],val:=.agg [.int false .i64 (xs.getD (off/2) (0,0)).1,.int false .i64 (xs.getD (off/2) (0,0)).2] }
   | _,_=>none
 | _,_=>none
theorem LC {xs:List (Int × Int)} {i:Nat} (h:i<xs.length):(eC xs)[2*i]?=some (.int .i64 (xs.getD i (0,0)).1)/\(eC xs)[2*i+1]?=some (.int .i64 (xs.getD i (0,0)).2):=by
 induction xs generalizing i with
 | nil=>simp at h
 | cons p r ih=>
   have e:eC (p::r)=Value.int .i64 p.1::Value.int .i64 p.2::eC r:=rfl
   cases i with
   | zero=>rw [e];exact ⟨rfl,rfl⟩
   | succ i=>
     have:=ih (i:=i) (by simpa using h)
     rw [e,show 2*(i+1)=2*i+1+1 by omega]
     simpa using this
theorem BC (aT:cA P Γ) (ht:cE V g a) (hg:bL Γ V) {T':aZ} (aL:∀ l B,T' l=some B->T l=some B) (hT:aC w0 M V T w) {t:TypeId} {x:Operand} (bT:o.op = .load t x)
 (he:Rk Γ g T' t x=some e) (ho:∀ q∈e.bM,q) (lab:Nat):kE P w0 M V T lab e o a w:=by
 unfold Rk at he
 split at he
 case h_2=>cases he
 rename_i l off ti hx dV
 split at he
 case h_2=>cases he
 rename_i xs hB gY
 simp only [Option.bind_eq_some_iff] at hB
 obtain ⟨B,hB,hp⟩:=hB
 simp only [Bool.and_eq_true] at gY
 have rY:=cH gY.2
 simp only [aU] at he
 subst he
 obtain ⟨h1,h2⟩:=ho _ cM
 have ex:=bF ht hg hx
 obtain ⟨u,hσ,hrp,_⟩:=Jh (hT.ok l _ (aL l _ hB)) hp
 obtain ⟨hu,i,z,hi,gJ,_⟩:=aT t ti dV
 rcases hrp with ⟨_,rfl⟩ | ⟨b,base,c,rfl,_,_,fE⟩
 .simp at h2
 simp only [den,hσ,bG,aU] at ex
 obtain ⟨g1,g2⟩:=LC h2
 rw [<- h1] at g1 g2
 have dR:=(dK (P:=P) hu hi b (base+off) [.int .i64 (xs.getD (off/2) (0,0)).1,.int .i64 (xs.getD (off/2) (0,0)).2] (by rw [gJ,rY];rfl) (fun j v hj=>by
  match j,hj with
  | 0,hj=>simp only [List.getElem?_cons_zero,aU] at hj;subst hj;exact fE _ _ g1
  | 1,hj=>simp only [List.getElem?_cons_succ,List.getElem?_cons_zero,aU] at hj;subst hj;rw [Nat.add_assoc];exact fE _ _ g2
  | j+2,hj=>simp at hj)).1 gY.1
 refine bC (x:=.agg #[.int .i64 (xs.getD (off/2) (0,0)).1,.int .i64 (xs.getD (off/2) (0,0)).2]) ?_ (by simp [den,aE]) rfl rfl hT
 unfold execOp
 simp only [bT,<- ex,Instr.loadAt,Instr.sureAddr,Sem.run_bind,Sem.run_pure,Result.andThen_ok,dR]
def nN (j h:Nat):Value->Value
 | .slice ad _ c=>.slice (if c=j then ad else ad.map (·.add (j*2))) (h-j) (c-j)
 | v=>v
theorem Lp.part {u:Value} {xs:List (Int × Int)} {j h:Nat} (hF:Lp w u xs) (hj:j<=h) (hh:h<=xs.length):Lp w (nN j h u) ((xs.drop j).take (h-j))/\∀ n,eQ (nN j h u)=some n->eQ u=some n:=by
 have hlen:((xs.drop j).take (h-j)).length=h-j:=by simp;omega
 rcases hF with ⟨⟨ad,rfl⟩,rfl⟩ | ⟨b,base,c,rfl,cI,hle,fE⟩
 .have:j=0/\h=0:=by simp at hh;omega
  obtain ⟨rfl,rfl⟩:=this
  exact ⟨.inl ⟨⟨ad,by simp [nN]⟩,by simp⟩,fun n hn=>by simp [nN,eQ] at hn⟩
 .by_cases Oz:c=j
  .subst Oz
   have h0:h-c=0:=by omega
   refine ⟨.inr ⟨b,base,0,by simp [nN,h0],cI,by rw [hlen];omega,fun q v hq=>?_⟩,fun n hn=>?_⟩
   .rw [h0] at hq;simp [eC] at hq
   .simp [nN,eQ] at hn
  .refine ⟨.inr ⟨b,base+j*2,c-j,by simp [nN,Oz,hlen,bG],cI,by rw [hlen];omega,fun q v hq=>?_⟩,fun n hn=>?_⟩
   .rw [Nat.add_assoc]
    apply fE
    have Ug:(eC ((xs.drop j).take (h-j)))[q]?=(eC xs)[j*2+q]?:=by
     have sJ:q<(eC ((xs.drop j).take (h-j))).length:=by
      rcases Nat.lt_or_ge q (eC ((xs.drop j).take (h-j))).length with h1 | h1
      .exact h1
      .rw [List.getElem?_eq_none h1] at hq;cases hq
     rw [oY,hlen] at sJ
     have e:xs=xs.take j++((xs.drop j).take (h-j)++(xs.drop j).drop (h-j)):=by rw [List.take_append_drop,List.take_append_drop]
     have e2:eC xs=eC (xs.take j)++(eC ((xs.drop j).take (h-j))++eC ((xs.drop j).drop (h-j))):=by
      rw [<- pR,<- pR,<- e]
     have l1:(eC (xs.take j)).length=j*2:=by rw [oY];simp;omega
     rw [e2,List.getElem?_append_right (by omega),l1,Nat.add_sub_cancel_left,List.getElem?_append_left (by rw [oY,hlen];exact sJ)]
    rw [<- Ug];exact hq
   .simp only [nN,if_neg Oz] at hn
    have:=dZ hn
    obtain ⟨c',rfl⟩:∃ c',c=c'+1:=⟨c-1,by omega⟩
    simpa [eQ,Value.ownBlock,bG] using this
def Jv (Γ:Env) (g:Nat->Option SV) (T:aZ) (t:TypeId) (x:Operand) (lo hi mx:Option Operand) (lab:Nat):Option bJ:=
 match ev Γ g x,Γ.ty t,mx with
 | some (.eV l n),some ti,none=>match ti.desc with
   | .slice el=>match Γ.ty el,T l,wY Γ g hi false n,wY Γ g lo true 0 with
     | some te,some (.qI xs),some (_,h),some (_,j)=>match Nat.beq te.size 2 with
       | true=>some { bM:=[0<=j/\j<=h/\h<=n],val:=.eV lab (h.toNat-j.toNat),new:=[.qI ((xs.drop j.toNat).take (h.toNat-j.toNat))] }
       | false=>none
     | _,_,_,_=>none
   | _=>none
 | _,_,_=>none
theorem Te (aT:cA P Γ) (ht:cE V g a) (hg:bL Γ V) {T':aZ} (aL:∀ l B,T' l=some B->T l=some B) (hT:aC w0 M V T w) {t:TypeId} {x:Operand} {lo hi mx:Option Operand} (bT:o.op = .slice t x lo hi mx) {lab:Nat} (hf:V.fresh lab)
 (he:Jv Γ g T' t x lo hi mx lab=some e) (ho:∀ q∈e.bM,q):kE P w0 M V T lab e o a w:=by
 unfold Jv at he
 split at he
 case h_2=>cases he
 rename_i l n ti hx dV
 split at he
 case h_2=>cases he
 rename_i el hd
 split at he
 case h_2=>cases he
 rename_i te xs sh h sj j eA hB hh hj
 split at he
 case h_2=>cases he
 rename_i rY
 have rY:=cH rY
 simp only [aU] at he
 subst he
 have hb:0<=j/\j<=h/\h<=n:=ho _ (by simp)
 have ex:=bF ht hg hx
 have hTB:=aL l _ hB
 obtain ⟨u,hσ,hF,fA⟩:=Jh (hT.ok l _ hTB) rfl
 simp only [den,hσ,Option.bind_some] at ex
 obtain ⟨CI,hv⟩:=cY ex
 obtain ⟨ad,c,Ef,hc,hn⟩:∃ ad c,u = .slice ad xs.length c/\xs.length<=c/\n=xs.length:=by
  rcases hF with ⟨⟨ad,rfl⟩,h0⟩ | ⟨b,base,c,rfl,_,hc,_⟩
  .rcases hv with ⟨_,h1⟩ | ⟨b,o,c,h1,h2⟩
   .exact ⟨ad,0,by rw [h0];rfl,by simp [h0],by rw [h1,h0];rfl⟩
   .cases h1;exact ⟨_,0,by rw [h0];rfl,by simp [h0],by rw [h0];rfl⟩
  .rcases hv with ⟨⟨_,h1⟩,h2⟩ | ⟨b,o,c,h1,h2⟩
   .injection h1 with _ h3 _;exact ⟨_,c,rfl,hc,by omega⟩
   .injection h1 with _ h3 _;exact ⟨_,_,rfl,hc,h3.symm⟩
 subst hn
 have hu:=(aT t ti dV).1
 rw [hd] at hu
 obtain ⟨_,i,z,fS,cD,_⟩:=aT el te eA
 have hr:=dY (P:=P) (w:=w) (a:=a) true xs.length c (lo:=lo) (hi:=hi) (mx:=none) (m:=(c:Int)) (h:=h) (k:=j) (.inl ⟨rfl,rfl⟩) (eH ht hg hh) (eH ht hg hj) rfl ⟨by omega,by omega,by omega,by omega,by omega,by omega⟩
 obtain ⟨hFp,hbp⟩:=hF.part (j:=j.toNat) (h:=h.toNat) (by omega) (by omega)
 have hlen:((xs.drop j.toNat).take (h.toNat-j.toNat)).length=h.toNat-j.toNat:=by simp;omega
 have dR:(execOp a.eval o).run P w = .ok (.value (nN j.toNat h.toNat u)) w:=by
  unfold execOp
  simp only [bT,CI,Ef,Option.map_none,Instr.sliceAt,Instr.slice,Sem.run_bind,run_underlying hu w,Result.andThen_ok,Sem.run_pure,run_sizeOf fS] at hr |-
  simp only [hr,Result.andThen_ok,cD,rY,Int.toNat_natCast,nN]
 intro K Q hK
 unfold Oper.wp
 rw [dR,Oper.upon_value]
 have bN:=aY.bS hf lab (Nat.le_refl _) (by omega) (nN j.toNat h.toNat u)
 have hse:(V.aV lab (nN j.toNat h.toNat u)).σ lab=some (nN j.toNat h.toNat u):=by simp [aY.aV]
 refine hK (V.aV lab (nN j.toNat h.toNat u)) _ w bN ?_ ?_
 .simp only [den,hse,Option.bind_some]
  rcases hFp with ⟨⟨ad',h1⟩,h2⟩ | ⟨b,o',c',h1,_,h2,_⟩
  .rw [h1]
   have:h.toNat-j.toNat=0:=by rw [<- hlen,h2];rfl
   rw [this]
   cases ad' <;> simp [iF]
  .rw [h1,hlen]
   rw [hlen] at h2
   simp [iF,h2]
 .refine hT.step (N:=fun m=>if m=lab then some (.qI ((xs.drop j.toNat).take (h.toNat-j.toNat))) else none) bN.1 (fun m C hm=>?_) (fun m C hm=>?_) (fun m C q hm hq=>?_) (fun m C m' C' q dD hm jX sR _=>?_) (Nat.le_refl _) (fun _ _ _=>rfl) rfl rfl rfl (fun m C hm=>?_)
  .unfold eI bJ.eG at hm
   simp only [fO,List.nil_append] at hm
   by_cases e:m=lab
   .subst e
    left
    rw [aI] at hm
    rw [if_pos rfl];exact hm
   .right
    rw [aD (fun q=>e q.symm)] at hm
    exact ⟨by rw [if_neg e],hm⟩
  .split at hm
   .rename_i e;subst e;cases hm;exact ⟨_,rfl,_,hse,hFp⟩
   .cases hm
  .right;right
   split at hm
   .rename_i e
    subst e
    cases hm
    refine ⟨rfl,fun l2 B2 hn h2 h3 h4=>?_⟩
    simp only [SB.aN,hse,Option.bind_some] at hq
    by_cases e2:l2=l
    .subst e2;rw [hTB] at h2;cases h2;cases h3
    .exact hT.jN l2 B2 l _ q e2 h2 hTB h3 h4 (fA q (hbp q hq))
   .cases hm
  .split at hm
   .cases hm;cases sR
   .cases hm
  .split at hm
   .cases hm;trivial
   .cases hm
def Js (Γ:Env) (g:Nat->Option SV) (T:aZ) (t:TypeId) (x:Operand) (lo hi mx:Option Operand) (lab:Nat):Option bJ:=
 match ev Γ g x,Γ.ty t,lo,mx with
 | some (.raw (.slice (some ad) n c)),some ti,none,none=>match ti.desc with
   | .slice el=>match Γ.ty el,wY Γ g hi false n with
     | some _,some (_,h)=>some { bM:=[0<=h/\h<=c],val:=.raw (.slice (some ad) h.toNat c) }
     | _,_=>none
   | _=>none
 | some (.sP l n),some ti,none,none=>match ti.desc with
   | .slice el=>match Γ.ty el,T l,wY Γ g hi false n with
     | some te,some (.gK ds z),some (_,h)=>match Nat.beq te.size 1 with
       | true=>some { bM:=[0<=h/\h<=n],val:=.sP lab h.toNat,new:=[.lU ((ds++List.replicate z []).take h.toNat)] }
       | false=>none
     | _,_,_=>none
   | _=>none
 | _,_,_,_=>none
theorem Tb (aT:cA P Γ) (ht:cE V g a) (hg:bL Γ V) {T':aZ} (aL:∀ l B,T' l=some B->T l=some B) (hT:aC w0 M V T w) {t:TypeId} {x:Operand} {lo hi mx:Option Operand} (bT:o.op = .slice t x lo hi mx) {lab:Nat} (hf:V.fresh lab)
 (he:Js Γ g T' t x lo hi mx lab=some e) (ho:∀ q∈e.bM,q):kE P w0 M V T lab e o a w:=by
 unfold Js at he
 split at he
 case h_3=>cases he
 .rename_i ad n c ti hx dV
  split at he
  case h_2=>cases he
  rename_i el hd
  split at he
  case h_2=>cases he
  rename_i te sh h eA hh
  simp only [aU] at he
  subst he
  have hb:0<=h/\h<=c:=ho _ (by simp)
  have ex:=bF ht hg hx
  simp only [den,aU] at ex
  have hu:=(aT t ti dV).1
  rw [hd] at hu
  obtain ⟨_,i,z,fS,cD,_⟩:=aT el te eA
  have hr:=dY (P:=P) (w:=w) (a:=a) true n c (lo:=none) (hi:=hi) (mx:=none) (m:=(c:Int)) (h:=h) (k:=((0:Nat):Int)) (.inl ⟨rfl,rfl⟩) (eH ht hg hh) (.inl ⟨rfl,rfl⟩) rfl ⟨by omega,by omega,by omega,by omega,by omega,by omega⟩
  have dR:(execOp a.eval o).run P w = .ok (.value (.slice (some ad) h.toNat c)) w:=by
   unfold execOp
   simp only [bT,<- ex,Option.map_none,Instr.sliceAt,Instr.slice,Sem.run_bind,run_underlying hu w,Result.andThen_ok,Sem.run_pure,run_sizeOf fS] at hr |-
   simp only [hr,Result.andThen_ok,Int.toNat_natCast,Nat.zero_mul,Nat.sub_zero,Option.map_some]
   simp [Addr.add]
  intro K Q hK
  unfold Oper.wp
  rw [dR,Oper.upon_value]
  exact hK V _ w (V.cN lab) rfl (by rw [jW T lab rfl rfl];exact hT)
 .rename_i l n ti hx dV
  split at he
  case h_2=>cases he
  rename_i el hd
  split at he
  case h_2=>cases he
  rename_i te ds z sh h eA hB hh
  split at he
  case h_2=>cases he
  rename_i fQ
  have fQ:=cH fQ
  simp only [aU] at he
  subst he
  have hb:0<=h/\h<=n:=ho _ (by simp)
  have ex:=bF ht hg hx
  obtain ⟨v,us,hσ,hL,RC,Ap⟩:=JG (hT.sL l _ (aL l _ hB))
  simp only [den,hσ,Option.bind_some,zA,List.head?_cons] at ex
  obtain ⟨CI,hv⟩:=cY ex
  obtain ⟨ad,c,rfl,hc⟩:∃ ad c,v = .slice ad n c/\n<=c:=by
   rcases hv with ⟨⟨ad,rfl⟩,h0⟩ | ⟨b,base,c,rfl,hc⟩
   .exact ⟨ad,0,by rw [h0],by omega⟩
   .exact ⟨_,c,rfl,hc⟩
  have hn:n=us.length:=by
   rcases hL.1 with ⟨⟨ad,h2⟩,rfl⟩ | ⟨_,_,_,h2,_⟩
   .injection h2
   .injection h2
  have hu:=(aT t ti dV).1
  rw [hd] at hu
  obtain ⟨_,i,zv,fS,cD,_⟩:=aT el te eA
  have hr:=dY (P:=P) (w:=w) (a:=a) true n c (lo:=none) (hi:=hi) (mx:=none) (m:=(c:Int)) (h:=h) (k:=((0:Nat):Int)) (.inl ⟨rfl,rfl⟩) (eH ht hg hh) (.inl ⟨rfl,rfl⟩) rfl ⟨by omega,by omega,by omega,by omega,by omega,by omega⟩
  have dR:(execOp a.eval o).run P w = .ok (.value (.slice ad h.toNat c)) w:=by
   unfold execOp
   simp only [bT,CI,Option.map_none,Instr.sliceAt,Instr.slice,Sem.run_bind,run_underlying hu w,Result.andThen_ok,Sem.run_pure,run_sizeOf fS] at hr |-
   simp only [hr,Result.andThen_ok,Int.toNat_natCast,Nat.zero_mul,Nat.sub_zero]
   cases ad <;> simp [Addr.add]
  have CD:(us.take h.toNat).length=h.toNat:=by rw [List.length_take];omega
  have rY:(V.aV lab (.tuple (Value.slice ad h.toNat c::us.take h.toNat).toArray)).σ lab=some (.tuple (Value.slice ad h.toNat c::us.take h.toNat).toArray):=by simp [aY.aV]
  have bN:=aY.bS hf lab (Nat.le_refl _) (by omega) (.tuple (Value.slice ad h.toNat c::us.take h.toNat).toArray)
  have aYs:iF h.toNat (.slice ad h.toNat c)=some (.slice ad h.toNat c):=by
   rcases hv with ⟨⟨ad',h1⟩,h0⟩ | ⟨b,base,c',h1,h2⟩
   .injection h1 with h3 h4 h5
    subst h3 h5
    have:h.toNat=0:=by omega
    rw [this]
    cases ad <;> simp [iF]
   .injection h1 with h3 h4 h5
    subst h3 h5
    simp [iF];omega
  intro K Q hK
  unfold Oper.wp
  rw [dR,Oper.upon_value]
  refine hK _ _ w bN (by simp only [den,rY,Option.bind_some,zA,List.head?_cons,aYs]) ?_
  refine hT.step (N:=fun m=>if m=lab then some (.lU ((ds++List.replicate z []).take h.toNat)) else none) bN.1 (fun m C hm=>?_) (fun m C hm=>?_) (fun m C q hm hq=>?_) (fun m C m' C' q dD hm jX sR _=>?_) (Nat.le_refl _) (fun _ _ _=>rfl) rfl rfl rfl (fun m C hm=>?_)
  .unfold eI bJ.eG at hm
   simp only [fO,List.nil_append] at hm
   by_cases e:m=lab
   .subst e
    left
    rw [aI] at hm
    rw [if_pos rfl];exact hm
   .right
    rw [aD (fun q=>e q.symm)] at hm
    exact ⟨if_neg e,hm⟩
  .split at hm
   .cases hm;exact ⟨[],rfl,trivial⟩
   .cases hm
  .split at hm
   .cases hm;cases hq
   .cases hm
  .split at hm
   .cases hm;cases sR
   .cases hm
  .split at hm
   .rename_i e
    subst e
    cases hm
    refine ⟨_,_,rY,⟨?_,fun q hq=>hL.2 q ?_⟩,by rw [CD,List.length_take];omega,fun i u d hu hd=>?_⟩
    .rcases hL.1 with ⟨⟨ad',h1⟩,rfl⟩ | ⟨b,o',c',h1,h2,h3,h4⟩
     .injection h1 with h5 h6 h7
      subst h5 h7
      have:h.toNat=0:=by omega
      rw [this]
      exact .inl ⟨⟨_,rfl⟩,by simp⟩
     .injection h1 with h5 h6 h7
      subst h5 h7
      refine .inr ⟨b,o',c,by rw [CD],h2,by omega,fun j u hj=>h4 j u ?_⟩
      rw [List.getElem?_take] at hj
      split at hj
      .exact hj
      .cases hj
    .cases c with
     | zero=>simp [eQ] at hq
     | succ c=>cases ad <;> simp [eQ,Value.ownBlock] at hq |-;exact hq
    .rw [List.getElem?_take] at hu hd
     split at hu
     .rename_i cI
      rw [if_pos cI] at hd
      exact Ap i u d hu hd
     .cases hu
   .cases hm
end aUv
def aY.top (V:aY) (F:Nat):Prop:=∀ l,F<=l->V.β l=none/\V.σ l=none
def aH (P:Program) (Γ:Env) (f:FuncId) (S:Sum):Prop:=
 ∀ vs T lab F e,S vs T lab F=some e->(∀ q∈e.bM,q)->∀ (w0:World) (M:Nat->Prop) (V:aY) (T2:aZ) (w:World) (xs:List Value),
   (∀ l B,T l=some B->T2 l=some B)->aC w0 M V T2 w->bL Γ V->V.fresh lab->V.top F->aE V vs=some xs ->
   ∀ (o:Oper) (a:Act) K Q,(∀ V' x w',V.ext lab V'->den V' e.val=some x->aC w0 M V' (eI T2 lab e) w'->K (a.put o.dst x) w') ->
     o.upon P a K Q ((callFunc f xs.toArray).run P w)
def Cp (P:Program) (Γ:Env) (f:FuncId) (S:Sum):Prop:=
 ∀ vs T lab F e,S vs T lab F=some e->(∀ q∈e.bM,q)->∀ (w0:World) (M:Nat->Prop) (V:aY) (T2:aZ) (w:World) (xs:List Value),
   (∀ l B,T l=some B->T2 l=some B)->aC w0 M V T2 w->bL Γ V->V.fresh lab->V.top F->aE V vs=some xs ->
   ∀ (fn:Func) (tmps:Array Value) (ds:List Deferred) (R:Ending->World->Prop),(∀ V' w',V.ext lab V'->aC w0 M V' (eI T2 lab e) w'->Leaves P fn tmps R ds .returning w') ->
     ∀ aS cs:Array Value,aS.toList++cs.toList=xs->Leaves P fn tmps R ({ target:=.fn (.func f) cs,args:=aS }::ds) .returning w
def cK (P:Program) (Γ:Env):Prop:=(∀ f S,Γ.sum f=some S->aH P Γ f S)/\(∀ f S,Γ.UZ f=some S->Cp P Γ f S) /\
 (∀ t,Γ.cmp.elem t=true->(∀ i,P.info? t=some i->i.comparable=true)/\P.stoodInHeld t=false)/\∃ d,P.depth=d+2
def jZ (a b:Option bJ):Option bJ:=match a with
 | some e=>some e
 | none=>b
def Xn (a b:IntKind):Bool:=decide (a=b)
def Qk:SB->Bool
 | .own .. | .ints .. | .eJ .. | .row .. => true
 | _=>false
def mR:List SV->List SV->Option (Bool × Bool)
 | [],[]=>some (true,true)
 | .int s k a::xs,.int s' k' b::ys=>match Xn k k',mR xs ys with
   | true,some (l,r)=>some (s&&(s'&&l),(a==b)&&r)
   | _,_=>none
 | _,_=>none
def Rf (op:BinOp) (s b:Bool):Option bJ:=match op with
 | .eql=>some { val:=.bool s b }
 | .neq=>some { val:=.bool s (!b) }
 | _=>none
def SW (T:aZ) (l o:Nat):Option ByteArray:=match T l,o with
 | some (.fP (.raw (.string s)::_)),0=>some s
 | _,_=>none
def neS:List UInt8->List UInt8->Bool
 | [],[]=>false
 | x::r,y::q=>match Nat.beq x.toNat y.toNat with
   | true=>neS r q
   | false=>true
 | _,_=>true
theorem JH:∀ {s q:List UInt8},neS s q=true->s≠q
 | [],[],h,_=>by simp [neS] at h
 | [],y::q,_,e=>by cases e
 | x::r,[],_,e=>by cases e
 | x::r,y::q,h,e=>by
   cases e
   simp only [neS,Nat.beq_refl] at h
   exact JH h rfl
def Vc (Γ:Env) (g:Nat->Option SV) (T:aZ) (op:BinOp) (t:TypeId) (x y:Operand):Option bJ:=
 match ev Γ g x,ev Γ g y with
 | some (.ptr l _ o),some (.ptr l' _ o')=>match Γ.ty t with
   | some ti=>match ti.desc with
     | .pointer el=>match Γ.ty el with
       | some te=>match Nat.beq l l' with
         | true=>match Nat.beq o o' with
           | true=>uI op true
           | false=>match Nat.beq te.size 0 with
             | true=>none
             | false=>uI op false
         | false=>match Nat.beq te.size 0,T l,T l' with
           | false,some B,some B'=>match Qk B&&Qk B' with
             | true=>uI op false
             | false=>none
           | _,_,_=>none
       | none=>none
     | _=>none
   | none=>none
 | some (.sH t1 (.ptr l _ o)),some (.sH t2 (.ptr l' _ o'))=>match Γ.ty t,Γ.ty t1 with
   | some ti,some t1i=>match ti.desc,t1i.desc with
     | .interface _,.pointer el=>match Γ.ty el with
       | some te=>match Nat.beq t1 t2&&(Nat.beq l l'&&(Nat.beq o o'&&Γ.cmp.elem t1)) with
         | true=>uI op true
         | false=>match Nat.beq t1 t2&&(Γ.cmp.elem t1 && !Nat.beq te.size 0),SW T l o,SW T l' o' with
           | true,some s,some s'=>match neS s.data.toList s'.data.toList with
             | true=>uI op false
             | false=>none
           | _,_,_=>none
       | none=>none
     | _,_=>none
   | _,_=>none
 | some (.agg xs),some (.agg ys)=>match Γ.ty t with
   | some ti=>match ti.desc with
     | .array n el=>match Γ.ty el with
       | some te=>match te.desc,Nat.beq te.size 1&&Nat.beq xs.length n,mR xs ys with
         | .int _,true,some (l,r)=>Rf op l r
         | _,_,_=>none
       | none=>none
     | _=>none
   | none=>none
 | _,_=>none
def Iw (op:BinOp) (n:Nat) (xs ys:List Int):Option bJ:=match op with
 | .eql=>some { bM:=[xs.length=n/\ys.length=n],val:=.bool false (decide (xs=ys)) }
 | .neq=>some { bM:=[xs.length=n/\ys.length=n],val:=.bool false (!decide (xs=ys)) }
 | _=>none
def Ix (Γ:Env) (g:Nat->Option SV) (op:BinOp) (t:TypeId) (x y:Operand):Option bJ:=
 match (ev Γ g x).bind cJ,(ev Γ g y).bind cJ,Γ.ty t with
 | some (k,xs),some (k2,ys),some ti=>match ti.desc with
   | .array n el=>match Γ.ty el with
     | some te=>match te.desc,Nat.beq te.size 1,yM k k2 with
       | .int _,true,true=>Iw op n xs ys
       | _,_,_=>none
     | none=>none
   | _=>none
 | _,_,_=>none
def Iu (Γ:Env) (g:Nat->Option SV) (op:BinOp) (t:TypeId) (x y:Operand):Option bJ:=
 match ev Γ g x,ev Γ g y,Γ.ty t with
 | some (.agg [.int _ k1 a,.int _ k2 b]),some (.agg [.int _ k3 c,.int _ k4 d]),some ti=>match ti.desc with
   | .struct fs=>match fs.toList with
     | [f1,f2]=>match Γ.ty f1.type,Γ.ty f2.type with
       | some t1,some t2=>match t1.desc,t2.desc,((!(f1.name == "_") && !(f2.name == "_"))&&(Nat.beq f1.offset 0&&Nat.beq f2.offset 1))&&((yM k1 k3&&yM k2 k4)&&Γ.cmp.elem t) with
         | .int _,.int _,true=>match op with
           | .eql=>some { val:=.bool false (decide (a=c)&&decide (b=d)) }
           | .neq=>some { val:=.bool false (!(decide (a=c)&&decide (b=d))) }
           | _=>none
         | _,_,_=>none
       | _,_=>none
     | _=>none
   | _=>none
 | _,_,_=>none
def Ri (Γ:Env) (g:Nat->Option SV) (t:TypeId) (x y:Operand) (lab:Nat):Option bJ:=
 match ev Γ g x,ev Γ g y,Γ.ty t with
 | some (.int true _ 0),some (.int _ _ c),some ti=>match ti.desc with
   | .slice el=>match Γ.ty el with
     | some te=>match Nat.beq te.size 2&&Nat.beq te.zero.length 2 with
       | true=>some { bM:=[0<=c/\(te.bytes:Int)*c<=2^48/\c<2^63],val:=.buf lab,new:=[.eM [] el] }
       | false=>none
     | none=>none
   | _=>none
 | _,_,_=>none
def Rj (Γ:Env) (g:Nat->Option SV) (t:TypeId) (x y:Operand) (lab:Nat):Option bJ:=
 match ev Γ g x,ev Γ g y,Γ.ty t with
 | some (.int _ _ n),some (.int _ _ c),some ti=>match ti.desc with
   | .slice el=>match Γ.ty el with
     | some te=>match te.zero,Nat.beq te.size 1 with
       | [.raw (.slice none 0 0)],true=>some { bM:=[0<=n/\n<=c/\(te.bytes:Int)*c<=2^48/\c<2^63],val:=.aG lab false 0 n.toNat c.toNat,new:=[.eJ (List.replicate c.toNat (.slice none 0 0)) el] }
       | _,_=>none
     | none=>none
   | _=>none
 | _,_,_=>none
def Iv (Γ:Env) (g:Nat->Option SV) (T:aZ) (op:BinOp) (t:TypeId) (x y:Operand):Option bJ:=
 match ev Γ g x,ev Γ g y,Γ.ty t,op with
 | some (.wT l i _),some (.raw (.slice none 0 0)),some ti,.eql=>match ti.desc,T l with
   | .slice _,some (.gK ds _)=>some { bM:=[ds.length<=i],val:=.bool true true }
   | _,_=>none
 | _,_,_,_=>none
section aDk
variable {P:Program} {Γ:Env} {V:aY} {w w0:World} {M:Nat->Prop} {T:aZ} {g:Nat->Option SV} {a:Act} {o:Oper} {e:bJ}
def HM (T:aZ) (te:TI) (x y:SV):Option bJ:=
 match x,Yr te.desc,Nat.beq te.size 1 with
 | .aG l true 0 len cap,some k,true=>match T l with
   | some (.ints k2 xs ty)=>match yM k k2,Yj T k y with
     | true,some (ob,ys)=>some { bM:=(cap=xs.length/\len+ys.length<=cap)::ob,val:=.aG l true 0 (len+ys.length) cap,wr:=[(l,.ints k (xs.take len++ys++xs.drop (len+ys.length)) ty)] }
     | _,_=>none
   | _=>none
 | _,_,_=>none
theorem PX (aT:cA P Γ) {T':aZ} (aL:∀ l B,T' l=some B->T l=some B) (hT:aC w0 M V T w) {lab:Nat} {t ty el:TypeId} {te:TI} (ht:P.underlying t=some (.slice el)) (eA:Γ.ty el=some te)
 {x y:SV} {u v:Value} (hx:den V x=some u) (hy:den V y=some v) (he:HM T' te x y=some e) (ho:∀ q∈e.bM,q):nZ P w0 M V T lab e (Builtin.append_ #[t,t] ty #[u,v]) w:=by
 unfold HM at he
 split at he
 case h_2=>cases he
 rename_i l len cap k hk gJ
 split at he
 case h_2=>cases he
 rename_i k2 xs ety hB
 split at he
 case h_2=>cases he
 rename_i ob ys Ao hq
 simp only [aU] at he
 subst he
 have Ao:k=k2:=of_decide_eq_true Ao
 subst Ao
 obtain ⟨qC,hle⟩:=ho _ cM
 obtain ⟨_,i,z,hi,cD,jJ,hz,hzero⟩:=aT el te eA
 have fQ:i.size=1:=by rw [cD];exact cH gJ
 have hh:=uY (hT.sub aL) hy hq (fun q hq=>ho q (List.mem_cons_of_mem _ hq))
 simp only [den,Option.map_eq_some_iff] at hx
 obtain ⟨p,hβ,rfl⟩:=hx
 obtain ⟨w',hr,oE⟩:=oW (P:=P) (xs:=ys) (off:=len) lab (.aG l true 0 (len+ys.length) cap) ((cap=xs.length/\len+ys.length<=cap)::ob) hT (aL l _ hB) (b:=p.1) (o:=p.2) hβ (by omega)
 have aPf:(⟨p.1,p.2,none⟩:Addr).add len=⟨p.1,p.2+len,none⟩:=by cases len <;> simp [Addr.add]
 refine ⟨V,.slice (some ⟨p.1,p.2+0,none⟩) (len+ys.length) cap,w',?_,V.cN lab,by simp [den,hβ],oE⟩
 rcases hh with ⟨rfl,qK⟩ | ⟨ad,c,rfl,bV⟩
 .have:ys=[]:=by simpa using qK
  subst this
  have hf:=run_firstCells_none (P:=P) (w:=w) 1 0 0 0
  have UJ:len<=cap:=by simpa using hle
  simp at hr
  simp [Builtin.append_,run_underlying ht,Builtin.lenOf,run_sizeOf hi,fQ,hf,UJ,aPf,hr]
 .have hf:=run_firstCells_some (P:=P) (w:=w) 1 ys.length ad ys.length c (ys.map (Value.int k)) (by simp) bV
  simp [Builtin.append_,run_underlying ht,Builtin.lenOf,run_sizeOf hi,fQ,hf,hle,aPf,hr]
def Kf (T:aZ) (te:TI) (x:SV):Option bJ:=
 match x,te.zero,Nat.beq te.size 1 with
 | .aG l false off len _,[.int _ k z],true=>match T l with
   | some (.ints k2 xs ty)=>match yM k k2 with
     | true=>some { bM:=[off+len<=xs.length],val:=.eL [],wr:=[(l,.ints k (xs.take off++List.replicate len z++xs.drop (off+len)) ty)] }
     | _=>none
   | _=>none
 | _,_,_=>none
theorem Ts (aT:cA P Γ) {T':aZ} (aL:∀ l B,T' l=some B->T l=some B) (hT:aC w0 M V T w) {lab:Nat} {t ty el:TypeId} {te:TI} (ht:P.underlying t=some (.slice el)) (eA:Γ.ty el=some te)
 {x:SV} {u:Value} (hx:den V x=some u) (he:Kf T' te x=some e) (ho:∀ q∈e.bM,q):nZ P w0 M V T lab e (Builtin.clear_ #[t] ty #[u]) w:=by
 unfold Kf at he
 split at he
 case h_2=>cases he
 rename_i l off len cap sz k z RY gJ
 split at he
 case h_2=>cases he
 rename_i k2 xs ety hB
 split at he
 case h_2=>cases he
 rename_i Ao
 simp only [aU] at he
 subst he
 have Ao:k=k2:=of_decide_eq_true Ao
 subst Ao
 have hle:=ho _ cM
 obtain ⟨_,i,zv,hi,cD,jJ,hz,hzero⟩:=aT el te eA
 have zO:zv.cells = #[.int k z]:=by
  have:=hzero V
  rw [RY] at this
  simp only [aE,den,Option.bind_some,Option.map_some,aU] at this
  rw [<- Array.toList_inj,<- this]
 simp only [den,Option.map_eq_some_iff] at hx
 obtain ⟨p,hβ,rfl⟩:=hx
 obtain ⟨w',hr,oE⟩:=oW (P:=P) (xs:=List.replicate len z) (off:=off) lab (.eL []) [off+len<=xs.length] hT (aL l _ hB) (b:=p.1) (o:=p.2) hβ (by simpa using hle)
 rw [List.length_replicate] at oE
 cases len with
 | zero=>
   refine ⟨V,.tuple #[],w',?_,V.cN lab,by simp [den,aE],oE⟩
   simp only [List.replicate_zero,List.map_nil,storeCells,Sem.run_pure,Result.ok.injEq,true_and] at hr
   subst hr
   simp [Builtin.clear_,run_underlying ht]
 | succ n=>
   refine ⟨V,.tuple #[],w',?_,V.cN lab,by simp [den,aE],oE⟩
   have hzl:(Builtin.zeroCells zv.cells (n+1)).toList=(List.replicate (n+1) z).map (Value.int k):=by
    rw [zO,iO]
    simp
   rw [<- hzl] at hr
   simp [Builtin.clear_,run_underlying ht,eF hi hz,hr]
def hdK (k:IntKind):List SV->List Int × List SV
 | .int s k' n::r=>match yM k k' with
   | true=>((n::(hdK k r).1),(hdK k r).2)
   | false=>([],.int s k' n::r)
 | r=>([],r)
def RT (k:IntKind):List SV->List SV × List Int × List SV
 | []=>([],[],[])
 | v::r=>match (hdK k (v::r)).1 with
   | []=>(v::(RT k r).1,(RT k r).2.1,(RT k r).2.2)
   | n::ns=>([],n::ns,(hdK k (v::r)).2)
theorem JR {V:aY} {k:IntKind}:∀ {cs:List SV} {xs:List Value},aE V cs=some xs->∃ qs,aE V (hdK k cs).2=some qs/\xs=(hdK k cs).1.map (Value.int k)++qs
 | [],xs,h=>⟨xs,h,rfl⟩
 | v::r,xs,h=>by
   unfold hdK
   split
   .rename_i s k' n r' e
    cases e
    split
    .rename_i hk
     have hk:k=k':=of_decide_eq_true hk
     subst hk
     simp only [aE,den,Option.bind_some,Option.map_eq_some_iff] at h
     obtain ⟨ys,hy,rfl⟩:=h
     obtain ⟨qs,h1,h2⟩:=JR (k:=k) hy
     exact ⟨qs,h1,by rw [h2];rfl⟩
    .exact ⟨xs,h,rfl⟩
   .exact ⟨xs,h,rfl⟩
theorem IK {V:aY} {k:IntKind}:∀ {cs:List SV} {xs:List Value},aE V cs=some xs->∃ ps qs,aE V (RT k cs).1=some ps/\aE V (RT k cs).2.2=some qs/\xs=ps++((RT k cs).2.1.map (Value.int k)++qs)
 | [],xs,h=>by simp only [aE,aU] at h;subst h;exact ⟨[],[],rfl,rfl,rfl⟩
 | v::r,xs,h=>by
   unfold RT
   split
   .simp only [aE,Option.map_eq_some_iff,Option.bind_eq_some_iff] at h
    obtain ⟨x,hx,ys,hy,rfl⟩:=h
    obtain ⟨ps,qs,h1,h2,h3⟩:=IK (k:=k) hy
    exact ⟨x::ps,qs,by simp [aE,hx,h1],h2,by rw [h3];rfl⟩
   .rename_i n ns e
    obtain ⟨qs,h1,h2⟩:=JR (k:=k) h
    rw [e] at h2
    exact ⟨[],qs,rfl,h1,h2⟩
def qS (k:IntKind) (cs:List SV) (ty:TypeId) (off:Nat) (ys:List Int):Prop × SB:=match RT k cs with
 | (pre,ns,post)=>((pre.length<=off/\off+ys.length<=pre.length+ns.length),match pre,post with
   | [],[]=>.ints k (ns.take off++ys++ns.drop (off+ys.length)) ty
   | pre,post=>.own (pre++(cO k ns.length (ns.take (off-pre.length)++ys++ns.drop (off-pre.length+ys.length))++post)) ty)
theorem Cq {k:IntKind} {cells:List SV} {ty:TypeId} {l off b o:Nat} {ys:List Int} (lab:Nat) (rv:SV) (ob:List Prop)
 (hT:aC w0 M V T w) (hl:T l=some (.own cells ty)) (hβ:V.β l=some (b,o)) (hle:(qS k cells ty off ys).1) :
 ∃ w',(storeCells ⟨b,o+off,none⟩ (ys.map (Value.int k))).run P w = .ok () w'/\aC w0 M V (eI T lab { bM:=ob,val:=rv,wr:=[(l,(qS k cells ty off ys).2)] }) w':=by
 obtain ⟨cs,hc,b',hb,hh⟩:=hT.ok l _ hl
 rw [hβ] at hb;cases hb
 obtain ⟨ps,qs,h1,h2,h3⟩:=IK (V:=V) (k:=k) (show aE V cells=some cs from hc)
 unfold qS at hle |-
 generalize RT k cells=sp at *
 obtain ⟨pre,ns,post⟩:=sp
 simp only at hle h1 h2 h3 |-
 obtain ⟨ha,lA⟩:=hle
 have Pk:=bB h1
 have pT:cs.length=pre.length+(ns.length+post.length):=by rw [h3];simp [Pk,bB h2]
 refine ⟨_,run_storeCells_at P b (0+off) ty _ 0 _ w hh (by simp;omega) (by intro x hx;simp only [List.mem_map] at hx;obtain ⟨y,_,rfl⟩:=hx;rfl),?_⟩
 obtain ⟨zs,qJ⟩:∃ zs,zs=ns.take (off-pre.length)++ys++ns.drop (off-pre.length+ys.length):=⟨_,rfl⟩
 have hzl:zs.length=ns.length:=by rw [qJ];simp;omega
 have key:ps++(zs.map (Value.int k)++qs)=cs.take off++ys.map (Value.int k)++cs.drop (off+(ys.map (Value.int k)).length):=by
  rw [h3,qJ]
  obtain ⟨d,rfl⟩:∃ d,off=pre.length+d:=⟨off-pre.length,by omega⟩
  have e1:(ps++(ns.map (Value.int k)++qs)).take (pre.length+d)=ps++(ns.map (Value.int k)).take d:=by
   rw [<- Pk,List.take_length_add_append,List.take_append_of_le_length (by simp;omega)]
  have e2:(ps++(ns.map (Value.int k)++qs)).drop (pre.length+d+(ys.map (Value.int k)).length)=(ns.map (Value.int k)).drop (d+ys.length)++qs:=by
   rw [<- Pk,List.length_map,Nat.add_assoc,List.drop_length_add_append,List.drop_append_of_le_length (by simp;omega)]
  rw [e1,e2,Nat.add_sub_cancel_left]
  simp [List.map_take,List.map_drop]
 split
 .have e0:ps=[]:=by cases ps with | nil=>rfl | cons=>simp at Pk
  have e1:qs=[]:=by have:=bB h2;cases qs with | nil=>rfl | cons=>simp at this
  subst e0 e1
  simp only [List.length_nil,Nat.sub_zero] at qJ
  rw [<- qJ]
  have:=hT.write (B0:=.own cells ty) (B:=.ints k zs ty) hl hβ rfl (by simp [SB.aN,hβ]) hh (cs:=cs.take off++ys.map (Value.int k)++cs.drop (off+(ys.map (Value.int k)).length)) (by rw [<- key];simp [SB.cells]) (.inr (.inl rfl)) lab rv ob
  simpa using this
 .rw [<- qJ]
  have uC:aE V (pre++(cO k ns.length zs++post))=some (ps++(zs.map (Value.int k)++qs)):=cF h1 (cF (wD hzl) h2)
  rw [key] at uC
  have:=hT.write (B0:=.own cells ty) (B:=.own (pre++(cO k ns.length zs++post)) ty) hl hβ rfl (by simp [SB.aN,hβ]) hh uC (.inl rfl) lab rv ob
  simpa using this
def Rp (T:aZ) (te:TI) (x y:SV):Option bJ:=
 match x,Yr te.desc,Nat.beq te.size 1 with
 | .aG l _ off len _,some k,true=>match Yj T k y with
   | some (ob,ys)=>match T l with
     | some (.own cs ty)=>some { bM:=(qS k cs ty off (ys.take (Nat.min ys.length len))).1::ob,val:=.int false .i64 ((Nat.min ys.length len:Nat):Int),wr:=[(l,(qS k cs ty off (ys.take (Nat.min ys.length len))).2)] }
     | some (.ints k2 xs ty)=>match yM k k2 with
       | true=>some { bM:=(off+Nat.min ys.length len<=xs.length)::ob,val:=.int false .i64 ((Nat.min ys.length len:Nat):Int),wr:=[(l,.ints k (xs.take off++ys.take (Nat.min ys.length len)++xs.drop (off+Nat.min ys.length len)) ty)] }
       | false=>none
     | _=>none
   | none=>none
 | _,_,_=>none
theorem BH (aT:cA P Γ) {T':aZ} (aL:∀ l B,T' l=some B->T l=some B) (hT:aC w0 M V T w) {lab:Nat} {dT sT ty el:TypeId} {te:TI} (ht:P.underlying dT=some (.slice el)) (eA:Γ.ty el=some te)
 {x y:SV} {u v:Value} (hx:den V x=some u) (hy:den V y=some v) (he:Rp T' te x y=some e) (ho:∀ q∈e.bM,q):nZ P w0 M V T lab e (Builtin.copy_ #[dT,sT] ty #[u,v]) w:=by
 unfold Rp at he
 split at he
 case h_2=>cases he
 rename_i l s off len cap k hk gJ
 split at he
 case h_2=>cases he
 rename_i ob ys hq
 obtain ⟨_,i,z,hi,cD,jJ,hz,hzero⟩:=aT el te eA
 have fQ:i.size=1:=by rw [cD];exact cH gJ
 simp only [den,Option.map_eq_some_iff] at hx
 obtain ⟨p,hβ,rfl⟩:=hx
 have fin:∀ (B:SB) (q:Prop),(∃ w',(storeCells ⟨p.1,p.2+off,none⟩ ((ys.take (Nat.min ys.length len)).map (Value.int k))).run P w = .ok () w'/\aC w0 M V (eI T lab { bM:=q::ob,val:=.int false .i64 ((Nat.min ys.length len:Nat):Int),wr:=[(l,B)] }) w') ->
  Mo w v (ys.map (Value.int k))->nZ P w0 M V T lab { bM:=q::ob,val:=.int false .i64 ((Nat.min ys.length len:Nat):Int),wr:=[(l,B)] } (Builtin.copy_ #[dT,sT] ty #[.slice (some ⟨p.1,p.2+off,none⟩) len cap,v]) w:=by
  rintro B q ⟨w',hr,oE⟩ hh
  refine ⟨V,.int .i64 ((Nat.min ys.length len:Nat):Int),w',?_,V.cN lab,rfl,oE⟩
  rcases hh with ⟨rfl,qK⟩ | ⟨ad,c,rfl,bV⟩
  .have:ys=[]:=by simpa using qK
   subst this
   have hf:=run_firstCells_none (P:=P) (w:=w) 1 0 0 0
   simp at hr
   simp [Builtin.copy_,run_underlying ht,Builtin.lenOf,run_sizeOf hi,fQ,hf,hr,goInt]
  .have hf:=run_firstCells_some (P:=P) (w:=w) 1 (Nat.min ys.length len) ad ys.length c ((ys.take (Nat.min ys.length len)).map (Value.int k))
    (by rw [List.length_map,List.length_take,Nat.mul_one];exact Nat.min_eq_left (Nat.min_le_left _ _))
    (fun j q hj=>by
     rw [List.map_take,List.getElem?_take] at hj
     split at hj
     .exact bV j q hj
     .cases hj)
   have e1:(ys.map (Value.int k)).length=ys.length:=by simp
   rw [e1]
   simp [Builtin.copy_,run_underlying ht,Builtin.lenOf,run_sizeOf hi,fQ,goInt] at hf hr |-
   simp [hf,hr]
 split at he
 .rename_i cs ety hB
  simp only [aU] at he
  subst he
  exact fin _ _ (Cq lab _ _ hT (aL l _ hB) hβ (ho _ cM)) (uY (hT.sub aL) hy hq (fun q hq=>ho q (List.mem_cons_of_mem _ hq)))
 .rename_i k2 xs ety hB
  split at he
  case h_2=>cases he
  rename_i Ao
  simp only [aU] at he
  subst he
  have Ao:k=k2:=of_decide_eq_true Ao
  subst Ao
  have hle:off+Nat.min ys.length len<=xs.length:=ho _ cM
  have CE:(ys.take (Nat.min ys.length len)).length=Nat.min ys.length len:=by rw [List.length_take];exact Nat.min_eq_left (Nat.min_le_left _ _)
  have:=oW (P:=P) (xs:=ys.take (Nat.min ys.length len)) (off:=off) lab (.int false .i64 ((Nat.min ys.length len:Nat):Int)) ((off+Nat.min ys.length len<=xs.length)::ob) hT (aL l _ hB) (b:=p.1) (o:=p.2) hβ (by omega)
  rw [CE] at this
  exact fin _ _ this (uY (hT.sub aL) hy hq (fun q hq=>ho q (List.mem_cons_of_mem _ hq)))
 .cases he
theorem yC {t t2 ty el:TypeId} {ik:IntKind} {i:TypeInfo} {z z0 v:Value} (ht:P.underlying t=some (.slice el)) (Ph:P.underlying t2=some (.int ik)) (hi:P.info? el=some i) (hz:i.zero=some z) (gJ:i.size=1) (zO:z.cells = #[z0]) (h1:z0.oneCell'=true)
 (k0:IntKind) (m:Nat) (h0:0<m) {n:Nat} {xs:List Value} (fJ:w.ownsRow 0 el 1 v n xs) (h63:n+m<=maxLen) (hb:(n+m)*i.bytes<=140737488355328) :
 ∃ v' w',(Builtin.append_ #[t,t2] ty #[v,.int k0 m]).run P w = .ok v' w'/\w'.ownsRow 0 el 1 v' (n+m) (xs++List.replicate m z0)/\w.grownBy w' v.ownBlock/\(v'.ownBlock=v.ownBlock\/v'.ownBlock=some w.heap.size) /\
   ∀ k,iI w k v->(∃ q,z0=Value.int k q)->iI w' k v':=by
 have Rb:n+m<=9223372036854775807:=by simp only [maxLen] at h63;omega
 have qJ:∀ c,Builtin.zeroCells z.cells c=(List.replicate c z0).toArray:=fun c=>by rw [zO,iO]
 have hw:IntKind.i64.wrap (m:Int)=m:=IntWalk.i64_in _ (by omega)
 have hmm:¬ ((m:Int)<0):=by omega
 have hbm:m*i.bytes<=140737488355328:=Nat.le_trans (Nat.mul_le_mul_right _ (Nat.le_add_left m n)) hb
 have h2:¬ (281474976710656<(m:Int)*(i.bytes:Int)):=by
  have:((m*i.bytes:Nat):Int)<=140737488355328:=by omega
  rw [Int.natCast_mul] at this
  omega
 rcases fJ.2 with ⟨rfl,rfl⟩ | ⟨g,cap,cur,rfl,_,hg,RF,DC,lW,cR⟩
 .have lV:xs=[]:=List.eq_nil_of_length_eq_zero (by simpa using fJ.1)
  subst lV
  rw [Nat.zero_add] at h63 hb Rb
  have hr:=qA (P:=P) (ty:=ty) w ht Ph hi hz gJ k0 m h0 (by omega) hb
  have hgc:=grownCap_ge w m 0 el
  have hgm:grownCap w m 0 el<=maxLen:=grownCap_le_maxLen w m 0 el (by simp only [maxLen];omega)
  refine ⟨_,_,hr,⟨by simp,.inr ⟨w.heap.size,grownCap w m 0 el,_,by rw [Nat.zero_add],Nat.zero_le _,heap_alloc_new w.drew _,by omega,hgm,?_,?_⟩⟩,⟨rfl,rfl,rfl,by simp,fun k hk _=>heap_alloc_old w.drew _ hk⟩,.inr rfl,fun k _ hq b hb=>?_⟩
  .rw [qJ,qJ];simp;omega
  .rw [qJ,qJ];simp
  .cases hb
   obtain ⟨q,rfl⟩:=hq
   refine ⟨_,_,_,heap_alloc_new w.drew _,fun x hx=>?_⟩
   rw [qJ,qJ] at hx
   simp only [Array.toList_append,List.mem_append] at hx
   rcases hx with hx | hx <;> exact ⟨q,List.eq_of_mem_replicate hx⟩
 .rw [Nat.mul_one] at lW cR
  have aPb:cur.toList.length=cap:=by rw [Array.length_toList];exact lW
  by_cases uM:n+m<=cap
  .have Hp:=run_storeCells_at P g n el (List.replicate m z0) 0 cur w hg (by simp;omega) (fun u hu=>by rw [List.eq_of_mem_replicate hu];exact h1)
   simp only [Nat.add_zero,List.length_replicate] at Hp
   have hr:(Builtin.append_ #[t,t2] ty #[.slice (some ⟨g,0,none⟩) n cap,.int k0 m]).run P w = .ok (.slice (some ⟨g,0,none⟩) (n+m) cap) (w.setRow g (cur.toList.take n++List.replicate m z0++cur.toList.drop (n+m)).toArray):=by
    have dD:m≠0:=by omega
    simp [Builtin.append_,run_underlying ht,run_underlying Ph,sizeOf,typeInfo,zeroValue,hi,hz,gJ,asInt,asIntOf,hw,hmm,h2,dD,uM,qJ,Addr.add_lit,Hp]
   refine ⟨_,_,hr,⟨by simp [fJ.1],.inr ⟨g,cap,_,rfl,Nat.zero_le _,setRow_heap w g cur _ el (0,0) hg,uM,DC,?_,?_⟩⟩,⟨rfl,rfl,rfl,by simp [World.setRow],fun k _ hk=>setRow_other w g k _ (fun e=>hk (by simp [Value.ownBlock,e]))⟩,.inl rfl,fun k hI hq b hb=>?_⟩
   .simp;omega
   .have hl:(cur.toList.take n).length=n:=by rw [List.length_take];omega
    rw [Nat.mul_one,<- cR,List.take_append_of_le_length (by simp;omega)]
    rw [List.take_of_length_le (by simp;omega)]
   .cases hb
    obtain ⟨q,rfl⟩:=hq
    obtain ⟨VA,ty2,p2,uC,kF⟩:=hI g rfl
    rw [hg] at uC
    cases uC
    refine ⟨_,_,_,setRow_heap w g cur _ el (0,0) hg,fun x hx=>?_⟩
    simp only [List.mem_append] at hx
    rcases hx with (hx | hx) | hx
    .exact kF x (List.mem_of_mem_take hx)
    .exact ⟨q,List.eq_of_mem_replicate hx⟩
    .exact kF x (List.mem_of_mem_drop hx)
  .have holds:∀ (j:Nat) (u:Value),xs[j]?=some u->w.drew.cell? ((⟨g,0,none⟩:Addr).add j)=some u:=fun j u hj=>by
    have:w.cell? ((⟨g,0,none⟩:Addr).add j)=some u:=by
     rw [bG,cell_of_row w g _ _ _ _ hg]
     rw [<- cR,List.getElem?_take] at hj
     split at hj
     .simpa using hj
     .cases hj
    simpa using this
   have DA:=run_firstCells_some (P:=P) w.drew i.size n ⟨g,0,none⟩ n cap xs (by rw [gJ];exact fJ.1) holds
   rw [gJ] at DA
   have hn:¬ (n+m<=cap):=uM
   have aGj:¬ (9223372036854775807<((n:Int)+(m:Int))):=by omega
   have h48:Builtin.nextslicecap (n+m) cap*i.bytes<=281474976710656:=growslice_fits (by omega) hb
   have aGk:¬ (281474976710656<Builtin.nextslicecap (n+m) cap*i.bytes):=by omega
   have dD:m≠0:=by omega
   have hr:(Builtin.append_ #[t,t2] ty #[.slice (some ⟨g,0,none⟩) n cap,.int k0 m]).run P w = .ok (.slice (some ⟨w.heap.size,0,none⟩) (n+m) (grownCap w (n+m) cap el))
    (w.drew.alloc (.cells (xs.toArray++Builtin.zeroCells z.cells m++Builtin.zeroCells z.cells (grownCap w (n+m) cap el-(n+m))) el)):=by
    simp [Builtin.append_,run_underlying ht,run_underlying Ph,sizeOf,typeInfo,zeroValue,hi,hz,gJ,asInt,asIntOf,hw,hmm,h2,dD,hn,aGj,aGk,Question.forced,DA,newRow,grownCap]
   have hgc:=grownCap_ge w (n+m) cap el
   have hgm:grownCap w (n+m) cap el<=maxLen:=grownCap_le_maxLen w (n+m) cap el h63
   have Fp:=fJ.1
   rw [Nat.mul_one] at Fp
   refine ⟨_,_,hr,⟨by simp [Fp],.inr ⟨w.heap.size,_,_,rfl,Nat.zero_le _,heap_alloc_new w.drew _,hgc,hgm,?_,?_⟩⟩,⟨rfl,rfl,rfl,by simp,fun k hk _=>heap_alloc_old w.drew _ hk⟩,.inr rfl,fun k hI hq b hb=>?_⟩
   .rw [qJ,qJ];simp [Fp];omega
   .rw [qJ,qJ,Nat.mul_one]
    simp only [Array.toList_append]
    rw [List.take_append_of_le_length (by simp [Fp]),List.take_of_length_le (by simp [Fp])]
   .cases hb
    obtain ⟨q,rfl⟩:=hq
    obtain ⟨VA,ty2,p2,uC,kF⟩:=hI g rfl
    rw [hg] at uC
    cases uC
    refine ⟨_,_,_,heap_alloc_new w.drew _,fun x hx=>?_⟩
    rw [qJ,qJ] at hx
    simp only [Array.toList_append,List.mem_append] at hx
    rcases hx with (hx | hx) | hx
    .rw [<- cR] at hx
     exact kF x (List.mem_of_mem_take hx)
    .exact ⟨q,List.eq_of_mem_replicate hx⟩
    .exact ⟨q,List.eq_of_mem_replicate hx⟩
def Pt (te:TI):Int:=match te.zero with
 | [.int _ _ z]=>z
 | _=>0
def HI (T:aZ) (d:TypeDesc) (te:TI) (el:TypeId) (lab:Nat) (x y:SV):Option bJ:=
 match Yr te.desc,Nat.beq te.size 1&&(Nat.blt 0 te.bytes&&zI te),d,y with
 | some k,true,.int _,.int _ _ m=>match Gi T k el x with
   | some (lo,o1,xs)=>some { bM:=(0<m/\((xs.length:Int)+m)*te.bytes<=140737488355328)::o1,val:=.buf lab,new:=[.cT k (xs++List.replicate m.toNat (Pt te)) el],wr:=fV lo }
   | none=>none
 | _,_,_,_=>none
theorem PT (aT:cA P Γ) {T':aZ} (aL:∀ l B,T' l=some B->T l=some B) (hT:aC w0 M V T w) {lab:Nat} (hf:V.fresh lab) {t t2 ty el:TypeId} {d:TypeDesc} {te:TI} (ht:P.underlying t=some (.slice el)) (Ph:P.underlying t2=some d) (eA:Γ.ty el=some te)
 {x y:SV} {u v:Value} (hx:den V x=some u) (hy:den V y=some v) (he:HI T' d te el lab x y=some e) (ho:∀ q∈e.bM,q):nZ P w0 M V T lab e (Builtin.append_ #[t,t2] ty #[u,v]) w:=by
 unfold HI at he
 split at he
 case h_2=>cases he
 rename_i k ik sm km m hk gY
 simp only [Bool.and_eq_true] at gY
 obtain ⟨gJ,DF,hzi⟩:=gY
 split at he
 case h_2=>cases he
 rename_i lo o1 xs h1
 simp only [aU] at he
 subst he
 obtain ⟨_,i,z,hi,cD,jJ,hz,hzero⟩:=aT el te eA
 have fQ:i.size=1:=by rw [cD];exact cH gJ
 have qH:0<te.bytes:=by simpa [Nat.blt_eq] using DF
 obtain ⟨hm0,hbound⟩:=ho _ cM
 have ho1:∀ q∈o1,q:=fun q hq=>ho q (List.mem_cons_of_mem _ hq)
 have zO:z.cells = #[Value.int k (Pt te)]:=by
  unfold zI at hzi
  split at hzi
  .rename_i s k1 z1 k2 QY CG
   have e1:=of_decide_eq_true hzi
   subst e1
   have Ao:k1=k:=by
    unfold Yr at hk
    rw [CG] at hk
    simpa using hk
   subst Ao
   have h3:=hzero V
   have e2:Pt te=z1:=by unfold Pt;rw [QY]
   rw [QY] at h3
   simp only [aE,den,Option.bind_some,Option.map_some,aU] at h3
   rw [e2]
   apply Array.ext';rw [<- h3]
  .cases hzi
 obtain ⟨n,rfl⟩:=Int.eq_ofNat_of_zero_le (Int.le_of_lt hm0)
 simp only [den,aU] at hy
 subst hy
 have lA:(xs.length+n)*i.bytes<=140737488355328:=by
  rw [jJ]
  have:(((xs.length+n)*te.bytes:Nat):Int)<=140737488355328:=by rw [Int.natCast_mul,Int.natCast_add];exact hbound
  omega
 have DX:xs.length+n<=maxLen:=by
  rw [jJ] at lA
  have:=Nat.le_mul_of_pos_right (xs.length+n) qH
  simp only [maxLen];omega
 obtain ⟨bK,iY,Hr⟩:=Nu (hT.sub aL) hx h1 ho1
 have iU:∀ l,lo=some l->∃ B,T l=some B/\B.owned=true/\∀ n,u.ownBlock=some n->B.aN V l=some n:=fun l hl=>by
  obtain ⟨B,h1,h2,h3⟩:=Hr l hl;exact ⟨B,aL l B h1,h2,h3⟩
 obtain ⟨v',w',hr,jP,qL,fA,hI⟩:=yC (P:=P) (ty:=ty) ht Ph hi hz fQ zO rfl km n (by omega) bK DX lA
 refine ⟨V.aV lab v',v',w',hr,aY.bS hf lab (Nat.le_refl _) (by omega) v',by simp [den,aY.aV],?_⟩
 exact hT.append hf ⟨k,xs++List.replicate n (Pt te),rfl,rfl,rfl,hI k (tX (hT.sub aL) hx h1) ⟨_,rfl⟩⟩ (show SB.cells V (.cT k (xs++List.replicate n (Pt te)) el)=some ((xs++List.replicate n (Pt te)).map (Value.int k)) from rfl) (by simpa using jP) qL fA iY iU _ _
def txI (s:ByteArray):List Int:=s.data.toList.map fun b=>(b.toNat:Int)
def Ro (T:aZ) (te:TI) (x y:SV):Option bJ:=
 match x,y,te.desc,Nat.beq te.size 1 with
 | .aG l _ off len _,.raw (.string s),.int .u8,true=>match T l with
   | some (.own cs ty)=>some { bM:=[(qS .u8 cs ty off ((txI s).take (Nat.min s.size len))).1],val:=.int false .i64 ((Nat.min s.size len:Nat):Int),wr:=[(l,(qS .u8 cs ty off ((txI s).take (Nat.min s.size len))).2)] }
   | _=>none
 | _,_,_,_=>none
theorem BG (aT:cA P Γ) {T':aZ} (aL:∀ l B,T' l=some B->T l=some B) (hT:aC w0 M V T w) {lab:Nat} {dT sT ty el:TypeId} {te:TI} (ht:P.underlying dT=some (.slice el)) (eA:Γ.ty el=some te)
 {x y:SV} {u v:Value} (hx:den V x=some u) (hy:den V y=some v) (he:Ro T' te x y=some e) (ho:∀ q∈e.bM,q):nZ P w0 M V T lab e (Builtin.copy_ #[dT,sT] ty #[u,v]) w:=by
 unfold Ro at he
 split at he
 case h_2=>cases he
 rename_i l s0 off len cap s hk gJ
 split at he
 case h_2=>cases he
 rename_i cs ety hB
 simp only [aU] at he
 subst he
 obtain ⟨_,i,z,hi,cD,jJ,hz,hzero⟩:=aT el te eA
 have fQ:i.size=1:=by rw [cD];exact cH gJ
 simp only [den,Option.map_eq_some_iff,aU] at hx hy
 obtain ⟨p,hβ,rfl⟩:=hx
 subst hy
 obtain ⟨w',hr,oE⟩:=Cq (P:=P) lab (.int false .i64 ((Nat.min s.size len:Nat):Int)) [(qS .u8 cs ety off ((txI s).take (Nat.min s.size len))).1] hT (aL l _ hB) (b:=p.1) (o:=p.2) hβ (ho _ cM)
 refine ⟨V,.int .i64 ((Nat.min s.size len:Nat):Int),w',?_,V.cN lab,rfl,oE⟩
 have hf:(Builtin.firstCells 1 (Nat.min s.size len) (.string s)).run P w = .ok (((txI s).take (Nat.min s.size len)).map (Value.int .u8)).toArray w:=by
  simp only [Builtin.firstCells,Sem.run_pure]
  congr 1
  apply Array.ext'
  simp [txI,List.map_take]
  rfl
 simp [Builtin.copy_,run_underlying ht,Builtin.lenOf,run_sizeOf hi,fQ,goInt] at hf hr |-
 simp [hf,hr]
def Ke (T:aZ) (te:TI) (x:SV):Option bJ:=
 match x,te.zero,Nat.beq te.size 1 with
 | .aG l _ off len _,[.int _ k z],true=>match T l with
   | some (.own cs ty)=>some { bM:=[(qS k cs ty off (List.replicate len z)).1],val:=.eL [],wr:=[(l,(qS k cs ty off (List.replicate len z)).2)] }
   | _=>none
 | _,_,_=>none
theorem Tq (aT:cA P Γ) {T':aZ} (aL:∀ l B,T' l=some B->T l=some B) (hT:aC w0 M V T w) {lab:Nat} {t ty el:TypeId} {te:TI} (ht:P.underlying t=some (.slice el)) (eA:Γ.ty el=some te)
 {x:SV} {u:Value} (hx:den V x=some u) (he:Ke T' te x=some e) (ho:∀ q∈e.bM,q):nZ P w0 M V T lab e (Builtin.clear_ #[t] ty #[u]) w:=by
 unfold Ke at he
 split at he
 case h_2=>cases he
 rename_i l s off len cap sz k z RY gJ
 split at he
 case h_2=>cases he
 rename_i cs ety hB
 simp only [aU] at he
 subst he
 obtain ⟨_,i,zv,hi,cD,jJ,hz,hzero⟩:=aT el te eA
 have zO:zv.cells = #[.int k z]:=by
  have:=hzero V
  rw [RY] at this
  simp only [aE,den,Option.bind_some,Option.map_some,aU] at this
  rw [<- Array.toList_inj,<- this]
 simp only [den,Option.map_eq_some_iff] at hx
 obtain ⟨p,hβ,rfl⟩:=hx
 obtain ⟨w',hr,oE⟩:=Cq (P:=P) (ys:=List.replicate len z) (k:=k) (off:=off) lab (.eL []) [(qS k cs ety off (List.replicate len z)).1] hT (aL l _ hB) (b:=p.1) (o:=p.2) hβ (ho _ (by simp))
 cases len with
 | zero=>
   refine ⟨V,.tuple #[],w',?_,V.cN lab,by simp [den,aE],oE⟩
   simp only [List.replicate_zero,List.map_nil,storeCells,Sem.run_pure,Result.ok.injEq,true_and] at hr
   subst hr
   simp [Builtin.clear_,run_underlying ht]
 | succ n=>
   refine ⟨V,.tuple #[],w',?_,V.cN lab,by simp [den,aE],oE⟩
   have hzl:(Builtin.zeroCells zv.cells (n+1)).toList=(List.replicate (n+1) z).map (Value.int k):=by
    rw [zO,iO]
    simp
   rw [<- hzl] at hr
   simp [Builtin.clear_,run_underlying ht,eF hi hz,hr]
end aDk
def wH (Γ:Env) (T:aZ) (lab:Nat) (b:Builtin) (ts:List TypeId) (vs:List SV):Option bJ:=
 match b,ts,vs with
 | .len,t::_,[v]=>match Γ.ty t with
   | some ti=>aGu Γ T ti.desc v
   | none=>none
 | .cap,t::_,[v]=>match Γ.ty t with
   | some ti=>match ti.desc with
     | .slice _=>aGv v
     | _=>none
   | none=>none
 | .append,[t,t2],[x,y]=>match Nat.beq t t2,y with
   | false,.int .. => match Γ.ty t,Γ.ty t2 with
     | some ti,some ti2=>match ti.desc with
       | .slice el=>match Γ.ty el with
         | some te=>jZ (De ti2.desc te el lab x y) (HI T ti2.desc te el lab x y)
         | none=>none
       | _=>none
     | _,_=>none
   | _,_=>match Γ.ty t,Nat.beq t t2 with
     | some ti,true=>match ti.desc with
       | .slice el=>match Γ.ty el with
         | some te=>jZ (HK T te el lab x y) (jZ (HL T te el lab x y) (jZ (HO T te el lab x y) (jZ (HM T te x y) (jZ (HJ T te el lab x y) (jZ (HP T te el lab x y) (HN T te el lab x y))))))
         | none=>none
       | _=>none
     | _,_=>none
 | .copy,[t,_],[x,y]=>match Γ.ty t with
   | some ti=>match ti.desc with
     | .slice el=>match Γ.ty el with
       | some te=>jZ (Rq T te.size x y) (jZ (Rp T te x y) (Ro T te x y))
       | none=>none
     | _=>none
   | none=>none
 | .clear,[t],[x]=>match Γ.ty t with
   | some ti=>match ti.desc with
     | .slice el=>match Γ.ty el with
       | some te=>jZ (Kf T te x) (jZ (Kg T te x) (Ke T te x))
       | none=>none
     | _=>none
   | none=>none
 | _,_,_=>none
def HG (Γ:Env) (g:Nat->Option SV) (T:aZ) (lab F:Nat) (c:Call):Option bJ:=
 match SL Γ g c.args.toList with
 | none=>none
 | some vs=>match c.callee with
   | .builtin b=>wH Γ T lab b c.argTypes.toList vs
   | .value f=>match ev Γ g f with
     | some (.fn (.func id) first Ii)=>match Γ.sum id with
       | some S=>S (first++vs++Ii) T lab F
       | none=>none
     | _=>none
   | .invoke _ _=>none
section bCa
variable {P:Program} {Γ:Env} {V:aY} {w w0:World} {M:Nat->Prop} {T:aZ} {g:Nat->Option SV} {a:Act} {o:Oper} {e:bJ}
def Rs (Γ:Env) (g:Nat->Option SV) (T:aZ) (src dst:TypeId) (x:Operand):Option bJ:=
 match ev Γ g x,Γ.ty src with
 | some (.aG l s off len cap),some ts=>match ts.desc with
   | .slice el=>match Γ.ty el,T l with
     | some te,some (.own cs _)=>match te.desc,Nat.beq src dst,cX .u8 cs with
       | .int .u8,true,some ns=>some { val:=.aG l s off len cap,wr:=[(l,.nM .u8 ns)] }
       | _,_,_=>none
     | _,_=>none
   | _=>none
 | _,_=>none
theorem BK (aT:cA P Γ) (ht:cE V g a) (hg:bL Γ V) {T':aZ} (aL:∀ l B,T' l=some B->T l=some B) (hT:aC w0 M V T w) {src dst:TypeId} {x:Operand} (bT:o.op = .convert src dst x)
 (he:Rs Γ g T' src dst x=some e) (lab:Nat):kE P w0 M V T lab e o a w:=by
 unfold Rs at he
 split at he
 case h_2=>cases he
 rename_i l s off len cap ts hx CV
 split at he
 case h_2=>cases he
 rename_i el hd
 split at he
 case h_2=>cases he
 rename_i te cs ty eA hB
 split at he
 case h_2=>cases he
 rename_i ns hu8 hsd hns
 have hsd:=cH hsd
 subst hsd
 simp only [aU] at he
 subst he
 have ex:=bF ht hg hx
 simp only [den,Option.map_eq_some_iff] at ex
 obtain ⟨⟨b,base⟩,hβ,ex⟩:=ex
 have hu:=(aT src ts CV).1
 rw [hd] at hu
 have Ef:=(aT el te eA).1
 rw [hu8] at Ef
 obtain ⟨us,hc,b',hb,hh⟩:=hT.ok l _ (aL l _ hB)
 rw [hβ] at hb;cases hb
 have pA:us=ns.map (Value.int .u8):=by
  have h1:=cU (V:=V) hns
  rw [show aE V cs=some us from hc] at h1
  exact Option.some.inj h1
 have cI:b<w.heap.size:=(Array.getElem?_eq_some_iff.1 hh).1
 have Ap:∃ w',w'=w.freeze ⟨b,us.length,none⟩ 1:=⟨_,rfl⟩
 obtain ⟨w',RB⟩:=Ap
 have Bx:w'.heap[b]?=some (.cells us.toArray ty (us.length,us.length+1)):=by
  rw [RB]
  simp [World.freeze,Array.getElem?_modify,hh]
 have aYt:∀ n,n≠b->w'.heap[n]?=w.heap[n]?:=fun n hn=>by
  rw [RB]
  simp only [World.freeze]
  rw [if_neg (by decide:¬ (1:Nat)=0)]
  simp only [Array.getElem?_modify]
  rw [if_neg (fun q:b=n=>hn q.symm)]
 have gJ:w'.heap.size=w.heap.size:=by rw [RB];simp [World.freeze]
 have dR:(execOp a.eval o).run P w = .ok (.value (a.eval x)) w':=by
  have hsh:w.shape? b=some (ty,us.length):=by simp [World.shape?,hh]
  unfold execOp
  simp [bT,<- ex,convert,run_underlying hu,run_underlying Ef,markStringish,hsh,RB]
 intro K Q hK
 unfold Oper.wp
 rw [dR,Oper.upon_value]
 refine hK V _ w' (V.cN lab) (by rw [<- ex];simp [den,hβ]) ?_
 refine hT.change (B0:=.own cs ty) (B:=.nM .u8 ns) (b:=b) (aL l _ hB) rfl (by simp [SB.aN,hβ]) ⟨us,by rw [pA];rfl,b,0,hβ,⟨by omega,fun s hs=>?_⟩,fun j v hj=>?_⟩ (by simp [SB.aN,hβ]) (by omega) (fun n _ dD=>aYt n dD) (by rw [RB];simp [World.freeze]) (by rw [RB];simp [World.freeze]) (by rw [RB];simp [World.freeze]) lab _ []
 .rw [pA] at hs
  simp at hs
 .simp [World.cell?,Bx,hj]
def Kb (Γ:Env) (g:Nat->Option SV) (T:aZ) (t:TypeId) (x y:Operand):Option bJ:=
 match ev Γ g x,ev Γ g y,Γ.ty t with
 | some (.buf l),some (.int _ _ k),some ti=>match ti.desc,T l with
   | .slice el,some (.cT _ xs _)=>match Γ.ty el with
     | some te=>match Nat.beq te.size 1 with
       | true=>some { bM:=[0<=k/\k<xs.length],val:=.jH l k.toNat }
       | false=>none
     | none=>none
   | _,_=>none
 | _,_,_=>none
theorem Tn (aT:cA P Γ) (ht:cE V g a) (hg:bL Γ V) {T':aZ} (aL:∀ l B,T' l=some B->T l=some B) (hT:aC w0 M V T w) {t:TypeId} {x y:Operand} (bT:o.op = .indexAddr t x y)
 (he:Kb Γ g T' t x y=some e) (ho:∀ q∈e.bM,q) (lab:Nat):kE P w0 M V T lab e o a w:=by
 unfold Kb at he
 split at he
 case h_2=>cases he
 rename_i l sk kk k ti hx hy dV
 split at he
 case h_2=>cases he
 rename_i el k2 xs ty hd hB
 split at he
 case h_2=>cases he
 rename_i te eA
 split at he
 case h_2=>cases he
 rename_i fQ
 have fQ:=cH fQ
 simp only [aU] at he
 subst he
 have hb:0<=k/\k<xs.length:=ho _ (by simp)
 have ex:=bF ht hg hx
 have ey:=bF ht hg hy
 simp only [den,aU] at ex ey
 obtain ⟨us,hc,v,hσ,bK⟩:=hT.ok l _ (aL l _ hB)
 rw [hσ] at ex
 cases ex
 rcases bK.1.2 with ⟨hv,h0⟩ | ⟨b,cap,cur,hv,_⟩
 .omega
 obtain ⟨_,i,z,hi,cD,_⟩:=aT el te eA
 have hu:=(aT t ti dV).1
 rw [hd] at hu
 refine bC (x:=.pointer (some ⟨b,0+k.toNat*te.size,none⟩)) ?_ (by simp [den,hσ,hv,bG,fQ]) rfl rfl hT
 unfold execOp
 simp only [bT,hv,<- ey,Instr.indexAt,asIntOf,Sem.run_bind,Sem.run_pure,run_underlying hu w,Result.andThen_ok,if_pos hb,run_sizeOf hi,cD,bG]
def Jq (Γ:Env) (g:Nat->Option SV) (T:aZ) (t:TypeId) (x y:Operand):Option bJ:=
 match ev Γ g x,ev Γ g y,Γ.ty t with
 | some (.jH l off),some (.int _ k n),some ti=>match T l,Nat.beq ti.size 1 with
   | some (.cT k2 xs ty),true=>match decide (k2=k) with
     | true=>some { bM:=[off<xs.length],val:=.raw undef,wr:=[(l,.cT k (xs.set off n) ty)] }
     | false=>none
   | _,_=>none
 | _,_,_=>none
theorem Sz (aT:cA P Γ) (ht:cE V g a) (hg:bL Γ V) {T':aZ} (aL:∀ l B,T' l=some B->T l=some B) (hT:aC w0 M V T w) {t:TypeId} {x y:Operand} (bT:o.op = .store t x y)
 (he:Jq Γ g T' t x y=some e) (ho:∀ q∈e.bM,q) (lab:Nat):kE P w0 M V T lab e o a w:=by
 unfold Jq at he
 split at he
 case h_2=>cases he
 rename_i l off sk k n ti hx hy dV
 split at he
 case h_2=>cases he
 rename_i k2 xs ty hB fQ
 split at he
 case h_2=>cases he
 rename_i hk
 have hk:=of_decide_eq_true hk
 subst hk
 have fQ:=cH fQ
 simp only [aU] at he
 subst he
 have hb:off<xs.length:=ho _ (by simp)
 have ex:=bF ht hg hx
 have ey:=bF ht hg hy
 simp only [den,aU] at ey
 obtain ⟨hu,i,z,hi,cD,_⟩:=aT t ti dV
 obtain ⟨us,hc,v,hσ,bK⟩:=hT.ok l _ (aL l _ hB)
 have hc':us=xs.map (Value.int k2):=(Option.some.inj hc).symm
 subst hc'
 obtain ⟨bK,hI⟩:=bK
 rcases bK.2 with ⟨hv,h0⟩ | ⟨b,cap,cur,hv,_,hh,hle,qC,lW,cR⟩
 .omega
 subst hv
 simp only [den,hσ,aU] at ex
 have Hp:=(World.ownsRow.stored bK off (.int k2 n))
 obtain ⟨aYr,DU⟩:=Hp
 have cI:off<cur.size:=by omega
 have dR:(execOp a.eval o).run P w = .ok .skip (w.setCell ⟨b,off,none⟩ (.int k2 n)):=by
  have fE:w.cell? ⟨b,off,none⟩=some cur[off]:=by simp [World.cell?,hh,cI]
  have SH:w.frozen? ⟨b,off,none⟩=false:=World.ownsRow.frozenAt bK off
  have aKy:(store (⟨b,off,none⟩:Addr) (.int k2 n)).run P w = .ok () (w.setCell ⟨b,off,none⟩ (.int k2 n)):=by
   rw [run_store P w _ _ _ rfl,fE]
   simp [SH]
  have QY:i.size=1:=by omega
  unfold execOp
  simp [bT,<- ex,<- ey,Instr.storeAt,Instr.sureAddr,storeVar,run_sizeOf hi,QY,Value.cells,storeCells,bG,aKy]
 intro K Q hK
 unfold Oper.wp
 rw [dR,Oper.upon_skip]
 refine hK V undef _ (V.cN lab) rfl ?_
 refine hT.change (B0:=.cT k2 xs ty) (B:=.cT k2 (xs.set off n) ty) (b:=b) (aL l _ hB) rfl (by simp [SB.aN,hσ,Value.ownBlock]) ⟨_,rfl,_,hσ,?_⟩ (by simp [SB.aN,hσ,Value.ownBlock]) DU.size (fun m hm dD=>DU.block m hm (fun q=>dD (Option.some.inj q))) DU.os DU.tape DU.output lab _ _
 rw [List.length_set,List.map_set]
 refine ⟨aYr,fun b' hb=>?_⟩
 cases hb
 obtain ⟨VA,ty2,p2,uC,kF⟩:=hI b rfl
 rw [hh] at uC
 cases uC
 refine ⟨_,_,_,heap_setCell_same w b off cur _ (.int k2 n) hh,fun q hq=>?_⟩
 rw [Array.toList_setIfInBounds] at hq
 rcases List.mem_or_eq_of_mem_set hq with hq | hq
 .exact kF q hq
 .exact ⟨n,hq⟩
end bCa
section bBz
variable {P:Program} {Γ:Env} {V:aY} {w w0:World} {M:Nat->Prop} {T:aZ} {g:Nat->Option SV} {a:Act} {o:Oper} {e:bJ}
def Lr (ys:List Int):ByteArray:=ys.foldl (fun r n=>r.push (UInt8.ofNat n.toNat)) ByteArray.empty
def Rr (Γ:Env) (g:Nat->Option SV) (T:aZ) (src dst:TypeId) (x:Operand):Option bJ:=
 match ev Γ g x,Γ.ty src,Γ.ty dst with
 | some v,some ts,some td=>match ts.desc,td.desc with
   | .slice el,.string=>match Γ.ty el,Yj T .u8 v with
     | some te,some (ob,ys)=>match te.desc with
       | .int .u8=>some { bM:=ob,val:=.raw (.string (Lr ys)) }
       | _=>none
     | _,_=>none
   | _,_=>none
 | _,_,_=>none
theorem BJ (aT:cA P Γ) (ht:cE V g a) (hg:bL Γ V) {T':aZ} (aL:∀ l B,T' l=some B->T l=some B) (hT:aC w0 M V T w) {src dst:TypeId} {x:Operand} (bT:o.op = .convert src dst x)
 (he:Rr Γ g T' src dst x=some e) (ho:∀ q∈e.bM,q) (lab:Nat):kE P w0 M V T lab e o a w:=by
 unfold Rr at he
 split at he
 case h_2=>cases he
 rename_i v ts td hx CV htd
 split at he
 case h_2=>cases he
 rename_i el CG RH
 split at he
 case h_2=>cases he
 rename_i te ob ys eA hq
 split at he
 case h_2=>cases he
 rename_i hu8
 simp only [aU] at he
 subst he
 have ex:=bF ht hg hx
 have hh:=uY (hT.sub aL) ex hq ho
 have hu:=(aT src ts CV).1
 rw [CG] at hu
 have hud:=(aT dst td htd).1
 rw [RH] at hud
 have Ef:=(aT el te eA).1
 rw [hu8] at Ef
 refine bC (x:=.string (Lr ys)) ?_ rfl rfl rfl hT
 unfold execOp
 simp only [bT,Sem.run_bind]
 rcases hh with ⟨hv,qK⟩ | ⟨ad,c,hv,bV⟩
 .have:ys=[]:=by simpa using qK
  subst this
  rw [hv,run_convert_bytes_string w src dst el _ _ _ hu Ef hud]
  simp [Conv.bytesToString,Lr]
 .have hf:=run_firstCells_some (P:=P) (w:=w) 1 ys.length ad ys.length c (ys.map (Value.int .u8)) (by simp) bV
  simp only [Builtin.firstCells,Nat.mul_one] at hf
  rw [hv,List.length_map,run_convert_bytes_string w src dst el _ _ _ hu Ef hud,run_bytesToString w ad ys.length c ys hf]
  rfl
def It (Γ:Env) (g:Nat->Option SV) (op:BinOp) (x y:Operand):Option bJ:=
 match ev Γ g x,ev Γ g y,op with
 | some (.raw (.string s)),some (.raw (.string t)),.eql=>some { val:=.bool false (s.toList==t.toList) }
 | some (.raw (.string s)),some (.raw (.string t)),.neq=>some { val:=.bool false (!(s.toList==t.toList)) }
 | _,_,_=>none
theorem Hf (ht:cE V g a) (hg:bL Γ V) (hT:aC w0 M V T w) {op:BinOp} {t t2:TypeId} {x y:Operand} (bT:o.op = .binOp op t x y t2)
 (he:It Γ g op x y=some e) (lab:Nat):kE P w0 M V T lab e o a w:=by
 unfold It at he
 split at he
 case h_3=>cases he
 all_goals
  rename_i s s2 hx hy
  simp only [aU] at he
  subst he
  have ex:=bF ht hg hx
  have ey:=bF ht hg hy
  simp only [den,aU] at ex ey
 .refine bC (x:=.bool (s.toList==s2.toList)) ?_ rfl rfl rfl hT
  unfold execOp
  have zS:=cL (P:=P) w .eql t x y (.string s) (.string s2) (fun e=>by cases e.1) (fun _ e=>by cases e)
  simp [bT,<- ex,<- ey,binOp,Op.stringOp,zS]
 .refine bC (x:=.bool (!(s.toList==s2.toList))) ?_ rfl rfl rfl hT
  unfold execOp
  have zS:=cL (P:=P) w .neq t x y (.string s) (.string s2) (fun e=>by cases e.1) (fun _ e=>by cases e)
  simp [bT,<- ex,<- ey,binOp,Op.stringOp,zS]
end bBz
def Bn (Γ:Env) (g:Nat->Option SV) (T:aZ) (lab F:Nat) (h:Option Bool) (o:Oper):Option bJ:=
 match o.op with
 | .move x=>Vd Γ g x
 | .assign x=>Vd Γ g x
 | .pick c x y=>HD Γ g c x y
 | .alloc t=>Ru Γ t lab
 | .box t x=>jZ (aGw Γ g T t x lab) (HH Γ g t x lab)
 | .build t ps=>Rt Γ g T t ps
 | .buildSlice t n ps=>rG Γ g T t n ps lab
 | .load t x=>jZ (Rm Γ g T t x) (jZ (HE Γ g T t x) (jZ (Rl Γ g T t x) (Rk Γ g T t x)))
 | .store t x y=>jZ (Rg Γ g T t x y) (jZ (Jr Γ g T t x y) (jZ (Jp Γ g T t x y) (Jq Γ g T t x y)))
 | .nilCheck x=>aGt Γ g x
 | .binOp op t x y _=>match op with
   | .eql=>jZ (EI Γ g h .eql t x y) (jZ (Vc Γ g T .eql t x y) (jZ (Ix Γ g .eql t x y) (jZ (Iu Γ g .eql t x y) (jZ (Iv Γ g T .eql t x y) (It Γ g .eql x y)))))
   | .neq=>jZ (EI Γ g h .neq t x y) (jZ (Vc Γ g T .neq t x y) (jZ (Ix Γ g .neq t x y) (jZ (Iu Γ g .neq t x y) (jZ (Iv Γ g T .neq t x y) (It Γ g .neq x y)))))
   | _=>EI Γ g h op t x y
 | .unOp op _ x=>eUn Γ g op x
 | .convert s d x=>jZ (HF Γ g s d x) (jZ (Rs Γ g T s d x) (Rr Γ g T s d x))
 | .sliceToArrayPointer t x=>aGx Γ g t x
 | .makeInterface t x=>tV Γ g t x
 | .makeFunc f xs cs=>xX Γ g f xs cs
 | .makeSlice t x y=>jZ (tU Γ g t x y lab) (jZ (Ri Γ g t x y lab) (Rj Γ g t x y lab))
 | .slice t x lo hi mx=>jZ (Jx Γ g T t x lo hi mx) (jZ (Rh Γ g T t x lo hi mx) (jZ (Jt Γ g T t x lo hi mx lab) (jZ (Jw Γ g T t x lo hi mx lab) (jZ (Jv Γ g T t x lo hi mx lab) (jZ (Js Γ g T t x lo hi mx lab) (Ju Γ g T t x lo hi mx lab))))))
 | .fieldAddr t x n=>Rn Γ g t x n
 | .field t x n=>Kd Γ g t x n
 | .indexAddr t x y=>jZ (tW Γ g t x y) (jZ (Kb Γ g T t x y) (jZ (Ka Γ g t x y) (Jz Γ g t x y)))
 | .index t x y=>jZ (Jy Γ g t x y) (Kc Γ g t x y)
 | .extract x i=>Dd Γ g x i
 | .call c=>HG Γ g T lab F c
 | _=>none
theorem nF {a b:Nat} (h:Nat.beq a b=false):a≠b:=fun e=>by subst e;rw [Nat.beq_refl] at h;cases h
section Ht
variable {P:Program} {Γ:Env} {V:aY} {w w0:World} {M:Nat->Prop} {T:aZ} {g:Nat->Option SV} {a:Act} {o:Oper} {e:bJ}
theorem Nm {xs:Array Operand} {vs:List SV} (ht:cE V g a) (hg:bL Γ V) (h:SL Γ g xs.toList=some vs):aE V vs=some (xs.map a.eval).toList:=by
 rw [Array.toList_map];exact Ir ht hg h
theorem rC {v:SV} {xs:List Value} (h:aE V [v]=some xs):∃ x,xs=[x]/\den V v=some x:=by
 simp only [aE,Option.map_eq_some_iff,Option.bind_eq_some_iff] at h
 obtain ⟨x,hx,ys,hy,rfl⟩:=h
 simp only [aU] at hy
 subst hy
 exact ⟨x,rfl,hx⟩
theorem Dg {u v:SV} {xs:List Value} (h:aE V [u,v]=some xs):∃ x y,xs=[x,y]/\den V u=some x/\den V v=some y:=by
 simp only [aE,Option.map_eq_some_iff,Option.bind_eq_some_iff] at h
 obtain ⟨x,hx,ys,⟨y,hy,zs,hz,rfl⟩,rfl⟩:=h
 simp only [aU] at hz
 subst hz
 exact ⟨x,y,rfl,hx,hy⟩
def bBd (b:Builtin) (Ej:Array TypeId) (ty:TypeId) (xs:Array Value):Sem Value:=match b with
 | .len=>Builtin.len_ Ej ty xs
 | .cap=>Builtin.cap_ Ej ty xs
 | .append=>Builtin.append_ Ej ty xs
 | .copy=>Builtin.copy_ Ej ty xs
 | .clear=>Builtin.clear_ Ej ty xs
 | _=>stuck ""
theorem Om (aT:cA P Γ) {T':aZ} (aL:∀ l B,T' l=some B->T l=some B) (hT:aC w0 M V T w) {lab:Nat} (hf:V.fresh lab) {b:Builtin} {Ej:Array TypeId} {ty:TypeId} {vs:List SV} {xs:Array Value}
 (hv:aE V vs=some xs.toList) (he:wH Γ T' lab b Ej.toList vs=some e) (ho:∀ q∈e.bM,q) :
 nZ P w0 M V T lab e (bBd b Ej ty xs) w:=by
 obtain ⟨ts,CV⟩:∃ ts,Ej.toList=ts:=⟨_,rfl⟩
 rw [CV] at he
 unfold wH at he
 split at he
 .rename_i t r v
  split at he
  case h_2=>cases he
  rename_i ti dV
  obtain ⟨x,hx,hd⟩:=rC hv
  have lV:xs = #[x]:=by apply Array.ext';simpa using hx
  subst lV
  have wW:Ej[0]?=some t:=by rw [<- Array.getElem?_toList,CV];rfl
  exact oX (aCn (ty:=ty) aT aL hT wW (aT t ti dV).1 hd he) hT
 .rename_i t r v
  split at he
  case h_2=>cases he
  rename_i ti dV
  split at he
  case h_2=>cases he
  rename_i el DB
  obtain ⟨x,hx,hd⟩:=rC hv
  have lV:xs = #[x]:=by apply Array.ext';simpa using hx
  subst lV
  have wW:Ej[0]?=some t:=by rw [<- Array.getElem?_toList,CV];rfl
  have hu:=(aT t ti dV).1
  rw [DB] at hu
  exact oX (aCp (ty:=ty) wW hu hd he) hT
 .rename_i t t2 x y
  split at he
  .rename_i s k n htt
   split at he
   case h_2=>cases he
   rename_i ti ti2 dV aOu
   split at he
   case h_2=>cases he
   rename_i el DB
   split at he
   case h_2=>cases he
   rename_i te eA
   obtain ⟨p,q,hx,hp,hq⟩:=Dg hv
   have lV:xs = #[p,q]:=by apply Array.ext';simpa using hx
   subst lV
   have Qd:Ej = #[t,t2]:=by apply Array.ext';simpa using CV
   subst Qd
   have hu:=(aT t ti dV).1
   rw [DB] at hu
   unfold jZ at he
   split at he
   .rename_i h1;cases he;exact On (ty:=ty) aT hT hf hu (aT t2 ti2 aOu).1 eA hp hq h1 ho
   .exact PT (ty:=ty) aT aL hT hf hu (aT t2 ti2 aOu).1 eA hp hq he ho
  .split at he
   case h_2=>cases he
   rename_i ti dV htt
   have:=cH htt
   subst this
   split at he
   case h_2=>cases he
   rename_i el DB
   split at he
   case h_2=>cases he
   rename_i te eA
   obtain ⟨p,q,hx,hp,hq⟩:=Dg hv
   have lV:xs = #[p,q]:=by apply Array.ext';simpa using hx
   subst lV
   have Qd:Ej = #[t,t]:=by apply Array.ext';simpa using CV
   subst Qd
   have hu:=(aT t ti dV).1
   rw [DB] at hu
   unfold jZ at he
   split at he
   .rename_i e' gX
    cases he
    exact PV (ty:=ty) aT aL hT hf hu eA hp hq gX ho
   split at he
   .rename_i e' gX
    cases he
    exact PW (ty:=ty) aT aL hT hf hu eA hp hq gX ho
   split at he
   .rename_i e' gX
    cases he
    exact PZ (ty:=ty) aT aL hT hf hu eA hp hq gX ho
   .split at he
    .rename_i e' gX
     cases he
     exact PX (ty:=ty) aT aL hT hu eA hp hq gX ho
    .split at he
     .rename_i e' gX
      cases he
      exact PU (ty:=ty) aT aL hT hf hu eA hp hq gX ho
     .split at he
      .rename_i e' gX
       cases he
       exact QA (ty:=ty) aT aL hT hf hu eA hp hq gX
      .exact PY (ty:=ty) aT aL hT hf hu eA hp hq he ho
 .rename_i t t2 x y
  split at he
  case h_2=>cases he
  rename_i ti dV
  split at he
  case h_2=>cases he
  rename_i el DB
  split at he
  case h_2=>cases he
  rename_i te eA
  obtain ⟨p,q,hx,hp,hq⟩:=Dg hv
  have lV:xs = #[p,q]:=by apply Array.ext';simpa using hx
  subst lV
  have Qd:Ej = #[t,t2]:=by apply Array.ext';simpa using CV
  subst Qd
  have hu:=(aT t ti dV).1
  rw [DB] at hu
  unfold jZ at he
  split at he
  .rename_i e' gX
   cases he
   exact BI (ty:=ty) aT aL hT hu eA hp hq gX
  .split at he
   .rename_i e' gX
    cases he
    exact BH (ty:=ty) aT aL hT hu eA hp hq gX ho
   .exact BG (ty:=ty) aT aL hT hu eA hp hq he ho
 .rename_i t x
  split at he
  case h_2=>cases he
  rename_i ti dV
  split at he
  case h_2=>cases he
  rename_i el DB
  split at he
  case h_2=>cases he
  rename_i te eA
  obtain ⟨p,hx,hp⟩:=rC hv
  have lV:xs = #[p]:=by apply Array.ext';simpa using hx
  subst lV
  have Qd:Ej = #[t]:=by apply Array.ext';simpa using CV
  subst Qd
  have hu:=(aT t ti dV).1
  rw [DB] at hu
  unfold jZ at he
  split at he
  .rename_i e' gX
   cases he
   exact Ts (ty:=ty) aT aL hT hu eA hp gX ho
  .split at he
   .rename_i e' gX
    cases he
    exact Tt (ty:=ty) aT aL hT hu eA hp gX
   .exact Tq (ty:=ty) aT aL hT hu eA hp he ho
 .cases he
theorem Of {lab:Nat} {s:Sem Value} (h:nZ P w0 M V T lab e s w) (hr:execOp a.eval o=(do pure (.value (<- s)))):kE P w0 M V T lab e o a w:=by
 obtain ⟨V',x,w',h1,h2,h3,h4⟩:=h
 intro K Q hK
 unfold Oper.wp
 rw [hr]
 simp only [Sem.run_bind,h1,Result.andThen_ok,Sem.run_pure,Oper.upon_value]
 exact hK V' x w' h2 h3 h4
theorem PR (aT:cA P Γ) (aX:cK P Γ) (ht:cE V g a) (hg:bL Γ V) {T':aZ} (aL:∀ l B,T' l=some B->T l=some B) (hT:aC w0 M V T w) {lab F:Nat} (hf:V.fresh lab) (hF:V.top F) {c:Call} (bT:o.op = .call c)
 (he:HG Γ g T' lab F c=some e) (ho:∀ q∈e.bM,q):kE P w0 M V T lab e o a w:=by
 unfold HG at he
 split at he
 case h_1=>cases he
 rename_i vs hvs
 have hd:=Nm ht hg hvs
 split at he
 .rename_i b hb
  have hs:=Om (P:=P) (ty:=o.type) aT aL hT hf hd he ho
  refine Of hs ?_
  unfold execOp
  simp only [bT,resolve,hb]
  unfold wH at he
  split at he <;> first | (cases he;done) | rfl
 .rename_i f hb
  split at he
  case h_2=>cases he
  rename_i id first Ii hfv
  split at he
  case h_2=>cases he
  rename_i S hS
  have ef:=bF ht hg hfv
  simp only [den,Option.bind_eq_some_iff,Option.map_eq_some_iff] at ef
  obtain ⟨xf,hxf,xc,hxc,ef⟩:=ef
  intro K Q hK
  have kF:=cF (cF hxf hd) hxc
  have:=aX.1 id S hS _ _ _ _ _ he ho w0 M V T w _ aL hT hg hf hF kF o a K Q hK
  unfold Oper.wp
  have dR:(execOp a.eval o).run P w=(callFunc id ((xf++(c.args.map a.eval).toList++xc).toArray)).run P w:=by
   unfold execOp
   simp only [bT,resolve,hb,<- ef,Deferred.ofValue,invoke]
   have:(xf++(c.args.map a.eval).toList++xc).toArray=xf.toArray++c.args.map a.eval++xc.toArray:=by
    apply Array.ext';simp
   rw [this]
   rfl
  rw [dR]
  exact this
 .cases he
theorem Gn {l:Nat} {B:SB} {p:Nat × Nat} (h:Qk B=true) (hβ:V.β l=some p) (lS:okB V w l B):B.owned=true/\B.aN V l=some p.1/\p.2=0/\∃ cs ty,w.heap[p.1]?=some (.cells cs ty (0,0)):=by
 obtain ⟨cs,_,h2⟩:=lS
 cases B with
 | own cells ty=>obtain ⟨b,hb,hh⟩:=h2;rw [hβ] at hb;cases hb;exact ⟨rfl,by simp [SB.aN,hβ],rfl,_,_,hh⟩
 | ints k xs ty=>obtain ⟨b,hb,hh⟩:=h2;rw [hβ] at hb;cases hb;exact ⟨rfl,by simp [SB.aN,hβ],rfl,_,_,hh⟩
 | eJ vs ty=>obtain ⟨b,hb,hh⟩:=h2;rw [hβ] at hb;cases hb;exact ⟨rfl,by simp [SB.aN,hβ],rfl,_,_,hh⟩
 | row sz cells ty=>obtain ⟨b,_,_,hb,_,hh,_⟩:=h2;rw [hβ] at hb;cases hb;exact ⟨rfl,by simp [SB.aN,hβ],rfl,_,_,hh⟩
 | _=>cases h
theorem kL (d:Nat) {e:TypeId} {k0:IntKind} (he:P.underlying e=some (.int k0)) (aS bs:Array Value) :
 ∀ (xs ys:List SV) (j:Nat) (l r:Bool),mR xs ys=some (l,r)->aE V xs=some (aS.toList.drop j)->aE V ys=some (bs.toList.drop j)->(Op.eqItems (d+1) e 1 aS bs (List.range' j xs.length)).run P w = .ok r w
 | [],[],j,l,r,h,_,_=>by
   simp only [mR,aU,Prod.mk.injEq] at h
   obtain ⟨rfl,rfl⟩:=h
   simp [Op.eqItems]
 | .int s k a::xs,y::ys,j,l,r,h,hx,hy=>by
   cases y <;> simp only [mR] at h <;> first | (cases h;done) | skip
   rename_i s' k' b
   split at h
   case h_2=>cases h
   rename_i l' r' hk hr
   have:=of_decide_eq_true hk
   subst this
   simp only [aU,Prod.mk.injEq] at h
   obtain ⟨rfl,rfl⟩:=h
   simp only [aE,den,Option.bind_some,Option.map_eq_some_iff] at hx hy
   obtain ⟨as',lV,hxa⟩:=hx
   obtain ⟨bs',qK,hyb⟩:=hy
   have ga:aS[j]?=some (.int k a):=by
    have:(aS.toList.drop j)[0]?=some (.int k a):=by rw [<- hxa];rfl
    simpa using this
   have gb:bs[j]?=some (.int k b):=by
    have:(bs.toList.drop j)[0]?=some (.int k b):=by rw [<- hyb];rfl
    simpa using this
   have da:as'=aS.toList.drop (j+1):=by
    have:=congrArg (List.drop 1) hxa
    simpa using this
   have db:bs'=bs.toList.drop (j+1):=by
    have:=congrArg (List.drop 1) hyb
    simpa using this
   have gL:sE (.int k0)=false:=rfl
   have ih:=kL d he aS bs xs ys (j+1) l' r' hr (da ▸ lV) (db ▸ qK)
   have pa:(part e aS (j*1)).run P w = .ok (.int k a) w:=by
    simp only [Nat.mul_one,part,Sem.run_bind,eW he,gL,Result.andThen_ok,Bool.false_eq_true,if_false,ga,Sem.run_pure]
   have pb:(part e bs (j*1)).run P w = .ok (.int k b) w:=by
    simp only [Nat.mul_one,part,Sem.run_bind,eW he,gL,Result.andThen_ok,Bool.false_eq_true,if_false,gb,Sem.run_pure]
   simp only [List.length_cons,List.range'_succ,Op.eqItems,Sem.run_bind,pa,pb,Result.andThen_ok,run_equalIn_int w d e k k0 a b he]
   cases hab:(a==b) with
   | true=>simp [ih]
   | false=>simp
 | [],_::_,_,_,_,h,_,_=>by simp [mR] at h
 | x::_,[],_,_,_,h,_,_=>by cases x <;> simp [mR] at h
 | .bool .. :: _,_::_,_,_,_,h,_,_=>by simp [mR] at h
 | .ptr .. :: _,_::_,_,_,_,h,_,_=>by simp [mR] at h
 | .aG .. :: _,_::_,_,_,_,h,_,_=>by simp [mR] at h
 | .agg .. :: _,_::_,_,_,_,h,_,_=>by simp [mR] at h
 | .eL .. :: _,_::_,_,_,_,h,_,_=>by simp [mR] at h
 | .fn .. :: _,_::_,_,_,_,h,_,_=>by simp [mR] at h
 | .sH .. :: _,_::_,_,_,_,h,_,_=>by simp [mR] at h
 | .raw .. :: _,_::_,_,_,_,h,_,_=>by simp [mR] at h
 | .buf .. :: _,_::_,_,_,_,h,_,_=>by simp [mR] at h
 | .jH .. :: _,_::_,_,_,_,h,_,_=>by simp [mR] at h
 | .mS .. :: _,_::_,_,_,_,h,_,_=>by simp [mR] at h
 | .eV .. :: _,_::_,_,_,_,h,_,_=>by simp [mR] at h
 | .ai .. :: _,_::_,_,_,_,h,_,_=>by simp [mR] at h
 | .cP .. :: _,_::_,_,_,_,h,_,_=>by simp [mR] at h
theorem Nq (aT:cA P Γ) (aX:cK P Γ) (ht:cE V g a) (hg:bL Γ V) {T':aZ} (aL:∀ l B,T' l=some B->T l=some B) (hT:aC w0 M V T w) {op:BinOp} {t t2:TypeId} {x y:Operand} (bT:o.op = .binOp op t x y t2)
 (he:Vc Γ g T' op t x y=some e) (lab:Nat):kE P w0 M V T lab e o a w:=by
 have fin:∀ {u v:Value} {b:Bool},a.eval x=u->a.eval y=v->(Op.equal t u v).run P w = .ok b w->(binOp .eql t u v=(do pure (.bool (<- Op.equal t u v)))/\binOp .neq t u v=(do pure (.bool (!(<- Op.equal t u v))))) ->
  ¬ (u = .nilIface/\v = .nilIface)->(∀ cs,u ≠ .agg cs)->uI op b=some e->kE P w0 M V T lab e o a w:=by
  intro u v b hu hv hr hb Ox hn2 he
  have zS:=cL (P:=P) w op t x y u v Ox hn2
  have hx:∃ z,((do eqGuard op t x y u v;binOp op t u v):Sem Value).run P w = .ok z w/\den V e.val=some z/\e.new=[]/\e.wr=[]:=by
   cases op <;> simp only [uI] at he <;> first | (cases he;done) | skip
   .simp only [lit,aU] at he;subst he
    exact ⟨.bool b,by rw [Sem.run_bind,zS,Result.andThen_ok,hb.1,Sem.run_bind,hr];rfl,rfl,rfl,rfl⟩
   .simp only [lit,aU] at he;subst he
    exact ⟨.bool (!b),by rw [Sem.run_bind,zS,Result.andThen_ok,hb.2,Sem.run_bind,hr];rfl,rfl,rfl,rfl⟩
  obtain ⟨z,h1,h2,h3,h4⟩:=hx
  refine bC (x:=z) ?_ h2 h3 h4 hT
  unfold execOp
  simp only [bT,hu,hv]
  rw [Sem.run_bind,h1]
  rfl
 unfold Vc at he
 split at he
 .rename_i l s1 off l' s2 fN hx hy
  have ex:=bF ht hg hx
  have ey:=bF ht hg hy
  simp only [den,Option.map_eq_some_iff] at ex ey
  obtain ⟨p,hp,ex⟩:=ex
  obtain ⟨q,hq,ey⟩:=ey
  split at he
  case h_2=>cases he
  rename_i ti dV
  split at he
  case h_2=>cases he
  rename_i el hd
  split at he
  case h_2=>cases he
  rename_i te eA
  have hu:=(aT t ti dV).1
  rw [hd] at hu
  obtain ⟨_,i,z,hi,gJ,_⟩:=aT el te eA
  have aZg:∀ (n0:Nat) (b:Bool),(i.size≠0->(sameAddr ⟨p.1,p.2+off,none⟩ ⟨q.1,q.2+fN,none⟩).run P w = .ok b w)->(i.size=0->((⟨p.1,p.2+off,none⟩:Addr)==⟨q.1,q.2+fN,none⟩)=true/\b=true) ->
   (Op.equalIn (n0+1) t (.pointer (some ⟨p.1,p.2+off,none⟩)) (.pointer (some ⟨q.1,q.2+fN,none⟩))).run P w = .ok b w:=by
   intro n0 b h1 h2
   simp only [Op.equalIn,Sem.run_bind,run_underlying hu w,Result.andThen_ok,run_sizeOf hi]
   by_cases h0:i.size=0
   .rw [if_neg (by simp [h0])]
    obtain ⟨h3,rfl⟩:=h2 h0
    rw [if_pos h3];rfl
   .rw [if_pos (by simpa using h0)]
    exact h1 h0
  have heq:∀ (b:Bool),(i.size≠0->(sameAddr ⟨p.1,p.2+off,none⟩ ⟨q.1,q.2+fN,none⟩).run P w = .ok b w)->(i.size=0->((⟨p.1,p.2+off,none⟩:Addr)==⟨q.1,q.2+fN,none⟩)=true/\b=true) ->
   (Op.equal t (.pointer (some ⟨p.1,p.2+off,none⟩)) (.pointer (some ⟨q.1,q.2+fN,none⟩))).run P w = .ok b w:=fun b=>aZg 9999 b
  split at he
  .rename_i SC
   have:=cH SC
   subst this
   rw [hp] at hq;cases hq
   split at he
   .rename_i hoo
    have:=cH hoo
    subst this
    exact fin ex.symm ey.symm (heq true (fun _=>run_sameAddr_same w _) (fun _=>⟨by simp,rfl⟩)) ⟨rfl,rfl⟩ (by simp) (by simp) he
   .rename_i hoo
    have dD:=nF hoo
    split at he
    .cases he
    .rename_i hz
     have hz:=nF hz
     refine fin ex.symm ey.symm (heq false (fun _=>?_) (fun h=>absurd (gJ ▸ h) hz)) ⟨rfl,rfl⟩ (by simp) (by simp) he
     simp [sameAddr]
  .rename_i SC
   have dD:=nF SC
   split at he
   case h_2=>cases he
   rename_i B B' hz hB hB'
   have hz:=nF hz
   split at he
   case h_2=>cases he
   rename_i hw
   simp only [Bool.and_eq_true] at hw
   obtain ⟨o1,b1,z1,cs1,ty1,h1⟩:=Gn hw.1 hp (hT.ok l B (aL l B hB))
   obtain ⟨o2,b2,z2,cs2,ty2,h2⟩:=Gn hw.2 hq (hT.ok l' B' (aL l' B' hB'))
   have Uj:p.1≠q.1:=fun e=>hT.jN l B l' B' p.1 dD (aL l B hB) (aL l' B' hB') o1 b1 (e ▸ b2)
   refine fin ex.symm ey.symm (heq false (fun _=>?_) (fun h=>absurd (gJ ▸ h) hz)) ⟨rfl,rfl⟩ (by simp) (by simp) he
   exact run_sameAddr_other w (by simp) h1 h2
 .rename_i t1 l s1 off t2' l' s2 fN hx hy
  have ex:=bF ht hg hx
  have ey:=bF ht hg hy
  simp only [den,Option.map_eq_some_iff] at ex ey
  obtain ⟨_,⟨p,hp,rfl⟩,ex⟩:=ex
  obtain ⟨_,⟨q,hq,rfl⟩,ey⟩:=ey
  split at he
  case h_2=>cases he
  rename_i ti t1i dV ht1
  split at he
  case h_2=>cases he
  rename_i ms el hd CG
  split at he
  case h_2=>cases he
  rename_i te eA
  have hu:=(aT t ti dV).1
  rw [hd] at hu
  obtain ⟨CC,i1,z1,zR,_⟩:=aT t1 t1i ht1
  rw [CG] at CC
  obtain ⟨_,i2,z2,Ui,aYp,_⟩:=aT el te eA
  split at he
  .rename_i hc
   simp only [Bool.and_eq_true] at hc
   obtain ⟨c1,c2,c3,c4⟩:=hc
   have:=cH c1
   subst this
   have:=cH c2
   subst this
   have:=cH c3
   subst this
   rw [hp] at hq;cases hq
   have aGh:=(aX.2.2.1 t1 c4).1 i1 zR
   exact fin ex.symm ey.symm (run_equalIn_iface_ptr_same w 9998 _ hu CC zR aGh Ui) ⟨rfl,rfl⟩ (by simp) (by simp) he
  .split at he
   case h_2=>cases he
   rename_i s s' hc hs Dz
   split at he
   case h_2=>cases he
   rename_i dD
   simp only [Bool.and_eq_true,Bool.not_eq_true'] at hc
   obtain ⟨c1,c4,c5⟩:=hc
   have:=cH c1
   subst this
   have aGh:=(aX.2.2.1 t1 c4).1 i1 zR
   have look:∀ {l o:Nat} {s:ByteArray} {p:Nat × Nat},SW T' l o=some s->V.β l=some p->o=0/\uN w p.1/\w.cell? ⟨p.1,p.2,none⟩=some (.string s):=by
    intro l o s p h hp
    unfold SW at h
    split at h
    case h_2=>cases h
    rename_i s0 r hB
    cases h
    obtain ⟨cs,lW,b,o,hb,h0,hh⟩:=hT.ok l _ (aL l _ hB)
    rw [hp] at hb;cases hb
    simp only [SB.cells,aE,den,Option.bind_eq_some_iff,Option.map_eq_some_iff] at lW
    obtain ⟨v,hv,w',_,rfl⟩:=lW
    cases hv
    refine ⟨rfl,h0.2 s rfl,?_⟩
    have:=hh 0 (.string s) rfl
    simpa using this
   obtain ⟨rfl,⟨ca,ta,ha⟩,lB⟩:=look hs hp
   obtain ⟨rfl,⟨cb,tb,hb⟩,hcb⟩:=look Dz hq
   have hab:(⟨p.1,p.2+0,none⟩:Addr)≠⟨q.1,q.2+0,none⟩:=fun e=>by
    simp only [Nat.add_zero] at e
    rw [e] at lB
    have:=lB.symm.trans hcb
    simp only [aU,Value.string.injEq] at this
    exact JH dD (by rw [this])
   exact fin ex.symm ey.symm (run_equalIn_iface_ptr_other w 9998 hu CC zR aGh Ui (by rw [aYp];exact nF c5) hab ha hb) ⟨rfl,rfl⟩ (by simp) (by simp) he
 .rename_i xs ys hx hy
  have ex:=bF ht hg hx
  have ey:=bF ht hg hy
  simp only [den,Option.map_eq_some_iff] at ex ey
  obtain ⟨aS,has,ex⟩:=ex
  obtain ⟨bs,RI,ey⟩:=ey
  split at he
  case h_2=>cases he
  rename_i ti dV
  split at he
  case h_2=>cases he
  rename_i n el hd
  split at he
  case h_2=>cases he
  rename_i te eA
  split at he
  case h_2=>cases he
  rename_i k0 l r hdk gY heq
  simp only [Bool.and_eq_true] at gY
  have h1:=cH gY.1
  have h2:=cH gY.2
  have hu:=(aT t ti dV).1
  rw [hd] at hu
  obtain ⟨Ef,i,z,hi,gJ,_⟩:=aT el te eA
  rw [hdk] at Ef
  have fE:P.cellsOf el=1:=by simp [Program.cellsOf,hi,gJ,h1]
  have hr:(Op.equal t (.agg aS.toArray) (.agg bs.toArray)).run P w = .ok r w:=by
   have:=run_equalIn_array (P:=P) w 9999 aS.toArray bs.toArray hu hi
   refine Eq.trans this ?_
   rw [fE,<- h2,List.range_eq_range']
   exact kL 9998 Ef aS.toArray bs.toArray xs ys 0 l r heq (by simpa using has) (by simpa using RI)
  have zS:∀ op:BinOp,(eqGuard op t x y (.agg aS.toArray) (.agg bs.toArray)).run P w = .ok () w:=fun op=>by
   refine run_eqGuard_agg w op t x y _ _ ?_
   obtain ⟨d,DY⟩:=aX.2.2.2
   rw [DY]
   simp [Program.eqGuardType,hu,Ef]
  refine bC (x:=match op with | .eql=>.bool r | _=>.bool (!r)) ?_ ?_ ?_ ?_ hT
  .unfold execOp
   simp only [bT,<- ex,<- ey]
   cases op <;> simp only [Rf] at he <;> first | (cases he;done) | skip
   .rw [Sem.run_bind,Sem.run_bind,zS,Result.andThen_ok]
    show (((do pure (.bool (<- Op.equal t (.agg aS.toArray) (.agg bs.toArray)))):Sem Value).run P w).andThen _=_
    rw [Sem.run_bind,hr];rfl
   .rw [Sem.run_bind,Sem.run_bind,zS,Result.andThen_ok]
    show (((do pure (.bool (!(<- Op.equal t (.agg aS.toArray) (.agg bs.toArray))))):Sem Value).run P w).andThen _=_
    rw [Sem.run_bind,hr];rfl
  all_goals (cases op <;> simp only [Rf] at he <;> first | (cases he;done) | (cases he;rfl))
 .cases he
theorem Nn (k:IntKind):∀ (xs ys:List Int),xs.length=ys.length->∃ l,mR (xs.map (SV.int false k)) (ys.map (SV.int false k))=some (l,decide (xs=ys))
 | [],[],_=>⟨true,rfl⟩
 | [],_::_,h=>by simp at h
 | _::_,[],h=>by simp at h
 | x::xs,y::ys,h=>by
   obtain ⟨l,hl⟩:=Nn k xs ys (by simpa using h)
   refine ⟨false&&(false&&l),?_⟩
   simp only [List.map_cons,mR,Xn,decide_true,hl]
   by_cases e:x=y
   .subst e;simp
   .simp [e]
theorem Hi (aT:cA P Γ) (aX:cK P Γ) (ht:cE V g a) (hg:bL Γ V) (hT:aC w0 M V T w) {op:BinOp} {t t2:TypeId} {x y:Operand} (bT:o.op = .binOp op t x y t2)
 (he:Ix Γ g op t x y=some e) (ho:∀ q∈e.bM,q) (lab:Nat):kE P w0 M V T lab e o a w:=by
 unfold Ix at he
 split at he
 case h_2=>cases he
 rename_i k xs k2 ys ti hx hy dV
 split at he
 case h_2=>cases he
 rename_i n el hd
 split at he
 case h_2=>cases he
 rename_i te eA
 split at he
 case h_2=>cases he
 rename_i k0 hdk fQ Ao
 have fQ:=cH fQ
 have Ao:k=k2:=of_decide_eq_true Ao
 subst Ao
 simp only [Option.bind_eq_some_iff] at hx hy
 obtain ⟨vx,hx,SE⟩:=hx
 obtain ⟨vy,hy,hiy⟩:=hy
 have ex:=(bF ht hg hx).symm.trans (Hb SE)
 have ey:=(bF ht hg hy).symm.trans (Hb hiy)
 simp only [aU] at ex ey
 have hu:=(aT t ti dV).1
 rw [hd] at hu
 obtain ⟨Ef,i,z,hi,gJ,_⟩:=aT el te eA
 rw [hdk] at Ef
 have fE:P.cellsOf el=1:=by simp [Program.cellsOf,hi,gJ,fQ]
 have hlen:xs.length=n/\ys.length=n:=by
  cases op <;> simp only [Iw] at he <;> first | (cases he;done) | (cases he;exact ho _ (by simp))
 obtain ⟨l,hl⟩:=Nn k xs ys (by omega)
 have dm:∀ zs:List Int,aE V (zs.map (SV.int false k))=some (zs.map (Value.int k)):=fun zs=>by
  induction zs with
  | nil=>rfl
  | cons z zs ih=>simp [aE,den,ih]
 have hr:(Op.equal t (.agg (xs.map (Value.int k)).toArray) (.agg (ys.map (Value.int k)).toArray)).run P w = .ok (decide (xs=ys)) w:=by
  have:=run_equalIn_array (P:=P) w 9999 (xs.map (Value.int k)).toArray (ys.map (Value.int k)).toArray hu hi
  refine Eq.trans this ?_
  rw [fE,<- hlen.1,List.range_eq_range']
  have:=kL (P:=P) (w:=w) (V:=V) 9998 Ef (xs.map (Value.int k)).toArray (ys.map (Value.int k)).toArray (xs.map (SV.int false k)) (ys.map (SV.int false k)) 0 l _ hl (by simpa using dm xs) (by simpa using dm ys)
  simpa using this
 have zS:∀ op:BinOp,(eqGuard op t x y (.agg (xs.map (Value.int k)).toArray) (.agg (ys.map (Value.int k)).toArray)).run P w = .ok () w:=fun op=>by
  refine run_eqGuard_agg w op t x y _ _ ?_
  obtain ⟨d,DY⟩:=aX.2.2.2
  rw [DY]
  simp [Program.eqGuardType,hu,Ef]
 refine bC (x:=match op with | .eql=>.bool (decide (xs=ys)) | _=>.bool (!decide (xs=ys))) ?_ ?_ ?_ ?_ hT
 .unfold execOp
  simp only [bT,ex,ey]
  cases op <;> simp only [Iw] at he <;> first | (cases he;done) | skip
  .rw [Sem.run_bind,Sem.run_bind,zS,Result.andThen_ok]
   show (((do pure (.bool (<- Op.equal t (.agg (xs.map (Value.int k)).toArray) (.agg (ys.map (Value.int k)).toArray)))):Sem Value).run P w).andThen _=_
   rw [Sem.run_bind,hr];rfl
  .rw [Sem.run_bind,Sem.run_bind,zS,Result.andThen_ok]
   show (((do pure (.bool (!(<- Op.equal t (.agg (xs.map (Value.int k)).toArray) (.agg (ys.map (Value.int k)).toArray))))):Sem Value).run P w).andThen _=_
   rw [Sem.run_bind,hr];rfl
 all_goals (cases op <;> simp only [Iw] at he <;> first | (cases he;done) | (cases he;rfl))
theorem Hg (aT:cA P Γ) (aX:cK P Γ) (ht:cE V g a) (hg:bL Γ V) (hT:aC w0 M V T w) {op:BinOp} {t t2:TypeId} {x y:Operand} (bT:o.op = .binOp op t x y t2)
 (he:Iu Γ g op t x y=some e) (lab:Nat):kE P w0 M V T lab e o a w:=by
 unfold Iu at he
 split at he
 case h_2=>cases he
 rename_i s1 k1 x1 s2 k2 x2 s3 k3 y1 s4 k4 y2 ti hx hy dV
 split at he
 case h_2=>cases he
 rename_i fs hd
 split at he
 case h_2=>cases he
 rename_i f1 f2 hfs
 split at he
 case h_2=>cases he
 rename_i t1 t2 ht1 Ph
 split at he
 case h_2=>cases he
 rename_i d1 d2 CG RH gY
 simp only [Bool.and_eq_true,Bool.not_eq_true',beq_eq_false_iff_ne,ne_eq] at gY
 obtain ⟨⟨⟨n1,n2⟩,o1,o2⟩,⟨hk1,gB⟩,hc⟩:=gY
 have o1:=cH o1
 have o2:=cH o2
 have hk1:k1=k3:=of_decide_eq_true hk1
 have gB:k2=k4:=of_decide_eq_true gB
 subst hk1 gB
 have ex:=bF ht hg hx
 have ey:=bF ht hg hy
 simp only [den,aE,Option.bind_some,Option.map_some,aU] at ex ey
 have hu:=(aT t ti dV).1
 rw [hd] at hu
 have CC:=(aT _ t1 ht1).1
 rw [CG] at CC
 have RZ:=(aT _ t2 Ph).1
 rw [RH] at RZ
 have DA:P.fieldsOf t=fs:=by simp [Program.fieldsOf,hu]
 have gL:∀ k,sE (.int k)=false:=fun _=>rfl
 have p1:∀ u v:Value,(part f1.type #[u,v] f1.offset).run P w = .ok u w:=fun u v=>by
  simp [o1,part,Sem.run_bind,eW CC,gL,Result.andThen_ok]
 have p2:∀ u v:Value,(part f2.type #[u,v] f2.offset).run P w = .ok v w:=fun u v=>by
  simp [o2,part,Sem.run_bind,eW RZ,gL,Result.andThen_ok]
 have hr:(Op.equal t (.agg #[.int k1 x1,.int k2 x2]) (.agg #[.int k1 y1,.int k2 y2])).run P w = .ok (decide (x1=y1)&&decide (x2=y2)) w:=by
  refine Eq.trans (run_equalIn_struct w 9999 t _ _ (by rw [DA];exact hu) (aX.2.2.1 t hc).2) ?_
  rw [DA,hfs]
  simp only [Op.eqFields,ne_eq,n1,n2,not_false_eq_true,if_true,Sem.run_bind,p1,Result.andThen_ok,run_equalIn_int w 9998 f1.type k1 d1 x1 y1 CC]
  have q2:∀ u v:Int,(Op.equalIn 9999 f2.type (.int k2 u) (.int k2 v)).run P w = .ok (u==v) w:=fun u v=>run_equalIn_int w 9998 f2.type k2 d2 u v RZ
  by_cases h1:x1=y1 <;> by_cases h2:x2=y2 <;> simp [h1,h2,Sem.run_bind,p2,Result.andThen_ok] <;> (try (rw [q2];simp [h2]))
 have hfa:fs = #[f1,f2]:=by apply Array.ext';simpa using hfs
 have zS:∀ op:BinOp,(eqGuard op t x y (.agg #[.int k1 x1,.int k2 x2]) (.agg #[.int k1 y1,.int k2 y2])).run P w = .ok () w:=fun op=>by
  refine run_eqGuard_agg w op t x y _ _ ?_
  obtain ⟨d,DY⟩:=aX.2.2.2
  rw [DY]
  simp [Program.eqGuardType,hu,CC,RZ,hfa]
 refine bC (x:=match op with | .eql=>.bool (decide (x1=y1)&&decide (x2=y2)) | _=>.bool (!(decide (x1=y1)&&decide (x2=y2)))) ?_ ?_ ?_ ?_ hT
 .unfold execOp
  simp only [bT,<- ex,<- ey]
  split at he
  .rw [Sem.run_bind,Sem.run_bind,zS,Result.andThen_ok]
   show (((do pure (.bool (<- Op.equal t (.agg #[.int k1 x1,.int k2 x2]) (.agg #[.int k1 y1,.int k2 y2])))):Sem Value).run P w).andThen _=_
   rw [Sem.run_bind,hr];rfl
  .rw [Sem.run_bind,Sem.run_bind,zS,Result.andThen_ok]
   show (((do pure (.bool (!(<- Op.equal t (.agg #[.int k1 x1,.int k2 x2]) (.agg #[.int k1 y1,.int k2 y2]))))):Sem Value).run P w).andThen _=_
   rw [Sem.run_bind,hr];rfl
  .cases he
 all_goals (split at he <;> first | (cases he;done) | (cases he;rfl))
theorem BB (aT:cA P Γ) (ht:cE V g a) (hg:bL Γ V) (hT:aC w0 M V T w) {t:TypeId} {x y:Operand} (bT:o.op = .makeSlice t x y) {lab:Nat} (hf:V.fresh lab) (he:Rj Γ g t x y lab=some e) (ho:∀ q∈e.bM,q):kE P w0 M V T lab e o a w:=by
 unfold Rj at he
 split at he
 case h_2=>cases he
 rename_i sx kx n sy ky c ti hx hy dV
 split at he
 case h_2=>cases he
 rename_i el hd
 split at he
 case h_2=>cases he
 rename_i te eA
 split at he
 case h_2=>cases he
 rename_i RY gJ
 simp only [aU] at he
 subst he
 have hb:=ho _ cM
 have ex:=bF ht hg hx
 have ey:=bF ht hg hy
 simp only [den,aU] at ex ey
 have hu:=(aT t ti dV).1
 rw [hd] at hu
 obtain ⟨_,i,zv,hi,cD,DF,hz,hzero⟩:=aT el te eA
 have fQ:i.size=1:=by rw [cD];exact cH gJ
 have zO:zv.cells = #[.slice none 0 0]:=by
  have:=hzero V
  rw [RY] at this
  simp only [aE,den,Option.bind_some,Option.map_some,aU] at this
  rw [<- Array.toList_inj,<- this]
 rw [<- DF] at hb
 have dR:=nW (P:=P) (w:=w) (kx:=kx) (ky:=ky) hu hi hz zO fQ hb
 have GU:(execOp a.eval o).run P w = .ok (.value (.slice (some ⟨w.heap.size,0,none⟩) n.toNat c.toNat)) (w.alloc (.cells (List.replicate c.toNat (Value.slice none 0 0)).toArray el)):=by
  unfold execOp
  simp only [bT,<- ex,<- ey,Sem.run_bind,dR,Result.andThen_ok,Sem.run_pure]
 intro K Q hK
 unfold Oper.wp
 rw [GU,Oper.upon_value]
 exact hK _ _ _ (aY.jU hf lab (Nat.le_refl _) (by omega) _) (by simp [den,aY.put]) (hT.alloc hf (B:=.eJ _ el) (.inr (.inr rfl)) rfl _ _)
theorem Hh (aT:cA P Γ) (ht:cE V g a) (hg:bL Γ V) {T':aZ} (aL:∀ l B,T' l=some B->T l=some B) (hT:aC w0 M V T w) {op:BinOp} {t t2:TypeId} {x y:Operand} (bT:o.op = .binOp op t x y t2)
 (he:Iv Γ g T' op t x y=some e) (ho:∀ q∈e.bM,q) (lab:Nat):kE P w0 M V T lab e o a w:=by
 unfold Iv at he
 split at he
 case h_2=>cases he
 rename_i l i n ti hx hy dV
 split at he
 case h_2=>cases he
 rename_i el ds z hd hB
 simp only [aU] at he
 subst he
 have hi:ds.length<=i:=ho _ (by simp)
 have ex:=bF ht hg hx
 have ey:=bF ht hg hy
 simp only [den,aU] at ey
 obtain ⟨v,us,h1,_,_,_,h5⟩:=hT.sL l _ (aL l _ hB)
 simp only [den,h1,Option.bind_some,Kx,List.getElem?_cons_succ,Option.bind_eq_some_iff] at ex
 obtain ⟨u,hu,hr⟩:=ex
 have nJ:=(cY hr).1
 have RZ:=h5 i u hu hi
 have e1:a.eval x = .slice none 0 0:=nJ.trans RZ
 have hut:=(aT t ti dV).1
 rw [hd] at hut
 have hq:=pZ (P:=P) w hut none none 0 0 0 0 (.inl rfl)
 refine bC (x:=.bool true) ?_ rfl rfl rfl hT
 unfold execOp
 simp only [bT,e1,<- ey]
 rw [Sem.run_bind,Sem.run_bind,cL w .eql t x y _ _ (by simp) (by simp),Result.andThen_ok]
 show (((do pure (.bool (<- Op.equal t (.slice none 0 0) (.slice none 0 0)))):Sem Value).run P w).andThen _=_
 rw [Sem.run_bind,hq];rfl
theorem BA (aT:cA P Γ) (ht:cE V g a) (hg:bL Γ V) (hT:aC w0 M V T w) {t:TypeId} {x y:Operand} (bT:o.op = .makeSlice t x y) {lab:Nat} (hf:V.fresh lab) (he:Ri Γ g t x y lab=some e) (ho:∀ q∈e.bM,q):kE P w0 M V T lab e o a w:=by
 unfold Ri at he
 split at he
 case h_2=>cases he
 rename_i kx sy ky c ti hx hy dV
 split at he
 case h_2=>cases he
 rename_i el hd
 split at he
 case h_2=>cases he
 rename_i te eA
 split at he
 case h_2=>cases he
 rename_i gY
 simp only [Bool.and_eq_true] at gY
 have rY:=cH gY.1
 have hz2:=cH gY.2
 simp only [aU] at he
 subst he
 obtain ⟨h1,h2,h3⟩:=ho _ cM
 have ex:=bF ht hg hx
 have ey:=bF ht hg hy
 simp only [den,aU] at ex ey
 have hu:=(aT t ti dV).1
 rw [hd] at hu
 obtain ⟨_,i,z,hi,cD,DF,hz,hzero⟩:=aT el te eA
 have Ui:i.size=2:=cD.trans rY
 have qJ:z.cells.size=2:=by
  have h1:=bB (hzero V)
  rw [<- hz2,<- h1];simp
 rw [<- DF] at h2
 have en:IntKind.i64.wrap 0=0:=rV (by omega) (by omega)
 have ec:IntKind.i64.wrap c=c:=rV (by omega) (by omega)
 have dV:(typeInfo el).run P w = .ok i w:=by simp [typeInfo,hi]
 have Mf:(c<0||(i.bytes:Int)*c>2^48||(0:Int)<0||(0:Int)>c)=false:=by simp;omega
 obtain ⟨cur,aPb,dR⟩:∃ cur:Array Value,cur.size=c.toNat*2/\(Instr.makeSlice t (.int kx 0) (.int ky c)).run P w = .ok (.slice (some ⟨w.heap.size,0,none⟩) 0 c.toNat) (w.alloc (.cells cur el)):=by
  unfold Instr.makeSlice
  simp only [Sem.run_bind,run_underlying hu w,Result.andThen_ok,asInt,asIntOf,Sem.run_pure,dV,en,ec,Mf,Bool.false_eq_true,if_false,run_askRoom,run_sizeOf hi,Ui]
  by_cases Ar:c.toNat*2=0
  .exact ⟨#[],by simp;omega,by simp [show c.toNat=0 by omega,newRow,show Array.range 0 = #[] from rfl]⟩
  .refine ⟨(Array.range (c.toNat*2)).map fun j=>z.cells[j%z.cells.size]!,by simp,?_⟩
   simp only [if_neg Ar,Sem.run_bind,eF hi hz,Result.andThen_ok,Sem.run_pure,newRow,run_newObj,World.alloc_eq,Int.toNat_zero]
 intro K Q hK
 unfold Oper.wp
 have hr:(execOp a.eval o).run P w = .ok (.value (.slice (some ⟨w.heap.size,0,none⟩) 0 c.toNat)) (w.alloc (.cells cur el)):=by
  unfold execOp
  simp only [bT,<- ex,<- ey,Sem.run_bind,dR,Result.andThen_ok,Sem.run_pure]
 rw [hr,Oper.upon_value]
 have hs:(V.aV lab (.slice (some ⟨w.heap.size,0,none⟩) 0 c.toNat)).σ lab=some (.slice (some ⟨w.heap.size,0,none⟩) 0 c.toNat):=by simp [aY.aV]
 have lS:okB (V.aV lab (.slice (some ⟨w.heap.size,0,none⟩) 0 c.toNat)) (w.alloc (.cells cur el)) lab (.eM [] el):=
  ⟨[],rfl,_,hs,rfl,.inr ⟨w.heap.size,c.toNat,cur,rfl,Nat.zero_le _,heap_alloc_new w _,Nat.zero_le _,by simp only [maxLen];omega,aPb,by simp⟩⟩
 refine hK _ (.slice (some ⟨w.heap.size,0,none⟩) 0 c.toNat) _ (aY.bS hf lab (Nat.le_refl _) (by omega) (.slice (some ⟨w.heap.size,0,none⟩) 0 c.toNat)) (by simp only [den];exact hs) ?_
 exact hT.pM (lo:=none) (v:=.slice none 0 0) (v':=.slice (some ⟨w.heap.size,0,none⟩) 0 c.toNat) hf lS (fun n hb=>by simpa [SB.aN,hs] using hb) (World.grownBy_alloc w _ _) (.inr rfl) (fun _=>rfl) (fun l hl=>by cases hl) _ _
theorem Nc (aT:cA P Γ) (aX:cK P Γ) (ht:cE V g a) (hg:bL Γ V) {T':aZ} (aL:∀ l B,T' l=some B->T l=some B) (hT:aC w0 M V T w) {lab F:Nat} (hf:V.fresh lab) (hF:V.top F) {h:Option Bool}
 (he:Bn Γ g T' lab F h o=some e) (ho:∀ q∈e.bM,q):kE P w0 M V T lab e o a w:=by
 unfold Bn at he
 split at he
 .rename_i bT;exact Nr ht hg hT (.inl bT) he lab
 .rename_i bT;exact Nr ht hg hT (.inr bT) he lab
 .rename_i bT;exact PN ht hg hT bT he lab
 .rename_i bT;exact BM aT hT bT hf he
 .rename_i bT
  unfold jZ at he
  split at he
  .rename_i h1;cases he;exact aCq ht hg aL hT bT hf h1
  .exact PS ht hg hT bT hf he
 .rename_i bT;exact BL aT ht hg aL hT bT he ho lab
 .rename_i bT;exact Dw aT ht hg aL hT bT hf he
 .rename_i bT
  unfold jZ at he
  split at he
  .rename_i h1;cases he;exact BE aT ht hg aL hT bT h1 ho lab
  .split at he
   .rename_i h1;cases he;exact PO aT ht hg aL hT bT h1 ho lab
   .split at he
    .rename_i h1;cases he;exact BD aT ht hg aL hT bT h1 ho lab
    .exact BC aT ht hg aL hT bT he ho lab
 .rename_i bT
  unfold jZ at he
  split at he
  .rename_i h1;cases he;exact AY aT ht hg aL hT bT h1 ho lab
  .split at he
   .rename_i h1;cases he;exact Ta aT ht hg aL hT bT h1 ho lab
   .split at he
    .rename_i h1;cases he;exact Sy aT ht hg aL hT bT h1 lab
    .exact Sz aT ht hg aL hT bT he ho lab
 .rename_i bT;exact aCm ht hg hT bT he lab
 .rename_i bT
  split at he
  .unfold jZ at he
   split at he
   .rename_i e' gX;cases he;exact Kh aT ht hg hT bT gX ho lab
   .split at he
    .rename_i h1;cases he;exact Nq aT aX ht hg aL hT bT h1 lab
    .split at he
     .rename_i h1;cases he;exact Hi aT aX ht hg hT bT h1 ho lab
     .split at he
      .rename_i h1;cases he;exact Hg aT aX ht hg hT bT h1 lab
      .split at he
       .rename_i h1;cases he;exact Hh aT ht hg aL hT bT h1 ho lab
       .exact Hf ht hg hT bT he lab
  .unfold jZ at he
   split at he
   .rename_i e' gX;cases he;exact Kh aT ht hg hT bT gX ho lab
   .split at he
    .rename_i h1;cases he;exact Nq aT aX ht hg aL hT bT h1 lab
    .split at he
     .rename_i h1;cases he;exact Hi aT aX ht hg hT bT h1 ho lab
     .split at he
      .rename_i h1;cases he;exact Hg aT aX ht hg hT bT h1 lab
      .split at he
       .rename_i h1;cases he;exact Hh aT ht hg aL hT bT h1 ho lab
       .exact Hf ht hg hT bT he lab
  .exact Kh aT ht hg hT bT he ho lab
 .rename_i bT;exact aMk ht hg hT bT he lab
 .rename_i bT
  unfold jZ at he
  split at he
  .rename_i h1;cases he;exact PQ aT ht hg hT bT h1 lab
  .split at he
   .rename_i h1;cases he;exact BK aT ht hg aL hT bT h1 lab
   .exact BJ aT ht hg aL hT bT he ho lab
 .rename_i bT;exact aCr aT ht hg hT bT he ho lab
 .rename_i bT;exact Fh aT ht hg hT bT he lab
 .rename_i bT;exact Kk ht hg hT bT he lab
 .rename_i bT
  unfold jZ at he
  split at he
  .rename_i h1;cases he;exact Fg aT ht hg hT bT hf h1 ho
  .split at he
   .rename_i h1;cases he;exact BA aT ht hg hT bT hf h1 ho
   .exact BB aT ht hg hT bT hf he ho
 .rename_i bT
  unfold jZ at he
  split at he
  .rename_i h1;cases he;exact Tj aT ht hg aL hT bT h1 lab
  .split at he
   .rename_i h1;cases he;exact AZ aT ht hg aL hT bT h1 ho lab
   .split at he
    .rename_i h1;cases he;exact Tc aT ht hg aL hT bT hf h1 ho
    .split at he
     .rename_i h1;cases he;exact Ti aT ht hg aL hT bT hf h1 ho
     .split at he
      .rename_i h1;cases he;exact Te aT ht hg aL hT bT hf h1 ho
      .split at he
       .rename_i h1;cases he;exact Tb aT ht hg aL hT bT hf h1 ho
       .exact Td aT ht hg aL hT bT hf he ho
 .rename_i bT;exact BF aT ht hg hT bT he lab
 .rename_i bT;exact Tp aT ht hg hT bT he lab
 .rename_i bT
  unfold jZ at he
  split at he
  .rename_i h1;cases he;exact Fi aT ht hg hT bT h1 ho lab
  .split at he
   .rename_i h1;cases he;exact Tn aT ht hg aL hT bT h1 ho lab
   .split at he
    .rename_i h1;cases he;exact Tm aT ht hg hT bT h1 ho lab
    .exact Tl aT ht hg hT bT he ho lab
 .rename_i bT
  unfold jZ at he
  split at he
  .rename_i h1;cases he;exact Tk aT ht hg hT bT h1 lab
  .exact To aT ht hg hT bT he ho lab
 .rename_i bT;exact Ol ht hg hT bT he lab
 .rename_i bT;exact PR aT aX ht hg aL hT hf hF bT he ho
 .cases he
end Ht
inductive Tr (α:Type) where
 | lf
 | nd (l:Tr α) (v:Option α) (r:Tr α)
noncomputable def Tr.get {α:Type} (t:Tr α):Nat->Option α:=Tr.rec (motive:=fun _=>Nat->Option α) (fun _=>none)
 (fun _ v _ ihl ihr n=>Bool.rec (Bool.rec (ihr (n/2-1)) (ihl (n/2)) (Nat.beq (n%2) 1)) v (Nat.beq n 0)) t
noncomputable def Tr.new {α:Type} (v:α) (f:Nat):Nat->Tr α:=Nat.rec (motive:=fun _=>Nat->Tr α) (fun _=>.nd .lf (some v) .lf)
 (fun _ ih n=>Bool.rec (Bool.rec (.nd .lf none (ih (n/2-1))) (.nd (ih (n/2)) none .lf) (Nat.beq (n%2) 1)) (.nd .lf (some v) .lf) (Nat.beq n 0)) f
noncomputable def Tr.put {α:Type} (v:α) (f:Nat) (t:Tr α):Nat->Option (Tr α):=Tr.rec (motive:=fun _=>Nat->Option (Tr α)) (fun n=>Bool.rec none (some (Tr.new v f n)) (Nat.ble (n+1) (2^f)))
 (fun l u r ihl ihr n=>Bool.rec (Bool.rec (Option.rec none (fun r'=>some (.nd l u r')) (ihr (n/2-1))) (Option.rec none (fun l'=>some (.nd l' u r)) (ihl (n/2))) (Nat.beq (n%2) 1)) (some (.nd l (some v) r)) (Nat.beq n 0)) t
theorem Tr.lG {α:Type} (n:Nat):(Tr.lf:Tr α).get n=none:=rfl
theorem Tr.oD {α:Type} (l r:Tr α) (v:Option α) (n:Nat):(Tr.nd l v r).get n=if n=0 then v else if n%2=1 then l.get (n/2) else r.get (n/2-1):=by
 show Bool.rec (motive:=fun _=>Option α) (Bool.rec (motive:=fun _=>Option α) (r.get (n/2-1)) (l.get (n/2)) (Nat.beq (n%2) 1)) v (Nat.beq n 0)=_
 by_cases h0:n=0
 .subst h0;rfl
 .rw [if_neg h0]
  have e0:Nat.beq n 0=false:=by
   cases hb:Nat.beq n 0 with
   | false=>rfl
   | true=>exact absurd (cH hb) h0
  rw [e0]
  by_cases h1:n%2=1
  .rw [if_pos h1,h1];rfl
  .rw [if_neg h1]
   have e1:Nat.beq (n%2) 1=false:=by
    cases hb:Nat.beq (n%2) 1 with
    | false=>rfl
    | true=>exact absurd (cH hb) h1
   rw [e1]
theorem beq_false {a b:Nat} (h:Nat.beq a b=false):a≠b:=fun e=>by subst e;rw [Nat.beq_refl] at h;cases h
theorem Tr.Jj {α:Type} (v:α):∀ (f n m:Nat),n<2^f->(Tr.new v f n).get m=if m=n then some v else none
 | 0,n,m,h=>by
   have h0:n=0:=by simpa using h
   subst h0
   show (Tr.nd .lf (some v) .lf).get m=_
   rw [Tr.oD,Tr.lG,Tr.lG]
   split
   .rfl
   .split <;> rfl
 | f+1,n,m,h=>by
   have h2:n/2<2^f:=by rw [Nat.pow_succ] at h;omega
   show Tr.get (Bool.rec (motive:=fun _=>Tr α) (Bool.rec (motive:=fun _=>Tr α) (.nd .lf none (Tr.new v f (n/2-1))) (.nd (Tr.new v f (n/2)) none .lf) (Nat.beq (n%2) 1)) (.nd .lf (some v) .lf) (Nat.beq n 0)) m=_
   cases h0:Nat.beq n 0 with
   | true=>
     have:=cH h0
     subst this
     show (Tr.nd .lf (some v) .lf).get m=_
     rw [Tr.oD,Tr.lG,Tr.lG]
     split
     .rfl
     .split <;> rfl
   | false=>
     have Hq:=beq_false h0
     cases h1:Nat.beq (n%2) 1 with
     | true=>
       have Ox:=cH h1
       show (Tr.nd (Tr.new v f (n/2)) none .lf).get m=_
       rw [Tr.oD,Tr.lG,Tr.Jj v f _ _ h2]
       by_cases e:m=n
       .subst e;rw [if_neg Hq,if_pos Ox,if_pos rfl,if_pos rfl]
       .rw [if_neg e]
        split
        .rfl
        .split
         .rw [if_neg (by omega)]
         .rfl
     | false=>
       have Ox:=beq_false h1
       show (Tr.nd .lf none (Tr.new v f (n/2-1))).get m=_
       rw [Tr.oD,Tr.lG,Tr.Jj v f _ _ (by omega)]
       by_cases e:m=n
       .subst e;rw [if_neg Hq,if_neg Ox,if_pos rfl,if_pos rfl]
       .rw [if_neg e]
        split
        .rfl
        .split
         .rfl
         .rw [if_neg (by omega)]
theorem Tr.hY {α:Type} (v:α) (f:Nat) (t:Tr α):∀ (n:Nat) (t':Tr α),Tr.put v f t n=some t'->∀ m,t'.get m=if m=n then some v else t.get m:=by
 induction t with
 | lf=>
   intro n t' h m
   have h:Bool.rec (motive:=fun _=>Option (Tr α)) none (some (Tr.new v f n)) (Nat.ble (n+1) (2^f))=some t':=h
   cases hb:Nat.ble (n+1) (2^f) with
   | false=>rw [hb] at h;cases h
   | true=>
     rw [hb] at h
     cases h
     have:=Nat.le_of_ble_eq_true hb
     rw [Tr.Jj v f n m (by omega),Tr.lG]
 | nd l u r ihl ihr=>
   intro n t' h m
   have h:Bool.rec (motive:=fun _=>Option (Tr α)) (Bool.rec (motive:=fun _=>Option (Tr α)) (Option.rec (motive:=fun _=>Option (Tr α)) none (fun r'=>some (.nd l u r')) (Tr.put v f r (n/2-1))) (Option.rec (motive:=fun _=>Option (Tr α)) none (fun l'=>some (.nd l' u r)) (Tr.put v f l (n/2))) (Nat.beq (n%2) 1)) (some (.nd l (some v) r)) (Nat.beq n 0)=some t':=h
   cases h0:Nat.beq n 0 with
   | true=>
     rw [h0] at h
     cases h
     have:=cH h0
     subst this
     rw [Tr.oD,Tr.oD]
     by_cases e:m=0
     .subst e;rfl
     .rw [if_neg e,if_neg e,if_neg e]
   | false=>
     have Hq:=beq_false h0
     rw [h0] at h
     cases h1:Nat.beq (n%2) 1 with
     | true=>
       have Ox:=cH h1
       rw [h1] at h
       cases hp:Tr.put v f l (n/2) with
       | none=>rw [hp] at h;cases h
       | some l'=>
         rw [hp] at h
         cases h
         have ih:=ihl (n/2) l' hp
         rw [Tr.oD,Tr.oD]
         by_cases e:m=n
         .subst e;rw [if_neg Hq,if_pos Ox,ih,if_pos rfl,if_pos rfl]
         .rw [if_neg e]
          split
          .rfl
          .split
           .rw [ih,if_neg (by omega)]
           .rfl
     | false=>
       have Ox:=beq_false h1
       rw [h1] at h
       cases hp:Tr.put v f r (n/2-1) with
       | none=>rw [hp] at h;cases h
       | some r'=>
         rw [hp] at h
         cases h
         have ih:=ihr (n/2-1) r' hp
         rw [Tr.oD,Tr.oD]
         by_cases e:m=n
         .subst e;rw [if_neg Hq,if_neg Ox,ih,if_pos rfl,if_pos rfl]
         .rw [if_neg e]
          split
          .rfl
          .split
           .rfl
           .rw [ih,if_neg (by omega)]
structure St where
 g:Tr SV
 tb:Tr SB
 nx:Nat
 ws:List Nat
 ob:List Prop
 df:List SV:=[]
 hs:List Bool:=[]
noncomputable def St.T (B:aZ) (s:St):aZ:=fun l=>match s.tb.get l with
 | some b=>some b
 | none=>B l
noncomputable def DP (F0:Nat):List (Nat × SB)->Tr SB->List Nat->Option (Tr SB × List Nat)
 | [],t,ws=>some (t,ws)
 | (l,b)::r,t,ws=>match DP F0 r t ws with
   | none=>none
   | some (t,ws)=>match Tr.put b 64 t l with
     | none=>none
     | some t=>some (t,match Nat.blt l F0,ws.elem l with
       | true,false=>l::ws
       | _,_=>ws)
theorem Nb {F0:Nat}:∀ {r:List (Nat × SB)} {t t':Tr SB} {ws ws':List Nat},DP F0 r t ws=some (t',ws') ->
 (∀ l,t'.get l=match look l r with | some b=>some b | none=>t.get l)/\(∀ l,l∈ws->l∈ws')/\(∀ l b,look l r=some b->l<F0->l∈ws')
 | [],t,t',ws,ws',h=>by
   simp only [DP,aU,Prod.mk.injEq] at h
   obtain ⟨rfl,rfl⟩:=h
   exact ⟨fun l=>rfl,fun l hl=>hl,fun l b hl=>by cases hl⟩
 | (k,c)::r,t,t',ws,ws',h=>by
   simp only [DP] at h
   split at h
   .cases h
   .rename_i t1 ws1 h1
    obtain ⟨i1,i2,i3⟩:=Nb h1
    split at h
    .cases h
    .rename_i t2 h2
     simp only [aU,Prod.mk.injEq] at h
     obtain ⟨rfl,hws⟩:=h
     have hg:=Tr.hY c 64 t1 k t2 h2
     have aL:∀ l,l∈ws1->l∈ws':=by
      intro l hl
      rw [<- hws]
      split
      .exact List.mem_cons_of_mem _ hl
      .exact hl
     have hk:k<F0->k∈ws':=by
      intro cI
      rw [<- hws]
      split
      .exact cM
      .rename_i Ea
       have hb:Nat.blt k F0=true:=by simpa [Nat.blt_eq] using cI
       cases he:ws1.elem k with
       | true=>simpa using he
       | false=>exact (Ea hb he).elim
     refine ⟨fun l=>?_,fun l hl=>aL l (i2 l hl),fun l b hl cI=>?_⟩
     .rw [hg l]
      by_cases e:k=l
      .subst e;rw [aI,if_pos rfl]
      .rw [aD e,if_neg (fun x=>e x.symm)];exact i1 l
     .by_cases e:k=l
      .subst e;exact hk cI
      .rw [aD e] at hl
       exact aL l (i3 l b hl cI)
noncomputable def St.step (F0 N:Nat) (s:St) (dst:Option Tmp) (e:bJ) (lab nx:Nat):Option St:=
 match DP F0 (e.eG lab) s.tb s.ws,Nat.ble e.new.length 8&&e.wr.all (fun p=>Nat.blt p.1 nx) with
 | some (tb,ws),true=>match dst with
   | none=>some { g:=s.g,tb:=tb,nx:=nx,ws:=ws,ob:=e.bM++s.ob,df:=s.df,hs:=s.hs }
   | some d=>match Tr.put e.val 64 s.g d,Nat.blt d N with
     | some g,true=>some { g:=g,tb:=tb,nx:=nx,ws:=ws,ob:=e.bM++s.ob,df:=s.df,hs:=s.hs }
     | _,_=>none
 | _,_=>none
def zU (ops:Array Oper) (g:Nat->Option SV) (o:Oper):Option Bool:=
 match o.guard with
 | none=>some true
 | some (j,want)=>match (ops[j]?).bind (·.dst) with
   | none=>none
   | some d=>match g d with
     | some (.bool true b)=>some (b==want)
     | some (.raw v)=>match v with
       | .bool _=>none
       | _=>some false
     | _=>none
theorem St.Vu {F0 N:Nat} {s s':St} {dst:Option Tmp} {e:bJ} {lab nx:Nat} (h:s.step F0 N dst e lab nx=some s'):s'.df=s.df:=by
 unfold St.step at h
 split at h
 .split at h
  .cases h;rfl
  .split at h
   .cases h;rfl
   .cases h
 .cases h
def toD:Value->Deferred
 | .func f xs ys=>{ target:=.fn f ys,args:=xs }
 | _=>{ target:=.nil,args := #[] }
structure Inv (P:Program) (Γ:Env) (w0:World) (M:Nat->Prop) (B:aZ) (N F0:Nat) (V0:aY) (s:St) (V:aY) (a:Act) (w:World):Prop where
 tmp:cE V s.g.get a
 keys:∀ d v,s.g.get d=some v->d<N
 size:N<=a.tmps.size
 defers:∃ xs,aE V s.df=some xs/\a.defers=xs.map toD
 eG:aC w0 M V (s.T B) w
 aR:bL Γ V
 top:V.top s.nx
 le:V0.le V
 low:∀ l,l<F0->V.β l=V0.β l/\V.σ l=V0.σ l
 ch:∀ l,l<F0->l ∉ s.ws->s.tb.get l=none
 nx:F0<=s.nx
 hi:∀ l,s.nx<=l->s.T B l=none
theorem aY.top.fresh {V:aY} {F:Nat} (h:V.top F):V.fresh F:=fun l h1 _=>h l h1
theorem aY.top.mono {V:aY} {F F':Nat} (h:V.top F) (hl:F<=F'):V.top F':=fun l h1=>h l (Nat.le_trans hl h1)
theorem pN {ops:Array Oper} {V:aY} {g:Nat->Option SV} {a:Act} (ht:cE V g a) (hs:∀ d v,g d=some v->d<a.tmps.size) {o:Oper} {b:Bool} (h:zU ops g o=some b):Region.wanted o (yielded ops a.tmps)=b:=by
 unfold zU at h
 unfold Region.wanted
 split at h
 .rename_i hg;simp only [aU] at h;subst h;rw [hg]
 .rename_i j want hg
  rw [hg]
  split at h
  .cases h
  .rename_i d hd
   split at h
   .rename_i c hc
    simp only [aU] at h
    subst h
    have hv:=ht d _ hc
    have cI:=hs d _ hc
    simp only [den,aU,Act.eval] at hv
    have sD:a.tmps[d]?=some (.bool c):=by
     rw [Array.getElem?_eq_getElem cI]
     rw [Array.getD_eq_getD_getElem?,Array.getElem?_eq_getElem cI,Option.getD_some] at hv
     rw [hv]
    simp only [yielded,hd,Option.bind_some,sD]
    cases c <;> cases want <;> rfl
   .rename_i v hc
    split at h
    .cases h
    .rename_i hnb
     simp only [aU] at h
     subst h
     have hv:=ht d _ hc
     have cI:=hs d _ hc
     simp only [den,aU,Act.eval] at hv
     have sD:a.tmps[d]?=some v:=by
      rw [Array.getElem?_eq_getElem cI]
      rw [Array.getD_eq_getD_getElem?,Array.getElem?_eq_getElem cI,Option.getD_some] at hv
      rw [hv]
     have hy:yielded ops a.tmps j=none:=by
      simp only [yielded,hd,Option.bind_some,sD]
      split
      .rename_i b' hq;cases hq;exact absurd rfl (hnb b')
      .rfl
     show (yielded ops a.tmps j==some want)=false
     rw [hy]
     rfl
   .cases h
theorem St.cQ {F0 N:Nat} {s s':St} {dst:Option Tmp} {e:bJ} {lab nx:Nat} (B:aZ) (h:s.step F0 N dst e lab nx=some s') :
 s'.T B=eI (s.T B) lab e/\s'.nx=nx/\s'.ob=e.bM++s.ob/\(∀ l,l∈s.ws->l∈s'.ws)/\(∀ l,l<F0->l ∉ s'.ws->s.tb.get l=none->s'.tb.get l=none) /\
  (∀ m,s'.g.get m=if dst=some m then some e.val else s.g.get m)/\(∀ d,dst=some d->d<N)/\e.new.length<=8/\(∀ l b,look l e.wr=some b->l<nx):=by
 unfold St.step at h
 split at h
 case h_2=>cases h
 rename_i tb ws hp gY
 obtain ⟨i1,i2,i3⟩:=Nb hp
 simp only [Bool.and_eq_true] at gY
 have aPd:=Nat.le_of_ble_eq_true gY.1
 have aPc:∀ l b,look l e.wr=some b->l<nx:=fun l b hl=>by
  have:=List.all_eq_true.1 gY.2 _ (fY hl)
  simpa [Nat.blt_eq] using this
 have hT:∀ g nx ob df hs,(St.mk g tb nx ws ob df hs).T B=eI (s.T B) lab e:=by
  intro g nx ob df hs
  funext l
  simp only [St.T,eI,i1 l]
  cases look l (e.eG lab) <;> rfl
 have hch:∀ l,l<F0->l ∉ ws->s.tb.get l=none->tb.get l=none:=by
  intro l hl hn h0
  rw [i1 l]
  cases hk:look l (e.eG lab) with
  | none=>exact h0
  | some b=>exact (hn (i3 l b hk hl)).elim
 split at h
 .simp only [aU] at h
  subst h
  exact ⟨hT _ _ _ _ _,rfl,rfl,i2,hch,fun m=>by simp,(fun d hd=>by cases hd),aPd,aPc⟩
 .rename_i d
  split at h
  .rename_i g hg cI
   simp only [aU] at h
   subst h
   refine ⟨hT _ _ _ _ _,rfl,rfl,i2,hch,fun m=>?_,fun d' hd'=>?_,aPd,aPc⟩
   .rw [Tr.hY _ _ _ _ _ hg m]
    by_cases e:m=d
    .subst e;simp
    .rw [if_neg e,if_neg (by simp;exact fun x=>e x.symm)]
   .cases hd';simpa [Nat.blt_eq] using cI
  .cases h
theorem Inv.step {P:Program} {Γ:Env} {w0 w w':World} {M:Nat->Prop} {B:aZ} {N F0:Nat} {V0 V V':aY} {s s':St} {a:Act} {dst:Option Tmp} {e:bJ} {x:Value} {lab nx:Nat}
 (h:Inv P Γ w0 M B N F0 V0 s V a w) (hs:s.step F0 N dst e lab nx=some s') (hle:s.nx<=lab) (hn:lab+8<=nx) (hV:V.ext lab V') (hx:dst.isSome=true->den V' e.val=some x)
 (hT:aC w0 M V' (eI (s.T B) lab e) w'):Inv P Γ w0 M B N F0 V0 s' V' (a.put dst x) w':=by
 obtain ⟨h1,h2,h3,h4,h5,h6,h7,h8,h9⟩:=St.cQ B hs
 refine ⟨fun t v hv=>?_,fun d v hv=>?_,?_,?_,by rw [h1];exact hT,fun n l hl=>hV.1.1 _ _ (h.aR n l hl),fun l hl=>?_,aY.le_trans h.le hV.1,fun l hl=>?_,fun l hl hw=>?_,?_,fun l hl=>?_⟩
 .rw [h6] at hv
  by_cases hd:dst=some t
  .subst hd
   simp only [if_true,aU] at hv
   subst hv
   have cI:t<a.tmps.size:=Nat.lt_of_lt_of_le (h7 t rfl) h.size
   rw [hx rfl]
   simp [Act.eval,Act.put,Array.getD_eq_getD_getElem?,cI]
  .rw [if_neg hd] at hv
   rw [oR hV.1 (h.tmp t v hv)]
   rw [Act.eval_put (fun d hd' hq=>hd (by cases hq;exact hd'))]
 .rw [h6] at hv
  by_cases hd:dst=some d
  .exact h7 d hd
  .rw [if_neg hd] at hv;exact h.keys d v hv
 .cases dst with
  | none=>exact h.size
  | some d=>simpa [Act.put] using h.size
 .obtain ⟨xs,gE,nJ⟩:=h.defers
  refine ⟨xs,by rw [St.Vu hs];exact cZ hV.1 gE,?_⟩
  cases dst <;> exact nJ
 .rw [h2] at hl
  have:=hV.2 l (.inr (by omega))
  rw [this.1,this.2]
  exact h.top l (by omega)
 .have:=hV.2 l (.inl (by have:=h.nx;omega))
  rw [this.1,this.2]
  exact h.low l hl
 .exact h5 l hl hw (h.ch l hl (fun q=>hw (h4 l q)))
 .rw [h2];have:=h.nx;omega
 .rw [h2] at hl
  rw [h1]
  unfold eI bJ.eG
  rw [bY]
  cases hk:look l e.wr with
  | some b=>have:=h9 l b hk;omega
  | none=>
    have:look l (fO lab e.new)=none:=by
     rw [fH]
     split
     .apply List.getElem?_eq_none;omega
     .rfl
    simp only [this]
    exact h.hi l (by omega)
def Rv (Γ:Env) (g:Nat->Option SV) (c:Call):Option SV:=match SL Γ g c.args.toList,c.callee with
 | some vs,.value f=>match ev Γ g f with
   | some (.fn f first Ii)=>some (.fn f (first++vs) Ii)
   | _=>none
 | _,_=>none
theorem BS {P:Program} {Γ:Env} {V:aY} {g:Nat->Option SV} {a:Act} {w:World} (ht:cE V g a) (hg:bL Γ V) {c:Call} {o:Oper} (bT:o.op = .defer c) {v:SV} (h:Rv Γ g c=some v) :
 ∃ x,den V v=some x/\(execOp a.eval o).run P w = .ok (.defer (toD x)) w:=by
 unfold Rv at h
 split at h
 case h_2=>cases h
 rename_i vs f hvs hc
 split at h
 case h_2=>cases h
 rename_i f' first Ii hf
 cases h
 have hd:=Nm ht hg hvs
 have ef:=bF ht hg hf
 simp only [den,Option.bind_eq_some_iff,Option.map_eq_some_iff] at ef
 obtain ⟨xf,hxf,xc,hxc,ef⟩:=ef
 refine ⟨.func f' (xf++(c.args.map a.eval).toList).toArray xc.toArray,by simp only [den,cF hxf hd,hxc,Option.bind_some,Option.map_some],?_⟩
 unfold execOp
 simp only [bT,resolve,hc,<- ef,Deferred.ofValue,Sem.run_bind,Sem.run_pure,Result.andThen_ok,toD]
 have:(xf++(c.args.map a.eval).toList).toArray=xf.toArray++c.args.map a.eval:=by
  apply Array.ext';simp
 rw [this]
noncomputable def EC (ops:Array Oper) (o:Oper) (s:St):Option St:=match o.guard with
 | none=>some s
 | some (j,_)=>match (ops[j]?).bind (·.dst) with
   | none=>some s
   | some d=>match s.g.get d with
     | some (.bool false b)=>match s.hs with
       | true::r=>match Tr.put (.bool true true) 64 s.g d with
         | some g=>some { s with g:=g,ob:=(b=true)::s.ob,hs:=r }
         | none=>none
       | false::r=>match Tr.put (.bool true false) 64 s.g d with
         | some g=>some { s with g:=g,ob:=(b=false)::s.ob,hs:=r }
         | none=>none
       | []=>none
     | _=>some s
theorem aBn {ops:Array Oper} {o:Oper} {s s':St} (h:EC ops o s=some s'):∀ q∈s.ob,q∈s'.ob:=by
 intro q hq
 unfold EC at h
 split at h
 .cases h;exact hq
 split at h
 .cases h;exact hq
 split at h
 .split at h
  .split at h
   .cases h;exact List.mem_cons_of_mem _ hq
   .cases h
  .split at h
   .cases h;exact List.mem_cons_of_mem _ hq
   .cases h
  .cases h
 .cases h;exact hq
theorem Inv.known {P:Program} {Γ:Env} {w0:World} {M:Nat->Prop} {B:aZ} {N F0:Nat} {V0:aY} {s:St} {V:aY} {a:Act} {w:World} (hi:Inv P Γ w0 M B N F0 V0 s V a w) {d:Nat} {b c:Bool} {g:Tr SV} {ob:List Prop} {hs:List Bool}
 (hd:s.g.get d=some (.bool false b)) (hp:Tr.put (.bool true c) 64 s.g d=some g) (hb:b=c):Inv P Γ w0 M B N F0 V0 { s with g:=g,ob:=ob,hs:=hs } V a w:=by
 refine ⟨fun m v hv=>?_,fun m v hv=>?_,hi.size,hi.defers,hi.eG,hi.aR,hi.top,hi.le,hi.low,hi.ch,hi.nx,hi.hi⟩
 .have hv:g.get m=some v:=hv
  rw [Tr.hY _ _ _ _ _ hp m] at hv
  split at hv
  .rename_i e
   cases hv
   have:=hi.tmp d _ hd
   rw [e]
   rw [hb] at this
   exact this
  .exact hi.tmp m v hv
 .have hv:g.get m=some v:=hv
  rw [Tr.hY _ _ _ _ _ hp m] at hv
  split at hv
  .rename_i e;rw [e];exact hi.keys d _ hd
  .exact hi.keys m v hv
theorem aBm {P:Program} {Γ:Env} {w0:World} {M:Nat->Prop} {B:aZ} {N F0:Nat} {V0:aY} {s s':St} {V:aY} {a:Act} {w:World} {ops:Array Oper} {o:Oper} (hi:Inv P Γ w0 M B N F0 V0 s V a w)
 (h:EC ops o s=some s') (ho:∀ q∈s'.ob,q):Inv P Γ w0 M B N F0 V0 s' V a w:=by
 unfold EC at h
 split at h
 .cases h;exact hi
 split at h
 .cases h;exact hi
 split at h
 .rename_i hd
  split at h
  .split at h
   .rename_i g hp;cases h;exact hi.known hd hp (ho _ cM)
   .cases h
  .split at h
   .rename_i g hp;cases h;exact hi.known hd hp (ho _ cM)
   .cases h
  .cases h
 .cases h;exact hi
noncomputable def Uo (Γ:Env) (B:aZ) (F0 N:Nat) (ops:Array Oper) (o:Oper) (s:St):Option St:=match zU ops s.g.get o with
 | some true=>match o.op with
   | .defer c=>match Rv Γ s.g.get c with
     | some v=>match s.step F0 N o.dst { val:=.raw undef } s.nx (s.nx+8) with
       | some s'=>some { s' with df:=v::s'.df }
       | none=>none
     | none=>none
   | _=>match Bn Γ s.g.get (s.T B) s.nx (s.nx+8) none o with
     | some e=>s.step F0 N o.dst e s.nx (s.nx+8)
     | none=>none
 | some false=>s.step F0 N o.dst { val:=.raw undef } s.nx (s.nx+8)
 | none=>none
theorem Ms {Γ:Env} {B:aZ} {F0 N:Nat} {ops:Array Oper} {o:Oper} {s s':St} (h:Uo Γ B F0 N ops o s=some s'):∀ q∈s.ob,q∈s'.ob:=by
 intro q hq
 unfold Uo at h
 split at h
 .split at h
  .split at h
   .split at h
    .rename_i s1 h1
     cases h
     show q∈s1.ob
     rw [(St.cQ B h1).2.2.1];exact List.mem_append_right _ hq
    .cases h
   .cases h
  .split at h
   .rw [(St.cQ B h).2.2.1];exact List.mem_append_right _ hq
   .cases h
 .rw [(St.cQ B h).2.2.1];exact List.mem_append_right _ hq
 .cases h
noncomputable def Hx (Γ:Env) (B:aZ) (F0 N:Nat) (ops:Array Oper):List Oper->St->Option St
 | [],s=>some s
 | o::r,s=>match EC ops o s with
   | some s1=>match Uo Γ B F0 N ops o s1 with
     | some s2=>Hx Γ B F0 N ops r s2
     | none=>none
   | none=>none
theorem uX {Γ:Env} {B:aZ} {F0 N:Nat} {ops:Array Oper}:∀ {l:List Oper} {s s':St},Hx Γ B F0 N ops l s=some s'->∀ q∈s.ob,q∈s'.ob
 | [],s,s',h,q,hq=>by simp only [Hx,aU] at h;subst h;exact hq
 | o::r,s,s',h,q,hq=>by
   unfold Hx at h
   split at h
   .rename_i s1 h1
    split at h
    .rename_i s2 h2
     exact uX h q (Ms h2 q (aBn h1 q hq))
    .cases h
   .cases h
theorem uW {P:Program} {Γ:Env} {w0:World} {M:Nat->Prop} {B:aZ} {N F0:Nat} {V0:aY} (aT:cA P Γ) (aX:cK P Γ) {ops:Array Oper} {Q:Exit->Act->World->Prop} :
 ∀ {l:List Oper} {s s':St} {V:aY} {a:Act} {w:World},Hx Γ B F0 N ops l s=some s'->(∀ q∈s'.ob,q)->Inv P Γ w0 M B N F0 V0 s V a w ->
   (∀ V' a' w',Inv P Γ w0 M B N F0 V0 s' V' a' w'->Q .normal a' w')->wpList P ops Q l a w
 | [],s,s',V,a,w,h,ho,hi,hQ=>by
   simp only [Hx,aU] at h
   subst h
   exact wpList_nil (hQ V a w hi)
 | o::r,s0,s',V,a,w,h,ho,SF,hQ=>by
   unfold Hx at h
   split at h
   case h_2=>cases h
   rename_i s aZe
   split at h
   case h_2=>cases h
   rename_i s2 Hp
   have hi:=aBm SF aZe (fun q hq=>ho q (uX h q (Ms Hp q hq)))
   unfold Uo at Hp
   split at Hp
   .rename_i hw
    have hw:=pN hi.tmp (fun d v hd=>Nat.lt_of_lt_of_le (hi.keys d v hd) hi.size) hw
    split at Hp
    .rename_i c bT
     split at Hp
     case h_2=>cases Hp
     rename_i v hv
     split at Hp
     case h_2=>cases Hp
     rename_i s1 h1
     cases Hp
     refine wpList_step fun K hK=>?_
     rw [if_pos hw]
     obtain ⟨x,hx,hr⟩:=BS (P:=P) (w:=w) hi.tmp hi.aR bT hv
     unfold Oper.wp
     rw [hr,Oper.upon_defer]
     have h2:=hi.step (a:=a) (w':=w) (x:=undef) h1 (Nat.le_refl _) (Nat.le_refl _) (V.cN _) (fun _=>rfl) (by rw [jW _ _ rfl rfl];exact hi.eG)
     refine hK _ _ (uW aT aX h ho ⟨?_,h2.keys,?_,?_,h2.eG,h2.aR,h2.top,h2.le,h2.low,h2.ch,h2.nx,h2.hi⟩ hQ)
     .intro t v' Ov
      have:=h2.tmp t v' Ov
      rw [this]
      cases o.dst <;> rfl
     .have:=h2.size;cases ho:o.dst <;> (rw [ho] at this;exact this)
     .obtain ⟨xs,gE,nJ⟩:=h2.defers
      refine ⟨x::xs,by simp only [aE,hx,gE,Option.bind_some,Option.map_some],?_⟩
      simp only [List.map_cons,<- nJ]
      cases o.dst <;> rfl
    .split at Hp
     case h_2=>cases Hp
     rename_i e he
     have h1:=Hp
     have sQ:∀ q∈e.bM,q:=fun q hq=>ho q (uX h q (by rw [(St.cQ B h1).2.2.1];exact List.mem_append_left _ hq))
     refine wpList_step fun K hK=>?_
     rw [if_pos hw]
     refine Nc aT aX hi.tmp hi.aR (T':=s.T B) (fun _ _ h=>h) hi.eG hi.top.fresh (hi.top.mono (by omega)) he sQ K Q fun V' x w' hV hx hT=>hK _ _ ?_
     exact uW aT aX h ho (hi.step h1 (Nat.le_refl _) (Nat.le_refl _) hV (fun _=>hx) hT) hQ
   .rename_i hw
    have hw:=pN hi.tmp (fun d v hd=>Nat.lt_of_lt_of_le (hi.keys d v hd) hi.size) hw
    have h1:=Hp
    refine wpList_step fun K hK=>?_
    rw [if_neg (by rw [hw];simp)]
    refine hK _ _ (uW aT aX h ho (hi.step h1 (Nat.le_refl _) (Nat.le_refl _) (V.cN _) (fun _=>rfl) ?_) hQ)
    rw [jW _ _ rfl rfl]
    exact hi.eG
   .cases Hp
def oC:Op->Bool
 | .binOp .eql t .. | .binOp .neq t .. => Nat.blt t 6||(Nat.beq t 26||Nat.beq t 100)
 | .move _ | .assign _ | .pick .. | .alloc _ | .box .. | .build .. | .buildSlice .. | .nilCheck _ | .binOp .. | .unOp .. | .sliceToArrayPointer .. | .makeInterface .. | .makeFunc .. | .makeSlice .. | .fieldAddr .. | .field .. | .indexAddr .. | .index .. | .extract .. => true
 | .convert s d _ => !Nat.beq s d
 | .call c=>match c.callee,c.args.toList with
   | .value (.func f),[]=>Nat.beq f 30
   | _,_=>false
 | _=>false
def mW (ms:List Nat):List Edge->Option Nat
 | []=>some 0
 | e::r=>match Region.binds .any e with
   | true=>match ms[e.on]?,mW ms r with
     | some m,some k=>some ((m ||| (1 <<< e.on)) ||| k)
     | _,_=>none
   | false=>mW ms r
theorem wO (i k:Nat):(1 <<< i).testBit k=decide (k=i):=by
 rw [Nat.one_shiftLeft,Nat.testBit_two_pow]
 simp [eq_comm]
theorem kI {ms:List Nat}:∀ {es:List Edge} {m:Nat},mW ms es=some m->∀ k,m.testBit k=true ->
 ∃ e∈es,Region.binds .any e=true/\(k=e.on\/∃ me,ms[e.on]?=some me/\me.testBit k=true)
 | [],m,h,k,hk=>by simp only [mW,aU] at h;subst h;simp at hk
 | e::r,m,h,k,hk=>by
   simp only [mW] at h
   split at h
   .rename_i hb
    split at h
    .rename_i me mr Uh hmr
     simp only [aU] at h
     subst h
     simp only [Nat.testBit_or,Bool.or_eq_true,wO,decide_eq_true_eq] at hk
     rcases hk with (hk | hk) | hk
     .exact ⟨e,by simp,hb,.inr ⟨me,Uh,hk⟩⟩
     .exact ⟨e,by simp,hb,.inl hk⟩
     .obtain ⟨e',gX,h1,h2⟩:=kI hmr k hk
      exact ⟨e',by simp [gX],h1,h2⟩
    .cases h
   .obtain ⟨e',gX,h1,h2⟩:=kI h k hk
    exact ⟨e',by simp [gX],h1,h2⟩
theorem rW {ms:List Nat}:∀ {es:List Edge} {m:Nat},mW ms es=some m->∀ e∈es,Region.binds .any e=true->e.on<ms.length/\m.testBit e.on=true
 | [],m,h,e,he,_=>by cases he
 | e0::r,m,h,e,he,hb=>by
   simp only [mW] at h
   split at h
   .split at h
    .rename_i me mr Uh hmr
     simp only [aU] at h
     subst h
     rcases List.mem_cons.1 he with rfl | he
     .refine ⟨(List.getElem?_eq_some_iff.1 Uh).1,?_⟩
      simp [Nat.testBit_or]
     .obtain ⟨h1,h2⟩:=rW hmr e he hb
      exact ⟨h1,by simp [Nat.testBit_or,h2]⟩
    .cases h
   .rename_i hnb
    rcases List.mem_cons.1 he with rfl | he
    .rw [hb] at hnb;cases hnb
    .exact rW h e he hb
theorem pP {ms:List Nat}:∀ {es:List Edge} {m:Nat},mW ms es=some m->∀ e∈es,Region.binds .any e=true->∀ {me:Nat},ms[e.on]?=some me->∀ q,me.testBit q=true->m.testBit q=true
 | [],m,h,e,he,_,_,_,_,_=>by cases he
 | e0::r,m,h,e,he,hb,me,Uh,q,hq=>by
   simp only [mW] at h
   split at h
   .split at h
    .rename_i me' mr aOy hmr
     simp only [aU] at h
     subst h
     rcases List.mem_cons.1 he with rfl | he
     .rw [Uh] at aOy;cases aOy
      simp [Nat.testBit_or,hq]
     .simp [Nat.testBit_or,pP hmr e he hb Uh q hq]
    .cases h
   .rename_i hnb
    rcases List.mem_cons.1 he with rfl | he
    .rw [hb] at hnb;cases hnb
    .exact pP h e he hb Uh q hq
def kD (t:Nat):List Oper->Nat->Option Nat
 | [],_=>none
 | o::r,i=>match o.dst with
   | some d=>match Nat.beq d t with
     | true=>some i
     | false=>kD t r (i+1)
   | none=>kD t r (i+1)
theorem nD {t:Nat}:∀ {l:List Oper} {i j:Nat},kD t l i=some j->∃ o,i<=j/\l[j-i]?=some o/\o.dst=some t
 | [],i,j,h=>by cases h
 | o::r,i,j,h=>by
   simp only [kD] at h
   have Kz:kD t r (i+1)=some j->∃ o',i<=j/\(o::r)[j-i]?=some o'/\o'.dst=some t:=by
    intro h
    obtain ⟨o',h1,h2,h3⟩:=nD h
    refine ⟨o',by omega,?_,h3⟩
    rw [show j-i=(j-(i+1))+1 from by omega]
    simpa using h2
   split at h
   .rename_i d hd
    split at h
    .rename_i hb
     have:=cH hb
     subst this
     cases h
     exact ⟨o,Nat.le_refl _,by simp,hd⟩
    .exact Kz h
   .exact Kz h
def gS (ops:List Oper) (E:Nat->Option bJ) (g0:Nat->Option SV) (S O:Nat->Bool) (t:Nat):Option SV:=
 match kD t ops 0 with
 | none=>g0 t
 | some j=>match S j with
   | true=>(E j).map (·.val)
   | false=>match O j with
     | true=>g0 t
     | false=>none
def vU (all:Array Oper) (i j:Nat):Bool:=match all[j]? with
 | some o=>o.after.toList.any fun e=>Nat.beq e.on i&&Region.binds .any e
 | none=>false
def Bl (T0:aZ) (lab0 n:Nat) (E:Nat->Option bJ) (S:Nat->Bool):aZ:=fun l=>
 match Nat.ble lab0 l&&Nat.blt l (lab0+8*n) with
 | true=>match S ((l-lab0)/8) with
   | true=>(E ((l-lab0)/8)).bind fun e=>e.new[(l-lab0)%8]?
   | false=>none
 | false=>T0 l
def TS (T0:aZ) (lab0 n:Nat) (E:Nat->Option bJ) (wr:List (Nat × SB)) (S:Nat->Bool):aZ:=fun l=>
 match look l wr with
 | some b=>some b
 | none=>Bl T0 lab0 n E S l
def tF:Op->Bool
 | .load .. => true
 | .slice .. => true
 | .convert s d _=>Nat.beq s d
 | .call c=>match c.callee with
   | .builtin .len=>true
   | .builtin .cap=>true
   | _=>false
 | _=>false
def aGb:SV->Nat
 | .buf l=>l
 | .cP l _ _ _=>l
 | .eV l _=>l
 | _=>1000000000
def aYb:SV->Nat
 | .sP l _=>l
 | .jH l _=>l
 | v=>aGb v
def Pc (Γ:Env) (g:Nat->Option SV) (o:Oper):Option Nat:=match o.op with
 | .load _ x=>match ev Γ g x with
   | some (.ptr l _ _)=>some l
   | some (.jH l _)=>some l
   | some (.BZ l _)=>some l
   | _=>none
 | .slice _ x _ _ _=>(ev Γ g x).map aYb
 | .convert s d x=>match Nat.beq s d,ev Γ g x with
   | true,some (.aG l _ _ _ _)=>some l
   | _,_=>none
 | .call c=>match c.callee,c.args.toList with
   | .builtin .len,[x]=>(ev Γ g x).map aGb
   | .builtin .cap,[x]=>(ev Γ g x).map aGb
   | _,_=>none
 | _=>none
theorem KZ {Γ:Env} {g:Nat->Option SV} {o:Oper} {l:Nat} (h:Pc Γ g o=some l):tF o.op=true:=by
 unfold Pc at h
 split at h
 .rename_i bT;rw [bT];rfl
 .rename_i bT;rw [bT];rfl
 .rename_i bT
  rw [bT]
  split at h
  .rename_i hb _;exact hb
  .cases h
 .rename_i c bT
  rw [bT]
  split at h
  .rename_i hc _;simp only [tF,hc]
  .rename_i hc _;simp only [tF,hc]
  .cases h
 .cases h
def aFs (l:Nat) (T:aZ):aZ:=fun k=>match Nat.beq k l with
 | true=>T k
 | false=>none
theorem LG {l k:Nat} {T:aZ} {B:SB} (h:aFs l T k=some B):k=l/\T l=some B:=by
 unfold aFs at h
 split at h
 .rename_i hb
  have:=cH hb
  subst this
  exact ⟨rfl,h⟩
 .cases h
def Ew (l m:Nat) (es:List bJ):List Nat->Bool
 | []=>true
 | s::r=>match m.testBit s with
   | true=>Ew l m es r
   | false=>match es[s]? with
     | some e=>match look l e.wr with
       | none=>Ew l m es r
       | some _=>false
     | none=>false
theorem Jl {l m:Nat} {es:List bJ}:∀ {L:List Nat},Ew l m es L=true->∀ s∈L,m.testBit s=true\/∃ e,es[s]?=some e/\look l e.wr=none
 | [],_,s,hs=>by cases hs
 | k::r,h,s,hs=>by
   simp only [Ew] at h
   split at h
   .rename_i hk
    rcases List.mem_cons.1 hs with rfl | hs
    .exact .inl hk
    .exact Jl h s hs
   .split at h
    case h_2=>cases h
    rename_i e he
    split at h
    .rename_i hl
     rcases List.mem_cons.1 hs with rfl | hs
     .exact .inr ⟨e,he,hl⟩
     .exact Jl h s hs
    .cases h
theorem yS {l m:Nat} {es:List bJ} {e:bJ}:∀ {L:List Nat},(∀ s∈L,s<es.length)->Ew l m (es++[e]) L=Ew l m es L
 | [],_=>rfl
 | s::r,h=>by
   have ih:=yS (l:=l) (m:=m) (es:=es) (e:=e) (L:=r) (fun s hs=>h s (List.mem_cons_of_mem _ hs))
   simp only [Ew,ih,List.getElem?_append_left (h s cM)]
def wX (g0:Nat->Option SV) (all:Array Oper) (es:List bJ) (j m:Nat):Nat->Option SV:=
 gS all.toList (fun j=>es[j]?) g0 (fun k=>m.testBit k) (vU all j)
def Yl (Γ:Env) (g0:Nat->Option SV) (all:Array Oper) (es:List bJ) (ms:List Nat) (wr:List (Nat × SB)) (m:Nat):List Oper->Nat->Nat->Bool
 | _,_,0=>true
 | [],_,_=>true
 | o::r,j,k+1=>match oC o.op||m.testBit j with
   | true=>Yl Γ g0 all es ms wr m r (j+1) k
   | false=>match ms[j]? with
     | some mj=>match Pc Γ (wX g0 all es j mj) o with
       | some l=>match look l wr with
         | none=>Yl Γ g0 all es ms wr m r (j+1) k
         | some _=>false
       | none=>false
     | none=>false
theorem Wm {Γ:Env} {g0:Nat->Option SV} {all:Array Oper} {es:List bJ} {ms:List Nat} {wr:List (Nat × SB)} {m:Nat}:∀ {l:List Oper} {j k:Nat},Yl Γ g0 all es ms wr m l j k=true->∀ (i:Nat) (o:Oper),i<k->l[i]?=some o ->
 (oC o.op=true\/m.testBit (j+i)=true)\/∃ mj lb,ms[j+i]?=some mj/\Pc Γ (wX g0 all es (j+i) mj) o=some lb/\look lb wr=none
 | _,_,0,_,i,o,hi,_=>by omega
 | [],_,k+1,_,i,o,_,ho=>by simp at ho
 | o'::r,j,k+1,h,i,o,hi,ho=>by
   have Kz:Yl Γ g0 all es ms wr m r (j+1) k=true->∀ i',i=i'+1->(oC o.op=true\/m.testBit (j+i)=true)\/∃ mj lb,ms[j+i]?=some mj/\Pc Γ (wX g0 all es (j+i) mj) o=some lb/\look lb wr=none:=by
    rintro h i' rfl
    simp only [List.getElem?_cons_succ] at ho
    have:=Wm h i' o (by omega) ho
    rw [show j+(i'+1)=j+1+i' from by omega]
    exact this
   simp only [Yl] at h
   cases i with
   | zero=>
     simp only [List.getElem?_cons_zero,aU] at ho
     subst ho
     split at h
     .rename_i hb
      left
      simpa using hb
     .split at h
      case h_2=>cases h
      rename_i mj hmj
      split at h
      case h_2=>cases h
      rename_i lb hlb
      split at h
      .rename_i hl
       exact .inr ⟨mj,lb,hmj,hlb,hl⟩
      .cases h
   | succ i=>
     split at h
     .exact Kz h i rfl
     .split at h
      case h_2=>cases h
      split at h
      case h_2=>cases h
      split at h
      .exact Kz h i rfl
      .cases h
def jE (es:List bJ):List Nat->List (Nat × SB)
 | []=>[]
 | s::r=>match es[s]? with
   | some e=>e.wr++jE es r
   | none=>jE es r
theorem Gy {es:List bJ} {l:Nat} {b:SB}:∀ {L:List Nat},look l (jE es L)=some b->∃ s∈L,∃ e,es[s]?=some e/\look l e.wr=some b
 | [],h=>by simp [jE,look] at h
 | s::r,h=>by
   simp only [jE] at h
   have Kz:look l (jE es r)=some b->∃ s'∈s::r,∃ e,es[s']?=some e/\look l e.wr=some b:=fun h=>by
    obtain ⟨s',h1,h2⟩:=Gy h
    exact ⟨s',List.mem_cons_of_mem _ h1,h2⟩
   split at h
   .rename_i e he
    rw [bY] at h
    cases hk:look l e.wr with
    | some b'=>rw [hk] at h;cases h;exact ⟨s,cM,e,he,hk⟩
    | none=>rw [hk] at h;exact Kz h
   .exact Kz h
theorem rE {es:List bJ} {e:bJ}:∀ {L:List Nat},(∀ s∈L,s<es.length)->jE (es++[e]) L=jE es L
 | [],_=>rfl
 | s::r,h=>by
   have ih:=rE (es:=es) (e:=e) (L:=r) (fun s hs=>h s (List.mem_cons_of_mem _ hs))
   simp only [jE,ih,List.getElem?_append_left (h s cM)]
def inM (m:Nat):List Nat->Bool
 | []=>true
 | s::r=>match m.testBit s with
   | true=>inM m r
   | false=>false
theorem JP {m:Nat}:∀ {L:List Nat},inM m L=true->∀ s∈L,m.testBit s=true
 | [],_,s,hs=>by cases hs
 | k::r,h,s,hs=>by
   simp only [inM] at h
   split at h
   .rename_i hk
    rcases List.mem_cons.1 hs with rfl | hs
    .exact hk
    .exact JP h s hs
   .cases h
def isNil {α:Type}:List α->Bool
 | []=>true
 | _=>false
def qG (i:Nat):List Nat->List Nat
 | []=>[]
 | s::r=>match Nat.blt s i with
   | true=>s::qG i r
   | false=>qG i r
theorem nA (i:Nat):∀ L:List Nat,qG i L=L.filter fun s=>Nat.blt s i
 | []=>rfl
 | s::r=>by
   simp only [qG,List.filter_cons,nA i r]
   cases Nat.blt s i <;> rfl
def Iq:List Oper->Nat->Bool
 | [],_=>false
 | o::r,i=>match o.guard with
   | some (j,_)=>match Nat.beq j i with
     | true=>true
     | false=>Iq r i
   | none=>Iq r i
def tA (b:Bool) (all:Array Oper) (i:Nat) (e:bJ):bJ:=match e.val with
 | .bool false c=>match Iq all.toList i with
   | true=>{ e with val:=.bool true b,bM:=(c=b)::e.bM }
   | false=>e
 | _=>e
def nxH (all:Array Oper) (i:Nat) (e:bJ) (hs:List Bool):List Bool:=match e.val with
 | .bool false _=>match Iq all.toList i with
   | true=>hs.tail
   | false=>hs
 | _=>hs
theorem Zj {b:Bool} {all:Array Oper} {i:Nat} {e:bJ} (ho:∀ q∈(tA b all i e).bM,q):(∀ q∈e.bM,q)/\(tA b all i e).new=e.new/\(tA b all i e).wr=e.wr/\∀ V,den V (tA b all i e).val=den V e.val:=by
 unfold tA at ho |-
 split
 .rename_i c hc
  rw [hc] at ho
  simp only at ho
  split
  .rename_i hg
   rw [hg] at ho
   refine ⟨fun q hq=>ho q (List.mem_cons_of_mem _ hq),rfl,rfl,fun V=>?_⟩
   have:c=b:=ho _ cM
   subst this
   rw [hc];rfl
  .rename_i hg
   rw [hg] at ho
   exact ⟨ho,rfl,rfl,fun _=>rfl⟩
 .rename_i dD
  refine ⟨?_,rfl,rfl,fun _=>rfl⟩
  split at ho
  .rename_i c hc;exact (dD c hc).elim
  .exact ho
def aFr (Γ:Env) (g:Nat->Option SV) (o:Oper) (wr:List (Nat × SB)):Bool:=match Pc Γ g o with
 | some lb=>wr.all fun p=>Nat.beq p.1 lb
 | none=>false
theorem YW {Γ:Env} {g:Nat->Option SV} {o:Oper} {wr:List (Nat × SB)} (h:aFr Γ g o wr=true):∃ lb,Pc Γ g o=some lb/\∀ l,l≠lb->look l wr=none:=by
 unfold aFr at h
 split at h
 case h_2=>cases h
 rename_i lb hlb
 refine ⟨lb,hlb,fun l hl=>?_⟩
 cases hk:look l wr with
 | none=>rfl
 | some b=>
   have:=List.all_eq_true.1 h _ (fY hk)
   exact absurd (cH this) hl
def UY (Γ:Env) (g0:Nat->Option SV) (T0:aZ) (lab0 n:Nat) (all:Array Oper) (o:Oper) (i m:Nat) (es:List bJ) (wi:List Nat):Option bJ:=
 match zU all (wX g0 all es i m) o with
 | some false=>some { val:=.raw undef }
 | some true=>match oC o.op with
   | true=>Bn Γ (wX g0 all es i m) (fun _=>none) (lab0+8*i) (lab0+8*n) none o
   | false=>match Pc Γ (wX g0 all es i m) o with
     | some l=>match Ew l m es (qG i wi) with
       | true=>Bn Γ (wX g0 all es i m) (aFs l (TS T0 lab0 n (fun j=>es[j]?) (jE es ((qG i wi).filter fun s=>m.testBit s)) (fun j=>m.testBit j))) (lab0+8*i) (lab0+8*n) none o
       | false=>none
     | none=>match inM m (qG i wi) with
       | true=>Bn Γ (wX g0 all es i m) (TS T0 lab0 n (fun j=>es[j]?) (jE es (qG i wi)) (fun j=>m.testBit j)) (lab0+8*i) (lab0+8*n) none o
       | false=>none
 | none=>none
def Ey (b:Bool) (Γ:Env) (g0:Nat->Option SV) (T0:aZ) (lab0 n:Nat) (all:Array Oper) (o:Oper) (i m:Nat) (es:List bJ) (wi:List Nat):Option bJ:=
 match UY Γ g0 T0 lab0 n all o i m es wi with
 | some e=>some (tA b all i e)
 | none=>none
def aGs (Γ:Env) (g0:Nat->Option SV) (T0:aZ) (lab0 n:Nat) (all:Array Oper) (o:Oper) (i m:Nat) (es:List bJ) (wi:List Nat) (hs:List Bool):Option (bJ × List Bool):=
 match UY Γ g0 T0 lab0 n all o i m es wi with
 | some e=>some (tA (hs.headD true) all i e,nxH all i e hs)
 | none=>none
theorem AX {Γ:Env} {g0:Nat->Option SV} {T0:aZ} {lab0 n:Nat} {all:Array Oper} {o:Oper} {i m:Nat} {es:List bJ} {wi:List Nat} {hs Dz:List Bool} {e:bJ} (h:aGs Γ g0 T0 lab0 n all o i m es wi hs=some (e,Dz)):∃ b,Ey b Γ g0 T0 lab0 n all o i m es wi=some e:=by
 unfold aGs at h
 split at h
 case h_2=>cases h
 rename_i e0 h0
 cases h
 exact ⟨hs.headD true,by unfold Ey;rw [h0]⟩
def Gg (Γ:Env) (g0:Nat->Option SV) (T0:aZ) (lab0 n:Nat) (all:Array Oper):List Oper->Nat->List bJ->List Nat->List Nat->List Bool->Option (List bJ × List Nat × List Nat × List Bool)
 | [],_,es,ms,wi,hs=>some (es,ms,wi,hs)
 | o::r,i,es,ms,wi,hs=>match mW ms o.after.toList with
   | none=>none
   | some m=>match aGs Γ g0 T0 lab0 n all o i m es wi hs,(match o.dst with | some d=>kD d all.toList 0==some i | none=>true) with
     | some (e,Dz),true=>match isNil e.wr with
       | true=>match Nat.ble e.new.length 8 with
         | true=>Gg Γ g0 T0 lab0 n all r (i+1) (es++[e]) (ms++[m]) wi Dz
         | false=>none
       | false=>match Nat.ble e.new.length 8&&Yl Γ g0 all es ms e.wr m all.toList 0 i&&e.wr.all (fun p=>Nat.blt p.1 lab0||(Nat.ble lab0 p.1&&m.testBit ((p.1-lab0)/8)))&&(!oC o.op&&(!tF o.op||aFr Γ (wX g0 all es i m) o e.wr)) with
         | true=>Gg Γ g0 T0 lab0 n all r (i+1) (es++[e]) (ms++[m]) (i::wi) Dz
         | false=>none
     | _,_=>none
structure zJ (Γ:Env) (g0:Nat->Option SV) (T0:aZ) (lab0 n:Nat) (all:Array Oper) (i:Nat) (es:List bJ) (ms:List Nat) (wi:List Nat):Prop where
 Kn:es.length=i
 zN:ms.length=i
 lt:∀ (j m:Nat),ms[j]?=some m->∀ k,m.testBit k=true->k<j
 cl:∀ (j m:Nat),ms[j]?=some m->∀ k mk,m.testBit k=true->ms[k]?=some mk->∀ q,mk.testBit q=true->m.testBit q=true
 aft:∀ (j m:Nat) (o:Oper),ms[j]?=some m->all[j]?=some o->∀ e∈o.after,Region.binds .any e=true->e.on<j/\m.testBit e.on=true
 aPt:∀ (j m:Nat) (o:Oper),ms[j]?=some m->all[j]?=some o->∀ k,m.testBit k=true->∃ e∈o.after,Region.binds .any e=true/\(k=e.on\/∃ me,ms[e.on]?=some me/\me.testBit k=true)
 dst:∀ (j:Nat) (o:Oper) (d:Tmp),j<i->all[j]?=some o->o.dst=some d->kD d all.toList 0=some j
 new:∀ (j:Nat) (e:bJ),es[j]?=some e->e.new.length<=8
 wrt:∀ (j:Nat) (e:bJ),es[j]?=some e->e.wr≠[]->j∈wi
 qG:∀ s∈wi,s<i
 wso:wi.Pairwise (· > ·)
 wim:∀ s∈wi,∀ (o:Oper),all[s]?=some o->oC o.op=false
 wnp:∀ s∈wi,∀ (m:Nat),ms[s]?=some m->∀ (j:Nat) (o:Oper),j<s->all[j]?=some o->(oC o.op=true\/m.testBit j=true)\/∃ mj lb e,ms[j]?=some mj/\es[s]?=some e/\Pc Γ (wX g0 all es j mj) o=some lb/\look lb e.wr=none
 wlb:∀ s∈wi,∀ (m:Nat),ms[s]?=some m->∀ (e:bJ),es[s]?=some e->∀ l b,look l e.wr=some b->l<lab0\/(lab0<=l/\m.testBit ((l-lab0)/8)=true)
 eff:∀ (j m:Nat) (o:Oper) (e:bJ),ms[j]?=some m->all[j]?=some o->es[j]?=some e->∃ b,Ey b Γ g0 T0 lab0 n all o j m es wi=some e
 wld:∀ s∈wi,∀ (o:Oper) (m:Nat) (e:bJ),all[s]?=some o->ms[s]?=some m->es[s]?=some e->tF o.op=false\/∃ lb,Pc Γ (wX g0 all es s m) o=some lb/\∀ l,l≠lb->look l e.wr=none
theorem Db {ops:List Oper} {E E':Nat->Option bJ} {g0:Nat->Option SV} {S O:Nat->Bool} (h:∀ j,S j=true->E j=E' j):gS ops E g0 S O=gS ops E' g0 S O:=by
 funext t
 unfold gS
 cases kD t ops 0 with
 | none=>rfl
 | some j=>
   cases hs:S j with
   | false=>simp [hs]
   | true=>simp [hs,h j hs]
theorem Tx {T0:aZ} {lab0 n:Nat} {E E':Nat->Option bJ} {S:Nat->Bool} (h:∀ j,S j=true->E j=E' j):Bl T0 lab0 n E S=Bl T0 lab0 n E' S:=by
 funext l
 unfold Bl
 split
 .cases hs:S ((l-lab0)/8) with
  | false=>rfl
  | true=>simp only [h _ hs]
 .rfl
theorem QN {T0:aZ} {lab0 n:Nat} {E E':Nat->Option bJ} {wr:List (Nat × SB)} {S:Nat->Bool} (h:∀ j,S j=true->E j=E' j):TS T0 lab0 n E wr S=TS T0 lab0 n E' wr S:=by
 funext l
 unfold TS
 rw [Tx h]
theorem Np {b:Bool} {Γ:Env} {g0:Nat->Option SV} {T0:aZ} {lab0 n:Nat} {all:Array Oper} {o:Oper} {j m:Nat} {es:List bJ} {wi Tz:List Nat} (e:bJ) (hm:∀ k,m.testBit k=true->k<es.length) (hj:j<=es.length)
 (hw:Tz=wi\/(∃ s,Tz=s::wi/\j<=s)):Ey b Γ g0 T0 lab0 n all o j m (es++[e]) Tz=Ey b Γ g0 T0 lab0 n all o j m es wi:=by
 have hE:∀ k,m.testBit k=true->(es++[e])[k]?=es[k]?:=fun k hk=>List.getElem?_append_left (hm k hk)
 have hg:wX g0 all (es++[e]) j m=wX g0 all es j m:=Db (ops:=all.toList) (E:=fun k=>(es++[e])[k]?) (E':=fun k=>es[k]?) (g0:=g0) (S:=fun k=>m.testBit k) (O:=vU all j) hE
 have hwl:qG j Tz=qG j wi:=by
  rcases hw with rfl | ⟨s,rfl,hs⟩
  .rfl
  .have:Nat.blt s j=false:=by
    cases hb:Nat.blt s j with
    | false=>rfl
    | true=>simp [Nat.blt_eq] at hb;omega
   simp [qG,this]
 have cI:∀ s∈qG j wi,s<es.length:=fun s hs=>by
  rw [nA,List.mem_filter] at hs
  have:s<j:=by simpa [Nat.blt_eq] using hs.2
  omega
 have Xx:jE (es++[e]) (qG j wi)=jE es (qG j wi):=rE cI
 have aYk:jE (es++[e]) ((qG j wi).filter fun s=>m.testBit s)=jE es ((qG j wi).filter fun s=>m.testBit s):=rE fun s hs=>cI s (List.mem_filter.1 hs).1
 have hfw:∀ l,Ew l m (es++[e]) (qG j wi)=Ew l m es (qG j wi):=fun l=>yS cI
 have hT:=fun wr=>QN (T0:=T0) (lab0:=lab0) (n:=n) (E:=fun k=>(es++[e])[k]?) (E':=fun k=>es[k]?) (wr:=wr) (S:=fun k=>m.testBit k) hE
 unfold Ey UY
 simp only [hg,hwl,Xx,aYk,hT,hfw]
theorem dS {α:Type} {l:List α} {x y:α} {j:Nat} (h:(l++[x])[j]?=some y):l[j]?=some y\/(j=l.length/\x=y):=by
 by_cases hj:j<l.length
 .rw [List.getElem?_append_left hj] at h;exact .inl h
 .have:j=l.length:=by
   have:=(List.getElem?_eq_some_iff.1 h).1
   simp at this;omega
  subst this
  simp at h
  exact .inr ⟨rfl,h⟩
theorem zJ.nil {Γ:Env} {g0:Nat->Option SV} {T0:aZ} {lab0 n:Nat} {all:Array Oper}:zJ Γ g0 T0 lab0 n all 0 [] [] []:=
 ⟨rfl,rfl,(fun j m h=>by simp at h),(fun j m h=>by simp at h),(fun j m o h=>by simp at h),(fun j m o h=>by simp at h),(fun j o d h=>by omega),(fun j e h=>by simp at h),(fun j e h=>by simp at h),
  (fun s h=>by cases h),List.Pairwise.nil,(fun s h=>by cases h),(fun s h=>by cases h),(fun s h=>by cases h),(fun j m o e h=>by simp at h),(fun s h=>by cases h)⟩
theorem zJ.snoc {Γ:Env} {g0:Nat->Option SV} {T0:aZ} {lab0 n:Nat} {all:Array Oper} {i:Nat} {es:List bJ} {ms:List Nat} {wi Tz:List Nat} (h:zJ Γ g0 T0 lab0 n all i es ms wi) {o:Oper} {m:Nat} {e:bJ}
 (ho:all[i]?=some o) (hm:mW ms o.after.toList=some m) (he:∃ b,Ey b Γ g0 T0 lab0 n all o i m es wi=some e) (hd:∀ d,o.dst=some d->kD d all.toList 0=some i) (hn:e.new.length<=8)
 (hw:(e.wr=[]/\Tz=wi)\/(Tz=i::wi/\(oC o.op=false/\(tF o.op=false\/∃ lb,Pc Γ (wX g0 all es i m) o=some lb/\∀ l,l≠lb->look l e.wr=none))/\(∀ (j:Nat) (o:Oper),j<i->all[j]?=some o->(oC o.op=true\/m.testBit j=true)\/∃ mj lb,ms[j]?=some mj/\Pc Γ (wX g0 all es j mj) o=some lb/\look lb e.wr=none)/\∀ l b,look l e.wr=some b->l<lab0\/(lab0<=l/\m.testBit ((l-lab0)/8)=true))) :
 zJ Γ g0 T0 lab0 n all (i+1) (es++[e]) (ms++[m]) Tz:=by
 have UF:∀ k,m.testBit k=true->k<i:=by
  intro k hk
  obtain ⟨ed,CF,hb,hk⟩:=kI hm k hk
  have h1:=(rW hm ed CF hb).1
  rw [h.zN] at h1
  rcases hk with rfl | ⟨me,Uh,hk⟩
  .exact h1
  .have:=h.lt _ _ Uh k hk;omega
 have bN:∀ (b:Bool) (j m':Nat) (o':Oper),ms[j]?=some m'->Ey b Γ g0 T0 lab0 n all o' j m' (es++[e]) Tz=Ey b Γ g0 T0 lab0 n all o' j m' es wi:=by
  intro b j m' o' hj
  have hjl:=(List.getElem?_eq_some_iff.1 hj).1
  rw [h.zN] at hjl
  refine Np e (fun k hk=>?_) (by rw [h.Kn];omega) ?_
  .have:=h.lt j m' hj k hk;rw [h.Kn];omega
  .rcases hw with ⟨_,rfl⟩ | ⟨rfl,_⟩
   .exact .inl rfl
   .exact .inr ⟨i,rfl,by omega⟩
 have Pm:∀ {j m':Nat},ms[j]?=some m'->(ms++[m])[j]?=some m':=fun {j m'} hj=>by
  rw [List.getElem?_append_left (List.getElem?_eq_some_iff.1 hj).1];exact hj
 refine ⟨by simp [h.Kn],by simp [h.zN],fun j m' hj k hk=>?_,fun j m' hj k mk hk An q hq=>?_,fun j m' o' hj kQ ed CF hb=>?_,fun j m' o' hj kQ k hk=>?_,fun j o' d hj kQ hd'=>?_,fun j e' gX=>?_,fun j e' gX dD=>?_,fun s hs=>?_,?_,fun s hs o' kQ=>?_,fun s hs m' jX j o' hj kQ=>?_,fun s hs m' jX e' gX l b hl=>?_,fun j m' o' e' hj kQ gX=>?_,fun s hs o' m' e' kQ jX gX=>?_⟩
 .rcases dS hj with hj | ⟨rfl,rfl⟩
  .exact h.lt j m' hj k hk
  .rw [h.zN];exact UF k hk
 .have Ys:ms[k]?=some mk\/k=i:=by
   rcases dS An with h1 | ⟨h1,_⟩
   .exact .inl h1
   .right;rw [h1,h.zN]
  rcases dS hj with hj | ⟨rfl,rfl⟩
  .have hki:=h.lt j m' hj k hk
   have Ku:=(List.getElem?_eq_some_iff.1 hj).1
   rw [h.zN] at Ku
   rcases Ys with Ys | rfl
   .exact h.cl j m' hj k mk hk Ys q hq
   .omega
  .have hki:=UF k hk
   rcases Ys with Ys | rfl
   .obtain ⟨ed,CF,hb,gB⟩:=kI hm k hk
    have key:∀ k mk,m.testBit k=true->ms[k]?=some mk->mk.testBit q=true->m.testBit q=true:=by
     intro k mk hk An hq
     obtain ⟨ed,CF,hb,gB⟩:=kI hm k hk
     rcases gB with rfl | ⟨me,Uh,gB⟩
     .exact pP hm ed CF hb An q hq
     .exact pP hm ed CF hb Uh q (h.cl _ me Uh k mk gB An q hq)
    exact key k mk hk Ys hq
   .omega
 .rcases dS hj with hj | ⟨rfl,rfl⟩
  .exact h.aft j m' o' hj kQ ed CF hb
  .rw [h.zN] at kQ
   rw [ho] at kQ;cases kQ
   obtain ⟨h1,h2⟩:=rW hm ed (by simpa using CF) hb
   exact ⟨h1,h2⟩
 .rcases dS hj with hj | ⟨rfl,rfl⟩
  .obtain ⟨ed,h1,h2,h3⟩:=h.aPt j m' o' hj kQ k hk
   refine ⟨ed,h1,h2,?_⟩
   rcases h3 with h3 | ⟨me,h3,h4⟩
   .exact .inl h3
   .exact .inr ⟨me,Pm h3,h4⟩
  .rw [h.zN] at kQ
   rw [ho] at kQ;cases kQ
   obtain ⟨ed,h1,h2,h3⟩:=kI hm k hk
   refine ⟨ed,by simpa using h1,h2,?_⟩
   rcases h3 with h3 | ⟨me,h3,h4⟩
   .exact .inl h3
   .exact .inr ⟨me,Pm h3,h4⟩
 .by_cases Ku:j=i
  .subst Ku;rw [ho] at kQ;cases kQ;exact hd d hd'
  .exact h.dst j o' d (by omega) kQ hd'
 .rcases dS gX with gX | ⟨_,rfl⟩
  .exact h.new j e' gX
  .exact hn
 .rcases dS gX with gX | ⟨rfl,rfl⟩
  .have:=h.wrt j e' gX dD
   rcases hw with ⟨_,rfl⟩ | ⟨rfl,_⟩
   .exact this
   .exact List.mem_cons_of_mem _ this
  .rcases hw with ⟨hw,_⟩ | ⟨rfl,_⟩
   .exact absurd hw dD
   .rw [h.Kn];exact cM
 .rcases hw with ⟨_,rfl⟩ | ⟨rfl,_⟩
  .have:=h.qG s hs;omega
  .rcases List.mem_cons.1 hs with rfl | hs
   .omega
   .have:=h.qG s hs;omega
 .rcases hw with ⟨_,rfl⟩ | ⟨rfl,_⟩
  .exact h.wso
  .exact List.pairwise_cons.2 ⟨fun s hs=>h.qG s hs,h.wso⟩
 .rcases hw with ⟨_,rfl⟩ | ⟨rfl,hpo,_⟩
  .exact h.wim s hs o' kQ
  .rcases List.mem_cons.1 hs with rfl | hs
   .rw [ho] at kQ;cases kQ;exact hpo.1
   .exact h.wim s hs o' kQ
 .have hes:∀ {k e'},es[k]?=some e'->(es++[e])[k]?=some e':=fun {k e'} hk=>by
   rw [List.getElem?_append_left (List.getElem?_eq_some_iff.1 hk).1];exact hk
  have hgo:∀ {k mk},ms[k]?=some mk->wX g0 all (es++[e]) k mk=wX g0 all es k mk:=fun {k mk} hk=>by
   refine Db fun q hq=>List.getElem?_append_left ?_
   have h1:=h.lt k mk hk q hq
   have h2:=(List.getElem?_eq_some_iff.1 hk).1
   rw [h.zN] at h2
   rw [h.Kn]
   omega
  have Fl:s∈wi->(oC o'.op=true\/m'.testBit j=true)\/∃ mj lb e',(ms++[m])[j]?=some mj/\(es++[e])[s]?=some e'/\Pc Γ (wX g0 all (es++[e]) j mj) o'=some lb/\look lb e'.wr=none:=fun hs=>by
   have Xz:=h.qG s hs
   rcases dS jX with jX | ⟨h1,_⟩
   .rcases h.wnp s hs m' jX j o' hj kQ with h3 | ⟨mj,lb,e',k1,k2,k3,k4⟩
    .exact .inl h3
    .exact .inr ⟨mj,lb,e',Pm k1,hes k2,by rw [hgo k1];exact k3,k4⟩
   .rw [h.zN] at h1;omega
  rcases hw with ⟨_,rfl⟩ | ⟨rfl,_,hnp,_⟩
  .exact Fl hs
  .rcases List.mem_cons.1 hs with rfl | hs
   .rcases dS jX with jX | ⟨_,rfl⟩
    .have:=(List.getElem?_eq_some_iff.1 jX).1;rw [h.zN] at this;omega
    .rcases hnp j o' hj kQ with h3 | ⟨mj,lb,k1,k3,k4⟩
     .exact .inl h3
     .exact .inr ⟨mj,lb,e,Pm k1,by rw [<- h.Kn];simp,by rw [hgo k1];exact k3,k4⟩
   .exact Fl hs
 .have Fl:s∈wi->l<lab0\/(lab0<=l/\m'.testBit ((l-lab0)/8)=true):=fun hs=>by
   have Xz:=h.qG s hs
   rcases dS jX with jX | ⟨h1,_⟩
   .rcases dS gX with gX | ⟨h1,_⟩
    .exact h.wlb s hs m' jX e' gX l b hl
    .rw [h.Kn] at h1;omega
   .rw [h.zN] at h1;omega
  rcases hw with ⟨_,rfl⟩ | ⟨rfl,_,_,hlb⟩
  .exact Fl hs
  .rcases List.mem_cons.1 hs with rfl | hs
   .rcases dS jX with jX | ⟨_,rfl⟩
    .have:=(List.getElem?_eq_some_iff.1 jX).1;rw [h.zN] at this;omega
    .rcases dS gX with gX | ⟨_,rfl⟩
     .have:=(List.getElem?_eq_some_iff.1 gX).1;rw [h.Kn] at this;omega
     .exact hlb l b hl
   .exact Fl hs
 .rcases dS hj with hj | ⟨rfl,rfl⟩
  .have Ku:=(List.getElem?_eq_some_iff.1 hj).1
   rw [h.zN] at Ku
   rcases dS gX with gX | ⟨h1,_⟩
   .obtain ⟨b,hb⟩:=h.eff j m' o' e' hj kQ gX
    exact ⟨b,by rw [bN b j m' o' hj];exact hb⟩
   .rw [h.Kn] at h1;omega
  .rw [h.zN] at kQ gX |-
   rw [ho] at kQ;cases kQ
   rcases dS gX with gX | ⟨_,rfl⟩
   .have:=(List.getElem?_eq_some_iff.1 gX).1;rw [h.Kn] at this;omega
   .obtain ⟨b,he⟩:=he
    refine ⟨b,?_⟩
    rw [Np e (fun k hk=>by rw [h.Kn];exact UF k hk) (by rw [h.Kn];exact Nat.le_refl _) ?_]
    .exact he
    .rcases hw with ⟨_,rfl⟩ | ⟨rfl,_⟩
     .exact .inl rfl
     .exact .inr ⟨i,rfl,Nat.le_refl _⟩
 .have hgo:∀ {k mk},k<=i->(∀ q,mk.testBit q=true->q<k)->wX g0 all (es++[e]) k mk=wX g0 all es k mk:=fun {k mk} hk cI=>by
   refine Db fun q hq=>List.getElem?_append_left ?_
   have h1:=cI q hq
   rw [h.Kn]
   omega
  have Fl:s∈wi->tF o'.op=false\/∃ lb,Pc Γ (wX g0 all (es++[e]) s m') o'=some lb/\∀ l,l≠lb->look l e'.wr=none:=fun hs=>by
   have Xz:=h.qG s hs
   rcases dS jX with jX | ⟨h1,_⟩
   .rcases dS gX with gX | ⟨h1,_⟩
    .rcases h.wld s hs o' m' e' kQ jX gX with h3 | ⟨lb,h3,h4⟩
     .exact .inl h3
     .exact .inr ⟨lb,by rw [hgo (by omega) (h.lt s m' jX)];exact h3,h4⟩
    .rw [h.Kn] at h1;omega
   .rw [h.zN] at h1;omega
  rcases hw with ⟨_,rfl⟩ | ⟨rfl,hpo,_⟩
  .exact Fl hs
  .rcases List.mem_cons.1 hs with rfl | hs
   .rw [ho] at kQ;cases kQ
    rcases dS jX with jX | ⟨_,rfl⟩
    .have:=(List.getElem?_eq_some_iff.1 jX).1;rw [h.zN] at this;omega
    .rcases dS gX with gX | ⟨_,rfl⟩
     .have:=(List.getElem?_eq_some_iff.1 gX).1;rw [h.Kn] at this;omega
     .rcases hpo.2 with h3 | ⟨lb,h3,h4⟩
      .exact .inl h3
      .exact .inr ⟨lb,by rw [hgo (Nat.le_refl _) UF];exact h3,h4⟩
   .exact Fl hs
theorem filter_le {f f':Nat->Bool}:∀ (l:List Nat),(∀ j,f' j=true->f j=true)->(l.filter f').length<=(l.filter f).length
 | [],_=>by simp
 | x::r,h=>by
   have ih:=filter_le r h
   cases hx:f' x with
   | true=>simp [hx,h x hx,ih]
   | false=>
     cases hy:f x with
     | true=>simp [hx,hy];omega
     | false=>simp [hx,hy,ih]
theorem filter_lt {f f':Nat->Bool} {i:Nat}:∀ (l:List Nat),i∈l->(∀ j,f' j=true->f j=true)->f i=true->f' i=false->(l.filter f').length+1<=(l.filter f).length
 | [],h,_,_,_=>by simp at h
 | x::r,h,hm,h1,h2=>by
   by_cases e:x=i
   .subst e
    have:=filter_le r hm
    simp [h1,h2,this]
   .have hr:i∈r:=by
     rcases List.mem_cons.1 h with h | h
     .exact absurd h.symm e
     .exact h
    have ih:=filter_lt r hr hm h1 h2
    cases hx:f' x with
    | true=>simp [hx,hm x hx];omega
    | false=>
      cases hy:f x with
      | true=>simp [hx,hy];omega
      | false=>simp [hx,hy];omega
theorem tS {Γ:Env} {g0:Nat->Option SV} {T0:aZ} {lab0 n:Nat} {all:Array Oper}:∀ {r:List Oper} {i:Nat} {es RL:List bJ} {ms Xu:List Nat} {wi Tz:List Nat} {hs Dz:List Bool},
 Gg Γ g0 T0 lab0 n all r i es ms wi hs=some (RL,Xu,Tz,Dz)->(∀ k,r[k]?=all[i+k]?)->zJ Γ g0 T0 lab0 n all i es ms wi->zJ Γ g0 T0 lab0 n all (i+r.length) RL Xu Tz
 | [],i,es,RL,ms,Xu,wi,Tz,hs,Dz,h,_,hd=>by
   simp only [Gg,aU,Prod.mk.injEq] at h
   obtain ⟨rfl,rfl,rfl,rfl⟩:=h
   exact hd
 | o::r,i,es,RL,ms,Xu,wi,Tz,hs,Dz,h,hr,hd=>by
   have ho:all[i]?=some o:=by have:=hr 0;simpa using this.symm
   have hr':∀ k,r[k]?=all[i+1+k]?:=fun k=>by
    have:=hr (k+1)
    rw [show i+1+k=i+(k+1) from by omega]
    simpa using this
   simp only [Gg] at h
   split at h
   .cases h
   .rename_i m hm
    split at h
    case h_2=>cases h
    rename_i e fQ he Yu
    have he:=AX he
    have aEu:∀ d,o.dst=some d->kD d all.toList 0=some i:=by
     intro d hd'
     rw [hd'] at Yu
     simpa using Yu
    split at h
    .rename_i Lb
     split at h
     case h_2=>cases h
     rename_i hn
     have hw:e.wr=[]:=by
      cases Xx:e.wr with
      | nil=>rfl
      | cons a b=>rw [Xx] at Lb;cases Lb
     have:=tS h hr' (hd.snoc ho hm he aEu (Nat.le_of_ble_eq_true hn) (.inl ⟨hw,rfl⟩))
     rw [show i+(o::r).length=i+1+r.length from by simp;omega]
     exact this
    .split at h
     .rename_i gY
      simp only [Bool.and_eq_true,Bool.or_eq_true] at gY
      obtain ⟨⟨⟨c1,c2⟩,c3⟩,c4⟩:=gY
      have:=tS h hr' (hd.snoc ho hm he aEu (Nat.le_of_ble_eq_true c1) (.inr ⟨rfl,⟨by simpa using c4.1,by
       rcases c4.2 with h1 | h1
       .exact .inl (by simpa using h1)
       .exact .inr (YW h1)⟩,fun j o' hj kQ=>?_,fun l b hl=>?_⟩))
      .rw [show i+(o::r).length=i+1+r.length from by simp;omega]
       exact this
      .have:=Wm c2 j o' hj (by simpa using kQ)
       simpa using this
      .have:=List.all_eq_true.1 c3 _ (fY hl)
       simp only [Bool.or_eq_true,Bool.and_eq_true] at this
       rcases this with h1 | ⟨h1,h2⟩
       .left;simpa [Nat.blt_eq] using h1
       .right;exact ⟨Nat.le_of_ble_eq_true h1,h2⟩
     .cases h
def Ak (es:List bJ) (wi:List Nat) (S:Nat->Bool):List (Nat × SB):=jE es (wi.filter S)
structure Ze (P:Program) (Γ:Env) (w0:World) (M:Nat->Prop) (N:Nat) (df:List Deferred) (g0:Nat->Option SV) (T0:aZ) (lab0:Nat) (all:Array Oper) (es:List bJ) (wi:List Nat) (Vs:aY) (S:Nat->Bool) (V:aY) (a:Act) (w:World):Prop where
 tmp:cE V (gS all.toList (fun j=>es[j]?) g0 S (fun j => !S j)) a
 size:N<=a.tmps.size
 defers:a.defers=df
 eG:aC w0 M V (TS T0 lab0 all.size (fun j=>es[j]?) (Ak es wi S) S) w
 aR:bL Γ V
 top:V.top (lab0+8*all.size)
 fresh:∀ j,j<all.size->S j=false->V.fresh (lab0+8*j)
 le:Vs.le V
 low:∀ l,l<lab0->V.β l=Vs.β l/\V.σ l=Vs.σ l
theorem aLf {ops:List Oper} {E:Nat->Option bJ} {g0:Nat->Option SV} {S S' O:Nat->Bool} (h:∀ j,S j=true->S' j=true) (hO:∀ j,O j=true->S' j=false) {t:Nat} {v:SV} (hv:gS ops E g0 S O t=some v):gS ops E g0 S' (fun j => !S' j) t=some v:=by
 unfold gS at *
 cases hd:kD t ops 0 with
 | none=>rw [hd] at hv;exact hv
 | some j=>
   rw [hd] at hv
   simp only at hv |-
   cases hs:S j with
   | false=>
     rw [hs] at hv
     simp only at hv
     cases ho:O j with
     | false=>rw [ho] at hv;cases hv
     | true=>rw [ho] at hv;rw [hO j ho];exact hv
   | true=>rw [hs] at hv;rw [h j hs];exact hv
theorem Sd {T0:aZ} {lab0 n:Nat} {E:Nat->Option bJ} {wr:List (Nat × SB)} {S S':Nat->Bool} (h:∀ j,S j=true->S' j=true) {l:Nat} {B:SB} (hv:TS T0 lab0 n E wr S l=some B):TS T0 lab0 n E wr S' l=some B:=by
 unfold TS at *
 cases hl:look l wr with
 | some b=>rw [hl] at hv;exact hv
 | none=>
   rw [hl] at hv
   simp only at hv |-
   unfold Bl at *
   split at hv
   .cases hs:S ((l-lab0)/8) with
    | false=>rw [hs] at hv;cases hv
    | true=>rw [hs] at hv;rw [h _ hs];exact hv
   .exact hv
theorem Mz {lab0 l n:Nat} (h1:lab0<=l) (h2:l<lab0+8*n):(Nat.ble lab0 l&&Nat.blt l (lab0+8*n))=true:=by
 rw [Nat.ble_eq_true_of_le h1];simpa [Nat.blt_eq] using h2
theorem Gq {lab0 l n:Nat} (h:¬ (lab0<=l/\l<lab0+8*n)):(Nat.ble lab0 l&&Nat.blt l (lab0+8*n))=false:=by
 cases hb:(Nat.ble lab0 l&&Nat.blt l (lab0+8*n)) with
 | false=>rfl
 | true=>
   simp only [Bool.and_eq_true] at hb
   exact absurd ⟨Nat.le_of_ble_eq_true hb.1,by simpa [Nat.blt_eq] using hb.2⟩ h
theorem BX {T0:aZ} {lab0 n:Nat} {es:List bJ} {S S':Nat->Bool} {i:Nat} {e:bJ} (hi:i<n) (he:es[i]?=some e) (hS:S i=false) (Po:∀ j,S' j=(S j||decide (j=i))) (hn:e.new.length<=8) (l:Nat) :
 Bl T0 lab0 n (fun j=>es[j]?) S' l=match look l (fO (lab0+8*i) e.new) with
  | some b=>some b
  | none=>Bl T0 lab0 n (fun j=>es[j]?) S l:=by
 rw [fH]
 unfold Bl
 by_cases h1:lab0<=l/\l<lab0+8*n
 .rw [Mz h1.1 h1.2]
  simp only
  by_cases h3:(l-lab0)/8=i
  .rw [h3,Po i,hS]
   simp only [Bool.false_or,decide_true,he,Option.bind_some]
   have h4:lab0+8*i<=l:=by omega
   rw [if_pos h4,show (l-lab0)%8=l-(lab0+8*i) from by omega]
   cases e.new[l-(lab0+8*i)]? <;> rfl
  .rw [Po _,show decide ((l-lab0)/8=i)=false from by simpa using h3,Bool.or_false]
   have h5:(if lab0+8*i<=l then e.new[l-(lab0+8*i)]? else none)=none:=by
    split
    .apply List.getElem?_eq_none;omega
    .rfl
   rw [h5]
 .rw [Gq h1]
  have h5:(if lab0+8*i<=l then e.new[l-(lab0+8*i)]? else none)=none:=by
   split
   .apply List.getElem?_eq_none;omega
   .rfl
  rw [h5]
theorem Gz {es:List bJ} {e:bJ} {S S':Nat->Bool} {i:Nat} (he:es[i]?=some e) (hS:S i=false) (Po:∀ j,S' j=(S j||decide (j=i))) {l:Nat}:∀ {L:List Nat},L.Pairwise (· > ·) ->
 (i∈L->∀ s∈L,S s=true->s<i\/∀ e',es[s]?=some e'->look l e.wr≠none->look l e'.wr=none) ->
 look l (jE es (L.filter S'))=if i∈L then (match look l e.wr with | some b=>some b | none=>look l (jE es (L.filter S))) else look l (jE es (L.filter S))
 | [],_,_=>by simp
 | x::r,hp,h=>by
   obtain ⟨CW,RE⟩:=List.pairwise_cons.1 hp
   by_cases q:x=i
   .subst q
    have hr:r.filter S'=r.filter S:=by
     refine List.filter_congr fun s hs=>?_
     have:=CW s hs
     rw [Po,show decide (s=x)=false from by simp;omega,Bool.or_false]
    have h1:S' x=true:=by rw [Po];simp
    rw [if_pos cM,List.filter_cons,if_pos h1,hr,List.filter_cons,if_neg (by rw [hS];simp)]
    simp only [jE,he,bY]
    cases look l e.wr <;> rfl
   .have hx:S' x=S x:=by rw [Po,show decide (x=i)=false from by simpa using q,Bool.or_false]
    have ih:=Gz he hS Po (l:=l) RE (fun hi s hs=>h (List.mem_cons_of_mem _ hi) s (List.mem_cons_of_mem _ hs))
    have aGg:i∈x::r<->i∈r:=by
     rw [List.mem_cons]
     exact ⟨fun h=>h.resolve_left fun w=>q w.symm,.inr⟩
    simp only [aGg]
    cases hb:S x with
    | false=>
      have f1:(x::r).filter S'=r.filter S':=by rw [List.filter_cons,hx,hb];rfl
      have f2:(x::r).filter S=r.filter S:=by rw [List.filter_cons,hb];rfl
      rw [f1,f2]
      exact ih
    | true=>
      have f1:(x::r).filter S'=x::r.filter S':=by rw [List.filter_cons,hx,hb];rfl
      have f2:(x::r).filter S=x::r.filter S:=by rw [List.filter_cons,hb];rfl
      rw [f1,f2]
      cases hes:es[x]? with
      | none=>simp only [jE,hes];exact ih
      | some ex=>
        simp only [jE,hes,bY]
        cases hk:look l ex.wr with
        | none=>simp only;exact ih
        | some b=>
          simp only
          by_cases hi:i∈r
          .rw [if_pos hi]
           have h2:=CW i hi
           rcases h (List.mem_cons_of_mem _ hi) x cM hb with h3 | h3
           .omega
           .cases hw:look l e.wr with
            | none=>rfl
            | some b'=>
              have:=h3 ex hes (by rw [hw];simp)
              rw [hk] at this;cases this
          .rw [if_neg hi]
theorem Xq {T0:aZ} {lab0 n:Nat} {es:List bJ} {wi:List Nat} {S S':Nat->Bool} {i:Nat} {e:bJ} (hi:i<n) (he:es[i]?=some e) (hS:S i=false) (Po:∀ j,S' j=(S j||decide (j=i)))
 (hn:e.new.length<=8) (hw:e.wr≠[]->i∈wi) (hso:wi.Pairwise (· > ·)) (hnw:i∈wi->∀ s∈wi,S s=true->s<i\/∀ e',es[s]?=some e'->∀ l,look l e.wr≠none->look l e'.wr=none)
 (hwl:∀ s∈wi,S s=true->∀ e',es[s]?=some e'->∀ l b,look l e'.wr=some b->l<lab0\/(lab0<=l/\S ((l-lab0)/8)=true)) :
 TS T0 lab0 n (fun j=>es[j]?) (Ak es wi S') S'=eI (TS T0 lab0 n (fun j=>es[j]?) (Ak es wi S) S) (lab0+8*i) e:=by
 funext l
 have fA:=BX (T0:=T0) (lab0:=lab0) hi he hS Po hn
 have e0:look l (Ak es wi S')=match look l e.wr with
   | some b=>some b
   | none=>look l (Ak es wi S):=by
  unfold Ak
  rw [Gz he hS Po hso (fun hi s hs yF=>(hnw hi s hs yF).imp id fun h e' gX hl=>h e' gX l hl)]
  by_cases hm:i∈wi
  .rw [if_pos hm]
  .rw [if_neg hm]
   have:e.wr=[]:=by
    cases hk:e.wr with
    | nil=>rfl
    | cons x y=>exact absurd (hw (by rw [hk];simp)) hm
   rw [this]
   rfl
 unfold eI bJ.eG
 rw [bY]
 show (match look l (Ak es wi S') with
  | some b=>some b
  | none=>Bl T0 lab0 n (fun j=>es[j]?) S' l)=_
 rw [e0]
 cases hk:look l e.wr with
 | some b=>rfl
 | none=>
   simp only
   cases gB:look l (Ak es wi S) with
   | none=>
     simp only
     rw [fA l]
     cases look l (fO (lab0+8*i) e.new) with
     | some b=>rfl
     | none=>simp only [TS,gB]
   | some b=>
     simp only
     have Ea:look l (fO (lab0+8*i) e.new)=none:=by
      rw [fH]
      split
      .rename_i RG
       obtain ⟨s,hs,e',gX,hl⟩:=Gy gB
       rw [List.mem_filter] at hs
       rcases hwl s hs.1 hs.2 e' gX l b hl with h1 | ⟨h1,h2⟩
       .omega
       .apply List.getElem?_eq_none
        have:(l-lab0)/8≠i:=fun q=>by rw [q,hS] at h2;cases h2
        omega
      .rfl
     rw [Ea]
     simp only [TS,gB]
section
variable {P:Program} {Γ:Env} {w0:World} {M:Nat->Prop} {N:Nat} {df:List Deferred} {g0:Nat->Option SV} {T0:aZ} {lab0:Nat} {all:Array Oper} {es:List bJ} {ms:List Nat} {wi:List Nat} {Vs:aY} {Q:Exit->Act->World->Prop}
theorem Ze.put {S S':Nat->Bool} {V V':aY} {a:Act} {w w':World} {i:Nat} {o:Oper} {e:bJ} {x:Value} {m:Nat} (hd:zJ Γ g0 T0 lab0 all.size all all.size es ms wi)
 (h:Ze P Γ w0 M N df g0 T0 lab0 all es wi Vs S V a w) (ho:all[i]?=some o) (he:es[i]?=some e) (hm:ms[i]?=some m) (hS:S i=false) (Po:∀ j,S' j=(S j||decide (j=i)))
 (hN:∀ d,o.dst=some d->d<N) (pT:∀ s,S s=true->∀ m,ms[s]?=some m->∀ k,m.testBit k=true->S k=true)
 (hV:V.ext (lab0+8*i) V') (hx:o.dst.isSome=true->den V' e.val=some x) (hT:aC w0 M V' (eI (TS T0 lab0 all.size (fun j=>es[j]?) (Ak es wi S) S) (lab0+8*i) e) w') :
 Ze P Γ w0 M N df g0 T0 lab0 all es wi Vs S' V' (a.put o.dst x) w':=by
 have hi:i<all.size:=(Array.getElem?_eq_some_iff.1 ho).1
 have GO:=Xq (T0:=T0) (lab0:=lab0) (n:=all.size) (wi:=wi) hi he hS Po (hd.new i e he) (hd.wrt i e he) hd.wso (fun hiw s hs yF=>by
  by_cases cI:s<i
  .exact .inl cI
  .right
   have Ow:=hd.qG s hs
   obtain ⟨Xu,Lc⟩:∃ q,ms[s]?=some q:=⟨_,List.getElem?_eq_getElem (by rw [hd.zN];exact Ow)⟩
   by_cases Xz:s=i
   .subst Xz;rw [hS] at yF;cases yF
   .rcases hd.wnp s hs Xu Lc i o (by omega) ho with (h3 | h3) | ⟨mj,lb,e',k1,k2,h3,h4⟩
    .rw [hd.wim i hiw o ho] at h3;cases h3
    .have:=pT s yF Xu Lc i h3
     rw [hS] at this;cases this
    .intro e2 he2 l hl
     rw [k2] at he2;cases he2
     rcases hd.wld i hiw o mj e ho k1 he with h5 | ⟨lb',h5,h6⟩
     .rw [KZ h3] at h5;cases h5
     .rw [h3] at h5;cases h5
      by_cases SC:l=lb
      .subst SC;exact h4
      .exact absurd (h6 l SC) hl) (fun s hs yF e' gX l b hl=>by
  have Ow:=hd.qG s hs
  obtain ⟨Xu,Lc⟩:∃ q,ms[s]?=some q:=⟨_,List.getElem?_eq_getElem (by rw [hd.zN];exact Ow)⟩
  rcases hd.wlb s hs Xu Lc e' gX l b hl with h1 | ⟨h1,h2⟩
  .exact .inl h1
  .exact .inr ⟨h1,pT s yF Xu Lc _ h2⟩)
 refine ⟨fun t v hv=>?_,?_,?_,by rw [GO];exact hT,fun n l hl=>hV.1.1 _ _ (h.aR n l hl),fun l hl=>?_,fun j hj hSj=>?_,aY.le_trans h.le hV.1,fun l hl=>?_⟩
 .unfold gS at hv
  cases Ko:kD t all.toList 0 with
  | none=>
    rw [Ko] at hv
    have dD:∀ d,o.dst=some d->(Operand.tmp t) ≠ .tmp d:=by
     intro d zQ hq
     cases hq
     have:=hd.dst i o t hi ho zQ
     rw [this] at Ko;cases Ko
    rw [Act.eval_put dD]
    exact oR hV.1 (h.tmp t v (by unfold gS;rw [Ko];exact hv))
  | some j=>
    rw [Ko] at hv
    simp only at hv
    by_cases Ku:j=i
    .subst Ku
     have hSt:S' j=true:=by rw [Po];simp
     rw [hSt] at hv
     simp only [he,Option.map_some,aU] at hv
     subst hv
     obtain ⟨o',_,kQ,zQ⟩:=nD Ko
     have:o'=o:=by
      have h1:all[j]?=some o':=by simpa using kQ
      rw [ho] at h1;cases h1;rfl
     subst this
     have cI:t<a.tmps.size:=Nat.lt_of_lt_of_le (hN t zQ) h.size
     rw [zQ] at hx |-
     rw [hx rfl]
     simp [Act.eval,Act.put,Array.getD_eq_getD_getElem?,cI]
    .have hSj:S' j=S j:=by rw [Po];simp [Ku]
     rw [hSj] at hv
     have dD:∀ d,o.dst=some d->(Operand.tmp t) ≠ .tmp d:=by
      intro d zQ hq
      cases hq
      have:=hd.dst i o t hi ho zQ
      rw [this] at Ko;cases Ko;exact Ku rfl
     rw [Act.eval_put dD]
     exact oR hV.1 (h.tmp t v (by unfold gS;rw [Ko];exact hv))
 .cases zQ:o.dst with
  | none=>exact h.size
  | some d=>simpa [Act.put] using h.size
 .cases o.dst <;> exact h.defers
 .have:=hV.2 l (.inr (by omega))
  rw [this.1,this.2]
  exact h.top l hl
 .rw [Po] at hSj
  simp only [Bool.or_eq_false_iff,decide_eq_false_iff_not] at hSj
  intro l h1 h2
  have:=hV.2 l (by
   rcases Nat.lt_or_ge j i with cI | RG
   .left;omega
   .right;omega)
  rw [this.1,this.2]
  exact h.fresh j hj hSj.1 l h1 h2
 .have:=hV.2 l (.inl (by omega))
  rw [this.1,this.2]
  exact h.low l hl
theorem bBg (aT:cA P Γ) (aX:cK P Γ) (hd:zJ Γ g0 T0 lab0 all.size all all.size es ms wi) (hN:∀ (i:Nat) (o:Oper) (d:Tmp),all[i]?=some o->o.dst=some d->d<N)
 (sQ:∀ e∈es,∀ q∈e.bM,q) (zS:∀ d v,g0 d=some v->d<N)
 (hQ:∀ (S:Nat->Bool) V a w,(∀ j,j<all.size->S j=true)->Ze P Γ w0 M N df g0 T0 lab0 all es wi Vs S V a w->Q .normal a w) :
 ∀ (fuel:Nat) (listed:Array Bool) (V:aY) (a:Act) (w:World),listed.size=all.size->((List.range all.size).filter fun j => !listed.getD j false).length<=fuel ->
   (∀ s,listed.getD s false=true->∀ m,ms[s]?=some m->∀ k,m.testBit k=true->listed.getD k false=true) ->
   Ze P Γ w0 M N df g0 T0 lab0 all es wi Vs (fun j=>listed.getD j false) V a w->wpAny P .any all Q fuel listed a w:=by
 have done:∀ (listed:Array Bool),listed.size=all.size->Region.ready .any all listed=[]->∀ j,j<all.size->listed.getD j false=true:=by
  intro listed hl hr j
  induction j using Nat.strongRecOn with
  | ind j ih=>
    intro hj
    cases hb:listed.getD j false with
    | true=>rfl
    | false=>
      exfalso
      obtain ⟨o,ho⟩:∃ o,all[j]?=some o:=⟨_,Array.getElem?_eq_getElem hj⟩
      obtain ⟨m,hm⟩:∃ m,ms[j]?=some m:=⟨_,List.getElem?_eq_getElem (by rw [hd.zN];exact hj)⟩
      have:j∈Region.ready .any all listed:=by
       rw [mem_ready]
       refine ⟨?_,o,ho,fun e he hbd=>?_⟩
       .have cI:j<listed.size:=by omega
        simp [cI] at hb |-
        exact hb
       .have:=(hd.aft j m o hm ho e he hbd).1
        exact ih e.on this (by omega)
      rw [hr] at this
      cases this
 intro fuel
 induction fuel with
 | zero=>
   intro listed V a w hl hc pT hi
   have kF:∀ j,j<all.size->listed.getD j false=true:=by
    intro j hj
    cases hb:listed.getD j false with
    | true=>rfl
    | false=>
      exfalso
      have:j∈(List.range all.size).filter fun j => !listed.getD j false:=by
       rw [List.mem_filter]
       exact ⟨List.mem_range.2 hj,by simp only [hb,Bool.not_false]⟩
      have h0:=List.eq_nil_of_length_eq_zero (Nat.le_zero.1 hc)
      rw [h0] at this
      cases this
   refine ⟨?_,hQ _ V a w kF hi⟩
   cases hr:Region.ready .any all listed with
   | nil=>rfl
   | cons x xs=>
     exfalso
     have hx:x∈Region.ready .any all listed:=by rw [hr];simp
     obtain ⟨h1,o,ho,_⟩:=mem_ready.1 hx
     have cI:=(Array.getElem?_eq_some_iff.1 ho).1
     have h2:=kF x cI
     have hls:x<listed.size:=by omega
     simp [hls] at h1 h2
     rw [h1] at h2;cases h2
 | succ fuel ih=>
   intro listed V a w hl hc pT hi
   refine ⟨fun hr=>hQ _ V a w (done listed hl hr) hi,fun i hir=>?_⟩
   obtain ⟨h1,o,ho,aZj⟩:=mem_ready.1 hir
   have cI:=(Array.getElem?_eq_some_iff.1 ho).1
   have hls:i<listed.size:=by omega
   have hSi:listed.getD i false=false:=by simp [hls] at h1 |-;exact h1
   obtain ⟨m,hm⟩:∃ m,ms[i]?=some m:=⟨_,List.getElem?_eq_getElem (by rw [hd.zN];exact cI)⟩
   obtain ⟨e,he⟩:∃ e,es[i]?=some e:=⟨_,List.getElem?_eq_getElem (by rw [hd.Kn];exact cI)⟩
   have hmS:∀ k,m.testBit k=true->listed.getD k false=true:=by
    intro k hk
    obtain ⟨ed,CF,hb,gB⟩:=hd.aPt i m o hm ho k hk
    have hon:=aZj ed CF hb
    rcases gB with rfl | ⟨me,Uh,gB⟩
    .exact hon
    .exact pT ed.on hon me Uh k gB
   have pC:∀ j,(listed.setIfInBounds i true).getD j false=(listed.getD j false||decide (j=i)):=by
    intro j
    by_cases Ku:j=i
    .subst Ku
     have:(listed.setIfInBounds j true).getD j false=true:=by simp [hls]
     rw [this];simp
    .rw [getD_set_ne false (Ne.symm Ku)];simp [Ku]
   have aTm:∀ V' a' w',Ze P Γ w0 M N df g0 T0 lab0 all es wi Vs (fun j=>(listed.setIfInBounds i true).getD j false) V' a' w'->wpAny P .any all Q fuel (listed.setIfInBounds i true) a' w':=by
    intro V' a' w' fS
    refine ih _ V' a' w' (by simpa using hl) ?_ (fun s hs m' jX k hk=>?_) fS
    .have:=filter_lt (f:=fun j => !listed.getD j false) (f':=fun j => !(listed.setIfInBounds i true).getD j false) (i:=i) (List.range all.size) (List.mem_range.2 cI) (fun j hj=>by
      rw [pC] at hj
      simp only [Bool.not_eq_true',Bool.or_eq_false_iff] at hj
      simp only [hj.1,Bool.not_false]) (by simp only [hSi,Bool.not_false]) (by rw [pC];simp)
     omega
    .rw [pC] at hs |-
     simp only [Bool.or_eq_true,decide_eq_true_eq] at hs |-
     rcases hs with hs | rfl
     .exact .inl (pT s hs m' jX k hk)
     .rw [hm] at jX;cases jX
      exact .inl (hmS k hk)
   obtain ⟨b0,oG⟩:=hd.eff i m o e hm ho he
   have aTl:∀ q∈e.bM,q:=sQ e (List.mem_of_getElem? he)
   unfold Ey at oG
   split at oG
   case h_2=>cases oG
   rename_i e1 aTq
   simp only [aU] at oG
   obtain ⟨aYx,Ox,wR,hv1⟩:(∀ q∈e1.bM,q)/\e.new=e1.new/\e.wr=e1.wr/\∀ V,den V e.val=den V e1.val:=by subst oG;exact Zj aTl
   have aYm:∀ T:aZ,∀ l,eI T l e=eI T l e1:=fun T l=>by unfold eI bJ.eG;rw [Ox,wR]
   have hwf:∀ j,vU all i j=true->listed.getD j false=false:=by
    intro j hj
    cases hb:listed.getD j false with
    | false=>rfl
    | true=>
      exfalso
      unfold vU at hj
      split at hj
      case h_2=>cases hj
      rename_i oj hoj
      obtain ⟨ed,CF,hq⟩:=List.any_eq_true.1 hj
      simp only [Bool.and_eq_true] at hq
      have hjl:=(Array.getElem?_eq_some_iff.1 hoj).1
      obtain ⟨mj,hmj⟩:∃ m,ms[j]?=some m:=⟨_,List.getElem?_eq_getElem (by rw [hd.zN];exact hjl)⟩
      have h3:=(hd.aft j mj oj hmj hoj ed (by simpa using CF) hq.2).2
      rw [cH hq.1] at h3
      have:=pT j hb mj hmj i h3
      rw [hSi] at this;cases this
   have aTp:∀ {t v},wX g0 all es i m t=some v->gS all.toList (fun j=>es[j]?) g0 (fun j=>listed.getD j false) (fun j => !listed.getD j false) t=some v:=fun hv=>aLf hmS hwf hv
   have htm:cE V (wX g0 all es i m) a:=fun t v hv=>hi.tmp t v (aTp hv)
   have aEs:∀ d v,wX g0 all es i m d=some v->d<a.tmps.size:=by
    intro d v hv
    refine Nat.lt_of_lt_of_le ?_ hi.size
    unfold wX gS at hv
    cases Ko:kD d all.toList 0 with
    | none=>rw [Ko] at hv;exact zS d v hv
    | some j=>
      obtain ⟨o',_,kQ,zQ⟩:=nD Ko
      exact hN j o' d (by simpa using kQ) zQ
   have Bh:∀ {V' x w'},V.ext (lab0+8*i) V'->(o.dst.isSome=true->den V' e1.val=some x)->aC w0 M V' (eI (TS T0 lab0 all.size (fun j=>es[j]?) (Ak es wi (fun j=>listed.getD j false)) (fun j=>listed.getD j false)) (lab0+8*i) e1) w' ->
    wpAny P .any all Q fuel (listed.setIfInBounds i true) (a.put o.dst x) w':=fun hV hx hT=>
    aTm _ _ _ (hi.put hd ho he hm hSi pC (fun d zQ=>hN i o d ho zQ) pT hV (fun hs=>by rw [hv1];exact hx hs) (by rw [aYm];exact hT))
   unfold wpOp
   simp only [ho]
   have oG:=aTq
   unfold UY at oG
   split at oG
   .rename_i hw
    have hw:=pN htm aEs hw
    rw [if_neg (by rw [hw];simp)]
    simp only [aU] at oG
    subst oG
    refine Bh (V.cN _) (fun _=>rfl) ?_
    rw [jW _ _ rfl rfl]
    exact hi.eG
   .rename_i hw
    have hw:=pN htm aEs hw
    rw [if_pos hw]
    left
    have sim:∀ {T':aZ},(∀ l B,T' l=some B->TS T0 lab0 all.size (fun j=>es[j]?) (Ak es wi (fun j=>listed.getD j false)) (fun j=>listed.getD j false) l=some B) ->
     Bn Γ (wX g0 all es i m) T' (lab0+8*i) (lab0+8*all.size) none o=some e1 ->
     o.wp P a w (wpAny P .any all Q fuel (listed.setIfInBounds i true)) Q:=fun aL gX=>
     Nc aT aX htm hi.aR aL hi.eG (hi.fresh i cI hSi) hi.top gX aYx _ Q fun V' x w' hV hx hT=>Bh hV (fun _=>hx) hT
    split at oG
    .exact sim (fun l B hB=>by cases hB) oG
    .rename_i aTg
     have late:∀ s∈wi,listed.getD s false=true->¬ s<i->∃ lb e',es[s]?=some e'/\Pc Γ (wX g0 all es i m) o=some lb/\look lb e'.wr=none:=by
      intro s hs yF Xz
      have Ow:=hd.qG s hs
      obtain ⟨m',jX⟩:∃ q,ms[s]?=some q:=⟨_,List.getElem?_eq_getElem (by rw [hd.zN];exact Ow)⟩
      have dD:s≠i:=fun q=>by subst q;rw [hSi] at yF;cases yF
      rcases hd.wnp s hs m' jX i o (by omega) ho with (h3 | h3) | ⟨mj,lb,e',k1,k2,k3,k4⟩
      .rw [aTg] at h3;cases h3
      .have:=pT s yF m' jX i h3
       rw [hSi] at this;cases this
      .rw [hm] at k1;cases k1
       exact ⟨lb,e',k2,k3,k4⟩
     split at oG
     .rename_i lb hlb
      split at oG
      case h_2=>cases oG
      rename_i Yt
      have Yt:=Jl Yt
      refine sim (fun l B hB=>?_) oG
      obtain ⟨rfl,hB⟩:=LG hB
      have aTf:look l (Ak es wi (fun j=>listed.getD j false))=look l (jE es ((qG i wi).filter fun s=>m.testBit s)):=by
       unfold Ak
       have gen:∀ L:List Nat,(∀ s∈L,s∈wi)->look l (jE es (L.filter fun j=>listed.getD j false))=look l (jE es ((qG i L).filter fun s=>m.testBit s)):=by
        intro L
        induction L with
        | nil=>intro _;rfl
        | cons s r ih=>
          intro hL
          have ih:=ih (fun q hq=>hL q (List.mem_cons_of_mem _ hq))
          have hs:=hL s cM
          have Ow:=hd.qG s hs
          obtain ⟨RL,UK⟩:∃ q,es[s]?=some q:=⟨_,List.getElem?_eq_getElem (by rw [hd.Kn];exact Ow)⟩
          have aOk:look l RL.wr=none->look l (jE es (s::r.filter fun j=>listed.getD j false))=look l (jE es (r.filter fun j=>listed.getD j false)):=by
           intro hn
           simp only [jE,UK,bY,hn]
          by_cases Xz:s<i
          .have hb:Nat.blt s i=true:=by simpa [Nat.blt_eq] using Xz
           simp only [qG,hb]
           cases Pm:m.testBit s with
           | true=>
             have yF:=hmS s Pm
             rw [List.filter_cons,if_pos yF,List.filter_cons,if_pos Pm]
             simp only [jE,UK,bY,ih]
           | false=>
             rw [List.filter_cons (p:=fun s=>m.testBit s),if_neg (by rw [Pm];simp),<- ih]
             cases yF:listed.getD s false with
             | false=>rw [List.filter_cons,if_neg (by rw [yF];simp)]
             | true=>
               rw [List.filter_cons,if_pos yF]
               rcases Yt s (by rw [nA,List.mem_filter];exact ⟨hs,hb⟩) with h4 | ⟨e',h4,h5⟩
               .rw [Pm] at h4;cases h4
               .rw [UK] at h4;cases h4;exact aOk h5
          .have hb:Nat.blt s i=false:=by
            cases hb:Nat.blt s i with
            | false=>rfl
            | true=>exact absurd (by simpa [Nat.blt_eq] using hb) Xz
           simp only [qG,hb]
           rw [<- ih]
           cases yF:listed.getD s false with
           | false=>rw [List.filter_cons,if_neg (by rw [yF];simp)]
           | true=>
             rw [List.filter_cons,if_pos yF]
             obtain ⟨lb',e',k2,k3,k4⟩:=late s hs yF Xz
             rw [hlb] at k3;cases k3
             rw [UK] at k2;cases k2
             exact aOk k4
       exact gen wi (fun s hs=>hs)
      have hB2:=Sd (S':=fun j=>listed.getD j false) hmS hB
      unfold TS at hB2 |-
      rw [aTf];exact hB2
     .rename_i CY
      split at oG
      case h_2=>cases oG
      rename_i hin
      refine sim (fun l B hB=>?_) oG
      have hB2:=Sd (S':=fun j=>listed.getD j false) hmS hB
      have Xx:jE es (qG i wi)=Ak es wi (fun j=>listed.getD j false):=by
       unfold Ak
       rw [nA]
       congr 1
       refine List.filter_congr fun s hs=>?_
       by_cases Xz:s<i
       .have hb:Nat.blt s i=true:=by simpa [Nat.blt_eq] using Xz
        rw [hb]
        exact (hmS s (JP hin s (by rw [nA,List.mem_filter];exact ⟨hs,hb⟩))).symm
       .have hb:Nat.blt s i=false:=by
         cases hb:Nat.blt s i with
         | false=>rfl
         | true=>exact absurd (by simpa [Nat.blt_eq] using hb) Xz
        rw [hb]
        cases yF:listed.getD s false with
        | false=>rfl
        | true=>
          obtain ⟨lb',e',k2,k3,k4⟩:=late s hs yF Xz
          rw [CY] at k3;cases k3
      rw [<- Xx]
      exact hB2
   .cases oG
end
noncomputable def nO (F0 N lab0 nx:Nat):List Oper->List bJ->Nat->St->Option St
 | [],_,_,s=>some s
 | o::r,e::es,i,s=>match s.step F0 N o.dst e (lab0+8*i) nx with
   | some s'=>nO F0 N lab0 nx r es (i+1) s'
   | none=>none
 | _::_,[],_,_=>none
noncomputable def Gh (Γ:Env) (B:aZ) (F0 N:Nat) (ops:Array Oper) (s:St):Option St:=
 match Gg Γ s.g.get (s.T B) s.nx ops.size ops ops.toList 0 [] [] [] s.hs with
 | some (es,_,_,hs)=>match nO F0 N s.nx (s.nx+8*ops.size) ops.toList es 0 s with
   | some s'=>some { g:=s'.g,tb:=s'.tb,nx:=s'.nx,ws:=s'.ws,ob:=s'.ob,df:=s'.df,hs:=hs }
   | none=>none
 | none=>none
theorem Nl {F0 N lab0 nx:Nat}:∀ {r:List Oper} {er:List bJ} {i:Nat} {s s':St},nO F0 N lab0 nx r er i s=some s'->s'.df=s.df
 | [],er,i,s,s',h=>by simp only [nO,aU] at h;subst h;rfl
 | o::r,[],i,s,s',h=>by simp [nO] at h
 | o::r,e::er,i,s,s',h=>by
   simp only [nO] at h
   split at h
   .rename_i s1 h1;rw [Nl h,St.Vu h1]
   .cases h
structure aHf (B:aZ) (F0 N lab0 nx:Nat) (all:Array Oper) (es:List bJ) (wi:List Nat) (s0:St) (i:Nat) (s:St):Prop where
 T:s.T B=TS (s0.T B) lab0 all.size (fun j=>es[j]?) (Ak es wi (fun j=>decide (j<i))) (fun j=>decide (j<i))
 g:∀ t v,s.g.get t=some v->(∃ j e,kD t all.toList 0=some j/\j<i/\es[j]?=some e/\e.val=v)\/((∀ j,kD t all.toList 0=some j->i<=j)/\s0.g.get t=some v)
 keys:∀ t v,s.g.get t=some v->t<N
 hi:∀ l,nx<=l->s.T B l=none
 ch:∀ l,l<F0->l ∉ s.ws->s.tb.get l=none
 ob0:∀ q∈s0.ob,q∈s.ob
 ob:∀ j e,j<i->es[j]?=some e->∀ q∈e.bM,q∈s.ob
 dN:∀ j o d,j<i->all[j]?=some o->o.dst=some d->d<N
 nxe:(s.nx=s0.nx/\i=0)\/s.nx=nx
theorem Nj {Γ:Env} {B:aZ} {F0 N lab0 nx:Nat} {all:Array Oper} {es:List bJ} {ms:List Nat} {wi:List Nat} {s0:St} {g0:Nat->Option SV} (hd:zJ Γ g0 (s0.T B) lab0 all.size all all.size es ms wi) (hnx:nx=lab0+8*all.size) :
 ∀ {r:List Oper} {er:List bJ} {i:Nat} {s s':St},nO F0 N lab0 nx r er i s=some s'->(∀ k,r[k]?=all[i+k]?)->(∀ k,er[k]?=es[i+k]?)->i+r.length=all.size ->
   aHf B F0 N lab0 nx all es wi s0 i s->aHf B F0 N lab0 nx all es wi s0 all.size s'
 | [],er,i,s,s',h,hr,he,hl,hf=>by
   simp only [nO,aU] at h
   subst h
   have:i=all.size:=by simpa using hl
   rw [<- this];exact hf
 | o::r,[],i,s,s',h,hr,he,hl,hf=>by simp [nO] at h
 | o::r,e::er,i,s,s',h,hr,he,hl,hf=>by
   have ho:all[i]?=some o:=by have:=hr 0;simpa using this.symm
   have hee:es[i]?=some e:=by have:=he 0;simpa using this.symm
   have hi:i<all.size:=(Array.getElem?_eq_some_iff.1 ho).1
   have hr':∀ k,r[k]?=all[i+1+k]?:=fun k=>by
    have:=hr (k+1)
    rw [show i+1+k=i+(k+1) from by omega]
    simpa using this
   have gX:∀ k,er[k]?=es[i+1+k]?:=fun k=>by
    have:=he (k+1)
    rw [show i+1+k=i+(k+1) from by omega]
    simpa using this
   simp only [nO] at h
   split at h
   case h_2=>cases h
   rename_i s1 h1
   obtain ⟨k1,k2,k3,k4,k5,k6,k7,k8,k9⟩:=St.cQ B h1
   refine Nj hd hnx h hr' gX (by simp at hl;omega) ?_
   have DZ:∀ j,decide (j<i+1)=(decide (j<i)||decide (j=i)):=by
    intro j
    by_cases h1:j<i
    .simp [h1];omega
    .by_cases h2:j=i
     .simp [h2]
     .simp [h1,h2];omega
   have GO:=Xq (T0:=s0.T B) (lab0:=lab0) (n:=all.size) (wi:=wi) (S:=fun j=>decide (j<i)) (S':=fun j=>decide (j<i+1)) hi hee (by simp) DZ (hd.new i e hee) (hd.wrt i e hee) hd.wso (fun _ s _ yF=>.inl (by simpa using yF)) (fun s hs yF e' gX l b hlk=>by
    have Ow:=hd.qG s hs
    obtain ⟨Xu,Lc⟩:∃ q,ms[s]?=some q:=⟨_,List.getElem?_eq_getElem (by rw [hd.zN];exact Ow)⟩
    rcases hd.wlb s hs Xu Lc e' gX l b hlk with h1 | ⟨h1,h2⟩
    .exact .inl h1
    .have:=hd.lt s Xu Lc _ h2
     simp only [decide_eq_true_eq] at yF
     exact .inr ⟨h1,by simp only [decide_eq_true_eq];omega⟩)
   refine ⟨?_,fun t v hv=>?_,fun t v hv=>?_,fun l hl=>?_,fun l hl hw=>?_,fun q hq=>?_,fun j e' hj hje q hq=>?_,fun j o' d hj kQ zQ=>?_,.inr k2⟩
   .rw [k1,hf.T,GO]
   .rw [k6] at hv
    by_cases zQ:o.dst=some t
    .rw [if_pos zQ] at hv
     cases hv
     exact .inl ⟨i,e,hd.dst i o t hi ho zQ,by omega,hee,rfl⟩
    .rw [if_neg zQ] at hv
     rcases hf.g t v hv with ⟨j,e',h2,h3,h4,h5⟩ | ⟨h2,h3⟩
     .exact .inl ⟨j,e',h2,by omega,h4,h5⟩
     .refine .inr ⟨fun j hj=>?_,h3⟩
      have:=h2 j hj
      have dD:j≠i:=by
       intro q
       subst q
       obtain ⟨o',_,kQ,aYw⟩:=nD hj
       have:o'=o:=by
        have h1:all[j]?=some o':=by simpa using kQ
        rw [ho] at h1;cases h1;rfl
       subst this
       exact zQ aYw
      omega
   .rw [k6] at hv
    by_cases zQ:o.dst=some t
    .exact k7 t zQ
    .rw [if_neg zQ] at hv;exact hf.keys t v hv
   .rw [k1]
    unfold eI bJ.eG
    rw [bY]
    cases hk:look l e.wr with
    | some b=>have:=k9 l b hk;omega
    | none=>
      have:look l (fO (lab0+8*i) e.new)=none:=by
       rw [fH]
       split
       .apply List.getElem?_eq_none;omega
       .rfl
      simp only [this]
      exact hf.hi l hl
   .exact k5 l hl hw (hf.ch l hl (fun q=>hw (k4 l q)))
   .rw [k3];exact List.mem_append_right _ (hf.ob0 q hq)
   .rw [k3]
    by_cases Ku:j=i
    .subst Ku;rw [hee] at hje;cases hje;exact List.mem_append_left _ hq
    .exact List.mem_append_right _ (hf.ob j e' (by omega) hje q hq)
   .by_cases Ku:j=i
    .subst Ku;rw [ho] at kQ;cases kQ;exact k7 d zQ
    .exact hf.dN j o' d (by omega) kQ zQ
theorem Ns {P:Program} {Γ:Env} {w0:World} {M:Nat->Prop} {B:aZ} {N F0:Nat} {V0:aY} (aT:cA P Γ) (aX:cK P Γ) (jF:P.follows .mixedOrders=true) {id:Nat} {ops:Array Oper} {Q:Exit->Act->World->Prop}
 {s s':St} {V:aY} {a:Act} {w:World} (h:Gh Γ B F0 N ops s=some s') (ho:∀ q∈s'.ob,q) (hi:Inv P Γ w0 M B N F0 V0 s V a w)
 (hQ:∀ V' a' w',Inv P Γ w0 M B N F0 V0 s' V' a' w'->Q .normal a' w'):(Code.region id ops true).wp P Q a w:=by
 unfold Gh at h
 split at h
 case h_2=>cases h
 rename_i es ms wi rY he
 split at h
 case h_2=>cases h
 rename_i s1 h1
 cases h
 have h:=h1
 have hd:zJ Γ s.g.get (s.T B) s.nx ops.size ops ops.size es ms wi:=by
  have:=tS he (fun k=>by simp) zJ.nil
  simpa using this
 have hF0:aHf B F0 N s.nx (s.nx+8*ops.size) ops es wi s 0 s:=by
  refine ⟨?_,fun t v hv=>.inr ⟨fun j _=>Nat.zero_le _,hv⟩,hi.keys,fun l hl=>hi.hi l (by omega),hi.ch,fun q hq=>hq,fun j e hj=>by omega,fun j o d hj=>by omega,.inl ⟨rfl,rfl⟩⟩
  funext l
  have hw:Ak es wi (fun j=>decide (j<0))=[]:=by
   unfold Ak
   rw [List.filter_eq_nil_iff.2 (fun s _=>by simp)]
   rfl
  simp only [TS,hw,look,Bl]
  by_cases hl:s.nx<=l/\l<s.nx+8*ops.size
  .rw [Mz hl.1 hl.2]
   simp [hi.hi l hl.1]
  .rw [Gq hl]
 have hF:=Nj hd rfl h (fun k=>by simp) (fun k=>by simp) (by simp) hF0
 refine wp_region_any jF ?_
 refine bBg (M:=M) (w0:=w0) (N:=N) (df:=a.defers) (Vs:=V) aT aX hd (fun i o d fS zQ=>hF.dN i o d (Array.getElem?_eq_some_iff.1 fS).1 fS zQ) (fun e hee q hq=>?_) hi.keys (fun S V' a' w' kF hr=>?_) ops.size _ V a _ (by simp) ?_ ?_ ?_
 .obtain ⟨j,hj,hje⟩:=List.getElem_of_mem hee
  have hjl:j<ops.size:=by rw [hd.Kn] at hj;exact hj
  exact ho q (hF.ob j e hjl (by rw [List.getElem?_eq_getElem hj,hje]) q hq)
 .refine hQ V' a' w' ⟨fun t v hv=>?_,hF.keys,hr.size,(by obtain ⟨xs,gE,nJ⟩:=hi.defers;exact ⟨xs,by rw [Nl h];exact cZ hr.le gE,hr.defers.trans nJ⟩),?_,hr.aR,?_,aY.le_trans hi.le hr.le,fun l hl=>?_,hF.ch,?_,fun l hl=>?_⟩
  .refine hr.tmp t v ?_
   unfold gS
   rcases hF.g t v hv with ⟨j,e,h2,h3,h4,h5⟩ | ⟨h2,h3⟩
   .rw [h2]
    simp only [kF j h3,h4,Option.map_some,h5]
   .cases Ko:kD t ops.toList 0 with
    | none=>exact h3
    | some j=>
      have:=h2 j Ko
      obtain ⟨o',_,kQ,_⟩:=nD Ko
      have cI:=(List.getElem?_eq_some_iff.1 kQ).1
      simp at cI
      omega
  .refine hr.eG.sub fun l b hl=>?_
   have hl:s1.T B l=some b:=hl
   rw [hF.T] at hl
   have hw:Ak es wi (fun j=>decide (j<ops.size))=Ak es wi S:=by
    unfold Ak
    congr 1
    refine List.filter_congr fun q hq=>?_
    have:=hd.qG q hq
    rw [kF q this]
    simpa using this
   rw [hw] at hl
   refine Sd (fun j hj=>?_) hl
   exact kF j (by simpa using hj)
  .refine hr.top.mono ?_
   rcases hF.nxe with ⟨h1,h2⟩ | h2
   .rw [h1,h2];exact Nat.le_refl _
   .rw [h2];exact Nat.le_refl _
  .have h1:=hr.low l (Nat.lt_of_lt_of_le hl hi.nx)
   rw [h1.1,h1.2]
   exact hi.low l hl
  .rcases hF.nxe with ⟨h1,_⟩ | h2
   .rw [h1];exact hi.nx
   .rw [h2];have:=hi.nx;omega
  .rcases hF.nxe with ⟨h1,h2⟩ | h2
   .exact hF.hi l (by rw [h1] at hl;rw [h2];exact hl)
   .exact hF.hi l (by rw [h2] at hl;exact hl)
 .have:=List.length_filter_le (fun j => !(Array.replicate ops.size false).getD j false) (List.range ops.size)
  simpa using this
 .intro q hq
  exfalso
  simp [Array.getElem?_replicate] at hq
  split at hq <;> simp at hq
 .have hS:∀ j,(Array.replicate ops.size false).getD j false=false:=by
   intro j
   simp [Array.getElem?_replicate]
   split <;> rfl
  refine ⟨fun t v hv=>?_,hi.size,rfl,?_,hi.aR,hi.top.mono (by omega),fun j _ _=>fun l h1 _=>hi.top l (by omega),aY.le_refl V,fun l _=>⟨rfl,rfl⟩⟩
  .unfold gS at hv
   cases Ko:kD t ops.toList 0 with
   | none=>rw [Ko] at hv;exact hi.tmp t v hv
   | some j=>rw [Ko] at hv;simp only [hS j,Bool.not_false] at hv;exact hi.tmp t v hv
  .have hT0:aC w0 M V (s.T B) { w with drawn:=w.drawn+1 }:=hi.eG.aUl rfl rfl rfl rfl
   refine hT0.sub fun l b hl=>?_
   have hw:Ak es wi (fun j=>(Array.replicate ops.size false).getD j false)=[]:=by
    unfold Ak
    rw [List.filter_eq_nil_iff.2 (fun s _=>by simp only [hS s];simp)]
    rfl
   simp only [TS,hw,look,Bl] at hl
   split at hl
   .simp only [hS] at hl;cases hl
   .exact hl
inductive Ex where
 | normal
 | exit (id:Nat)
 | ret
def Ex.to:Ex->Exit
 | .normal=>.normal
 | .exit id=>.exit id
 | .ret=>.ret
noncomputable def Mh (Γ:Env) (B:aZ) (F0 N:Nat) (rec:Code->St->Option (St × Ex)) (c:Code) (s:St):Option (St × Ex):=
 match c with
 | .skip=>some (s,.normal)
 | .label _=>some (s,.normal)
 | .region _ ops d=>match d with
   | true=>match Gh Γ B F0 N ops s with
     | some s'=>some (s',.normal)
     | none=>none
   | false=>match Hx Γ B F0 N ops ops.toList s with
     | some s'=>some (s',.normal)
     | none=>none
 | .seq x y=>match rec x s with
   | some (s',.normal)=>rec y s'
   | r=>r
 | .cond c x y=>match ev Γ s.g.get c with
   | some (.bool true true)=>rec x s
   | some (.bool true false)=>rec y s
   | some (.bool false b)=>match s.hs with
     | true::r=>rec x { s with ob:=(b=true)::s.ob,hs:=r }
     | false::r=>rec y { s with ob:=(b=false)::s.ob,hs:=r }
     | []=>none
   | _=>none
 | .block id c=>match rec c s with
   | some (s',.exit Kt)=>match Nat.beq Kt id with
     | true=>some (s',.normal)
     | false=>some (s',.exit Kt)
   | r=>r
 | .loop c=>match rec c s with
   | some (s',.normal)=>rec (.loop c) s'
   | r=>r
 | .exit id=>some (s,.exit id)
 | .ret=>some (s,.ret)
 | .scope c=>rec c s
 | _=>none
noncomputable def exec (Γ:Env) (B:aZ) (F0 N:Nat) (n:Nat):Code->St->Option (St × Ex):=
 Nat.rec (fun _ _=>none) (fun _ ih=>Mh Γ B F0 N ih) n
theorem xV {Γ:Env} {B:aZ} {F0 N:Nat} (c:Code) (s:St):exec Γ B F0 N 0 c s=none:=rfl
theorem xW {Γ:Env} {B:aZ} {F0 N:Nat} (n:Nat) (c:Code) (s:St):exec Γ B F0 N (n+1) c s=Mh Γ B F0 N (exec Γ B F0 N n) c s:=rfl
theorem Nk {F0 N lab0 nx:Nat}:∀ {r:List Oper} {er:List bJ} {i:Nat} {s s':St},nO F0 N lab0 nx r er i s=some s'->∀ q∈s.ob,q∈s'.ob
 | [],er,i,s,s',h,q,hq=>by simp only [nO,aU] at h;subst h;exact hq
 | o::r,[],i,s,s',h,q,hq=>by simp [nO] at h
 | o::r,e::er,i,s,s',h,q,hq=>by
   simp only [nO] at h
   split at h
   .rename_i s1 h1
    have:=(St.cQ (fun _=>none) h1).2.2.1
    exact Nk h q (by rw [this];exact List.mem_append_right _ hq)
   .cases h
theorem Nt {Γ:Env} {B:aZ} {F0 N:Nat} {ops:Array Oper} {s s':St} (h:Gh Γ B F0 N ops s=some s'):∀ q∈s.ob,q∈s'.ob:=by
 unfold Gh at h
 split at h
 .split at h
  .rename_i s1 h1
   cases h
   exact Nk (s':=s1) h1
  .cases h
 .cases h
theorem Ad {Γ:Env} {B:aZ} {F0 N:Nat}:∀ {n:Nat} {c:Code} {s s':St} {x:Ex},exec Γ B F0 N n c s=some (s',x)->∀ q∈s.ob,q∈s'.ob:=by
 intro n
 induction n with
 | zero=>intro c s s' x h;rw [xV] at h;cases h
 | succ n ih=>
   intro c s s' x h q hq
   rw [xW] at h
   unfold Mh at h
   split at h
   .cases h;exact hq
   .cases h;exact hq
   .split at h
    .split at h
     .rename_i s1 h1;cases h;exact Nt h1 q hq
     .cases h
    .split at h
     .rename_i s1 h1;cases h;exact uX h1 q hq
     .cases h
   .split at h
    .rename_i s1 h1;exact ih h q (ih h1 q hq)
    .exact ih h q hq
   .split at h
    .exact ih h q hq
    .exact ih h q hq
    .split at h
     .exact ih h q (List.mem_cons_of_mem _ hq)
     .exact ih h q (List.mem_cons_of_mem _ hq)
     .cases h
    .cases h
   .split at h
    .rename_i s1 Kt h1
     split at h <;> (cases h;exact ih h1 q hq)
    .exact ih h q hq
   .split at h
    .rename_i s1 h1;exact ih h q (ih h1 q hq)
    .exact ih h q hq
   .cases h;exact hq
   .cases h;exact hq
   .exact ih h q hq
   .cases h
theorem aBt {P:Program} {Γ:Env} {w0:World} {M:Nat->Prop} {B:aZ} {N F0:Nat} {V0:aY} (aT:cA P Γ) (aX:cK P Γ) (jF:P.follows .mixedOrders=true) :
 ∀ (n:Nat),(∀ {c:Code} {s s':St} {x:Ex} {V:aY} {a:Act} {w:World} {Q:Exit->Act->World->Prop},exec Γ B F0 N n c s=some (s',x)->(∀ q∈s'.ob,q)->Inv P Γ w0 M B N F0 V0 s V a w ->
   (∀ V' a' w',Inv P Γ w0 M B N F0 V0 s' V' a' w'->Q x.to a' w')->c.wp P Q a w) /\
 (∀ {c:Code} {s s':St} {x:Ex} {V:aY} {a:Act} {w:World} {Q:Exit->Act->World->Prop},exec Γ B F0 N n (.loop c) s=some (s',x)->(∀ q∈s'.ob,q)->Inv P Γ w0 M B N F0 V0 s V a w ->
  (∀ V' a' w',Inv P Γ w0 M B N F0 V0 s' V' a' w'->Q x.to a' w')->Code.rounds P c Q n a w):=by
 intro n
 induction n with
 | zero=>exact ⟨fun h=>(by rw [xV] at h;cases h),fun h=>(by rw [xV] at h;cases h)⟩
 | succ n ih=>
   obtain ⟨ih,il⟩:=ih
   have loop:∀ {c:Code} {s s':St} {x:Ex} {V:aY} {a:Act} {w:World} {Q:Exit->Act->World->Prop},exec Γ B F0 N (n+1) (.loop c) s=some (s',x)->(∀ q∈s'.ob,q)->Inv P Γ w0 M B N F0 V0 s V a w ->
    (∀ V' a' w',Inv P Γ w0 M B N F0 V0 s' V' a' w'->Q x.to a' w')->Code.rounds P c Q (n+1) a w:=by
    intro c s s' x V a w Q h ho hi hQ
    rw [xW] at h
    simp only [Mh] at h
    rw [rounds_succ]
    split at h
    .rename_i s1 h1
     exact ih h1 (fun q hq=>ho q (Ad h q hq)) hi fun V' a' w' fS=>il h ho fS hQ
    .rename_i dD
     refine ih h ho hi fun V' a' w' fS=>?_
     have:=hQ V' a' w' fS
     cases x with
     | normal=>exact absurd h (fun q=>dD _ q)
     | exit id=>exact this
     | ret=>exact this
   refine ⟨?_,loop⟩
   intro c s s' x V a w Q h ho hi hQ
   have h0:=h
   rw [xW] at h
   unfold Mh at h
   split at h
   .cases h;exact wp_skip (hQ V a w hi)
   .cases h;exact wp_label (hQ V a w hi)
   .split at h
    .split at h
     .rename_i s1 h1;cases h;exact Ns aT aX jF h1 ho hi hQ
     .cases h
    .split at h
     .rename_i s1 h1;cases h;exact wp_region_list (uW aT aX h1 ho hi hQ)
     .cases h
   .refine wp_seq ?_
    split at h
    .rename_i s1 h1
     exact ih h1 (fun q hq=>ho q (Ad h q hq)) hi fun V' a' w' fS=>ih h ho fS hQ
    .rename_i dD
     refine ih h ho hi fun V' a' w' fS=>?_
     have:=hQ V' a' w' fS
     cases x with
     | normal=>exact absurd h (fun q=>dD _ q)
     | exit id=>exact this
     | ret=>exact this
   .split at h
    .rename_i hc
     have hc:=bF hi.tmp hi.aR hc
     simp only [den,aU] at hc
     exact wp_cond_true hc.symm (ih h ho hi hQ)
    .rename_i hc
     have hc:=bF hi.tmp hi.aR hc
     simp only [den,aU] at hc
     exact wp_cond_false hc.symm (ih h ho hi hQ)
    .rename_i b hc
     have hc:=bF hi.tmp hi.aR hc
     simp only [den,aU] at hc
     split at h
     .have hb:b=true:=ho _ (Ad h _ cM)
      rw [hb] at hc
      exact wp_cond_true hc.symm (ih h ho ⟨hi.tmp,hi.keys,hi.size,hi.defers,hi.eG,hi.aR,hi.top,hi.le,hi.low,hi.ch,hi.nx,hi.hi⟩ hQ)
     .have hb:b=false:=ho _ (Ad h _ cM)
      rw [hb] at hc
      exact wp_cond_false hc.symm (ih h ho ⟨hi.tmp,hi.keys,hi.size,hi.defers,hi.eG,hi.aR,hi.top,hi.le,hi.low,hi.ch,hi.nx,hi.hi⟩ hQ)
     .cases h
    .cases h
   .refine wp_block ?_
    split at h
    .rename_i bid _ _ s1 Kt h1
     split at h
     .rename_i hb
      cases h
      refine ih h1 ho hi fun V' a' w' fS=>?_
      show (if Kt=bid then Q .normal a' w' else Q (.exit Kt) a' w')
      rw [if_pos (cH hb)]
      exact hQ V' a' w' fS
     .rename_i hb
      cases h
      refine ih h1 ho hi fun V' a' w' fS=>?_
      show (if Kt=bid then Q .normal a' w' else Q (.exit Kt) a' w')
      rw [if_neg (beq_false hb)]
      exact hQ V' a' w' fS
    .rename_i dD
     refine ih h ho hi fun V' a' w' fS=>?_
     have:=hQ V' a' w' fS
     cases x with
     | normal=>exact this
     | exit id=>exact absurd h (fun q=>dD _ _ q)
     | ret=>exact this
   .exact wp_loop_rounds (n+1) (loop h0 ho hi hQ)
   .cases h;exact wp_exit (hQ V a w hi)
   .cases h;exact wp_ret (hQ V a w hi)
   .refine wp_scope_straight (ih h ho hi fun V' a' w' fS=>?_)
    have:=hQ V' a' w' fS
    cases x <;> exact this
   .cases h
end Go.Proofs.YticicdfijghigaaGreatDoor.Sx
