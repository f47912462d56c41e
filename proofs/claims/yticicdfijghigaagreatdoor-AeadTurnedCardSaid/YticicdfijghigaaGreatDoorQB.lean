/- The symbolic executor, thirteenth text: copy, clear, literals of structs, arrays and slices, a slice as an array. -/
import Derived.IntWalk
import Derived.Defers
import Derived.LaidEql
import Derived.ChangeKeysEq
import Derived.Laws.BytesString
import Derived.LoopN
import Derived.Scope
import Derived.Test.YticicdfijghigaaGreatDoorQA
open Go
set_option maxRecDepth 100000
namespace Go.Proofs.YticicdfijghigaaGreatDoor.Sx
section Ju
variable {P:Program} {Γ:Env} {V:aZ} {w w0:World} {M:Nat->Prop} {T:bA} {g:Nat->Option SV} {a:Act} {o:Oper} {e:bL}
def Nx:SV->Option (Nat × Nat × Nat)
 | .aJ l true off len _=>some (l,off,len)
 | .cQ l off len _=>some (l,off,len)
 | _=>none
theorem Eo {v:SV} {x:Value} {l off len:Nat} (h:Nx v=some (l,off,len)) (hv:den V v=some x):∃ p c,V.β l=some p/\x = .slice (some ⟨p.1,p.2+off,none⟩) len c:=by
 unfold Nx at h
 split at h
 .simp only [zzI,Prod.mk.injEq] at h
  obtain ⟨rfl,rfl,rfl⟩:=h
  simp only [den,zzM] at hv
  obtain ⟨p,hβ,rfl⟩:=hv
  exact ⟨p,_,hβ,rfl⟩
 .simp only [zzI,Prod.mk.injEq] at h
  obtain ⟨rfl,rfl,rfl⟩:=h
  simp only [den,zzM,zzB] at hv
  obtain ⟨p,hβ,c,_,rfl⟩:=hv
  exact ⟨p,_,hβ,rfl⟩
 .cases h
def Ug (T:bA) (sz:Nat) (x y:SV):Option bL:=
 match Nx x,Cu T sz y with
 | some (l,off,len),some (m,ys)=>match T l with
   | some B=>match FC B true off (ys.take (Nat.min m len*sz)) with
     | some ([],B')=>some { val:=.int true .i64 ((Nat.min m len:Nat):Int),wr:=[(l,B')] }
     | _=>none
   | none=>none
 | none,some _=>match x with
   | .raw (.slice none 0 0)=>some { val:=.int true .i64 0 }
   | _=>none
 | _,_=>none
theorem DY (aR:cC P Γ) {T':bA} (aK:∀ l B,T' l=some B->T l=some B) (hT:aC w0 M V T w) {lab:Nat} {dT sT ty el:TypeId} {te:TI} (ht:P.underlying dT=some (.slice el)) (eE:Γ.ty el=some te)
 {x y:SV} {u v:Value} (hx:den V x=some u) (hy:den V y=some v) (he:Ug T' te.size x y=some e):oR P w0 M V T lab e (Builtin.copy_ #[dT,sT] ty #[u,v]) w:=by
 unfold Ug at he
 split at he
 case h_3=>cases he
 case h_2=>
  rename_i q hs hq
  split at he
  case h_2=>cases he
  cases he
  simp only [den,zzI] at hx
  subst hx
  obtain ⟨_,i,z,hi,cF,_⟩:=aR el te eE
  refine ⟨V,.int .i64 0,w,?_,V.cP lab,rfl,by rw [kI T lab rfl rfl];exact hT⟩
  obtain ⟨m,ys⟩:=q
  obtain ⟨cy,Rt,jC,hh⟩:=sY (hT.sub aK) hy hq
  rcases hh with ⟨rfl,rfl,rfl⟩ | ⟨ad,c',rfl,hl,bZ⟩
  .have hf:=run_firstCells_none (P:=P) (w:=w) te.size 0 0 0
   simp [Builtin.copy_,run_underlying ht,Builtin.lenOf,run_sizeOf hi,cF,hf,goInt]
  .have hf:=run_firstCells_some (P:=P) (w:=w) te.size 0 ad m c' [] (by simp) (fun j q hj=>by simp at hj)
   simp [Builtin.copy_,run_underlying ht,Builtin.lenOf,run_sizeOf hi,cF,hf,goInt]
 rename_i l off len m ys hs hq
 split at he
 case h_2=>cases he
 rename_i B hB
 split at he
 case h_2=>cases he
 rename_i B' hw
 simp only [zzI] at he
 subst he
 obtain ⟨_,i,z,hi,cF,_⟩:=aR el te eE
 obtain ⟨p,c,hβ,rfl⟩:=Eo hs hx
 obtain ⟨cy,Rt,jC,hh⟩:=sY (hT.sub aK) hy hq
 have h1:=oF jC Rt
 have hd:=eO (Nat.min m len*te.size) Rt
 obtain ⟨w',hr,oZ⟩:=Kl (P:=P) lab (.int true .i64 ((Nat.min m len:Nat):Int)) hT (aK l B hB) (b:=p.1) (o:=p.2) hβ hw (by simp) hd (fun q hq=>h1 q (List.mem_of_mem_take hq))
 refine ⟨V,_,w',?_,V.cP lab,rfl,oZ⟩
 rcases hh with ⟨rfl,rfl,rfl⟩ | ⟨ad,c',rfl,hl,bZ⟩
 .have hf:=run_firstCells_none (P:=P) (w:=w) te.size 0 0 0
  simp only [List.take_nil] at hr
  simp [Builtin.copy_,run_underlying ht,Builtin.lenOf,run_sizeOf hi,cF,hf,hr,goInt]
 .have hf:=run_firstCells_some (P:=P) (w:=w) te.size (Nat.min m len) ad m c' (cy.take (Nat.min m len*te.size))
   (by rw [List.length_take,hl];exact Nat.min_eq_left (Nat.mul_le_mul_right _ (Nat.min_le_left _ _)))
   (fun j q hj=>by
    rw [List.getElem?_take] at hj
    split at hj
    .exact bZ j q hj
    .cases hj)
  simp [Builtin.copy_,run_underlying ht,Builtin.lenOf,run_sizeOf hi,cF,hf,hr,goInt]
def yL (zero:List SV) (n:Nat):List SV:=(List.range (n*zero.length)).map fun j=>zero.getD (j%zero.length) (.raw undef)
theorem Im {zero:List SV} {z:Array Value} (h:aG V zero=some z.toList) (h0:0<zero.length) (n:Nat):aG V (yL zero n)=some (((Array.range (n*z.size)).map fun j=>z[j%z.size]!).toList):=by
 have hl:z.size=zero.length:=by have:=bC h;simpa using this
 have:=gD (V:=V) (n*zero.length) (fun j=>zero.getD (j%zero.length) (.raw undef)) (fun j=>z[j%zero.length]!) (fun j _=>by
  have cM:j%zero.length<zero.length:=Nat.mod_lt _ h0
  obtain ⟨x,hx,hd⟩:=dZ h (j%zero.length) _ (List.getElem?_eq_getElem cM)
  have e1:zero.getD (j%zero.length) (.raw undef)=zero[j%zero.length]:=by simp [zzG,cM]
  rw [e1,hd]
  have hz:j%zero.length<z.size:=by omega
  simp only [Array.getElem?_toList,Array.getElem?_eq_getElem hz,zzI] at hx
  rw [<- hx]
  simp [getElem!_def,Array.getElem?_eq_getElem hz])
 rw [yL,this,hl]
 simp [Array.toList_range]
def Mg (T:bA) (te:TI) (x:SV):Option bL:=
 match x with
 | .raw (.slice none _ _)=>some { val:=.eP [] }
 | _=>match Nx x,Nat.blt 0 te.zero.length&&mC te.zero with
   | some (l,off,len),true=>match T l with
     | some B=>match FC B true off (yL te.zero len) with
       | some ([],B')=>some { val:=.eP [],wr:=[(l,B')] }
       | _=>none
     | none=>none
   | _,_=>none
theorem CF {vs:List SV} (h:mC vs=true) {v:SV} (hv:v∈vs):WT v=true:=by
 unfold mC at h
 exact List.all_eq_true.1 h v hv
theorem Ql {zero:List SV} (h:mC zero=true) (h0:0<zero.length) (n:Nat):mC (yL zero n)=true:=by
 unfold mC yL
 rw [List.all_eq_true]
 intro v hv
 obtain ⟨j,_,rfl⟩:=List.mem_map.1 hv
 have cM:j%zero.length<zero.length:=Nat.mod_lt _ h0
 simp only [zzG,List.getElem?_eq_getElem cM,Option.getD_some]
 exact CF h (List.getElem_mem cM)
theorem Wf (aR:cC P Γ) {T':bA} (aK:∀ l B,T' l=some B->T l=some B) (hT:aC w0 M V T w) {lab:Nat} {t ty el:TypeId} {te:TI} (ht:P.underlying t=some (.slice el)) (eE:Γ.ty el=some te)
 {x:SV} {u:Value} (hx:den V x=some u) (he:Mg T' te x=some e):oR P w0 M V T lab e (Builtin.clear_ #[t] ty #[u]) w:=by
 unfold Mg at he
 split at he
 .simp only [zzI] at he
  subst he
  simp only [den,zzI] at hx
  subst hx
  exact pR ⟨.tuple #[],by simp [Builtin.clear_,run_underlying ht],by simp [den,aG],rfl,rfl⟩ hT
 .split at he
  case h_2=>cases he
  rename_i l off len hs hz
  split at he
  case h_2=>cases he
  rename_i B hB
  split at he
  case h_2=>cases he
  rename_i B' hw
  simp only [zzI] at he
  subst he
  simp only [zzn] at hz
  have h0:0<te.zero.length:=by simpa [Nat.blt_eq] using hz.1
  obtain ⟨_,i,z,hi,cF,_,FL,hzero⟩:=aR el te eE
  obtain ⟨p,c,hβ,rfl⟩:=Eo hs hx
  have hd:=Im (V:=V) (hzero V) h0 len
  have h1:=oF (Ql hz.2 h0 len) hd
  obtain ⟨w',hr,oZ⟩:=Kl (P:=P) lab (.eP []) hT (aK l B hB) (b:=p.1) (o:=p.2) hβ hw (by simp) hd h1
  cases len with
  | zero=>
    refine ⟨V,.tuple #[],w,?_,V.cP lab,by simp [den,aG],?_⟩
    .simp [Builtin.clear_,run_underlying ht]
    .have:w'=w:=by
      have e0:((Array.range (0*z.cells.size)).map fun j=>z.cells[j%z.cells.size]!).toList=[]:=by simp
      rw [e0] at hr
      simp only [storeCells,Sem.run_pure,Result.ok.injEq,true_and] at hr
      exact hr.symm
     rw [<- this];exact oZ
  | succ n=>
    refine ⟨V,.tuple #[],w',?_,V.cP lab,by simp [den,aG],oZ⟩
    have Be:(Builtin.zeroCells z.cells (n+1)).toList=((Array.range ((n+1)*z.cells.size)).map fun j=>z.cells[j%z.cells.size]!).toList:=rfl
    rw [<- Be] at hr
    simp [Builtin.clear_,run_underlying ht,eJ hi FL,hr]
def evP (Γ:Env) (g:Nat->Option SV):List (Nat × Operand)->Option (List (Nat × SV))
 | []=>some []
 | (i,x)::r=>match ev Γ g x,evP Γ g r with
   | some v,some vs=>some ((i,v)::vs)
   | _,_=>none
theorem Tu (ht:cG V g a) (hg:bO Γ V):∀ {ps:List (Nat × Operand)} {vs:List (Nat × SV)},evP Γ g ps=some vs ->
 (ps.map fun p=>(p.1,a.eval p.2)).map (·.1)=vs.map (·.1)/\aG V (vs.map (·.2))=some ((ps.map fun p=>(p.1,a.eval p.2)).map (·.2))
 | [],vs,h=>by simp only [evP,zzI] at h;subst h;simp [aG]
 | (i,x)::r,vs,h=>by
   simp only [evP] at h
   split at h
   .rename_i v us hv pU
    cases h
    obtain ⟨h1,h2⟩:=Tu ht hg pU
    refine ⟨by simp only [List.map_cons,h1],?_⟩
    simp only [List.map_cons,aG,bG ht hg hv,zza,h2,zzm]
   .cases h
def placesOf (Γ:Env):List Field->Option (List (Nat × Nat))
 | []=>some []
 | f::r=>match Γ.ty f.type,placesOf Γ r with
   | some ti,some ps=>some ((f.offset,ti.size)::ps)
   | _,_=>none
theorem Ac (aR:cC P Γ) (w:World):∀ {fs:List Field} {ps:List (Nat × Nat)},placesOf Γ fs=some ps ->
 (fs.mapM (m:=Sem) fun f=>do pure (f.offset,<- sizeOf f.type)).run P w = .ok ps w
 | [],ps,h=>by simp only [placesOf,zzI] at h;subst h;simp
 | f::r,ps,h=>by
   simp only [placesOf] at h
   split at h
   .rename_i ti qs dX hqs
    cases h
    obtain ⟨_,i,z,hi,cF,_⟩:=aR _ _ dX
    have ih:=Ac aR w hqs
    simp only [List.mapM_cons,Sem.run_bind,run_sizeOf hi,Result.andThen_ok,Sem.run_pure,ih,cF]
   .cases h
def zX (a b:IntKind):Bool:=decide (a=b)
def cI (k:IntKind) (n:Nat) (xs:List Int):List SV:=(List.range n).map fun j=>.int false k (xs.getD j 0)
theorem xK {V:aZ} {k:IntKind} {n:Nat} {xs:List Int} (h:xs.length=n):aG V (cI k n xs)=some (xs.map (Value.int k)):=by
 unfold cI
 rw [gD (V:=V) n (fun j=>.int false k (xs.getD j 0)) (fun j=>.int k (xs.getD j 0)) (fun j _=>rfl)]
 congr 1
 apply List.ext_getElem
 .simp [h]
 .intro i h1 h2
  have h3:i<xs.length:=by simpa using h2
  simp [zzG,h3]
def Kf (place:Nat->Option (Nat × Nat)):List (Nat × SV)->List Prop × List (Nat × SV)
 | []=>([],[])
 | (i,v)::r=>match Kf place r with
   | (ob,r')=>match v,place i with
     | .ai k xs,some (_,n)=>((xs.length=n)::ob,(i,.agg (cI k n xs))::r')
     | v,_=>(ob,(i,v)::r')
theorem Bv {place:Nat->Option (Nat × Nat)}:∀ {l r:List (Nat × SV)} {ob:List Prop},Kf place l=(ob,r)->(∀ q∈ob,q)->r.map (·.1)=l.map (·.1)/\aG V (r.map (·.2))=aG V (l.map (·.2))
 | [],r,ob,h,ho=>by simp only [Kf,Prod.mk.injEq] at h;obtain ⟨_,rfl⟩:=h;exact ⟨rfl,rfl⟩
 | (i,v)::l,r,ob,h,ho=>by
   simp only [Kf] at h
   obtain ⟨ob1,r1,h1⟩:∃ ob1 r1,Kf place l=(ob1,r1):=⟨_,_,rfl⟩
   rw [h1] at h
   simp only at h
   have plain:(ob1,(i,v)::r1)=(ob,r)->r.map (·.1)=((i,v)::l).map (·.1)/\aG V (r.map (·.2))=aG V (((i,v)::l).map (·.2)):=by
    intro h
    simp only [Prod.mk.injEq] at h
    obtain ⟨rfl,rfl⟩:=h
    obtain ⟨e1,e2⟩:=Bv h1 ho
    exact ⟨by simp [e1],by simp only [List.map_cons,aG,e2]⟩
   split at h
   .rename_i k xs _ n _
    simp only [Prod.mk.injEq] at h
    obtain ⟨rfl,rfl⟩:=h
    obtain ⟨e1,e2⟩:=Bv h1 (fun q hq=>ho q (zzO _ hq))
    have hn:xs.length=n:=ho _ zzC
    exact ⟨by simp [e1],by simp only [List.map_cons,aG,den,e2,xK hn,zzm]⟩
   .exact plain h
def Uj (Γ:Env) (g:Nat->Option SV) (T:bA) (t:TypeId) (parts:Array (Nat × Operand)):Option bL:=
 match Γ.ty t,evP Γ g parts.toList with
 | some ti,some vs=>match ti.desc with
   | .struct fs=>match placesOf Γ fs.toList with
     | some ps=>match Kf (fun i=>ps[i]?) vs with
       | (ob,vs)=>(Du T (fun i=>ps[i]?) ti.zero vs).map fun r=>{ bK:=ob,val:=.agg r }
     | none=>none
   | .array _ el=>match Γ.ty el with
     | some te=>match Kf (fun i=>some (i*te.size,te.size)) vs with
       | (ob,vs)=>(Du T (fun i=>some (i*te.size,te.size)) ti.zero vs).map fun r=>{ bK:=ob,val:=.agg r }
     | none=>none
   | _=>none
 | _,_=>none
theorem EB (aR:cC P Γ) (ht:cG V g a) (hg:bO Γ V) {T':bA} (aK:∀ l B,T' l=some B->T l=some B) (hT:aC w0 M V T w) {t:TypeId} {parts:Array (Nat × Operand)} (bY:o.op = .build t parts) (he:Uj Γ g T' t parts=some e) (ho:∀ q∈e.bK,q) (lab:Nat):kR P w0 M V T lab e o a w:=by
 unfold Uj at he
 split at he
 case h_2=>cases he
 rename_i ti vs dX hvs
 obtain ⟨hu,i,z,hi,cF,_,hz,hzero⟩:=aR t ti dX
 obtain ⟨h1,h2⟩:=Tu ht hg hvs
 have Rq:(parts.map fun (p:Nat × Operand)=>(p.1,a.eval p.2)).toList=parts.toList.map fun p=>(p.1,a.eval p.2):=by simp
 split at he
 .rename_i fs hd
  rw [hd] at hu
  split at he
  case h_2=>cases he
  rename_i ps VF
  obtain ⟨ob,Ml,hex⟩:∃ ob Ml,Kf (fun i=>ps[i]?) vs=(ob,Ml):=⟨_,_,rfl⟩
  rw [hex] at he
  simp only [zzM] at he
  obtain ⟨r,hr,rfl⟩:=he
  obtain ⟨e1,e2⟩:=Bv (V:=V) hex ho
  obtain ⟨rs,AM,hdr⟩:=xM (V:=V) aK hT hr (hzero V) (h1.trans e1.symm) (e2.trans h2)
  refine bD (x:=.agg rs) ?_ (by simp [den,hdr]) rfl rfl hT
  have hm:(fs.mapM (m:=Sem) fun f=>do pure (f.offset,<- sizeOf f.type)).run P w = .ok ps.toArray w:=by
   rw [Array.mapM_eq_mapM_toList]
   simp only [map_eq_pure_bind,Sem.run_bind,Ac aR w VF,Result.andThen_ok,Sem.run_pure]
  have Sj:Instr.fill (fun i=>ps.toArray[i]?) z.cells (parts.toList.map fun p=>(p.1,a.eval p.2))=some rs:=by
   simpa using AM
  unfold execOp
  simp only [bY,Instr.build,Sem.run_bind,eJ hi hz,Result.andThen_ok,run_underlying hu w,hm,Rq,Sj,Sem.run_pure]
 .rename_i n el hd
  rw [hd] at hu
  split at he
  case h_2=>cases he
  rename_i te eE
  obtain ⟨_,i2,z2,Wv,aWx,_⟩:=aR el te eE
  obtain ⟨ob,Ml,hex⟩:∃ ob Ml,Kf (fun i=>some (i*te.size,te.size)) vs=(ob,Ml):=⟨_,_,rfl⟩
  rw [hex] at he
  simp only [zzM] at he
  obtain ⟨r,hr,rfl⟩:=he
  obtain ⟨e1,e2⟩:=Bv (V:=V) hex ho
  obtain ⟨rs,AM,hdr⟩:=xM (V:=V) aK hT hr (hzero V) (h1.trans e1.symm) (e2.trans h2)
  refine bD (x:=.agg rs) ?_ (by simp [den,hdr]) rfl rfl hT
  have Sj:Instr.fill (fun i=>some (i*te.size,te.size)) z.cells (parts.toList.map fun p=>(p.1,a.eval p.2))=some rs:=by
   simpa using AM
  unfold execOp
  simp only [bY,Instr.build,Sem.run_bind,eJ hi hz,Result.andThen_ok,run_underlying hu w,run_sizeOf Wv,aWx,Rq,Sj,Sem.run_pure]
 .cases he
def sK (Γ:Env) (g:Nat->Option SV) (T:bA) (t:TypeId) (len:Nat) (parts:Array (Nat × Operand)) (lab:Nat):Option bL:=
 match Γ.ty t,evP Γ g parts.toList with
 | some ti,some vs=>match ti.desc with
   | .slice el=>match Γ.ty el with
     | some te=>match Nat.blt 0 te.size&&Nat.beq te.zero.length te.size&&Nat.ble (len*te.size) 16777216 with
       | true=>(Du T (fun i=>some (i*te.size,te.size)) (yL te.zero len) vs).map fun r=>{ val:=.aJ lab true 0 len len,new:=[.own r el] }
       | false=>none
     | none=>none
   | _=>none
 | _,_=>none
theorem Fy (aR:cC P Γ) (ht:cG V g a) (hg:bO Γ V) {T':bA} (aK:∀ l B,T' l=some B->T l=some B) (hT:aC w0 M V T w) {t:TypeId} {len:Nat} {parts:Array (Nat × Operand)} (bY:o.op = .buildSlice t len parts) {lab:Nat} (hf:V.fresh lab)
 (he:sK Γ g T' t len parts lab=some e):kR P w0 M V T lab e o a w:=by
 unfold sK at he
 split at he
 case h_2=>cases he
 rename_i ti vs dX hvs
 obtain ⟨hu,_⟩:=aR t ti dX
 obtain ⟨h1,h2⟩:=Tu ht hg hvs
 have Rq:(parts.map fun (p:Nat × Operand)=>(p.1,a.eval p.2)).toList=parts.toList.map fun p=>(p.1,a.eval p.2):=by simp
 split at he
 case h_2=>cases he
 rename_i el hd
 rw [hd] at hu
 split at he
 case h_2=>cases he
 rename_i te eE
 obtain ⟨_,i,z,hi,cF,_,hz,hzero⟩:=aR el te eE
 split at he
 case h_2=>cases he
 rename_i hc
 simp only [zzn] at hc
 have FW:0<te.size:=by simpa [Nat.blt_eq] using hc.1.1
 have vH:=zzN hc.1.2
 have hc3:=zzL hc.2
 have rJ:z.cells.size=te.size:=by
  have h1:=bC (hzero V)
  rw [<- vH,<- h1];simp
 simp only [zzM] at he
 obtain ⟨r,hr,rfl⟩:=he
 have bCo:=Im (V:=V) (hzero V) (by omega) len
 obtain ⟨rs,AM,hdr⟩:=xM (V:=V) (T':=T') aK hT hr bCo h1 h2
 intro K Q hK
 unfold Oper.wp
 have Sj:Instr.fill (fun i=>some (i*te.size,te.size)) ((Array.range (len*te.size)).map (z.cells[· % z.cells.size]!)) (parts.toList.map fun p=>(p.1,a.eval p.2))=some rs:=by
  rw [<- AM,rJ]
 have dS:(execOp a.eval o).run P w = .ok (.value (.slice (some ⟨w.heap.size,0,none⟩) len len)) (w.alloc (.cells rs el)):=by
  unfold execOp
  have Gs:¬ (len*te.size>2^24):=by omega
  by_cases h0:len*te.size=0
  .have hlen:len=0:=by
    rcases Nat.mul_eq_zero.1 h0 with h | h
    .exact h
    .omega
   subst hlen
   have hr0:Array.range (0*te.size) = #[]:=by rw [Nat.zero_mul];rfl
   rw [hr0,Array.map_empty] at Sj
   simp only [bY,Instr.buildSlice,Sem.run_bind,run_underlying hu w,Result.andThen_ok,run_sizeOf hi,cF,if_neg Gs,if_pos h0,Sem.run_pure,hr0,Array.map_empty,Rq,Sj]
   simp [newRow]
  .simp only [bY,Instr.buildSlice,Sem.run_bind,run_underlying hu w,Result.andThen_ok,run_sizeOf hi,cF,if_neg Gs,if_neg h0,eJ hi hz,Sem.run_pure,Rq,Sj]
   simp [newRow]
 rw [dS,Oper.upon_value]
 have:=hT.alloc hf (B:=.own r el) (cs:=rs.toList) (.inl rfl) hdr (.aJ lab true 0 len len) []
 exact hK (V.put lab (w.heap.size,0)) _ _ (aZ.kG hf lab (zzr _) (by omega) _) (by simp [den,aZ.put]) this
def aJw (Γ:Env) (g:Nat->Option SV) (t:TypeId) (x:Operand):Option bL:=
 match Γ.ty t,ev Γ g x with
 | some ti,some v=>match ti.desc,Nx v with
   | .array n _,some (l,off,len)=>match Nat.ble n len with
     | true=>some { val:=.ptr l true off }
     | false=>none
   | .array n _,none=>match v with
     | .aJ l false off len _=>some { bK:=[n<=len],val:=.ptr l false off }
     | .eH l len=>match Nat.blt 0 n with
       | true=>some { bK:=[n<=len],val:=.jQ l 0 }
       | false=>none
     | _=>none
   | _,_=>none
 | _,_=>none
theorem aFl (aR:cC P Γ) (ht:cG V g a) (hg:bO Γ V) (hT:aC w0 M V T w) {t:TypeId} {x:Operand} (bY:o.op = .sliceToArrayPointer t x) (he:aJw Γ g t x=some e) (ho:∀ q∈e.bK,q) (lab:Nat):kR P w0 M V T lab e o a w:=by
 unfold aJw at he
 split at he
 case h_2=>cases he
 rename_i ti v dX hv
 split at he
 case h_3=>cases he
 case h_2=>
  rename_i n el hd hs
  split at he
  case h_3=>cases he
  case h_2=>
   rename_i l len
   split at he
   case h_2=>cases he
   rename_i Gd
   have Gd:0<n:=by simpa [Nat.blt_eq] using Gd
   simp only [zzI] at he
   subst he
   have hle:n<=len:=ho _ zzC
   obtain ⟨hu,_⟩:=aR t ti dX
   rw [hd] at hu
   have hx:=bG ht hg hv
   simp only [den,zzB] at hx
   obtain ⟨y,hσ,hx⟩:=hx
   obtain ⟨hx,hy⟩:=dB hx
   rcases hy with ⟨_,h0⟩ | ⟨b,base,c,rfl,_⟩
   .omega
   refine bD (x:=.pointer (some ⟨b,base,none⟩)) ?_ (by simp [den,hσ,Addr.add]) rfl rfl hT
   unfold execOp
   have Gs:¬ len<n:=by omega
   simp only [bY,hx,Instr.arrayAt,Sem.run_bind,run_underlying hu w,Result.andThen_ok,if_neg Gs,Sem.run_pure]
  rename_i l off len cap
  simp only [zzI] at he
  subst he
  have hle:n<=len:=ho _ zzC
  obtain ⟨hu,_⟩:=aR t ti dX
  rw [hd] at hu
  have hx:=bG ht hg hv
  simp only [den,zzM] at hx
  obtain ⟨p,hβ,hx⟩:=hx
  refine bD (x:=.pointer (some ⟨p.1,p.2+off,none⟩)) ?_ (by simp [den,hβ]) rfl rfl hT
  unfold execOp
  have Gs:¬ len<n:=by omega
  simp only [bY,<- hx,Instr.arrayAt,Sem.run_bind,run_underlying hu w,Result.andThen_ok,if_neg Gs,Sem.run_pure]
 rename_i n el l off len hd hs
 split at he
 case h_2=>cases he
 rename_i hle
 have hle:=zzL hle
 simp only [zzI] at he
 subst he
 obtain ⟨hu,_⟩:=aR t ti dX
 rw [hd] at hu
 obtain ⟨p,c,hβ,hx⟩:=Eo hs (bG ht hg hv)
 refine bD (x:=.pointer (some ⟨p.1,p.2+off,none⟩)) ?_ (by simp [den,hβ]) rfl rfl hT
 unfold execOp
 have Gs:¬ len<n:=by omega
 simp only [bY,hx,Instr.arrayAt,Sem.run_bind,run_underlying hu w,Result.andThen_ok,if_neg Gs,Sem.run_pure]
def zOf:SV->Option (SV × Value)
 | .int _ k z=>some (.int true k z,.int k z)
 | .raw (.slice none 0 0)=>some (.raw (.slice none 0 0),.slice none 0 0)
 | _=>none
theorem aKn {v s:SV} {x:Value} (h:zOf v=some (s,x)) (V:aZ):den V v=some x/\den V s=some x/\x.oneCell'=true:=by
 unfold zOf at h
 split at h
 .cases h;exact ⟨rfl,rfl,rfl⟩
 .cases h;exact ⟨rfl,rfl,rfl⟩
 .cases h
def Fe (d:TypeDesc) (te:TI) (el:TypeId) (lab:Nat) (x y:SV):Option bL:=
 match d,x,y with
 | .int _,.raw (.slice none 0 0),.int sn _ n=>match tM sn (0<n/\n*te.bytes<=140737488355328/\n<=9223372036854775807),te.zero,Nat.beq te.size 1 with
   | some ob,[z],true=>match zOf z with
     | some (s,_)=>some { bK:=ob,val:=.cQ lab 0 n.toNat 0,new:=[.row 1 (List.replicate n.toNat s) el] }
     | none=>none
   | _,_,_=>none
 | _,_,_=>none
theorem iX (v:Value) (n:Nat):Builtin.zeroCells #[v] n=(List.replicate n v).toArray:=by
 apply Array.ext
 .simp [Builtin.zeroCells]
 .intro i h1 h2
  simp [Builtin.zeroCells,Nat.mod_one]
theorem qX (w:World) {t t2 ty el:TypeId} {ik:IntKind} {i:TypeInfo} {z:Value} (ht:P.underlying t=some (.slice el)) (Ro:P.underlying t2=some (.int ik)) (hi:P.info? el=some i) (hz:i.zero=some z) (gR:i.size=1) (k0:IntKind) (n:Nat)
 (h0:0<n) (h63:(n:Int)<=9223372036854775807) (hb:n*i.bytes<=140737488355328) :
 (Builtin.append_ #[t,t2] ty #[.slice none 0 0,.int k0 n]).run P w = .ok (.slice (some ⟨w.heap.size,0,none⟩) n (grownCap w n 0 el))
  (w.drew.alloc (.cells (Builtin.zeroCells z.cells n++Builtin.zeroCells z.cells (grownCap w n 0 el-n)) el)):=by
 have hw:IntKind.i64.wrap (n:Int)=n:=IntWalk.i64_in _ (by omega)
 have hn:n≠0:=by omega
 have aJh:¬ (9223372036854775807<(n:Int)):=by omega
 have h1:¬ ((n:Int)<0):=by omega
 have h2:¬ (281474976710656<(n:Int)*(i.bytes:Int)):=by
  have:((n*i.bytes:Nat):Int)<=140737488355328:=by omega
  rw [Int.natCast_mul] at this
  omega
 have aJi:¬ (281474976710656<Builtin.nextslicecap n 0*i.bytes):=by rw [nextslicecap_zero h0];omega
 simp [Builtin.append_,run_underlying ht,run_underlying Ro,sizeOf,typeInfo,zeroValue,hi,hz,gR,asInt,asIntOf,hw,h1,h2,hn,aJh,aJi,Question.forced,newRow,grownCap,Builtin.firstCells]
theorem Qw (aR:cC P Γ) (hT:aC w0 M V T w) {lab:Nat} (hf:V.fresh lab) {t t2 ty el:TypeId} {d:TypeDesc} {te:TI} (ht:P.underlying t=some (.slice el)) (Ro:P.underlying t2=some d) (eE:Γ.ty el=some te)
 {x y:SV} {u v:Value} (hx:den V x=some u) (hy:den V y=some v) (he:Fe d te el lab x y=some e) (ho:∀ q∈e.bK,q):oR P w0 M V T lab e (Builtin.append_ #[t,t2] ty #[u,v]) w:=by
 unfold Fe at he
 split at he
 case h_2=>cases he
 rename_i ik sn kk n
 split at he
 case h_2=>cases he
 rename_i ob z0 hc UA hs
 split at he
 case h_2=>cases he
 rename_i s x0 hzo
 have hs:=zzN hs
 simp only [zzI] at he
 subst he
 obtain ⟨h1,h2,h3⟩:=iG hc ho
 simp only [den,zzI] at hx hy
 subst hx hy
 obtain ⟨_,i,zv,hi,cF,jT,hz,hzero⟩:=aR el te eE
 obtain ⟨m,rfl⟩:=zzT (Int.le_of_lt h1)
 have hm:0<m:=by omega
 obtain ⟨zo1,zo2,zo3⟩:=aKn hzo V
 have Be:zv.cells = #[x0]:=by
  have:=hzero V
  rw [UA] at this
  simp only [aG,zo1,zza,zzm,zzI] at this
  apply Array.ext'
  exact this.symm
 have hb:m*i.bytes<=140737488355328:=by
  rw [jT]
  have:((m*te.bytes:Nat):Int)<=140737488355328:=by rw [Int.natCast_mul];exact h2
  exact Int.ofNat_le.1 this
 have hr:=qX (P:=P) (ty:=ty) w ht Ro hi hz (cF.trans hs) kk m hm h3 hb
 have hgc:=grownCap_ge w m 0 el
 have hgm:grownCap w m 0 el<=maxLen:=grownCap_le_maxLen w m 0 el (by simp only [maxLen];omega)
 have bN:(w.drew.alloc (.cells (Builtin.zeroCells zv.cells m++Builtin.zeroCells zv.cells (grownCap w m 0 el-m)) el)).ownsRow 0 el 1 (.slice (some ⟨w.heap.size,0,none⟩) m (grownCap w m 0 el)) m (List.replicate m x0):=by
  refine ⟨by simp,.inr ⟨w.heap.size,_,_,rfl,Nat.zero_le _,heap_alloc_new w.drew _,hgc,hgm,?_,?_⟩⟩
  .rw [Be];simp [iX];omega
  .rw [Be];simp [iX]
 have rL:w.grownBy (w.drew.alloc (.cells (Builtin.zeroCells zv.cells m++Builtin.zeroCells zv.cells (grownCap w m 0 el-m)) el)) none:=⟨rfl,rfl,rfl,by simp,fun k hk _=>heap_alloc_old w.drew _ hk⟩
 have Gt:aG V (List.replicate m s)=some (List.replicate m x0):=by
  clear hr hgc hgm bN rL hb h1 h2 h3 hm hc ho
  induction m with
  | zero=>rfl
  | succ m ih=>simp [List.replicate_succ,aG,zo2,ih]
 obtain ⟨b,cap,Ra,oZ⟩:=hT.Ca (lab:=lab) hf (lo:=none) (own:=none) Gt bN (by simp) rL (.inr rfl) (fun _=>rfl) (fun l hl=>(by cases hl)) (.cQ lab 0 m 0) ob
 refine ⟨_,_,_,hr,aZ.rZ hf lab (zzr _) (by omega) _ _,?_,oZ⟩
 simp [den,aZ.Gp,aZ.put,aZ.aX,oD,Ra]
def HH (Γ:Env) (d:TypeDesc):Option IntKind:=match d with
 | .array _ el=>match Γ.ty el with
   | some te=>match te.desc,Nat.beq te.size 1 with
     | .int k,true=>some k
     | _,_=>none
   | none=>none
 | _=>none
def Uc (Γ:Env) (g:Nat->Option SV) (T:bA) (t:TypeId) (x:Operand):Option bL:=
 match ev Γ g x,Γ.ty t with
 | some (.ptr l s off),some ti=>match HH Γ ti.desc,T l with
   | some _,some (.ints k xs _)=>match s&&Nat.beq off 0 with
     | true=>some (dY (.ai k xs) [xs.length=ti.size])
     | false=>some (dY (.ai k ((xs.drop off).take ti.size)) [off+ti.size<=xs.length])
   | some _,some (.nZ k xs)=>some (dY (.ai k ((xs.drop off).take ti.size)) [off+ti.size<=xs.length])
   | _,_=>none
 | _,_=>none
theorem qV (xs:List Int) (off n:Nat) (h:off+n<=xs.length) (k:IntKind):(List.range n).map (fun j=>Value.int k (xs.getD (off+j) 0))=((xs.drop off).take n).map (Value.int k):=by
 apply List.ext_getElem
 .simp;omega
 .intro i h1 h2
  simp only [List.length_map,List.length_range] at h1
  have h3:off+i<xs.length:=by omega
  simp [zzG,h3]
theorem DU (aR:cC P Γ) (ht:cG V g a) (hg:bO Γ V) {T':bA} (aK:∀ l B,T' l=some B->T l=some B) (hT:aC w0 M V T w) {t:TypeId} {x:Operand} (bY:o.op = .load t x)
 (he:Uc Γ g T' t x=some e) (ho:∀ q∈e.bK,q) (lab:Nat):kR P w0 M V T lab e o a w:=by
 unfold Uc at he
 split at he
 case h_2=>cases he
 rename_i l s off ti hx dX
 have ex:=bG ht hg hx
 simp only [den,zzM] at ex
 obtain ⟨⟨b,base⟩,hβ,ex⟩:=ex
 obtain ⟨hu,i,z,hi,gR,_⟩:=aR t ti dX
 have main:∀ (B:SB) (k:IntKind) (xs ys:List Int),(B = .ints k xs (match B with | .ints _ _ ty=>ty | _=>0)\/B = .nZ k xs)->T' l=some B->tN ti.desc=true->off+ti.size<=xs.length->ys=(xs.drop off).take ti.size->e.val = .ai k ys->e.new=[]->e.wr=[]->kR P w0 M V T lab e o a w:=by
  intro B k xs ys hBk hB gX hle rK h1 h2 h3
  have hr:Wo B false off ti.size=some ([off+ti.size<=xs.length],(List.range ti.size).map fun j=>.int false k (xs.getD (off+j) 0)):=by
   rcases hBk with q | q <;> rw [q] <;> rfl
  obtain ⟨zs,g1,g2,g3⟩:=qB (hT.ok l B (aK l B hB)) hβ hr (by intro q hq;simp only [List.mem_singleton] at hq;subst hq;exact hle)
  rw [gD (V:=V) ti.size (fun j=>.int false k (xs.getD (off+j) 0)) (fun j=>.int k (xs.getD (off+j) 0)) (fun j _=>rfl),qV xs off ti.size hle k] at g1
  cases g1
  have:=(dL hu hi b (base+off) _ (by rw [g2,gR]) g3).1 gX
  refine bD (x:=.agg (((xs.drop off).take ti.size).map (Value.int k)).toArray) ?_ (by rw [h1,rK];rfl) h2 h3 hT
  unfold execOp
  simp only [bY,<- ex,Instr.loadAt,Instr.sureAddr,Sem.run_bind,Sem.run_pure,Result.andThen_ok,this]
 have gX:∀ k0,HH Γ ti.desc=some k0->tN ti.desc=true:=by
  intro k0 h
  unfold HH at h
  split at h
  .rename_i hd;rw [hd];rfl
  .cases h
 split at he
 .rename_i k0 k xs ty ha hB
  split at he
  .rename_i hs
   simp only [zzn] at hs
   have h0:=zzN hs.2
   subst h0
   simp only [dY,zzI] at he
   subst he
   have hl:xs.length=ti.size:=ho _ (by simp)
   exact main (.ints k xs ty) k xs xs (.inl rfl) hB (gX _ ha) (by omega) (by rw [List.drop_zero,<- hl,List.take_length]) rfl rfl rfl
  .simp only [dY,zzI] at he
   subst he
   exact main (.ints k xs ty) k xs _ (.inl rfl) hB (gX _ ha) (ho _ (by simp)) rfl rfl rfl rfl
 .rename_i k0 k xs ha hB
  simp only [dY,zzI] at he
  subst he
  exact main (.nZ k xs) k xs _ (.inr rfl) hB (gX _ ha) (ho _ (by simp)) rfl rfl rfl rfl
 .cases he
def wrA (B:SB) (s:Bool) (off n:Nat) (k:IntKind) (xs:List Int):Option (List Prop × SB):=
 match B with
 | .ints k2 ys ty=>match zX k k2,s&&Nat.beq off 0 with
   | true,true=>some ([xs.length=n/\ys.length=n],.ints k xs ty)
   | true,false=>some ([xs.length=n/\off+n<=ys.length],.ints k (ys.take off++xs++ys.drop (off+n)) ty)
   | _,_=>none
 | .own cs ty=>match s&&(Nat.beq off 0&&Nat.beq cs.length n) with
   | true=>some ([xs.length=n],.ints k xs ty)
   | false=>match FC (.own cs ty) s off (cI k n xs) with
     | some (ob,B')=>some ((xs.length=n)::ob,B')
     | none=>none
 | B=>match FC B s off (cI k n xs) with
   | some (ob,B')=>some ((xs.length=n)::ob,B')
   | none=>none
def Lr (Γ:Env) (g:Nat->Option SV) (T:bA) (t:TypeId) (x y:Operand):Option bL:=
 match ev Γ g x,ev Γ g y,Γ.ty t with
 | some (.ptr l s off),some (.ai k xs),some ti=>match T l with
   | some B=>match wrA B s off ti.size k xs with
     | some (ob,B')=>some { bK:=ob,val:=.raw undef,wr:=[(l,B')] }
     | none=>none
   | none=>none
 | _,_,_=>none
theorem pO {l:Nat} {ys xs:List Int} {ty:TypeId} {k:IntKind} {off b o:Nat} (lab:Nat) (rv:SV) (ob:List Prop)
 (hT:aC w0 M V T w) (hl:T l=some (.ints k ys ty)) (hβ:V.β l=some (b,o)) (hle:off+xs.length<=ys.length) :
 ∃ w',(storeCells ⟨b,o+off,none⟩ (xs.map (Value.int k))).run P w = .ok () w'/\aC w0 M V (eG T lab { bK:=ob,val:=rv,wr:=[(l,.ints k (ys.take off++xs++ys.drop (off+xs.length)) ty)] }) w':=by
 obtain ⟨cs,hc,b',hb,hh⟩:=hT.ok l _ hl
 rw [hβ] at hb;cases hb
 simp only [SB.cells,zzI] at hc
 subst hc
 refine ⟨_,run_storeCells_at P b (0+off) ty _ 0 _ w hh (by simp;omega) (by intro x hx;simp only [List.mem_map] at hx;obtain ⟨y,_,rfl⟩:=hx;rfl),?_⟩
 have bZ:SB.cells V (.ints k (ys.take off++xs++ys.drop (off+xs.length)) ty)=some ((ys.map (Value.int k)).take off++xs.map (Value.int k)++(ys.map (Value.int k)).drop (off+(xs.map (Value.int k)).length)):=by
  simp [SB.cells,List.map_take,List.map_drop]
 have:=hT.write (B0:=.ints k ys ty) (B:=.ints k (ys.take off++xs++ys.drop (off+xs.length)) ty) hl hβ rfl (by simp [SB.aN,hβ]) hh bZ (.inr (.inl rfl)) lab rv ob
 simpa using this
theorem aKt {l:Nat} {B B':SB} {s:Bool} {off n:Nat} {k:IntKind} {xs:List Int} {ob:List Prop} {b o:Nat} (lab:Nat) (rv:SV)
 (hT:aC w0 M V T w) (hl:T l=some B) (hβ:V.β l=some (b,o)) (h:wrA B s off n k xs=some (ob,B')) (ho:∀ q∈ob,q) :
 xs.length=n/\∃ w',(storeCells ⟨b,o+off,none⟩ (xs.map (Value.int k))).run P w = .ok () w'/\aC w0 M V (eG T lab { bK:=ob,val:=rv,wr:=[(l,B')] }) w':=by
 have rest:∀ ob',(match FC B s off (cI k n xs) with
   | some (ob,B')=>some ((xs.length=n)::ob,B')
   | none=>none)=some (ob',B')->(∀ q∈ob',q)->ob'=ob->xs.length=n/\∃ w',(storeCells ⟨b,o+off,none⟩ (xs.map (Value.int k))).run P w = .ok () w'/\aC w0 M V (eG T lab { bK:=ob,val:=rv,wr:=[(l,B')] }) w':=by
  intro ob' h lF uA
  split at h
  .rename_i ob2 B2 h2
   cases h
   have hn:xs.length=n:=lF _ zzC
   refine ⟨hn,?_⟩
   obtain ⟨w',h3,h4⟩:=Kl (P:=P) lab rv hT hl hβ h2 (fun q hq=>lF q (zzO _ hq)) (xK hn) (by intro x hx;simp only [List.mem_map] at hx;obtain ⟨y,_,rfl⟩:=hx;rfl)
   exact ⟨w',h3,h4⟩
  .cases h
 cases B with
 | ints k2 ys ty=>
   simp only [wrA] at h
   split at h
   .rename_i hk hs
    cases h
    have hk:k=k2:=zzD hk
    subst hk
    simp only [zzn] at hs
    have h0:=zzN hs.2
    subst h0
    obtain ⟨h1,h2⟩:xs.length=n/\ys.length=n:=ho _ (by simp)
    refine ⟨h1,?_⟩
    obtain ⟨w',h3,h4⟩:=pO (P:=P) (xs:=xs) (off:=0) lab rv [xs.length=n/\ys.length=n] hT hl hβ (by omega)
    refine ⟨w',h3,?_⟩
    have e:ys.take 0++xs++ys.drop (0+xs.length)=xs:=by
     rw [Nat.zero_add,h1,<- h2,List.drop_length];simp
    rw [e] at h4
    exact h4
   .rename_i hk hs
    cases h
    have hk:k=k2:=zzD hk
    subst hk
    obtain ⟨h1,h2⟩:xs.length=n/\off+n<=ys.length:=ho _ (by simp)
    refine ⟨h1,?_⟩
    subst h1
    exact pO (P:=P) lab rv _ hT hl hβ h2
   .cases h
 | own cells ty=>
   simp only [wrA] at h
   split at h
   .rename_i hs
    cases h
    simp only [zzn] at hs
    have h0:=zzN hs.2.1
    have qS:=zzN hs.2.2
    subst h0
    have h1:xs.length=n:=ho _ (by simp)
    refine ⟨h1,?_⟩
    obtain ⟨cs,hc,b',hb,hh⟩:=hT.ok l _ hl
    rw [hβ] at hb;cases hb
    have mK:=bC (show aG V cells=some cs from hc)
    refine ⟨_,run_storeCells_at P b (0+0) ty _ 0 _ w hh (by simp;omega) (by intro x hx;simp only [List.mem_map] at hx;obtain ⟨y,_,rfl⟩:=hx;rfl),?_⟩
    have e:cs.take 0++xs.map (Value.int k)++cs.drop (0+(xs.map (Value.int k)).length)=xs.map (Value.int k):=by
     simp;omega
    have:=hT.write (B0:=.own cells ty) (B:=.ints k xs ty) hl hβ rfl (by simp [SB.aN,hβ]) hh rfl (.inr (.inl rfl)) lab rv [xs.length=n]
    rw [<- e] at this
    simpa using this
   .exact rest ob h ho rfl
 | row sz cells ty=>exact rest ob h ho rfl
 | fS cells=>exact rest ob h ho rfl
 | nZ k xs=>exact rest ob h ho rfl
 | cS k xs ty=>exact rest ob h ho rfl
 | fX sz n ty=>exact rest ob h ho rfl
 | eK vs ty=>exact rest ob h ho rfl
 | gL k xs=>exact rest ob h ho rfl
 | jB pre k ds ty=>exact rest ob h ho rfl
 | mI ds=>exact rest ob h ho rfl
 | nU d=>exact rest ob h ho rfl
 | fM ds ty=>exact rest ob h ho rfl
 | eQ xs ty=>exact rest ob h ho rfl
 | rI xs=>exact rest ob h ho rfl
 | gU ds z=>exact rest ob h ho rfl
 | gone=>exact rest ob h ho rfl
theorem Vo (aR:cC P Γ) (ht:cG V g a) (hg:bO Γ V) {T':bA} (aK:∀ l B,T' l=some B->T l=some B) (hT:aC w0 M V T w) {t:TypeId} {x y:Operand} (bY:o.op = .store t x y)
 (he:Lr Γ g T' t x y=some e) (ho:∀ q∈e.bK,q) (lab:Nat):kR P w0 M V T lab e o a w:=by
 unfold Lr at he
 split at he
 case h_2=>cases he
 rename_i l s off k xs ti hx hy dX
 split at he
 case h_2=>cases he
 rename_i B hB
 split at he
 case h_2=>cases he
 rename_i ob B' hw
 simp only [zzI] at he
 subst he
 have ex:=bG ht hg hx
 simp only [den,zzM] at ex
 obtain ⟨⟨b,base⟩,hβ,ex⟩:=ex
 have ey:=bG ht hg hy
 simp only [den,zzI] at ey
 obtain ⟨hu,i,z,hi,gR,_⟩:=aR t ti dX
 obtain ⟨hn,w',h1,h2⟩:=aKt (P:=P) lab (.raw undef) hT (aK l B hB) hβ hw ho
 intro K Q hK
 unfold Oper.wp
 have hl:(a.eval y).cells.size=i.size:=by rw [<- ey,gR,<- hn];simp [Value.cells]
 have qS:(a.eval y).cells.toList=xs.map (Value.int k):=by rw [<- ey];simp [Value.cells]
 have dS:(execOp a.eval o).run P w = .ok .skip w':=by
  unfold execOp
  simp [bY,<- ex,Instr.storeAt,Instr.sureAddr,storeVar,run_sizeOf hi,hl,qS,h1]
 rw [dS,Oper.upon_skip]
 exact hK V undef w' (V.cP lab) rfl h2
def Lp (Γ:Env) (g:Nat->Option SV) (T:bA) (t:TypeId) (x y:Operand):Option bL:=
 match ev Γ g x,ev Γ g y,Γ.ty t with
 | some (.ptr l true off),some (.buf l2),some ti=>match T l,YA T l2,Nat.beq ti.size 1 with
   | some (.own cs ty),true,true=>match Nat.blt off cs.length with
     | true=>some { val:=.raw undef,wr:=[(l,.own (cs.take off++[.buf l2]++cs.drop (off+1)) ty)] }
     | false=>none
   | _,_,_=>none
 | _,_,_=>none
theorem Vm (aR:cC P Γ) (ht:cG V g a) (hg:bO Γ V) {T':bA} (aK:∀ l B,T' l=some B->T l=some B) (hT:aC w0 M V T w) {t:TypeId} {x y:Operand} (bY:o.op = .store t x y)
 (he:Lp Γ g T' t x y=some e) (lab:Nat):kR P w0 M V T lab e o a w:=by
 unfold Lp at he
 split at he
 case h_2=>cases he
 rename_i l off l2 ti hx hy dX
 split at he
 case h_2=>cases he
 rename_i cells ty hB bDn gR
 split at he
 case h_2=>cases he
 rename_i cM
 have cM:off<cells.length:=by simpa [Nat.blt_eq] using cM
 simp only [zzI] at he
 subst he
 have ex:=bG ht hg hx
 simp only [den,zzM] at ex
 obtain ⟨⟨b,base⟩,hβ,ex⟩:=ex
 have ey:=bG ht hg hy
 obtain ⟨hu,i,z,hi,cF,_⟩:=aR t ti dX
 obtain ⟨h1,h2⟩:=Zw aK hT bDn ey
 obtain ⟨cs,hc,b',hb,hh⟩:=hT.ok l _ (aK l _ hB)
 rw [hβ] at hb;cases hb
 have hlen:=bC (show aG V cells=some cs from hc)
 have bZ:aG V (cells.take off++[SV.buf l2]++cells.drop (off+1))=some (cs.take off++[a.eval y]++cs.drop (off+[a.eval y].length)):=
  cH (cH (eO off hc) (by simp only [aG,ey,zza,zzm])) (jL _ hc)
 obtain ⟨w',h3,h4⟩:∃ w',(storeCells ⟨b,0+off,none⟩ [a.eval y]).run P w = .ok () w'/\aC w0 M V (eG T lab { val:=.raw undef,wr:=[(l,.own (cells.take off++[SV.buf l2]++cells.drop (off+1)) ty)] }) w':=by
  refine ⟨_,run_storeCells_at P b (0+off) ty [a.eval y] 0 cs.toArray w hh (by simp;omega) (fun q hq=>by simp only [List.mem_singleton] at hq;subst hq;exact h1),?_⟩
  have:=hT.write (B0:=.own cells ty) (B:=.own (cells.take off++[SV.buf l2]++cells.drop (off+1)) ty) (aK l _ hB) hβ rfl (by simp [SB.aN,hβ]) hh bZ (.inl rfl) lab (.raw undef) []
  simpa using this
 intro K Q hK
 unfold Oper.wp
 have aJc:i.size=1:=by rw [cF];exact zzN gR
 have dS:(execOp a.eval o).run P w = .ok .skip w':=by
  unfold execOp
  simp only [Nat.zero_add] at h3
  simp [bY,<- ex,Instr.storeAt,Instr.sureAddr,storeVar,run_sizeOf hi,h2,aJc,h3]
 rw [dS,Oper.upon_skip]
 exact hK V undef w' (V.cP lab) rfl h4
def JZ (Γ:Env) (g:Nat->Option SV) (t:TypeId) (x:Operand) (lab:Nat):Option bL:=
 match ev Γ g x with
 | some (.ai k xs)=>some { val:=.ptr lab true 0,new:=[.ints k xs t] }
 | _=>none
theorem SM (ht:cG V g a) (hg:bO Γ V) (hT:aC w0 M V T w) {t:TypeId} {x:Operand} (bY:o.op = .box t x) {lab:Nat} (hf:V.fresh lab) (he:JZ Γ g t x lab=some e):kR P w0 M V T lab e o a w:=by
 unfold JZ at he
 split at he
 case h_2=>cases he
 rename_i k xs hx
 simp only [zzI] at he
 subst he
 have ex:=bG ht hg hx
 simp only [den,zzI] at ex
 intro K Q hK
 unfold Oper.wp
 have hr:(execOp a.eval o).run P w = .ok (.value (.pointer (some ⟨w.heap.size,0,none⟩))) (w.alloc (.cells (xs.map (Value.int k)).toArray t)):=by
  unfold execOp
  simp [bY,<- ex,Instr.box,newVar,newRow,Value.cells]
 rw [hr,Oper.upon_value]
 have:=hT.alloc hf (B:=.ints k xs t) (.inr (.inl rfl)) rfl (.ptr lab true 0) []
 exact hK _ _ _ (aZ.kG hf lab (zzr _) (by omega) _) (by simp [den,aZ.put]) this
def Mc (Γ:Env) (g:Nat->Option SV) (t:TypeId) (x y:Operand):Option bL:=
 match ev Γ g x,ev Γ g y,Γ.ty t with
 | some (.ai k xs),some (.int _ _ i),some ti=>match ti.desc with
   | .array len el=>match Γ.ty el with
     | some te=>match Nat.beq te.size 1,tN te.desc with
       | true,false=>some (dY (.int false k (xs.getD i.toNat 0)) [0<=i/\i<len/\i.toNat<xs.length])
       | _,_=>none
     | none=>none
   | _=>none
 | _,_,_=>none
theorem Wb (aR:cC P Γ) (ht:cG V g a) (hg:bO Γ V) (hT:aC w0 M V T w) {t:TypeId} {x y:Operand} (bY:o.op = .index t x y) (he:Mc Γ g t x y=some e) (ho:∀ q∈e.bK,q) (lab:Nat):kR P w0 M V T lab e o a w:=by
 unfold Mc at he
 split at he
 case h_2=>cases he
 rename_i k xs s2 k2 i ti hx hy dX
 split at he
 case h_2=>cases he
 rename_i len el hd
 split at he
 case h_2=>cases he
 rename_i te eE
 split at he
 case h_2=>cases he
 rename_i fU gX
 have fU:=zzN fU
 simp only [dY,zzI] at he
 subst he
 obtain ⟨h1,h2,h3⟩:0<=i/\i<len/\i.toNat<xs.length:=ho _ (by simp)
 have ex:=bG ht hg hx
 have ey:=bG ht hg hy
 simp only [den,zzI] at ex ey
 obtain ⟨Gi,ii,z,hi,cF,_⟩:=aR el te eE
 have hu:=(aR t ti dX).1
 rw [hd] at hu
 refine bD (x:=.int k (xs.getD i.toNat 0)) ?_ rfl rfl rfl hT
 have hy':(xs.map (Value.int k)).toArray[i.toNat*te.size]?=some (.int k (xs.getD i.toNat 0)):=by
  rw [fU,Nat.mul_one];simp [h3,zzG]
 unfold execOp
 simp only [bY,<- ex,<- ey,Instr.index,asIntOf,Sem.run_bind,Sem.run_pure,run_underlying hu w,Result.andThen_ok,if_pos (And.intro h1 h2),part,fA Gi,gX,Bool.false_eq_true,if_false,run_sizeOf hi,cF,hy']
def zS:List SV->Option (IntKind × List Int)
 | .int s k n::r=>(dA k (.int s k n::r)).map fun ns=>(k,ns)
 | _=>none
theorem Ez {V:aZ} {vs:List SV} {k:IntKind} {ns:List Int} (h:zS vs=some (k,ns)):aG V vs=some (ns.map (Value.int k)):=by
 unfold zS at h
 split at h
 .simp only [zzM,Prod.mk.injEq] at h
  obtain ⟨ms,hm,rfl,rfl⟩:=h
  exact cX hm
 .cases h
def cJ:SV->Option (IntKind × List Int)
 | .ai k xs=>some (k,xs)
 | .agg vs=>zS vs
 | _=>none
theorem Jc {v:SV} {k:IntKind} {xs:List Int} (h:cJ v=some (k,xs)):den V v=some (.agg (xs.map (Value.int k)).toArray):=by
 unfold cJ at h
 split at h
 .cases h;rfl
 .simp only [den,Ez h,zzm]
 .cases h
end Ju
section aZa
variable {P:Program} {Γ:Env} {V:aZ} {w w0:World} {M:Nat->Prop} {T:bA} {g:Nat->Option SV} {a:Act} {o:Oper} {e:bL}
theorem Fq {v:Value} {us:List Value} {ty:TypeId} (h:w.ownsRow 0 ty 1 v us.length us):tE w (fun _=>False) v us:=by
 refine ⟨?_,fun n hn=>⟨lO h (eC hn),fun q=>q⟩⟩
 rcases h.2 with ⟨rfl,h0⟩ | ⟨b,cap,cur,rfl,_,hh,hle,_,_,cT⟩
 .exact .inl ⟨.nil,List.eq_nil_of_length_eq_zero h0⟩
 .refine .inr ⟨b,0,cap,rfl,(Array.getElem?_eq_some_iff.1 hh).1,hle,fun j u hj=>?_⟩
  rw [cell_of_row w b _ _ _ _ hh]
  rw [<- cT,List.getElem?_take] at hj
  split at hj
  .simpa using hj
  .cases hj
def vP:SB->Option (List (List Int))
 | .mI ds=>some ds
 | .fM ds _=>some ds
 | .gU ds z=>some (ds++List.replicate z [])
 | _=>none
theorem Fv (l:Nat):∀ (i:Nat) (ds:List (List Int)),(Gf l i ds).length=ds.length
 | _,[]=>rfl
 | i,d::r=>by simp [Gf,Fv l (i+1) r]
theorem Py (l:Nat):∀ (i:Nat) (ds:List (List Int)),mC (Gf l i ds)=true
 | _,[]=>rfl
 | i,d::r=>by
   have:=Py l (i+1) r
   simp only [Gf,mC,List.all_cons,zzn] at this |-
   exact ⟨rfl,this⟩
theorem Yh {v v':Value} {us us':List Value} (h:some (Value.tuple (v::us).toArray)=some (.tuple (v'::us').toArray)):v=v'/\us=us':=by
 have e:=congrArg (fun o:Option Value=>match o with | some (.tuple xs)=>xs.toList | _=>[]) h
 simp only at e
 cases e
 exact ⟨rfl,rfl⟩
theorem LY {w0:World} {M:Nat->Prop} {V:aZ} {l z:Nat} {ds:List (List Int)} (h:lG w0 M V l (.gU ds z)):lG w0 M V l (.mI (ds++List.replicate z [])):=by
 obtain ⟨v,us,h1,h2,h3,h4,h5⟩:=h
 refine ⟨v,us,h1,h2,by simp [h3],fun i u d hu hd=>?_⟩
 by_cases hi:i<ds.length
 .rw [List.getElem?_append_left hi] at hd
  exact h4 i u d hu hd
 .rw [List.getElem?_append_right (by omega),List.getElem?_replicate] at hd
  split at hd
  .cases hd
   have:=h5 i u hu (by omega)
   subst this
   exact ⟨.inl ⟨.nil,rfl⟩,fun n hn=>by cases hn⟩
  .cases hd
theorem Bs (hT:aC w0 M V T w) {l:Nat} {B:SB} {ds:List (List Int)} (hB:T l=some B) (hd:vP B=some ds) :
 ∃ v us,V.σ l=some (.tuple (v::us).toArray)/\us.length=ds.length/\(∀ (i:Nat) (u:Value) (d:List Int),us[i]?=some u->ds[i]?=some d->dM w0 M u d) /\
   ((Nv v/\us=[])\/∃ b o c,v = .slice (some ⟨b,o,none⟩) us.length c/\b<w.heap.size/\us.length<=c/\∀ (j:Nat) (u:Value),us[j]?=some u->w.cell? ⟨b,o+j,none⟩=some u):=by
 have Cj:=hT.tV l B hB
 have lQ:=hT.ok l B hB
 cases B <;> simp only [vP] at hd <;> first | (cases hd;done) | skip
 .cases hd
  obtain ⟨v,us,h1,h2,h3,h4⟩:=Cj
  exact ⟨v,us,h1,h3,h4,(h2.gO (M':=fun _=>False) hT.frame (fun _ h=>h.elim)).1⟩
 .cases hd
  obtain ⟨v,us,h1,h3,h4⟩:=Cj
  obtain ⟨_,_,v',us',Gk,bN⟩:=lQ
  rw [h1] at Gk
  obtain ⟨rfl,rfl⟩:=Yh Gk
  exact ⟨v,us,h1,h3,h4,(Fq bN).1⟩
 .cases hd
  obtain ⟨v,us,h1,h2,h3,h4⟩:=LY Cj
  exact ⟨v,us,h1,h3,h4,(h2.gO (M':=fun _=>False) hT.frame (fun _ h=>h.elim)).1⟩
theorem Fh {l:Nat} {v:Value} {ws:List Value} (hσ:V.σ l=some (.tuple (v::ws).toArray)):∀ {i:Nat} {ds:List (List Int)} {us:List Value},us.length=ds.length->(∀ (j:Nat) (u:Value) (d:List Int),us[j]?=some u->ds[j]?=some d->iP d.length u=some u)->ws.drop i=us->aG V (Gf l i ds)=some us
 | i,[],us,h,_,_=>by
   have:us=[]:=List.eq_nil_of_length_eq_zero (by simpa using h)
   subst this
   rfl
 | i,d::r,us,h,hr,hw=>by
   cases us with
   | nil=>simp at h
   | cons u us=>
     have h0:=hr 0 u d rfl rfl
     have hu:ws[i]?=some u:=by
      have:=congrArg (fun q=>q[0]?) hw
      simpa [List.getElem?_drop] using this
     have hd:ws.drop (i+1)=us:=by
      have:=congrArg (List.drop 1) hw
      simpa [List.drop_drop,Nat.add_comm] using this
     have h2:=Fh hσ (i:=i+1) (ds:=r) (us:=us) (by simpa using h) (fun j x e h1 h2=>hr (j+1) x e (by simpa using h1) (by simpa using h2)) hd
     have h1:den V (.xZ l i d.length)=some u:=by
      simp only [den,hσ,zza,My,List.getElem?_cons_succ,hu,h0]
     simp only [Gf,aG,h1,h2,zza,zzm]
def Ma (Γ:Env) (g:Nat->Option SV) (t:TypeId) (x y:Operand):Option bL:=
 match ev Γ g x,ev Γ g y,Γ.ty t with
 | some (.tZ l n),some (.int _ _ k),some ti=>match ti.desc with
   | .slice el=>match Γ.ty el with
     | some te=>match Nat.beq te.size 1 with
       | true=>some (dY (.EP l k.toNat) [0<=k/\k<n])
       | false=>none
     | none=>none
   | _=>none
 | _,_,_=>none
theorem Vz (aR:cC P Γ) (ht:cG V g a) (hg:bO Γ V) (hT:aC w0 M V T w) {t:TypeId} {x y:Operand} (bY:o.op = .indexAddr t x y) (he:Ma Γ g t x y=some e) (ho:∀ q∈e.bK,q) (lab:Nat):kR P w0 M V T lab e o a w:=by
 unfold Ma at he
 split at he
 case h_2=>cases he
 rename_i l n kk0 kk k ti hx hy dX
 split at he
 case h_2=>cases he
 rename_i el hd
 split at he
 case h_2=>cases he
 rename_i te eE
 split at he
 case h_2=>cases he
 rename_i fU
 have fU:=zzN fU
 simp only [dY,zzI] at he
 subst he
 have hb:0<=k/\k<n:=ho _ (by simp)
 have ex:=bG ht hg hx
 have ey:=bG ht hg hy
 simp only [den,zzB,zzI] at ex ey
 obtain ⟨tv,hσ,ex⟩:=ex
 unfold Ao at ex
 split at ex
 case h_2=>cases ex
 rename_i xs
 simp only [zzB] at ex
 obtain ⟨v,hv,ex⟩:=ex
 obtain ⟨EZ,Ra⟩:=dB ex
 rcases Ra with ⟨_,h0⟩ | ⟨b,base,c,rfl,_⟩
 .omega
 obtain ⟨_,i,z,hi,cF,_⟩:=aR el te eE
 have hu:=(aR t ti dX).1
 rw [hd] at hu
 refine bD (x:=.pointer (some ⟨b,base+k.toNat*te.size,none⟩)) ?_ (by simp [den,hσ,aIl,hv,bH,fU]) rfl rfl hT
 unfold execOp
 simp only [bY,EZ,<- ey,Instr.indexAt,asIntOf,Sem.run_bind,Sem.run_pure,run_underlying hu w,Result.andThen_ok,if_pos hb,run_sizeOf hi,cF,bH]
def Ub (Γ:Env) (g:Nat->Option SV) (T:bA) (t:TypeId) (x:Operand):Option bL:=
 match ev Γ g x,Γ.ty t with
 | some (.EP l i),some ti=>match T l with
   | some B=>match vP B,tN ti.desc,Nat.beq ti.size 1 with
     | some ds,false,true=>some { bK:=[i<ds.length],val:=.xZ l i (ds.getD i []).length }
     | _,_,_=>none
   | none=>none
 | _,_=>none
theorem DT (aR:cC P Γ) (ht:cG V g a) (hg:bO Γ V) {T':bA} (aK:∀ l B,T' l=some B->T l=some B) (hT:aC w0 M V T w) {t:TypeId} {x:Operand} (bY:o.op = .load t x)
 (he:Ub Γ g T' t x=some e) (ho:∀ q∈e.bK,q) (lab:Nat):kR P w0 M V T lab e o a w:=by
 unfold Ub at he
 split at he
 case h_2=>cases he
 rename_i l i ti hx dX
 split at he
 case h_2=>cases he
 rename_i B hB
 split at he
 case h_2=>cases he
 rename_i ds hd gX fU
 cases he
 have fU:=zzN fU
 have cM:i<ds.length:=ho _ (by simp)
 have ex:=bG ht hg hx
 obtain ⟨v,us,hσ,hl,Cj,hv⟩:=Bs hT (aK l B hB) hd
 obtain ⟨hu,ii,z,hi,gR,_⟩:=aR t ti dX
 rcases hv with ⟨_,rfl⟩ | ⟨b,base,c,rfl,_,hc,fI⟩
 .simp at hl;omega
 have hui:i<us.length:=by omega
 have ET:=List.getElem?_eq_getElem hui
 have EW:=List.getElem?_eq_getElem cM
 have FR:=Cj i _ _ ET EW
 simp only [den,hσ,zza,aIl,List.head?_cons,bH,zzI] at ex
 have dS:=(dL (P:=P) hu hi b (base+i) [us[i]] (by rw [gR,fU];rfl) (fun j u hj=>by
  cases j with
  | zero=>simp only [List.getElem?_cons_zero,zzI] at hj;subst hj;exact fI i _ ET
  | succ j=>simp at hj)).2 gX us[i] rfl
 refine bD (x:=us[i]) ?_ ?_ rfl rfl hT
 .unfold execOp
  simp only [bY,<- ex,Instr.loadAt,Instr.sureAddr,Sem.run_bind,Sem.run_pure,Result.andThen_ok,dS]
 .simp only [den,hσ,zza,My,List.getElem?_cons_succ,ET]
  rw [zzG,EW]
  exact FR.1.eH
def KD (T:bA) (te:TI) (el:TypeId) (lab:Nat) (x y:SV):Option bL:=match y with
 | .tZ l m=>match T l with
   | some B=>match vP B,Nat.beq te.size 1&&Nat.beq te.zero.length 1,Ik T el 1 x with
     | some ds,true,some (lo,n,xs)=>match Nat.blt 0 n with
       | true=>some { bK:=[ds.length=m,(n+m)*te.bytes<=140737488355328/\n+m<=9223372036854775807],val:=.cQ lab 0 (n+m) 0,new:=[.jB xs l ds el],wr:=fZ lo }
       | false=>none
     | _,_,_=>none
   | none=>none
 | _=>none
theorem SQ (aR:cC P Γ) {T':bA} (aK:∀ l B,T' l=some B->T l=some B) (hT:aC w0 M V T w) {lab:Nat} (hf:V.fresh lab) {t ty el:TypeId} {te:TI} (ht:P.underlying t=some (.slice el)) (eE:Γ.ty el=some te)
 {x y:SV} {u v:Value} (hx:den V x=some u) (hy:den V y=some v) (he:KD T' te el lab x y=some e) (ho:∀ q∈e.bK,q):oR P w0 M V T lab e (Builtin.append_ #[t,t] ty #[u,v]) w:=by
 unfold KD at he
 split at he
 case h_2=>cases he
 rename_i l m
 split at he
 case h_2=>cases he
 rename_i B hB
 split at he
 case h_2=>cases he
 rename_i ds lo n xs hd iE BG
 split at he
 case h_2=>cases he
 rename_i Gd
 cases he
 simp only [zzn] at iE
 have fU:=zzN iE.1
 have TZ:=zzN iE.2
 have Gd:0<n:=by simpa [Nat.blt_eq] using Gd
 have o1:ds.length=m:=ho _ (by simp)
 have o4:(n+m)*te.bytes<=140737488355328/\n+m<=9223372036854775807:=ho _ (by simp)
 obtain ⟨_,i,z,hi,cF,jT,hz,hzero⟩:=aR el te eE
 have Bh:i.size=1:=cF.trans fU
 have rJ:z.cells.size=i.size:=by
  have h1:=bC (hzero V)
  rw [Bh,<- TZ,<- h1];simp
 obtain ⟨lv,us,hσ,hl,Cj,hv⟩:=Bs hT (aK l B hB) hd
 simp only [den,hσ,zza,Ao,List.head?_cons] at hy
 obtain ⟨rfl,_⟩:=dB hy
 have Rt:aG V (Gf l 0 ds)=some us:=Fh hσ hl (fun j u d hu hd=>(Cj j u d hu hd).1.eH) rfl
 have h1:=oF (Py l 0 ds) Rt
 have hlm:us.length=m:=hl.trans o1
 obtain ⟨cx,hcx,bN,jH,aHo,Js⟩:=Ff (hT.sub aK) hx BG
 have jD:∀ l,lo=some l->∃ B,T l=some B/\B.owned=true/\∀ n,u.ownBlock=some n->B.aN V l=some n:=fun l hl=>by
  obtain ⟨B,h1,h2,h3⟩:=Js l hl;exact ⟨B,aK l B h1,h2,h3⟩
 obtain ⟨v',w',hr,jZ,rL,fE⟩:∃ v' w',(Builtin.append_ #[t,t] ty #[u,v]).run P w = .ok v' w'/\w'.ownsRow 0 el 1 v' (n+m) (cx++us)/\w.grownBy w' u.ownBlock/\(v'.ownBlock=u.ownBlock\/v'.ownBlock=some w.heap.size):=by
  have go:∀ (ad:Addr) (c:Nat),v = .slice (some ad) m c->(∀ (j:Nat) (u:Value),us[j]?=some u->w.cell? (ad.add j)=some u)->∃ v' w',(Builtin.append_ #[t,t] ty #[u,v]).run P w = .ok v' w'/\w'.ownsRow 0 el 1 v' (n+m) (cx++us)/\w.grownBy w' u.ownBlock/\(v'.ownBlock=u.ownBlock\/v'.ownBlock=some w.heap.size):=by
   rintro ad c rfl bZ
   rw [<- Bh] at bN |-
   have sP:us.length=m*i.size:=by rw [Bh,Nat.mul_one];exact hlm
   obtain ⟨v',w',hr,jZ,rL,_⟩:=run_append_own (P:=P) w 0 t ty el i z i.size i.bytes ht hi hz rfl rfl rJ (by omega) u n cx bN ad m c us sP bZ h1 (by simp only [maxLen];omega) (by rw [jT];exact o4.1) (Nat.zero_le _)
   exact ⟨v',w',hr,jZ,rL,lB (P:=P) ht hi hz bN rfl sP bZ h1 (by simp only [maxLen];omega) (by rw [jT];exact o4.1) hr⟩
  rcases hv with ⟨⟨ad,rfl⟩,rfl⟩ | ⟨b,base,c,rfl,_,hc,fI⟩
  .have hm:m=0:=by simpa using hlm.symm
   subst hm
   cases ad with
   | none=>
     rw [<- Bh] at bN
     refine ⟨u,w,run_append_owned_none (P:=P) (w:=w) 0 t ty el i i.size ht hi u n _ bN,by rw [List.append_nil,<- Bh];exact bN,⟨rfl,rfl,rfl,zzr _,fun _ _ _=>rfl⟩,.inl rfl⟩
   | some ad=>exact go ad 0 rfl (fun j u hj=>by simp at hj)
  .exact go _ c (by rw [hlm]) (fun j u hj=>by rw [bH];exact fI j u hj)
 have dG:v' ≠ .slice none 0 0:=by
  intro h
  subst h
  rcases jZ.2 with ⟨_,h4⟩ | ⟨_,_,_,h4,_⟩
  .omega
  .cases h4
 obtain ⟨b2,bHp,Ra,oZ⟩:=hT.Ca (lab:=lab) hf (lo:=lo) (own:=u.ownBlock) (cH hcx Rt) jZ dG rL fE (fun h=>by rw [jH h];rfl) jD (.cQ lab 0 (n+m) 0) [ds.length=m,(n+m)*te.bytes<=140737488355328/\n+m<=9223372036854775807]
 have kM:look lab (fZ lo)=none:=by
  cases XH:lo with
  | none=>rfl
  | some l1=>
    simp only [fZ]
    rw [aD]
    .rfl
    .intro q
     subst q
     obtain ⟨B1,b1,b2,_⟩:=jD l1 XH
     rcases hT.known b1 (by rintro rfl;cases b2) with h3 | h3
     .exact h3 (hf l1 (zzr _) (by omega)).1
     .exact h3 (hf l1 (zzr _) (by omega)).2
 have h4:=oZ.swap (l0:=lab) (B:=.row 1 (xs++Gf l 0 ds) el) (C:=.jB xs l ds el) (by simp only [eG,bL.eI,fT];rw [cD,kM];simp only [aH]) (fun ⟨cs,h1,b,cap,cur,r⟩=>⟨cs,h1,b,cap,cur,r⟩) rfl rfl rfl
 have e4:(fun k=>if k=lab then some (SB.jB xs l ds el) else eG T lab { bK:=[ds.length=m,(n+m)*te.bytes<=140737488355328/\n+m<=9223372036854775807],val:=.cQ lab 0 (n+m) 0,new:=[.row 1 (xs++Gf l 0 ds) el],wr:=fZ lo } k)=eG T lab { bK:=[ds.length=m,(n+m)*te.bytes<=140737488355328/\n+m<=9223372036854775807],val:=.cQ lab 0 (n+m) 0,new:=[.jB xs l ds el],wr:=fZ lo }:=by
  funext k
  simp only [eG,bL.eI,fT]
  rw [cD,cD]
  by_cases e:k=lab
  .subst e;simp only [if_true,kM,aH]
  .rw [aD (fun q=>e q.symm),aD (fun q=>e q.symm),if_neg e]
 rw [e4] at h4
 refine ⟨_,_,_,hr,aZ.rZ hf lab (zzr _) (by omega) _ _,?_,h4⟩
 simp [den,aZ.Gp,aZ.put,aZ.aX,oD,Ra]
def aNu:List SV->Bool
 | .int .. :: _=>true
 | _=>false
def Lx (Γ:Env) (g:Nat->Option SV) (T:bA) (t:TypeId) (x:Operand) (lo hi mx:Option Operand):Option bL:=
 match hi,lo,mx with
 | some y,none,none=>match ev Γ g y with
   | some (.int true _ h)=>match decide (h=0) with
     | true=>match ev Γ g x,Γ.ty t with
       | some (.cQ l 0 _ 0),some ti=>match ti.desc with
         | .slice el=>match Γ.ty el,T l with
           | some _,some (.row sz cs ty)=>match aNu cs with
             | true=>none
             | false=>some { val:=.cQ l 0 0 0,wr:=[(l,.row sz [] ty)] }
           | _,_=>none
         | _=>none
       | _,_=>none
     | false=>none
   | _=>none
 | _,_,_=>none
theorem Vv (aR:cC P Γ) (ht:cG V g a) (hg:bO Γ V) {T':bA} (aK:∀ l B,T' l=some B->T l=some B) (hT:aC w0 M V T w) {t:TypeId} {x:Operand} {lo hi mx:Option Operand} (bY:o.op = .slice t x lo hi mx)
 (he:Lx Γ g T' t x lo hi mx=some e) (lab:Nat):kR P w0 M V T lab e o a w:=by
 unfold Lx at he
 split at he
 case h_2=>cases he
 rename_i y
 split at he
 case h_2=>cases he
 rename_i kk h hy
 split at he
 case h_2=>cases he
 rename_i h0
 have h0:=zzD h0
 subst h0
 split at he
 case h_2=>cases he
 rename_i l len ti hx dX
 split at he
 case h_2=>cases he
 rename_i el hd
 split at he
 case h_2=>cases he
 rename_i te sz cells ty0 eE hB
 split at he
 case h_1=>cases he
 cases he
 have ex:=bG ht hg hx
 have ey:=bG ht hg hy
 simp only [den,zzM,zzB,zzI,Nat.add_zero,Nat.sub_zero] at ex ey
 obtain ⟨⟨b,base⟩,hβ,c,hc,ex⟩:=ex
 have hu:=(aR t ti dX).1
 rw [hd] at hu
 obtain ⟨_,i,z,fW,cF,_⟩:=aR el te eE
 have hr:=eA (P:=P) (w:=w) (a:=a) true len c (lo:=none) (hi:=some y) (mx:=none) (m:=(c:Int)) (h:=0) (k:=((0:Nat):Int)) (.inl ⟨rfl,rfl⟩) (.inr ⟨y,kk,rfl,ey.symm⟩) (.inl ⟨rfl,rfl⟩) rfl ⟨by omega,by omega,by omega,by omega,by omega,by omega⟩
 simp only [Option.map_none,zzm,zzt,Int.toNat_zero] at hr
 have hB:=aK l _ hB
 obtain ⟨xs,mJ,b',cap,cur,r1,r2,r3,r4,r5,r6,r7⟩:=hT.ok l _ hB
 have oZ:=hT.change (B:=.row sz [] ty0) (b:=b') hB rfl (by simp [SB.aN,r1]) ⟨[],rfl,b',cap,cur,r1,r2,r3,r4,r5,⟨0,by simp,Nat.zero_le _⟩,rfl⟩ (by simp [SB.aN,r1]) (zzr _) (fun _ _ _=>rfl) rfl rfl rfl lab (.cQ l 0 0 0) []
 have dS:(execOp a.eval o).run P w = .ok (.value (.slice (some ⟨b,base,none⟩) 0 c)) w:=?_
 .intro K Q hK
  unfold Oper.wp
  rw [dS,Oper.upon_value]
  exact hK V _ w (V.cP lab) (by simp [den,hβ,hc]) oZ
 unfold execOp
 simp only [bY,<- ex,Instr.sliceAt,Instr.slice,Sem.run_bind,run_underlying hu w,Result.andThen_ok,Sem.run_pure,hr,run_sizeOf fW,Option.map_none,zzm,Nat.zero_mul,Nat.sub_zero,bH,Nat.add_zero,ite_self]
theorem Ti {l i n:Nat} {x:Value} {B:SB} {ds:List (List Int)} (hT:aC w0 M V T w) (hv:den V (.xZ l i n)=some x) (hB:T l=some B) (hd:vP B=some ds) :
 ∃ v us,V.σ l=some (.tuple (v::us).toArray)/\us[i]?=some x/\dM w0 M x (ds.getD i [])/\iP n x=some x:=by
 have key:∀ v us,V.σ l=some (.tuple (v::us).toArray)->us.length=ds.length->(∀ (i:Nat) (u:Value) (d:List Int),us[i]?=some u->ds[i]?=some d->dM w0 M u d)->∃ v us,V.σ l=some (.tuple (v::us).toArray)/\us[i]?=some x/\dM w0 M x (ds.getD i [])/\iP n x=some x:=by
  intro v us hσ hl hf
  simp only [den,hσ,zza,My,List.getElem?_cons_succ,zzB] at hv
  obtain ⟨u,hu,hr⟩:=hv
  have hx:=(dB hr).1
  subst hx
  have hi:i<ds.length:=by rw [<- hl];exact (List.getElem?_eq_some_iff.1 hu).1
  refine ⟨v,us,hσ,hu,?_,hr⟩
  have hd:=List.getElem?_eq_getElem hi
  rw [zzG,hd]
  exact hf i _ _ hu hd
 obtain ⟨v,us,h1,h3,h4,_⟩:=Bs hT hB hd
 exact key v us h1 h3 h4
def aJj (T:bA):SV->Option (List Int)
 | .raw (.slice none 0 0)=>some []
 | .eH l _=>match T l with
   | some (.nU d)=>some d
   | _=>none
 | .xZ l i _=>match T l with
   | some B=>(vP B).map fun ds=>ds.getD i []
   | none=>none
 | _=>none
def XM (T:bA):List SV->Option (List (List Int))
 | []=>some []
 | v::r=>match aJj T v,XM T r with
   | some d,some ds=>some (d::ds)
   | _,_=>none
theorem aEe (hT:aC w0 M V T w) {v:SV} {x:Value} {d:List Int} (hv:den V v=some x) (h:aJj T v=some d):dM w0 M x d:=by
 unfold aJj at h
 split at h
 .cases h
  simp only [den,zzI] at hv
  subst hv
  exact ⟨.inl ⟨.nil,rfl⟩,fun n hn=>by cases hn⟩
 .split at h
  .rename_i hB
   cases h
   obtain ⟨u,hσ,hF⟩:=hT.tV _ _ hB
   simp only [den,hσ,zza] at hv
   rw [(dB hv).1]
   exact hF
  .cases h
 .split at h
  .rename_i B hB
   simp only [zzM] at h
   obtain ⟨ds,hd,rfl⟩:=h
   obtain ⟨_,_,_,_,hF,_⟩:=Ti hT hv hB hd
   exact hF
  .cases h
 .cases h
theorem Zi (hT:aC w0 M V T w):∀ {vs:List SV} {xs:List Value} {ds:List (List Int)},aG V vs=some xs->XM T vs=some ds->xs.length=ds.length/\∀ (i:Nat) (u:Value) (d:List Int),xs[i]?=some u->ds[i]?=some d->dM w0 M u d
 | [],xs,ds,h,hd=>by
   cases hd
   simp only [aG,zzI] at h
   subst h
   exact ⟨rfl,fun i u d hu=>by simp at hu⟩
 | v::r,xs,ds,h,hd=>by
   simp only [XM] at hd
   split at hd
   case h_2=>cases hd
   rename_i d0 ds0 h1 h2
   cases hd
   simp only [aG,zzM,zzB] at h
   obtain ⟨x,hx,ys,hy,rfl⟩:=h
   obtain ⟨g1,g2⟩:=Zi hT hy h2
   refine ⟨by simp [g1],fun i u d hu hd=>?_⟩
   cases i with
   | zero=>simp only [List.getElem?_cons_zero,zzI] at hu hd;subst hu hd;exact aEe hT hx h1
   | succ i=>exact g2 i u d (by simpa using hu) (by simpa using hd)
def KG (T:bA) (te:TI) (el:TypeId) (lab:Nat) (x y:SV):Option bL:=match x with
 | .tZ l n=>match T l with
   | some (.fM ds ty)=>match Nat.beq ty el&&(Nat.beq te.size 1&&Nat.beq te.zero.length 1),Cu T 1 y with
     | true,some (m,ys)=>match Nat.blt 0 m,XM T ys with
       | true,some es=>some { bK:=[(n+m)*te.bytes<=140737488355328/\n+m<=9223372036854775807],val:=.tZ lab (n+m),new:=[.fM (ds++es) el],wr:=fZ (some l) }
       | _,_=>none
     | _,_=>none
   | _=>none
 | _=>none
theorem SU (aR:cC P Γ) {T':bA} (aK:∀ l B,T' l=some B->T l=some B) (hT:aC w0 M V T w) {lab:Nat} (hf:V.fresh lab) {t ty el:TypeId} {te:TI} (ht:P.underlying t=some (.slice el)) (eE:Γ.ty el=some te)
 {x y:SV} {u v:Value} (hx:den V x=some u) (hy:den V y=some v) (he:KG T' te el lab x y=some e) (ho:∀ q∈e.bK,q):oR P w0 M V T lab e (Builtin.append_ #[t,t] ty #[u,v]) w:=by
 unfold KG at he
 split at he
 case h_2=>cases he
 rename_i l n
 split at he
 case h_2=>cases he
 rename_i ds ty' hB
 split at he
 case h_2=>cases he
 rename_i m ys iE Si
 split at he
 case h_2=>cases he
 rename_i es hm FR
 cases he
 simp only [zzn] at iE
 have bCu:=zzN iE.1
 have fU:=zzN iE.2.1
 have TZ:=zzN iE.2.2
 subst bCu
 have hm:0<m:=by simpa [Nat.blt_eq] using hm
 have o4:(n+m)*te.bytes<=140737488355328/\n+m<=9223372036854775807:=ho _ (by simp)
 obtain ⟨_,i,z,hi,cF,jT,hz,hzero⟩:=aR ty' te eE
 have Bh:i.size=1:=cF.trans fU
 have rJ:z.cells.size=i.size:=by
  have h1:=bC (hzero V)
  rw [Bh,<- TZ,<- h1];simp
 obtain ⟨_,_,lv,us,hσ,bN⟩:=hT.ok l _ (aK l _ hB)
 obtain ⟨lv',us',fY,hl,Cj⟩:=hT.tV l _ (aK l _ hB)
 rw [hσ] at fY
 obtain ⟨rfl,rfl⟩:=Yh fY
 simp only [den,hσ,zza,Ao,List.head?_cons] at hx
 obtain ⟨rfl,hu⟩:=dB hx
 have hn:n=us.length:=by
  rcases bN.2 with ⟨rfl,h0⟩ | ⟨b,cap,cur,rfl,_⟩
  .rcases hu with ⟨_,h1⟩ | ⟨_,_,_,h1,_⟩
   .omega
   .cases h1
  .rcases hu with ⟨⟨a,h1⟩,h2⟩ | ⟨_,_,_,h1,_⟩
   .injection h1 with _ h3 _;omega
   .injection h1 with _ h3 _;exact h3.symm
 subst hn
 obtain ⟨cy,Rt,jC,hh⟩:=sY (hT.sub aK) hy Si
 have h1:=oF jC Rt
 rcases hh with ⟨_,h0,_⟩ | ⟨ad,c,rfl,qS,bZ⟩
 .omega
 obtain ⟨g1,g2⟩:=Zi (hT.sub aK) Rt FR
 rw [<- Bh] at bN qS
 obtain ⟨v',w',hr,jZ,rL,_⟩:=run_append_own (P:=P) w 0 t ty ty' i z i.size i.bytes ht hi hz rfl rfl rJ (by omega) u us.length us bN ad m c cy qS bZ h1 (by simp only [maxLen];omega) (by rw [jT];exact o4.1) (Nat.zero_le _)
 have fE:=lB (P:=P) ht hi hz bN rfl qS bZ h1 (by simp only [maxLen];omega) (by rw [jT];exact o4.1) hr
 have FV:cy.length=m:=by rw [qS,Bh,Nat.mul_one]
 rw [Bh] at jZ
 have hs:(V.aX lab (.tuple (v'::(us++cy)).toArray)).σ lab=some (.tuple (v'::(us++cy)).toArray):=by simp [aZ.aX]
 have oZ:=hT.qJ (lab:=lab) hf (w':=w') (v:=u) (v':=v') (u':=.tuple (v'::(us++cy)).toArray) (lo:=some l) (B:=.fM (ds++es) ty')
  ⟨[],rfl,v',us++cy,hs,by rw [List.length_append,FV];exact jZ⟩ (fun q hq=>by simpa [SB.aN,hs,uI] using hq) rL fE (fun h=>by cases h)
  (fun l' sP=>by cases sP;exact ⟨_,aK l _ hB,rfl,fun q hq=>by simp [SB.aN,hσ,uI,hq]⟩) (.tZ lab (us.length+m)) [(us.length+m)*te.bytes<=140737488355328/\us.length+m<=9223372036854775807]
  ⟨v',us++cy,hs,by simp [hl,g1],fun q uu d hu hd=>by
   by_cases hq:q<us.length
   .rw [List.getElem?_append_left hq] at hu
    rw [List.getElem?_append_left (by omega)] at hd
    exact Cj q uu d hu hd
   .rw [List.getElem?_append_right (by omega)] at hu
    rw [List.getElem?_append_right (by omega),<- hl] at hd
    exact g2 _ uu d hu hd⟩
 refine ⟨_,v',w',hr,aZ.bX hf lab (zzr _) (by omega) _,?_,oZ⟩
 simp only [den,hs,zza,Ao,List.head?_cons]
 rcases jZ.2 with ⟨_,h0⟩ | ⟨b,cap,cur,rfl,_,_,hle,_⟩
 .omega
 .unfold iP;exact if_pos ⟨rfl,hle,.inr rfl⟩
def qT (j h:Nat):Value->Value
 | .slice ad _ c=>.slice (if c=j then ad else ad.map (·.add j)) (h-j) (c-j)
 | v=>v
theorem dM.part {u:Value} {xs:List Int} {j h:Nat} (hF:dM w0 M u xs) (hj:j<=h) (hh:h<=xs.length):dM w0 M (qT j h u) ((xs.drop j).take (h-j)):=by
 have hlen:((xs.drop j).take (h-j)).length=h-j:=by simp;omega
 obtain ⟨hr,hb⟩:=hF
 rcases hr with ⟨⟨ad,rfl⟩,rfl⟩ | ⟨b,base,c,rfl,cM,hle,fI⟩
 .have:j=0/\h=0:=by simp at hh;omega
  obtain ⟨rfl,rfl⟩:=this
  exact ⟨.inl ⟨⟨ad,by simp [qT]⟩,by simp⟩,fun n hn=>by simp [qT,eV] at hn⟩
 .by_cases Re:c=j
  .subst Re
   have h0:h-c=0:=by omega
   refine ⟨.inr ⟨b,base,0,by simp [qT,h0],cM,by rw [hlen];omega,fun q v hq=>?_⟩,fun n hn=>?_⟩
   .rw [h0] at hq;simp at hq
   .simp [qT,eV] at hn
  .refine ⟨.inr ⟨b,base+j,c-j,by simp [qT,Re,hlen,bH],cM,by rw [hlen];omega,fun q v hq=>?_⟩,fun n hn=>?_⟩
   .rw [Nat.add_assoc]
    apply fI
    simp only [List.map_take,List.map_drop,List.getElem?_take] at hq
    split at hq
    .rwa [List.getElem?_drop] at hq
    .cases hq
   .refine hb n ?_
    simp only [qT,if_neg Re] at hn
    have:=eC hn
    obtain ⟨c',rfl⟩:∃ c',c=c'+1:=⟨c-1,by omega⟩
    simpa [eV,Value.ownBlock,bH] using this
def Lw (Γ:Env) (g:Nat->Option SV) (T:bA) (t:TypeId) (x:Operand) (lo hi mx:Option Operand) (lab:Nat):Option bL:=
 match ev Γ g x,Γ.ty t,mx with
 | some (.eH l n),some ti,none=>match ti.desc with
   | .slice el=>match Γ.ty el,T l,yE Γ g hi false n,yE Γ g lo true 0 with
     | some te,some (.nU xs),some (_,h),some (_,j)=>match Nat.beq te.size 1 with
       | true=>some { bK:=[0<=j/\j<=h/\h<=n],val:=.eH lab (h.toNat-j.toNat),new:=[.nU ((xs.drop j.toNat).take (h.toNat-j.toNat))] }
       | false=>none
     | _,_,_,_=>none
   | _=>none
 | _,_,_=>none
theorem Vu (aR:cC P Γ) (ht:cG V g a) (hg:bO Γ V) {T':bA} (aK:∀ l B,T' l=some B->T l=some B) (hT:aC w0 M V T w) {t:TypeId} {x:Operand} {lo hi mx:Option Operand} (bY:o.op = .slice t x lo hi mx) {lab:Nat} (hf:V.fresh lab)
 (he:Lw Γ g T' t x lo hi mx lab=some e) (ho:∀ q∈e.bK,q):kR P w0 M V T lab e o a w:=by
 unfold Lw at he
 split at he
 case h_2=>cases he
 rename_i l n ti hx dX
 split at he
 case h_2=>cases he
 rename_i el hd
 split at he
 case h_2=>cases he
 rename_i te xs sh h sj j eE hB hh hj
 split at he
 case h_2=>cases he
 rename_i fU
 have fU:=zzN fU
 simp only [zzI] at he
 subst he
 have hb:0<=j/\j<=h/\h<=n:=ho _ (by simp)
 have ex:=bG ht hg hx
 obtain ⟨u,hσ,hF⟩:=hT.tV l _ (aK l _ hB)
 simp only [den,hσ,zza] at ex
 obtain ⟨EZ,hv⟩:=dB ex
 have hnx:n=xs.length:=by
  have h1:=hF.1.eH
  rcases hv with ⟨⟨ad,rfl⟩,h0⟩ | ⟨b,base,c,rfl,_⟩
  .rcases hF.1 with ⟨_,rfl⟩ | ⟨_,_,_,h2,_⟩
   .simpa using h0
   .injection h2 with _ h3 _;omega
  .rcases hF.1 with ⟨⟨ad,h2⟩,rfl⟩ | ⟨_,_,_,h2,_⟩
   .injection h2 with _ h3 _
   .injection h2 with _ h3 _
 obtain ⟨ad,c,rfl,hc⟩:∃ ad c,u = .slice ad n c/\n<=c:=by
  rcases hv with ⟨⟨ad,rfl⟩,h0⟩ | ⟨b,base,c,rfl,hc⟩
  .exact ⟨ad,0,by rw [h0],by omega⟩
  .exact ⟨_,c,rfl,hc⟩
 have hu:=(aR t ti dX).1
 rw [hd] at hu
 obtain ⟨_,i,z,fW,cF,_⟩:=aR el te eE
 have hr:=eA (P:=P) (w:=w) (a:=a) true n c (lo:=lo) (hi:=hi) (mx:=none) (m:=(c:Int)) (h:=h) (k:=j) (.inl ⟨rfl,rfl⟩) (eM ht hg hh) (eM ht hg hj) rfl ⟨by omega,by omega,by omega,by omega,by omega,by omega⟩
 have hFp:=hF.part (j:=j.toNat) (h:=h.toNat) (by omega) (by omega)
 have hlen:((xs.drop j.toNat).take (h.toNat-j.toNat)).length=h.toNat-j.toNat:=by simp;omega
 have dS:(execOp a.eval o).run P w = .ok (.value (qT j.toNat h.toNat (.slice ad n c))) w:=by
  unfold execOp
  simp only [bY,EZ,Option.map_none,Instr.sliceAt,Instr.slice,Sem.run_bind,run_underlying hu w,Result.andThen_ok,Sem.run_pure,run_sizeOf fW] at hr |-
  simp only [hr,Result.andThen_ok,cF,fU,Nat.mul_one,zzt,qT]
 intro K Q hK
 unfold Oper.wp
 rw [dS,Oper.upon_value]
 have tI:(V.aX lab (qT j.toNat h.toNat (.slice ad n c))).σ lab=some (qT j.toNat h.toNat (.slice ad n c)):=by simp [aZ.aX]
 refine hK (V.aX lab (qT j.toNat h.toNat (.slice ad n c))) _ w (aZ.bX hf lab (zzr _) (by omega) _) ?_ ?_
 .have:=hFp.1.eH
  rw [hlen] at this
  simp only [den,tI,zza,this]
 .refine hT.step (N:=fun m=>if m=lab then some (.nU ((xs.drop j.toNat).take (h.toNat-j.toNat))) else none) (aZ.bX hf lab (zzr _) (by omega) _).1 (fun m C hm=>?_) (fun m C hm=>?_) (fun m C q hm hq=>?_) (fun m C m' C' q dG hm kL uB _=>?_) (zzr _) (fun _ _ _=>rfl) rfl rfl rfl (fun m C hm=>?_)
  .unfold eG bL.eI at hm
   simp only [fT,zzv,look] at hm
   by_cases e:m=lab
   .subst e
    left
    simpa using hm
   .right
    refine ⟨if_neg e,?_⟩
    have:Nat.beq lab m=false:=by
     cases lR:Nat.beq lab m with
     | false=>rfl
     | true=>exact absurd (zzN lR).symm e
    simpa [this] using hm
  .split at hm
   .cases hm;exact ⟨[],rfl,trivial⟩
   .cases hm
  .split at hm
   .cases hm;cases hq
   .cases hm
  .split at hm
   .cases hm;cases uB
   .cases hm
  .split at hm
   .rename_i e
    subst e
    cases hm
    exact ⟨_,tI,hFp⟩
   .cases hm
end aZa
def vQ:SV->Option Nat
 | .aJ l _ _ _ _=>some l
 | .buf l=>some l
 | .nH l _ _=>some l
 | .eH l _=>some l
 | .cQ l _ _ _=>some l
 | _=>none
section aYz
variable {P:Program} {Γ:Env} {V:aZ} {w w0:World} {M:Nat->Prop} {T:bA} {g:Nat->Option SV} {a:Act} {o:Oper} {e:bL}
def aIn:SB->Option (List (Int × Int))
 | .eQ xs _=>some xs
 | .rI xs=>some xs
 | _=>none
def Ht (T:bA):SV->Option (List (Int × Int))
 | .raw (.slice none 0 0)=>some []
 | .buf l=>match T l with
   | some B=>aIn B
   | _=>none
 | .eH l _=>match T l with
   | some (.rI xs)=>some xs
   | _=>none
 | _=>none
theorem Le {l:Nat} {B:SB} {xs:List (Int × Int)} (lQ:okB V w l B) (h:aIn B=some xs):∃ u,V.σ l=some u/\Nt w u xs/\∀ n,eV u=some n->B.aN V l=some n:=by
 obtain ⟨cs,hc,hh⟩:=lQ
 cases B with
 | eQ ys ty=>
   cases h
   cases hc
   obtain ⟨u,hσ,bN⟩:=hh
   refine ⟨u,hσ,?_,fun n hn=>by simp [SB.aN,hσ,eC hn]⟩
   rcases bN.2 with ⟨rfl,h0⟩ | ⟨gb,cap,cur,rfl,_,hh,hle,_,_,cT⟩
   .exact .inl ⟨.nil,List.eq_nil_of_length_eq_zero h0⟩
   .refine .inr ⟨gb,0,cap,rfl,(Array.getElem?_eq_some_iff.1 hh).1,hle,fun j u hj=>?_⟩
    rw [cell_of_row w gb _ _ _ _ hh]
    rw [<- cT,List.getElem?_take] at hj
    split at hj
    .simpa using hj
    .cases hj
 | rI ys=>
   cases h
   obtain ⟨u,hσ,bN⟩:=hh
   exact ⟨u,hσ,bN,fun n hn=>by simp [SB.aN,hσ,hn]⟩
 | _=>cases h
theorem Ep {v:SV} {x:Value} {ys:List (Int × Int)} (hT:aC w0 M V T w) (hv:den V v=some x) (h:Ht T v=some ys) :
 Nt w x ys/\∀ n,eV x=some n->∃ l B,vQ v=some l/\T l=some B/\B.aN V l=some n:=by
 unfold Ht at h
 split at h
 .cases h
  simp only [den,zzI] at hv
  subst hv
  exact ⟨.inl ⟨.nil,rfl⟩,fun n hn=>by cases hn⟩
 .rename_i l
  split at h
  case h_2=>cases h
  rename_i B hB
  obtain ⟨u,hσ,h1,h2⟩:=Le (hT.ok l _ hB) h
  simp only [den,hσ,zzI] at hv
  subst hv
  exact ⟨h1,fun n hn=>⟨l,_,rfl,hB,h2 n hn⟩⟩
 .rename_i l n0
  split at h
  case h_2=>cases h
  rename_i xs hB
  cases h
  obtain ⟨cs,hc,u,hσ,bN⟩:=hT.ok l _ hB
  simp only [den,zzB] at hv
  obtain ⟨u',fY,hv⟩:=hv
  rw [hσ] at fY
  cases fY
  obtain ⟨rfl,_⟩:=dB hv
  exact ⟨bN,fun n hn=>⟨l,_,rfl,hB,by simp [SB.aN,hσ,hn]⟩⟩
 .cases h
theorem Nt.eH {x:Value} {ys:List (Int × Int)} (h:Nt w x ys):iP ys.length x=some x:=by
 rcases h with ⟨⟨a,rfl⟩,rfl⟩ | ⟨b,o,c,rfl,_,hc,_⟩
 .cases a <;> simp [iP]
 .simp [iP,hc]
def Bq:List SV->Option (List (Int × Int))
 | []=>some []
 | .int _ .i64 x :: .int _ .i64 y::r=>(Bq r).map ((x,y) :: ·)
 | _=>none
theorem Vd {V:aZ}:∀ {cs:List SV} {ps:List (Int × Int)},Bq cs=some ps->aG V cs=some (eF ps):=by
 intro cs
 fun_induction Bq cs with
 | case1=>intro ps h;cases h;rfl
 | case2 s1 x s2 y r ih=>
   intro ps h
   simp only [zzM] at h
   obtain ⟨qs,hq,rfl⟩:=h
   simp [aG,den,ih hq,eF]
 | case3=>intro ps h;cases h
def aIh (T:bA) (y:SV):Option (List (Int × Int)):=match Ht T y with
 | some ys=>some ys
 | none=>match Cu T 2 y with
   | some (m,cs)=>match Bq cs with
     | some ys=>match Nat.beq ys.length m with
       | true=>some ys
       | false=>none
     | none=>none
   | none=>none
theorem pT:∀ xs:List (Int × Int),(eF xs).length=xs.length*2
 | []=>rfl
 | p::r=>by
   have:=pT r
   simp only [eF,List.flatMap_cons,List.length_append,List.length_cons,List.length_nil] at this |-
   omega
theorem qP (xs ys:List (Int × Int)):eF (xs++ys)=eF xs++eF ys:=by simp [eF]
theorem Iw (xs:List (Int × Int)):∀ q∈eF xs,q.oneCell'=true:=by
 intro q hq
 simp only [eF,List.mem_flatMap] at hq
 obtain ⟨p,_,hq⟩:=hq
 simp only [List.mem_cons,List.not_mem_nil,or_false] at hq
 rcases hq with rfl | rfl <;> rfl
theorem YX {y:SV} {v:Value} {ys:List (Int × Int)} (hT:aC w0 M V T w) (hv:den V y=some v) (h:aIh T y=some ys) :
 (∃ a,v = .slice a 0 0/\ys=[])\/∃ (ad:Addr) (c:Nat),v = .slice (some ad) ys.length c/\∀ (j:Nat) (u:Value),(eF ys)[j]?=some u->w.cell? (ad.add j)=some u:=by
 unfold aIh at h
 split at h
 .rename_i ys' hs
  cases h
  rcases (Ep hT hv hs).1 with ⟨⟨a,rfl⟩,rfl⟩ | ⟨b,o,c,rfl,_,_,hc⟩
  .exact .inl ⟨a,rfl,rfl⟩
  .exact .inr ⟨_,c,rfl,fun j u hj=>by rw [bH];exact hc j u hj⟩
 .split at h
  case h_2=>cases h
  rename_i m cs hs
  split at h
  case h_2=>cases h
  rename_i ys' hp
  split at h
  case h_2=>cases h
  rename_i hl
  have hl:=zzN hl
  cases h
  obtain ⟨xs,h1,_,h3⟩:=sY hT hv hs
  have e:=h1.symm.trans (Vd hp)
  cases e
  rcases h3 with ⟨rfl,rfl,h0⟩ | ⟨ad,c,rfl,_,hc⟩
  .exact .inl ⟨_,rfl,List.eq_nil_of_length_eq_zero hl⟩
  .exact .inr ⟨ad,c,by rw [hl],hc⟩
def aJx (T:bA) (el:TypeId):SV->Option (Option Nat × List (Int × Int))
 | .raw (.slice none 0 0)=>some (none,[])
 | .buf l=>match T l with
   | some (.eQ xs ty)=>match Nat.beq ty el with
     | true=>some (some l,xs)
     | false=>none
   | _=>none
 | _=>none
theorem aFn {el:TypeId} {v:SV} {x:Value} {lo:Option Nat} {xs:List (Int × Int)} (hT:aC w0 M V T w) (hv:den V v=some x) (h:aJx T el v=some (lo,xs)) :
 w.ownsRow 0 el 2 x xs.length (eF xs)/\(lo=none->x.ownBlock=none)/\∀ l,lo=some l->∃ B,T l=some B/\B.owned=true/\∀ n,x.ownBlock=some n->B.aN V l=some n:=by
 unfold aJx at h
 split at h
 .cases h
  simp only [den,zzI] at hv
  subst hv
  exact ⟨World.ownsRow_nil w 0 el 2,fun _=>rfl,fun l hl=>(by cases hl)⟩
 .rename_i l
  split at h
  case h_2=>cases h
  rename_i ys ty hB
  split at h
  case h_2=>cases h
  rename_i aR
  have:=zzN aR
  subst this
  cases h
  obtain ⟨cs,hc,u,hσ,bN⟩:=hT.ok l _ hB
  cases hc
  simp only [den,hσ,zzI] at hv
  subst hv
  exact ⟨bN,fun h=>(by cases h),fun l' sP=>by cases sP;exact ⟨_,hB,rfl,fun n hn=>by simp [SB.aN,hσ,hn]⟩⟩
 .cases h
def KC (T:bA) (te:TI) (el:TypeId) (lab:Nat) (x y:SV):Option bL:=
 match Nat.beq te.size 2&&Nat.beq te.zero.length 2,aJx T el x with
 | true,some (lo,xs)=>match aIh T y with
   | some ys=>some { bK:=[(xs.length+ys.length)*te.bytes<=140737488355328/\xs.length+ys.length<=9223372036854775807],val:=.buf lab,new:=[.eQ (xs++ys) el],wr:=fZ lo }
   | none=>none
 | _,_=>none
theorem SP (aR:cC P Γ) {T':bA} (aK:∀ l B,T' l=some B->T l=some B) (hT:aC w0 M V T w) {lab:Nat} (hf:V.fresh lab) {t ty el:TypeId} {te:TI} (ht:P.underlying t=some (.slice el)) (eE:Γ.ty el=some te)
 {x y:SV} {u v:Value} (hx:den V x=some u) (hy:den V y=some v) (he:KC T' te el lab x y=some e) (ho:∀ q∈e.bK,q):oR P w0 M V T lab e (Builtin.append_ #[t,t] ty #[u,v]) w:=by
 unfold KC at he
 split at he
 case h_2=>cases he
 rename_i lo xs gR hd
 split at he
 case h_2=>cases he
 rename_i ys hr
 cases he
 simp only [zzn] at gR
 have tI:=zzN gR.1
 have hz2:=zzN gR.2
 obtain ⟨_,i,z,hi,cF,jT,hz,hzero⟩:=aR el te eE
 have Wv:i.size=2:=cF.trans tI
 have rJ:z.cells.size=i.size:=by
  have h1:=bC (hzero V)
  rw [Wv,<- hz2,<- h1];simp
 obtain ⟨rH,lR⟩:=ho _ zzC
 obtain ⟨bN,jH,Js⟩:=aFn (hT.sub aK) hx hd
 have jD:∀ l,lo=some l->∃ B,T l=some B/\B.owned=true/\∀ n,u.ownBlock=some n->B.aN V l=some n:=fun l hl=>by
  obtain ⟨B,h1,h2,h3⟩:=Js l hl;exact ⟨B,aK l B h1,h2,h3⟩
 rw [<- Wv] at bN
 have Kd:xs.length+ys.length<=maxLen:=by simp only [maxLen];omega
 have go:∀ (ad:Addr) (c:Nat),v = .slice (some ad) ys.length c->(∀ (j:Nat) (u:Value),(eF ys)[j]?=some u->w.cell? (ad.add j)=some u)->oR P w0 M V T lab { bK:=[(xs.length+ys.length)*te.bytes<=140737488355328/\xs.length+ys.length<=9223372036854775807],val:=.buf lab,new:=[.eQ (xs++ys) el],wr:=fZ lo } (Builtin.append_ #[t,t] ty #[u,v]) w:=by
  rintro ad c rfl bZ
  have hl:(eF ys).length=ys.length*i.size:=by rw [Wv];exact pT ys
  obtain ⟨v',w',dS,jZ,rL,_⟩:=run_append_own (P:=P) w 0 t ty el i z i.size i.bytes ht hi hz rfl rfl rJ (by omega) u xs.length (eF xs) bN ad ys.length c (eF ys) hl bZ (Iw ys) Kd (by rw [jT];exact rH) (Nat.zero_le _)
  have fE:=lB (P:=P) ht hi hz bN rfl hl bZ (Iw ys) Kd (by rw [jT];exact rH) dS
  refine ⟨V.aX lab v',v',w',dS,aZ.bX hf lab (zzr _) (by omega) v',by simp [den,aZ.aX],?_⟩
  have lQ:okB (V.aX lab v') w' lab (.eQ (xs++ys) el):=⟨eF (xs++ys),rfl,v',by simp [aZ.aX],by rw [List.length_append,qP,<- Wv];exact jZ⟩
  exact hT.qJ hf lQ (fun n hb=>by simpa [SB.aN,aZ.aX] using hb) rL fE jH jD _ _
 rcases YX (hT.sub aK) hy hr with ⟨ad,rfl,rfl⟩ | ⟨ad,c,hv,bZ⟩
 .cases ad with
  | some ad=>exact go ad 0 rfl (fun j u hj=>by simp [eF] at hj)
  | none=>
    have dS:=run_append_owned_none (P:=P) (w:=w) 0 t ty el i i.size ht hi u xs.length _ bN
    refine ⟨V.aX lab u,u,w,dS,aZ.bX hf lab (zzr _) (by omega) u,by simp [den,aZ.aX],?_⟩
    have lQ:okB (V.aX lab u) w lab (.eQ (xs++[]) el):=⟨eF (xs++[]),rfl,u,by simp [aZ.aX],by rw [List.append_nil,<- Wv];exact bN⟩
    exact hT.qJ hf lQ (fun n hb=>by simpa [SB.aN,aZ.aX] using hb) ⟨rfl,rfl,rfl,zzr _,fun _ _ _=>rfl⟩ (.inl rfl) jH jD _ _
 .exact go ad c hv bZ
def Lz (Γ:Env) (g:Nat->Option SV) (t:TypeId) (x y:Operand):Option bL:=
 match ev Γ g x,ev Γ g y,Γ.ty t with
 | some (.eH l n),some (.int _ _ k),some ti=>match ti.desc with
   | .slice el=>match Γ.ty el with
     | some te=>match Nat.beq te.size 2 with
       | true=>some { bK:=[0<=k/\k<n],val:=.jQ l (2*k.toNat) }
       | false=>none
     | none=>none
   | _=>none
 | _,_,_=>none
theorem Vy (aR:cC P Γ) (ht:cG V g a) (hg:bO Γ V) (hT:aC w0 M V T w) {t:TypeId} {x y:Operand} (bY:o.op = .indexAddr t x y)
 (he:Lz Γ g t x y=some e) (ho:∀ q∈e.bK,q) (lab:Nat):kR P w0 M V T lab e o a w:=by
 unfold Lz at he
 split at he
 case h_2=>cases he
 rename_i l n sk kk k ti hx hy dX
 split at he
 case h_2=>cases he
 rename_i el hd
 split at he
 case h_2=>cases he
 rename_i te eE
 split at he
 case h_2=>cases he
 rename_i tI
 have tI:=zzN tI
 simp only [zzI] at he
 subst he
 have hb:0<=k/\k<n:=ho _ (by simp)
 have ex:=bG ht hg hx
 have ey:=bG ht hg hy
 simp only [den,zzI] at ey
 simp only [den,zzB] at ex
 obtain ⟨u,hσ,hv⟩:=ex
 obtain ⟨e1,hv⟩:=dB hv
 subst e1
 rcases hv with ⟨_,rfl⟩ | ⟨b,o0,c,hv,_⟩
 .omega
 obtain ⟨_,i,z,hi,cF,_⟩:=aR el te eE
 have hu:=(aR t ti dX).1
 rw [hd] at hu
 refine bD (x:=.pointer (some ⟨b,o0+k.toNat*te.size,none⟩)) ?_ (by simp [den,hσ,hv,bH,tI,Nat.mul_comm]) rfl rfl hT
 unfold execOp
 simp only [bY,hv,<- ey,Instr.indexAt,asIntOf,Sem.run_bind,Sem.run_pure,run_underlying hu w,Result.andThen_ok,if_pos hb,run_sizeOf hi,cF,bH]
def Ua (Γ:Env) (g:Nat->Option SV) (T:bA) (t:TypeId) (x:Operand):Option bL:=
 match ev Γ g x,Γ.ty t with
 | some (.jQ l off),some ti=>match (T l).bind aIn,tN ti.desc&&Nat.beq ti.size 2 with
   | some xs,true=>some { bK:=[off=2*(off/2)/\off/2<xs.length],val:=.agg [.int false .i64 (xs.getD (off/2) (0,0)).1,.int false .i64 (xs.getD (off/2) (0,0)).2] }
   | _,_=>none
 | _,_=>none
theorem NW {xs:List (Int × Int)} {i:Nat} (h:i<xs.length):(eF xs)[2*i]?=some (.int .i64 (xs.getD i (0,0)).1)/\(eF xs)[2*i+1]?=some (.int .i64 (xs.getD i (0,0)).2):=by
 induction xs generalizing i with
 | nil=>simp at h
 | cons p r ih=>
   have e:eF (p::r)=Value.int .i64 p.1::Value.int .i64 p.2::eF r:=rfl
   cases i with
   | zero=>rw [e];exact ⟨rfl,rfl⟩
   | succ i=>
     have:=ih (i:=i) (by simpa using h)
     rw [e,show 2*(i+1)=2*i+1+1 by omega]
     simpa using this
theorem DS (aR:cC P Γ) (ht:cG V g a) (hg:bO Γ V) {T':bA} (aK:∀ l B,T' l=some B->T l=some B) (hT:aC w0 M V T w) {t:TypeId} {x:Operand} (bY:o.op = .load t x)
 (he:Ua Γ g T' t x=some e) (ho:∀ q∈e.bK,q) (lab:Nat):kR P w0 M V T lab e o a w:=by
 unfold Ua at he
 split at he
 case h_2=>cases he
 rename_i l off ti hx dX
 split at he
 case h_2=>cases he
 rename_i xs hB iE
 simp only [zzB] at hB
 obtain ⟨B,hB,hp⟩:=hB
 simp only [zzn] at iE
 have tI:=zzN iE.2
 simp only [zzI] at he
 subst he
 obtain ⟨h1,h2⟩:=ho _ zzC
 have ex:=bG ht hg hx
 obtain ⟨u,hσ,hrp,_⟩:=Le (hT.ok l _ (aK l _ hB)) hp
 obtain ⟨hu,i,z,hi,gR,_⟩:=aR t ti dX
 rcases hrp with ⟨_,rfl⟩ | ⟨b,base,c,rfl,_,_,fI⟩
 .simp at h2
 simp only [den,hσ,bH,zzI] at ex
 obtain ⟨g1,g2⟩:=NW h2
 rw [<- h1] at g1 g2
 have dS:=(dL (P:=P) hu hi b (base+off) [.int .i64 (xs.getD (off/2) (0,0)).1,.int .i64 (xs.getD (off/2) (0,0)).2] (by rw [gR,tI];rfl) (fun j v hj=>by
  match j,hj with
  | 0,hj=>simp only [List.getElem?_cons_zero,zzI] at hj;subst hj;exact fI _ _ g1
  | 1,hj=>simp only [List.getElem?_cons_succ,List.getElem?_cons_zero,zzI] at hj;subst hj;rw [Nat.add_assoc];exact fI _ _ g2
  | j+2,hj=>simp at hj)).1 iE.1
 refine bD (x:=.agg #[.int .i64 (xs.getD (off/2) (0,0)).1,.int .i64 (xs.getD (off/2) (0,0)).2]) ?_ (by simp [den,aG]) rfl rfl hT
 unfold execOp
 simp only [bY,<- ex,Instr.loadAt,Instr.sureAddr,Sem.run_bind,Sem.run_pure,Result.andThen_ok,dS]
def oB (j h:Nat):Value->Value
 | .slice ad _ c=>.slice (if c=j then ad else ad.map (·.add (j*2))) (h-j) (c-j)
 | v=>v
theorem Nt.part {u:Value} {xs:List (Int × Int)} {j h:Nat} (hF:Nt w u xs) (hj:j<=h) (hh:h<=xs.length):Nt w (oB j h u) ((xs.drop j).take (h-j))/\∀ n,eV (oB j h u)=some n->eV u=some n:=by
 have hlen:((xs.drop j).take (h-j)).length=h-j:=by simp;omega
 rcases hF with ⟨⟨ad,rfl⟩,rfl⟩ | ⟨b,base,c,rfl,cM,hle,fI⟩
 .have:j=0/\h=0:=by simp at hh;omega
  obtain ⟨rfl,rfl⟩:=this
  exact ⟨.inl ⟨⟨ad,by simp [oB]⟩,by simp⟩,fun n hn=>by simp [oB,eV] at hn⟩
 .by_cases Re:c=j
  .subst Re
   have h0:h-c=0:=by omega
   refine ⟨.inr ⟨b,base,0,by simp [oB,h0],cM,by rw [hlen];omega,fun q v hq=>?_⟩,fun n hn=>?_⟩
   .rw [h0] at hq;simp [eF] at hq
   .simp [oB,eV] at hn
  .refine ⟨.inr ⟨b,base+j*2,c-j,by simp [oB,Re,hlen,bH],cM,by rw [hlen];omega,fun q v hq=>?_⟩,fun n hn=>?_⟩
   .rw [Nat.add_assoc]
    apply fI
    have Wr:(eF ((xs.drop j).take (h-j)))[q]?=(eF xs)[j*2+q]?:=by
     have tQ:q<(eF ((xs.drop j).take (h-j))).length:=by
      rcases Nat.lt_or_ge q (eF ((xs.drop j).take (h-j))).length with h1 | h1
      .exact h1
      .rw [List.getElem?_eq_none h1] at hq;cases hq
     rw [pT,hlen] at tQ
     have e:xs=xs.take j++((xs.drop j).take (h-j)++(xs.drop j).drop (h-j)):=by rw [List.take_append_drop,List.take_append_drop]
     have e2:eF xs=eF (xs.take j)++(eF ((xs.drop j).take (h-j))++eF ((xs.drop j).drop (h-j))):=by
      rw [<- qP,<- qP,<- e]
     have l1:(eF (xs.take j)).length=j*2:=by rw [pT];simp;omega
     rw [e2,List.getElem?_append_right (by omega),l1,Nat.add_sub_cancel_left,List.getElem?_append_left (by rw [pT,hlen];exact tQ)]
    rw [<- Wr];exact hq
   .simp only [oB,if_neg Re] at hn
    have:=eC hn
    obtain ⟨c',rfl⟩:∃ c',c=c'+1:=⟨c-1,by omega⟩
    simpa [eV,Value.ownBlock,bH] using this
def Lv (Γ:Env) (g:Nat->Option SV) (T:bA) (t:TypeId) (x:Operand) (lo hi mx:Option Operand) (lab:Nat):Option bL:=
 match ev Γ g x,Γ.ty t,mx with
 | some (.eH l n),some ti,none=>match ti.desc with
   | .slice el=>match Γ.ty el,T l,yE Γ g hi false n,yE Γ g lo true 0 with
     | some te,some (.rI xs),some (_,h),some (_,j)=>match Nat.beq te.size 2 with
       | true=>some { bK:=[0<=j/\j<=h/\h<=n],val:=.eH lab (h.toNat-j.toNat),new:=[.rI ((xs.drop j.toNat).take (h.toNat-j.toNat))] }
       | false=>none
     | _,_,_,_=>none
   | _=>none
 | _,_,_=>none
theorem Vt (aR:cC P Γ) (ht:cG V g a) (hg:bO Γ V) {T':bA} (aK:∀ l B,T' l=some B->T l=some B) (hT:aC w0 M V T w) {t:TypeId} {x:Operand} {lo hi mx:Option Operand} (bY:o.op = .slice t x lo hi mx) {lab:Nat} (hf:V.fresh lab)
 (he:Lv Γ g T' t x lo hi mx lab=some e) (ho:∀ q∈e.bK,q):kR P w0 M V T lab e o a w:=by
 unfold Lv at he
 split at he
 case h_2=>cases he
 rename_i l n ti hx dX
 split at he
 case h_2=>cases he
 rename_i el hd
 split at he
 case h_2=>cases he
 rename_i te xs sh h sj j eE hB hh hj
 split at he
 case h_2=>cases he
 rename_i tI
 have tI:=zzN tI
 simp only [zzI] at he
 subst he
 have hb:0<=j/\j<=h/\h<=n:=ho _ (by simp)
 have ex:=bG ht hg hx
 have UM:=aK l _ hB
 obtain ⟨u,hσ,hF,fE⟩:=Le (hT.ok l _ UM) rfl
 simp only [den,hσ,zza] at ex
 obtain ⟨EZ,hv⟩:=dB ex
 obtain ⟨ad,c,Gi,hc,hn⟩:∃ ad c,u = .slice ad xs.length c/\xs.length<=c/\n=xs.length:=by
  rcases hF with ⟨⟨ad,rfl⟩,h0⟩ | ⟨b,base,c,rfl,_,hc,_⟩
  .rcases hv with ⟨_,h1⟩ | ⟨b,o,c,h1,h2⟩
   .exact ⟨ad,0,by rw [h0];rfl,by simp [h0],by rw [h1,h0];rfl⟩
   .cases h1;exact ⟨_,0,by rw [h0];rfl,by simp [h0],by rw [h0];rfl⟩
  .rcases hv with ⟨⟨_,h1⟩,h2⟩ | ⟨b,o,c,h1,h2⟩
   .injection h1 with _ h3 _;exact ⟨_,c,rfl,hc,by omega⟩
   .injection h1 with _ h3 _;exact ⟨_,_,rfl,hc,h3.symm⟩
 subst hn
 have hu:=(aR t ti dX).1
 rw [hd] at hu
 obtain ⟨_,i,z,fW,cF,_⟩:=aR el te eE
 have hr:=eA (P:=P) (w:=w) (a:=a) true xs.length c (lo:=lo) (hi:=hi) (mx:=none) (m:=(c:Int)) (h:=h) (k:=j) (.inl ⟨rfl,rfl⟩) (eM ht hg hh) (eM ht hg hj) rfl ⟨by omega,by omega,by omega,by omega,by omega,by omega⟩
 obtain ⟨hFp,hbp⟩:=hF.part (j:=j.toNat) (h:=h.toNat) (by omega) (by omega)
 have hlen:((xs.drop j.toNat).take (h.toNat-j.toNat)).length=h.toNat-j.toNat:=by simp;omega
 have dS:(execOp a.eval o).run P w = .ok (.value (oB j.toNat h.toNat u)) w:=by
  unfold execOp
  simp only [bY,EZ,Gi,Option.map_none,Instr.sliceAt,Instr.slice,Sem.run_bind,run_underlying hu w,Result.andThen_ok,Sem.run_pure,run_sizeOf fW] at hr |-
  simp only [hr,Result.andThen_ok,cF,tI,zzt,oB]
 intro K Q hK
 unfold Oper.wp
 rw [dS,Oper.upon_value]
 have bQ:=aZ.bX hf lab (zzr _) (by omega) (oB j.toNat h.toNat u)
 have hse:(V.aX lab (oB j.toNat h.toNat u)).σ lab=some (oB j.toNat h.toNat u):=by simp [aZ.aX]
 refine hK (V.aX lab (oB j.toNat h.toNat u)) _ w bQ ?_ ?_
 .simp only [den,hse,zza]
  rcases hFp with ⟨⟨ad',h1⟩,h2⟩ | ⟨b,o',c',h1,_,h2,_⟩
  .rw [h1]
   have:h.toNat-j.toNat=0:=by rw [<- hlen,h2];rfl
   rw [this]
   cases ad' <;> simp [iP]
  .rw [h1,hlen]
   rw [hlen] at h2
   simp [iP,h2]
 .refine hT.step (N:=fun m=>if m=lab then some (.rI ((xs.drop j.toNat).take (h.toNat-j.toNat))) else none) bQ.1 (fun m C hm=>?_) (fun m C hm=>?_) (fun m C q hm hq=>?_) (fun m C m' C' q dG hm kL uB _=>?_) (zzr _) (fun _ _ _=>rfl) rfl rfl rfl (fun m C hm=>?_)
  .unfold eG bL.eI at hm
   simp only [fT,zzv] at hm
   by_cases e:m=lab
   .subst e
    left
    rw [aH] at hm
    rw [if_pos rfl];exact hm
   .right
    rw [aD (fun q=>e q.symm)] at hm
    exact ⟨by rw [if_neg e],hm⟩
  .split at hm
   .rename_i e;subst e;cases hm;exact ⟨_,rfl,_,hse,hFp⟩
   .cases hm
  .right;right
   split at hm
   .rename_i e
    subst e
    cases hm
    refine ⟨rfl,fun l2 B2 hn h2 h3 h4=>?_⟩
    simp only [SB.aN,hse,zza] at hq
    by_cases e2:l2=l
    .subst e2;rw [UM] at h2;cases h2;cases h3
    .exact hT.jX l2 B2 l _ q e2 h2 UM h3 h4 (fE q (hbp q hq))
   .cases hm
  .split at hm
   .cases hm;cases uB
   .cases hm
  .split at hm
   .cases hm;trivial
   .cases hm
def Ls (Γ:Env) (g:Nat->Option SV) (T:bA) (t:TypeId) (x:Operand) (lo hi mx:Option Operand) (lab:Nat):Option bL:=
 match ev Γ g x,Γ.ty t,lo,mx with
 | some (.raw (.slice (some ad) n c)),some ti,none,none=>match ti.desc with
   | .slice el=>match Γ.ty el,yE Γ g hi false n with
     | some _,some (_,h)=>some { bK:=[0<=h/\h<=c],val:=.raw (.slice (some ad) h.toNat c) }
     | _,_=>none
   | _=>none
 | some (.tZ l n),some ti,none,none=>match ti.desc with
   | .slice el=>match Γ.ty el,T l,yE Γ g hi false n with
     | some te,some (.gU ds z),some (_,h)=>match Nat.beq te.size 1 with
       | true=>some { bK:=[0<=h/\h<=n],val:=.tZ lab h.toNat,new:=[.mI ((ds++List.replicate z []).take h.toNat)] }
       | false=>none
     | _,_,_=>none
   | _=>none
 | _,_,_,_=>none
theorem Vp (aR:cC P Γ) (ht:cG V g a) (hg:bO Γ V) {T':bA} (aK:∀ l B,T' l=some B->T l=some B) (hT:aC w0 M V T w) {t:TypeId} {x:Operand} {lo hi mx:Option Operand} (bY:o.op = .slice t x lo hi mx) {lab:Nat} (hf:V.fresh lab)
 (he:Ls Γ g T' t x lo hi mx lab=some e) (ho:∀ q∈e.bK,q):kR P w0 M V T lab e o a w:=by
 unfold Ls at he
 split at he
 case h_3=>cases he
 .rename_i ad n c ti hx dX
  split at he
  case h_2=>cases he
  rename_i el hd
  split at he
  case h_2=>cases he
  rename_i te sh h eE hh
  simp only [zzI] at he
  subst he
  have hb:0<=h/\h<=c:=ho _ (by simp)
  have ex:=bG ht hg hx
  simp only [den,zzI] at ex
  have hu:=(aR t ti dX).1
  rw [hd] at hu
  obtain ⟨_,i,z,fW,cF,_⟩:=aR el te eE
  have hr:=eA (P:=P) (w:=w) (a:=a) true n c (lo:=none) (hi:=hi) (mx:=none) (m:=(c:Int)) (h:=h) (k:=((0:Nat):Int)) (.inl ⟨rfl,rfl⟩) (eM ht hg hh) (.inl ⟨rfl,rfl⟩) rfl ⟨by omega,by omega,by omega,by omega,by omega,by omega⟩
  have dS:(execOp a.eval o).run P w = .ok (.value (.slice (some ad) h.toNat c)) w:=by
   unfold execOp
   simp only [bY,<- ex,Option.map_none,Instr.sliceAt,Instr.slice,Sem.run_bind,run_underlying hu w,Result.andThen_ok,Sem.run_pure,run_sizeOf fW] at hr |-
   simp only [hr,Result.andThen_ok,zzt,Nat.zero_mul,Nat.sub_zero,zzm]
   simp [Addr.add]
  intro K Q hK
  unfold Oper.wp
  rw [dS,Oper.upon_value]
  exact hK V _ w (V.cP lab) rfl (by rw [kI T lab rfl rfl];exact hT)
 .rename_i l n ti hx dX
  split at he
  case h_2=>cases he
  rename_i el hd
  split at he
  case h_2=>cases he
  rename_i te ds z sh h eE hB hh
  split at he
  case h_2=>cases he
  rename_i fU
  have fU:=zzN fU
  simp only [zzI] at he
  subst he
  have hb:0<=h/\h<=n:=ho _ (by simp)
  have ex:=bG ht hg hx
  obtain ⟨v,us,hσ,hL,UC,Cj⟩:=LY (hT.tV l _ (aK l _ hB))
  simp only [den,hσ,zza,Ao,List.head?_cons] at ex
  obtain ⟨EZ,hv⟩:=dB ex
  obtain ⟨ad,c,rfl,hc⟩:∃ ad c,v = .slice ad n c/\n<=c:=by
   rcases hv with ⟨⟨ad,rfl⟩,h0⟩ | ⟨b,base,c,rfl,hc⟩
   .exact ⟨ad,0,by rw [h0],by omega⟩
   .exact ⟨_,c,rfl,hc⟩
  have hn:n=us.length:=by
   rcases hL.1 with ⟨⟨ad,h2⟩,rfl⟩ | ⟨_,_,_,h2,_⟩
   .injection h2
   .injection h2
  have hu:=(aR t ti dX).1
  rw [hd] at hu
  obtain ⟨_,i,zv,fW,cF,_⟩:=aR el te eE
  have hr:=eA (P:=P) (w:=w) (a:=a) true n c (lo:=none) (hi:=hi) (mx:=none) (m:=(c:Int)) (h:=h) (k:=((0:Nat):Int)) (.inl ⟨rfl,rfl⟩) (eM ht hg hh) (.inl ⟨rfl,rfl⟩) rfl ⟨by omega,by omega,by omega,by omega,by omega,by omega⟩
  have dS:(execOp a.eval o).run P w = .ok (.value (.slice ad h.toNat c)) w:=by
   unfold execOp
   simp only [bY,EZ,Option.map_none,Instr.sliceAt,Instr.slice,Sem.run_bind,run_underlying hu w,Result.andThen_ok,Sem.run_pure,run_sizeOf fW] at hr |-
   simp only [hr,Result.andThen_ok,zzt,Nat.zero_mul,Nat.sub_zero]
   cases ad <;> simp [Addr.add]
  have EU:(us.take h.toNat).length=h.toNat:=by rw [List.length_take];omega
  have tI:(V.aX lab (.tuple (Value.slice ad h.toNat c::us.take h.toNat).toArray)).σ lab=some (.tuple (Value.slice ad h.toNat c::us.take h.toNat).toArray):=by simp [aZ.aX]
  have bQ:=aZ.bX hf lab (zzr _) (by omega) (.tuple (Value.slice ad h.toNat c::us.take h.toNat).toArray)
  have bCy:iP h.toNat (.slice ad h.toNat c)=some (.slice ad h.toNat c):=by
   rcases hv with ⟨⟨ad',h1⟩,h0⟩ | ⟨b,base,c',h1,h2⟩
   .injection h1 with h3 h4 h5
    subst h3 h5
    have:h.toNat=0:=by omega
    rw [this]
    cases ad <;> simp [iP]
   .injection h1 with h3 h4 h5
    subst h3 h5
    simp [iP];omega
  intro K Q hK
  unfold Oper.wp
  rw [dS,Oper.upon_value]
  refine hK _ _ w bQ (by simp only [den,tI,zza,Ao,List.head?_cons,bCy]) ?_
  refine hT.step (N:=fun m=>if m=lab then some (.mI ((ds++List.replicate z []).take h.toNat)) else none) bQ.1 (fun m C hm=>?_) (fun m C hm=>?_) (fun m C q hm hq=>?_) (fun m C m' C' q dG hm kL uB _=>?_) (zzr _) (fun _ _ _=>rfl) rfl rfl rfl (fun m C hm=>?_)
  .unfold eG bL.eI at hm
   simp only [fT,zzv] at hm
   by_cases e:m=lab
   .subst e
    left
    rw [aH] at hm
    rw [if_pos rfl];exact hm
   .right
    rw [aD (fun q=>e q.symm)] at hm
    exact ⟨if_neg e,hm⟩
  .split at hm
   .cases hm;exact ⟨[],rfl,trivial⟩
   .cases hm
  .split at hm
   .cases hm;cases hq
   .cases hm
  .split at hm
   .cases hm;cases uB
   .cases hm
  .split at hm
   .rename_i e
    subst e
    cases hm
    refine ⟨_,_,tI,⟨?_,fun q hq=>hL.2 q ?_⟩,by rw [EU,List.length_take];omega,fun i u d hu hd=>?_⟩
    .rcases hL.1 with ⟨⟨ad',h1⟩,rfl⟩ | ⟨b,o',c',h1,h2,h3,h4⟩
     .injection h1 with h5 h6 h7
      subst h5 h7
      have:h.toNat=0:=by omega
      rw [this]
      exact .inl ⟨⟨_,rfl⟩,by simp⟩
     .injection h1 with h5 h6 h7
      subst h5 h7
      refine .inr ⟨b,o',c,by rw [EU],h2,by omega,fun j u hj=>h4 j u ?_⟩
      rw [List.getElem?_take] at hj
      split at hj
      .exact hj
      .cases hj
    .cases c with
     | zero=>simp [eV] at hq
     | succ c=>cases ad <;> simp [eV,Value.ownBlock] at hq |-;exact hq
    .rw [List.getElem?_take] at hu hd
     split at hu
     .rename_i cM
      rw [if_pos cM] at hd
      exact Cj i u d hu hd
     .cases hu
   .cases hm
end aYz
def aZ.top (V:aZ) (F:Nat):Prop:=∀ l,F<=l->V.β l=none/\V.σ l=none
def aI (P:Program) (Γ:Env) (f:FuncId) (S:Sum):Prop:=
 ∀ vs T lab F e,S vs T lab F=some e->(∀ q∈e.bK,q)->∀ (w0:World) (M:Nat->Prop) (V:aZ) (T2:bA) (w:World) (xs:List Value),
   (∀ l B,T l=some B->T2 l=some B)->aC w0 M V T2 w->bO Γ V->V.fresh lab->V.top F->aG V vs=some xs ->
   ∀ (o:Oper) (a:Act) K Q,(∀ V' x w',V.ext lab V'->den V' e.val=some x->aC w0 M V' (eG T2 lab e) w'->K (a.put o.dst x) w') ->
     o.upon P a K Q ((callFunc f xs.toArray).run P w)
def Ek (P:Program) (Γ:Env) (f:FuncId) (S:Sum):Prop:=
 ∀ vs T lab F e,S vs T lab F=some e->(∀ q∈e.bK,q)->∀ (w0:World) (M:Nat->Prop) (V:aZ) (T2:bA) (w:World) (xs:List Value),
   (∀ l B,T l=some B->T2 l=some B)->aC w0 M V T2 w->bO Γ V->V.fresh lab->V.top F->aG V vs=some xs ->
   ∀ (fn:Func) (tmps:Array Value) (ds:List Deferred) (R:Ending->World->Prop),(∀ V' w',V.ext lab V'->aC w0 M V' (eG T2 lab e) w'->Leaves P fn tmps R ds .returning w') ->
     ∀ aS cs:Array Value,aS.toList++cs.toList=xs->Leaves P fn tmps R ({ target:=.fn (.func f) cs,args:=aS }::ds) .returning w
def cK (P:Program) (Γ:Env):Prop:=(∀ f S,Γ.sum f=some S->aI P Γ f S)/\(∀ f S,Γ.XX f=some S->Ek P Γ f S) /\
 (∀ t,Γ.cmp.elem t=true->(∀ i,P.info? t=some i->i.comparable=true)/\P.stoodInHeld t=false)/\∃ d,P.depth=d+2
def kN (a b:Option bL):Option bL:=match a with
 | some e=>some e
 | none=>b
def Zx (a b:IntKind):Bool:=decide (a=b)
def Sw:SB->Bool
 | .own .. | .ints .. | .eK .. | .row .. => true
 | _=>false
def nG:List SV->List SV->Option (Bool × Bool)
 | [],[]=>some (true,true)
 | .int s k a::xs,.int s' k' b::ys=>match Zx k k',nG xs ys with
   | true,some (l,r)=>some (s&&(s'&&l),(a==b)&&r)
   | _,_=>none
 | _,_=>none
def Tv (op:BinOp) (s b:Bool):Option bL:=match op with
 | .eql=>some { val:=.bool s b }
 | .neq=>some { val:=.bool s (!b) }
 | _=>none
def VY (T:bA) (l o:Nat):Option ByteArray:=match T l,o with
 | some (.fS (.raw (.string s)::_)),0=>some s
 | _,_=>none
def neS:List UInt8->List UInt8->Bool
 | [],[]=>false
 | x::r,y::q=>match Nat.beq x.toNat y.toNat with
   | true=>neS r q
   | false=>true
 | _,_=>true
theorem LZ:∀ {s q:List UInt8},neS s q=true->s≠q
 | [],[],h,_=>by simp [neS] at h
 | [],y::q,_,e=>by cases e
 | x::r,[],_,e=>by cases e
 | x::r,y::q,h,e=>by
   cases e
   simp only [neS,Nat.beq_refl] at h
   exact LZ h rfl
def Xo (Γ:Env) (g:Nat->Option SV) (T:bA) (op:BinOp) (t:TypeId) (x y:Operand):Option bL:=
 match ev Γ g x,ev Γ g y with
 | some (.ptr l _ o),some (.ptr l' _ o')=>match Γ.ty t with
   | some ti=>match ti.desc with
     | .pointer el=>match Γ.ty el with
       | some te=>match Nat.beq l l' with
         | true=>match Nat.beq o o' with
           | true=>vN op true
           | false=>match Nat.beq te.size 0 with
             | true=>none
             | false=>vN op false
         | false=>match Nat.beq te.size 0,T l,T l' with
           | false,some B,some B'=>match Sw B&&Sw B' with
             | true=>vN op false
             | false=>none
           | _,_,_=>none
       | none=>none
     | _=>none
   | none=>none
 | some (.rG t1 (.ptr l _ o)),some (.rG t2 (.ptr l' _ o'))=>match Γ.ty t,Γ.ty t1 with
   | some ti,some t1i=>match ti.desc,t1i.desc with
     | .interface _,.pointer el=>match Γ.ty el with
       | some te=>match Nat.beq t1 t2&&(Nat.beq l l'&&(Nat.beq o o'&&Γ.cmp.elem t1)) with
         | true=>vN op true
         | false=>match Nat.beq t1 t2&&(Γ.cmp.elem t1 && !Nat.beq te.size 0),VY T l o,VY T l' o' with
           | true,some s,some s'=>match neS s.data.toList s'.data.toList with
             | true=>vN op false
             | false=>none
           | _,_,_=>none
       | none=>none
     | _,_=>none
   | _,_=>none
 | some (.agg xs),some (.agg ys)=>match Γ.ty t with
   | some ti=>match ti.desc with
     | .array n el=>match Γ.ty el with
       | some te=>match te.desc,Nat.beq te.size 1&&Nat.beq xs.length n,nG xs ys with
         | .int _,true,some (l,r)=>Tv op l r
         | _,_,_=>none
       | none=>none
     | _=>none
   | none=>none
 | _,_=>none
def Kw (op:BinOp) (n:Nat) (xs ys:List Int):Option bL:=match op with
 | .eql=>some { bK:=[xs.length=n/\ys.length=n],val:=.bool false (decide (xs=ys)) }
 | .neq=>some { bK:=[xs.length=n/\ys.length=n],val:=.bool false (!decide (xs=ys)) }
 | _=>none
def Kx (Γ:Env) (g:Nat->Option SV) (op:BinOp) (t:TypeId) (x y:Operand):Option bL:=
 match (ev Γ g x).bind cJ,(ev Γ g y).bind cJ,Γ.ty t with
 | some (k,xs),some (k2,ys),some ti=>match ti.desc with
   | .array n el=>match Γ.ty el with
     | some te=>match te.desc,Nat.beq te.size 1,zX k k2 with
       | .int _,true,true=>Kw op n xs ys
       | _,_,_=>none
     | none=>none
   | _=>none
 | _,_,_=>none
def Ku (Γ:Env) (g:Nat->Option SV) (op:BinOp) (t:TypeId) (x y:Operand):Option bL:=
 match ev Γ g x,ev Γ g y,Γ.ty t with
 | some (.agg [.int _ k1 a,.int _ k2 b]),some (.agg [.int _ k3 c,.int _ k4 d]),some ti=>match ti.desc with
   | .struct fs=>match fs.toList with
     | [f1,f2]=>match Γ.ty f1.type,Γ.ty f2.type with
       | some t1,some t2=>match t1.desc,t2.desc,((!(f1.name == "_") && !(f2.name == "_"))&&(Nat.beq f1.offset 0&&Nat.beq f2.offset 1))&&((zX k1 k3&&zX k2 k4)&&Γ.cmp.elem t) with
         | .int _,.int _,true=>match op with
           | .eql=>some { val:=.bool false (decide (a=c)&&decide (b=d)) }
           | .neq=>some { val:=.bool false (!(decide (a=c)&&decide (b=d))) }
           | _=>none
         | _,_,_=>none
       | _,_=>none
     | _=>none
   | _=>none
 | _,_,_=>none
def Ty (Γ:Env) (g:Nat->Option SV) (t:TypeId) (x y:Operand) (lab:Nat):Option bL:=
 match ev Γ g x,ev Γ g y,Γ.ty t with
 | some (.int true _ 0),some (.int _ _ c),some ti=>match ti.desc with
   | .slice el=>match Γ.ty el with
     | some te=>match Nat.beq te.size 2&&Nat.beq te.zero.length 2 with
       | true=>some { bK:=[0<=c/\(te.bytes:Int)*c<=2^48/\c<2^63],val:=.buf lab,new:=[.eQ [] el] }
       | false=>none
     | none=>none
   | _=>none
 | _,_,_=>none
def Tz (Γ:Env) (g:Nat->Option SV) (t:TypeId) (x y:Operand) (lab:Nat):Option bL:=
 match ev Γ g x,ev Γ g y,Γ.ty t with
 | some (.int _ _ n),some (.int _ _ c),some ti=>match ti.desc with
   | .slice el=>match Γ.ty el with
     | some te=>match te.zero,Nat.beq te.size 1 with
       | [.raw (.slice none 0 0)],true=>some { bK:=[0<=n/\n<=c/\(te.bytes:Int)*c<=2^48/\c<2^63],val:=.aJ lab false 0 n.toNat c.toNat,new:=[.eK (List.replicate c.toNat (.slice none 0 0)) el] }
       | _,_=>none
     | none=>none
   | _=>none
 | _,_,_=>none
def Kv (Γ:Env) (g:Nat->Option SV) (T:bA) (op:BinOp) (t:TypeId) (x y:Operand):Option bL:=
 match ev Γ g x,ev Γ g y,Γ.ty t,op with
 | some (.xZ l i _),some (.raw (.slice none 0 0)),some ti,.eql=>match ti.desc,T l with
   | .slice _,some (.gU ds _)=>some { bK:=[ds.length<=i],val:=.bool true true }
   | _,_=>none
 | _,_,_,_=>none
section aGj
variable {P:Program} {Γ:Env} {V:aZ} {w w0:World} {M:Nat->Prop} {T:bA} {g:Nat->Option SV} {a:Act} {o:Oper} {e:bL}
def KE (T:bA) (te:TI) (x y:SV):Option bL:=
 match x,BD te.desc,Nat.beq te.size 1 with
 | .aJ l true 0 len cap,some k,true=>match T l with
   | some (.ints k2 xs ty)=>match zX k k2,AV T k y with
     | true,some (ob,ys)=>some { bK:=(cap=xs.length/\len+ys.length<=cap)::ob,val:=.aJ l true 0 (len+ys.length) cap,wr:=[(l,.ints k (xs.take len++ys++xs.drop (len+ys.length)) ty)] }
     | _,_=>none
   | _=>none
 | _,_,_=>none
theorem SR (aR:cC P Γ) {T':bA} (aK:∀ l B,T' l=some B->T l=some B) (hT:aC w0 M V T w) {lab:Nat} {t ty el:TypeId} {te:TI} (ht:P.underlying t=some (.slice el)) (eE:Γ.ty el=some te)
 {x y:SV} {u v:Value} (hx:den V x=some u) (hy:den V y=some v) (he:KE T' te x y=some e) (ho:∀ q∈e.bK,q):oR P w0 M V T lab e (Builtin.append_ #[t,t] ty #[u,v]) w:=by
 unfold KE at he
 split at he
 case h_2=>cases he
 rename_i l len cap k hk gR
 split at he
 case h_2=>cases he
 rename_i k2 xs ety hB
 split at he
 case h_2=>cases he
 rename_i ob ys Ci hq
 simp only [zzI] at he
 subst he
 have Ci:k=k2:=zzD Ci
 subst Ci
 obtain ⟨rC,hle⟩:=ho _ zzC
 obtain ⟨_,i,z,hi,cF,jT,hz,hzero⟩:=aR el te eE
 have fU:i.size=1:=by rw [cF];exact zzN gR
 have hh:=wD (hT.sub aK) hy hq (fun q hq=>ho q (zzO _ hq))
 simp only [den,zzM] at hx
 obtain ⟨p,hβ,rfl⟩:=hx
 obtain ⟨w',hr,oZ⟩:=pO (P:=P) (xs:=ys) (off:=len) lab (.aJ l true 0 (len+ys.length) cap) ((cap=xs.length/\len+ys.length<=cap)::ob) hT (aK l _ hB) (b:=p.1) (o:=p.2) hβ (by omega)
 have aSk:(⟨p.1,p.2,none⟩:Addr).add len=⟨p.1,p.2+len,none⟩:=by cases len <;> simp [Addr.add]
 refine ⟨V,.slice (some ⟨p.1,p.2+0,none⟩) (len+ys.length) cap,w',?_,V.cP lab,by simp [den,hβ],oZ⟩
 rcases hh with ⟨rfl,rK⟩ | ⟨ad,c,rfl,bZ⟩
 .have:ys=[]:=by simpa using rK
  subst this
  have hf:=run_firstCells_none (P:=P) (w:=w) 1 0 0 0
  have XI:len<=cap:=by simpa using hle
  simp at hr
  simp [Builtin.append_,run_underlying ht,Builtin.lenOf,run_sizeOf hi,fU,hf,XI,aSk,hr]
 .have hf:=run_firstCells_some (P:=P) (w:=w) 1 ys.length ad ys.length c (ys.map (Value.int k)) (by simp) bZ
  simp [Builtin.append_,run_underlying ht,Builtin.lenOf,run_sizeOf hi,fU,hf,hle,aSk,hr]
def Mf (T:bA) (te:TI) (x:SV):Option bL:=
 match x,te.zero,Nat.beq te.size 1 with
 | .aJ l false off len _,[.int _ k z],true=>match T l with
   | some (.ints k2 xs ty)=>match zX k k2 with
     | true=>some { bK:=[off+len<=xs.length],val:=.eP [],wr:=[(l,.ints k (xs.take off++List.replicate len z++xs.drop (off+len)) ty)] }
     | _=>none
   | _=>none
 | _,_,_=>none
theorem We (aR:cC P Γ) {T':bA} (aK:∀ l B,T' l=some B->T l=some B) (hT:aC w0 M V T w) {lab:Nat} {t ty el:TypeId} {te:TI} (ht:P.underlying t=some (.slice el)) (eE:Γ.ty el=some te)
 {x:SV} {u:Value} (hx:den V x=some u) (he:Mf T' te x=some e) (ho:∀ q∈e.bK,q):oR P w0 M V T lab e (Builtin.clear_ #[t] ty #[u]) w:=by
 unfold Mf at he
 split at he
 case h_2=>cases he
 rename_i l off len cap sz k z FL gR
 split at he
 case h_2=>cases he
 rename_i k2 xs ety hB
 split at he
 case h_2=>cases he
 rename_i Ci
 simp only [zzI] at he
 subst he
 have Ci:k=k2:=zzD Ci
 subst Ci
 have hle:=ho _ zzC
 obtain ⟨_,i,zv,hi,cF,jT,hz,hzero⟩:=aR el te eE
 have Be:zv.cells = #[.int k z]:=by
  have:=hzero V
  rw [FL] at this
  simp only [aG,den,zza,zzm,zzI] at this
  rw [<- Array.toList_inj,<- this]
 simp only [den,zzM] at hx
 obtain ⟨p,hβ,rfl⟩:=hx
 obtain ⟨w',hr,oZ⟩:=pO (P:=P) (xs:=List.replicate len z) (off:=off) lab (.eP []) [off+len<=xs.length] hT (aK l _ hB) (b:=p.1) (o:=p.2) hβ (by simpa using hle)
 rw [List.length_replicate] at oZ
 cases len with
 | zero=>
   refine ⟨V,.tuple #[],w',?_,V.cP lab,by simp [den,aG],oZ⟩
   simp only [List.replicate_zero,List.map_nil,storeCells,Sem.run_pure,Result.ok.injEq,true_and] at hr
   subst hr
   simp [Builtin.clear_,run_underlying ht]
 | succ n=>
   refine ⟨V,.tuple #[],w',?_,V.cP lab,by simp [den,aG],oZ⟩
   have hzl:(Builtin.zeroCells zv.cells (n+1)).toList=(List.replicate (n+1) z).map (Value.int k):=by
    rw [Be,iX]
    simp
   rw [<- hzl] at hr
   simp [Builtin.clear_,run_underlying ht,eJ hi hz,hr]
def hdK (k:IntKind):List SV->List Int × List SV
 | .int s k' n::r=>match zX k k' with
   | true=>((n::(hdK k r).1),(hdK k r).2)
   | false=>([],.int s k' n::r)
 | r=>([],r)
def UZ (k:IntKind):List SV->List SV × List Int × List SV
 | []=>([],[],[])
 | v::r=>match (hdK k (v::r)).1 with
   | []=>(v::(UZ k r).1,(UZ k r).2.1,(UZ k r).2.2)
   | n::ns=>([],n::ns,(hdK k (v::r)).2)
theorem MJ {V:aZ} {k:IntKind}:∀ {cs:List SV} {xs:List Value},aG V cs=some xs->∃ qs,aG V (hdK k cs).2=some qs/\xs=(hdK k cs).1.map (Value.int k)++qs
 | [],xs,h=>⟨xs,h,rfl⟩
 | v::r,xs,h=>by
   unfold hdK
   split
   .rename_i s k' n r' e
    cases e
    split
    .rename_i hk
     have hk:k=k':=zzD hk
     subst hk
     simp only [aG,den,zza,zzM] at h
     obtain ⟨ys,hy,rfl⟩:=h
     obtain ⟨qs,h1,h2⟩:=MJ (k:=k) hy
     exact ⟨qs,h1,by rw [h2];rfl⟩
    .exact ⟨xs,h,rfl⟩
   .exact ⟨xs,h,rfl⟩
theorem LD {V:aZ} {k:IntKind}:∀ {cs:List SV} {xs:List Value},aG V cs=some xs->∃ ps qs,aG V (UZ k cs).1=some ps/\aG V (UZ k cs).2.2=some qs/\xs=ps++((UZ k cs).2.1.map (Value.int k)++qs)
 | [],xs,h=>by simp only [aG,zzI] at h;subst h;exact ⟨[],[],rfl,rfl,rfl⟩
 | v::r,xs,h=>by
   unfold UZ
   split
   .simp only [aG,zzM,zzB] at h
    obtain ⟨x,hx,ys,hy,rfl⟩:=h
    obtain ⟨ps,qs,h1,h2,h3⟩:=LD (k:=k) hy
    exact ⟨x::ps,qs,by simp [aG,hx,h1],h2,by rw [h3];rfl⟩
   .rename_i n ns e
    obtain ⟨qs,h1,h2⟩:=MJ (k:=k) h
    rw [e] at h2
    exact ⟨[],qs,rfl,h1,h2⟩
def rR (k:IntKind) (cs:List SV) (ty:TypeId) (off:Nat) (ys:List Int):Prop × SB:=match UZ k cs with
 | (pre,ns,post)=>((pre.length<=off/\off+ys.length<=pre.length+ns.length),match pre,post with
   | [],[]=>.ints k (ns.take off++ys++ns.drop (off+ys.length)) ty
   | pre,post=>.own (pre++(cI k ns.length (ns.take (off-pre.length)++ys++ns.drop (off-pre.length+ys.length))++post)) ty)
theorem Em {k:IntKind} {cells:List SV} {ty:TypeId} {l off b o:Nat} {ys:List Int} (lab:Nat) (rv:SV) (ob:List Prop)
 (hT:aC w0 M V T w) (hl:T l=some (.own cells ty)) (hβ:V.β l=some (b,o)) (hle:(rR k cells ty off ys).1) :
 ∃ w',(storeCells ⟨b,o+off,none⟩ (ys.map (Value.int k))).run P w = .ok () w'/\aC w0 M V (eG T lab { bK:=ob,val:=rv,wr:=[(l,(rR k cells ty off ys).2)] }) w':=by
 obtain ⟨cs,hc,b',hb,hh⟩:=hT.ok l _ hl
 rw [hβ] at hb;cases hb
 obtain ⟨ps,qs,h1,h2,h3⟩:=LD (V:=V) (k:=k) (show aG V cells=some cs from hc)
 unfold rR at hle |-
 generalize UZ k cells=sp at *
 obtain ⟨pre,ns,post⟩:=sp
 simp only at hle h1 h2 h3 |-
 obtain ⟨ha,lR⟩:=hle
 have Rq:=bC h1
 have qS:cs.length=pre.length+(ns.length+post.length):=by rw [h3];simp [Rq,bC h2]
 refine ⟨_,run_storeCells_at P b (0+off) ty _ 0 _ w hh (by simp;omega) (by intro x hx;simp only [List.mem_map] at hx;obtain ⟨y,_,rfl⟩:=hx;rfl),?_⟩
 obtain ⟨zs,rJ⟩:∃ zs,zs=ns.take (off-pre.length)++ys++ns.drop (off-pre.length+ys.length):=⟨_,rfl⟩
 have hzl:zs.length=ns.length:=by rw [rJ];simp;omega
 have key:ps++(zs.map (Value.int k)++qs)=cs.take off++ys.map (Value.int k)++cs.drop (off+(ys.map (Value.int k)).length):=by
  rw [h3,rJ]
  obtain ⟨d,rfl⟩:∃ d,off=pre.length+d:=⟨off-pre.length,by omega⟩
  have e1:(ps++(ns.map (Value.int k)++qs)).take (pre.length+d)=ps++(ns.map (Value.int k)).take d:=by
   rw [<- Rq,List.take_length_add_append,List.take_append_of_le_length (by simp;omega)]
  have e2:(ps++(ns.map (Value.int k)++qs)).drop (pre.length+d+(ys.map (Value.int k)).length)=(ns.map (Value.int k)).drop (d+ys.length)++qs:=by
   rw [<- Rq,List.length_map,Nat.add_assoc,List.drop_length_add_append,List.drop_append_of_le_length (by simp;omega)]
  rw [e1,e2,Nat.add_sub_cancel_left]
  simp [List.map_take,List.map_drop]
 split
 .have e0:ps=[]:=by cases ps with | nil=>rfl | cons=>simp at Rq
  have e1:qs=[]:=by have:=bC h2;cases qs with | nil=>rfl | cons=>simp at this
  subst e0 e1
  simp only [List.length_nil,Nat.sub_zero] at rJ
  rw [<- rJ]
  have:=hT.write (B0:=.own cells ty) (B:=.ints k zs ty) hl hβ rfl (by simp [SB.aN,hβ]) hh (cs:=cs.take off++ys.map (Value.int k)++cs.drop (off+(ys.map (Value.int k)).length)) (by rw [<- key];simp [SB.cells]) (.inr (.inl rfl)) lab rv ob
  simpa using this
 .rw [<- rJ]
  have vH:aG V (pre++(cI k ns.length zs++post))=some (ps++(zs.map (Value.int k)++qs)):=cH h1 (cH (xK hzl) h2)
  rw [key] at vH
  have:=hT.write (B0:=.own cells ty) (B:=.own (pre++(cI k ns.length zs++post)) ty) hl hβ rfl (by simp [SB.aN,hβ]) hh vH (.inl rfl) lab rv ob
  simpa using this
def Uf (T:bA) (te:TI) (x y:SV):Option bL:=
 match x,BD te.desc,Nat.beq te.size 1 with
 | .aJ l _ off len _,some k,true=>match AV T k y with
   | some (ob,ys)=>match T l with
     | some (.own cs ty)=>some { bK:=(rR k cs ty off (ys.take (Nat.min ys.length len))).1::ob,val:=.int false .i64 ((Nat.min ys.length len:Nat):Int),wr:=[(l,(rR k cs ty off (ys.take (Nat.min ys.length len))).2)] }
     | some (.ints k2 xs ty)=>match zX k k2 with
       | true=>some { bK:=(off+Nat.min ys.length len<=xs.length)::ob,val:=.int false .i64 ((Nat.min ys.length len:Nat):Int),wr:=[(l,.ints k (xs.take off++ys.take (Nat.min ys.length len)++xs.drop (off+Nat.min ys.length len)) ty)] }
       | false=>none
     | _=>none
   | none=>none
 | _,_,_=>none
theorem DX (aR:cC P Γ) {T':bA} (aK:∀ l B,T' l=some B->T l=some B) (hT:aC w0 M V T w) {lab:Nat} {dT sT ty el:TypeId} {te:TI} (ht:P.underlying dT=some (.slice el)) (eE:Γ.ty el=some te)
 {x y:SV} {u v:Value} (hx:den V x=some u) (hy:den V y=some v) (he:Uf T' te x y=some e) (ho:∀ q∈e.bK,q):oR P w0 M V T lab e (Builtin.copy_ #[dT,sT] ty #[u,v]) w:=by
 unfold Uf at he
 split at he
 case h_2=>cases he
 rename_i l s off len cap k hk gR
 split at he
 case h_2=>cases he
 rename_i ob ys hq
 obtain ⟨_,i,z,hi,cF,jT,hz,hzero⟩:=aR el te eE
 have fU:i.size=1:=by rw [cF];exact zzN gR
 simp only [den,zzM] at hx
 obtain ⟨p,hβ,rfl⟩:=hx
 have fin:∀ (B:SB) (q:Prop),(∃ w',(storeCells ⟨p.1,p.2+off,none⟩ ((ys.take (Nat.min ys.length len)).map (Value.int k))).run P w = .ok () w'/\aC w0 M V (eG T lab { bK:=q::ob,val:=.int false .i64 ((Nat.min ys.length len:Nat):Int),wr:=[(l,B)] }) w') ->
  Ox w v (ys.map (Value.int k))->oR P w0 M V T lab { bK:=q::ob,val:=.int false .i64 ((Nat.min ys.length len:Nat):Int),wr:=[(l,B)] } (Builtin.copy_ #[dT,sT] ty #[.slice (some ⟨p.1,p.2+off,none⟩) len cap,v]) w:=by
  rintro B q ⟨w',hr,oZ⟩ hh
  refine ⟨V,.int .i64 ((Nat.min ys.length len:Nat):Int),w',?_,V.cP lab,rfl,oZ⟩
  rcases hh with ⟨rfl,rK⟩ | ⟨ad,c,rfl,bZ⟩
  .have:ys=[]:=by simpa using rK
   subst this
   have hf:=run_firstCells_none (P:=P) (w:=w) 1 0 0 0
   simp at hr
   simp [Builtin.copy_,run_underlying ht,Builtin.lenOf,run_sizeOf hi,fU,hf,hr,goInt]
  .have hf:=run_firstCells_some (P:=P) (w:=w) 1 (Nat.min ys.length len) ad ys.length c ((ys.take (Nat.min ys.length len)).map (Value.int k))
    (by rw [List.length_map,List.length_take,Nat.mul_one];exact Nat.min_eq_left (Nat.min_le_left _ _))
    (fun j q hj=>by
     rw [List.map_take,List.getElem?_take] at hj
     split at hj
     .exact bZ j q hj
     .cases hj)
   have e1:(ys.map (Value.int k)).length=ys.length:=by simp
   rw [e1]
   simp [Builtin.copy_,run_underlying ht,Builtin.lenOf,run_sizeOf hi,fU,goInt] at hf hr |-
   simp [hf,hr]
 split at he
 .rename_i cs ety hB
  simp only [zzI] at he
  subst he
  exact fin _ _ (Em lab _ _ hT (aK l _ hB) hβ (ho _ zzC)) (wD (hT.sub aK) hy hq (fun q hq=>ho q (zzO _ hq)))
 .rename_i k2 xs ety hB
  split at he
  case h_2=>cases he
  rename_i Ci
  simp only [zzI] at he
  subst he
  have Ci:k=k2:=zzD Ci
  subst Ci
  have hle:off+Nat.min ys.length len<=xs.length:=ho _ zzC
  have Rd:(ys.take (Nat.min ys.length len)).length=Nat.min ys.length len:=by rw [List.length_take];exact Nat.min_eq_left (Nat.min_le_left _ _)
  have:=pO (P:=P) (xs:=ys.take (Nat.min ys.length len)) (off:=off) lab (.int false .i64 ((Nat.min ys.length len:Nat):Int)) ((off+Nat.min ys.length len<=xs.length)::ob) hT (aK l _ hB) (b:=p.1) (o:=p.2) hβ (by omega)
  rw [Rd] at this
  exact fin _ _ this (wD (hT.sub aK) hy hq (fun q hq=>ho q (zzO _ hq)))
 .cases he
theorem zK {t t2 ty el:TypeId} {ik:IntKind} {i:TypeInfo} {z z0 v:Value} (ht:P.underlying t=some (.slice el)) (Ro:P.underlying t2=some (.int ik)) (hi:P.info? el=some i) (hz:i.zero=some z) (gR:i.size=1) (Be:z.cells = #[z0]) (h1:z0.oneCell'=true)
 (k0:IntKind) (m:Nat) (h0:0<m) {n:Nat} {xs:List Value} (fN:w.ownsRow 0 el 1 v n xs) (h63:n+m<=maxLen) (hb:(n+m)*i.bytes<=140737488355328) :
 ∃ v' w',(Builtin.append_ #[t,t2] ty #[v,.int k0 m]).run P w = .ok v' w'/\w'.ownsRow 0 el 1 v' (n+m) (xs++List.replicate m z0)/\w.grownBy w' v.ownBlock/\(v'.ownBlock=v.ownBlock\/v'.ownBlock=some w.heap.size) /\
   ∀ k,iS w k v->(∃ q,z0=Value.int k q)->iS w' k v':=by
 have Ts:n+m<=9223372036854775807:=by simp only [maxLen] at h63;omega
 have rJ:∀ c,Builtin.zeroCells z.cells c=(List.replicate c z0).toArray:=fun c=>by rw [Be,iX]
 have hw:IntKind.i64.wrap (m:Int)=m:=IntWalk.i64_in _ (by omega)
 have hmm:¬ ((m:Int)<0):=by omega
 have hbm:m*i.bytes<=140737488355328:=Nat.le_trans (Nat.mul_le_mul_right _ (Nat.le_add_left m n)) hb
 have h2:¬ (281474976710656<(m:Int)*(i.bytes:Int)):=by
  have:((m*i.bytes:Nat):Int)<=140737488355328:=by omega
  rw [Int.natCast_mul] at this
  omega
 rcases fN.2 with ⟨rfl,rfl⟩ | ⟨g,cap,cur,rfl,_,hg,UF,FV,mK,cT⟩
 .have mJ:xs=[]:=List.eq_nil_of_length_eq_zero (by simpa using fN.1)
  subst mJ
  rw [Nat.zero_add] at h63 hb Ts
  have hr:=qX (P:=P) (ty:=ty) w ht Ro hi hz gR k0 m h0 (by omega) hb
  have hgc:=grownCap_ge w m 0 el
  have hgm:grownCap w m 0 el<=maxLen:=grownCap_le_maxLen w m 0 el (by simp only [maxLen];omega)
  refine ⟨_,_,hr,⟨by simp,.inr ⟨w.heap.size,grownCap w m 0 el,_,by rw [Nat.zero_add],Nat.zero_le _,heap_alloc_new w.drew _,by omega,hgm,?_,?_⟩⟩,⟨rfl,rfl,rfl,by simp,fun k hk _=>heap_alloc_old w.drew _ hk⟩,.inr rfl,fun k _ hq b hb=>?_⟩
  .rw [rJ,rJ];simp;omega
  .rw [rJ,rJ];simp
  .cases hb
   obtain ⟨q,rfl⟩:=hq
   refine ⟨_,_,_,heap_alloc_new w.drew _,fun x hx=>?_⟩
   rw [rJ,rJ] at hx
   simp only [Array.toList_append,List.mem_append] at hx
   rcases hx with hx | hx <;> exact ⟨q,List.eq_of_mem_replicate hx⟩
 .rw [Nat.mul_one] at mK cT
  have aSg:cur.toList.length=cap:=by rw [Array.length_toList];exact mK
  by_cases vR:n+m<=cap
  .have Jq:=run_storeCells_at P g n el (List.replicate m z0) 0 cur w hg (by simp;omega) (fun u hu=>by rw [List.eq_of_mem_replicate hu];exact h1)
   simp only [Nat.add_zero,List.length_replicate] at Jq
   have hr:(Builtin.append_ #[t,t2] ty #[.slice (some ⟨g,0,none⟩) n cap,.int k0 m]).run P w = .ok (.slice (some ⟨g,0,none⟩) (n+m) cap) (w.setRow g (cur.toList.take n++List.replicate m z0++cur.toList.drop (n+m)).toArray):=by
    have dG:m≠0:=by omega
    simp [Builtin.append_,run_underlying ht,run_underlying Ro,sizeOf,typeInfo,zeroValue,hi,hz,gR,asInt,asIntOf,hw,hmm,h2,dG,vR,rJ,Addr.add_lit,Jq]
   refine ⟨_,_,hr,⟨by simp [fN.1],.inr ⟨g,cap,_,rfl,Nat.zero_le _,setRow_heap w g cur _ el (0,0) hg,vR,FV,?_,?_⟩⟩,⟨rfl,rfl,rfl,by simp [World.setRow],fun k _ hk=>setRow_other w g k _ (fun e=>hk (by simp [Value.ownBlock,e]))⟩,.inl rfl,fun k hI hq b hb=>?_⟩
   .simp;omega
   .have hl:(cur.toList.take n).length=n:=by rw [List.length_take];omega
    rw [Nat.mul_one,<- cT,List.take_append_of_le_length (by simp;omega)]
    rw [List.take_of_length_le (by simp;omega)]
   .cases hb
    obtain ⟨q,rfl⟩:=hq
    obtain ⟨XY,ty2,p2,vH,kU⟩:=hI g rfl
    rw [hg] at vH
    cases vH
    refine ⟨_,_,_,setRow_heap w g cur _ el (0,0) hg,fun x hx=>?_⟩
    simp only [List.mem_append] at hx
    rcases hx with (hx | hx) | hx
    .exact kU x (List.mem_of_mem_take hx)
    .exact ⟨q,List.eq_of_mem_replicate hx⟩
    .exact kU x (List.mem_of_mem_drop hx)
  .have holds:∀ (j:Nat) (u:Value),xs[j]?=some u->w.drew.cell? ((⟨g,0,none⟩:Addr).add j)=some u:=fun j u hj=>by
    have:w.cell? ((⟨g,0,none⟩:Addr).add j)=some u:=by
     rw [bH,cell_of_row w g _ _ _ _ hg]
     rw [<- cT,List.getElem?_take] at hj
     split at hj
     .simpa using hj
     .cases hj
    simpa using this
   have FT:=run_firstCells_some (P:=P) w.drew i.size n ⟨g,0,none⟩ n cap xs (by rw [gR];exact fN.1) holds
   rw [gR] at FT
   have hn:¬ (n+m<=cap):=vR
   have aJh:¬ (9223372036854775807<((n:Int)+(m:Int))):=by omega
   have h48:Builtin.nextslicecap (n+m) cap*i.bytes<=281474976710656:=growslice_fits (by omega) hb
   have aJi:¬ (281474976710656<Builtin.nextslicecap (n+m) cap*i.bytes):=by omega
   have dG:m≠0:=by omega
   have hr:(Builtin.append_ #[t,t2] ty #[.slice (some ⟨g,0,none⟩) n cap,.int k0 m]).run P w = .ok (.slice (some ⟨w.heap.size,0,none⟩) (n+m) (grownCap w (n+m) cap el))
    (w.drew.alloc (.cells (xs.toArray++Builtin.zeroCells z.cells m++Builtin.zeroCells z.cells (grownCap w (n+m) cap el-(n+m))) el)):=by
    simp [Builtin.append_,run_underlying ht,run_underlying Ro,sizeOf,typeInfo,zeroValue,hi,hz,gR,asInt,asIntOf,hw,hmm,h2,dG,hn,aJh,aJi,Question.forced,FT,newRow,grownCap]
   have hgc:=grownCap_ge w (n+m) cap el
   have hgm:grownCap w (n+m) cap el<=maxLen:=grownCap_le_maxLen w (n+m) cap el h63
   have Ho:=fN.1
   rw [Nat.mul_one] at Ho
   refine ⟨_,_,hr,⟨by simp [Ho],.inr ⟨w.heap.size,_,_,rfl,Nat.zero_le _,heap_alloc_new w.drew _,hgc,hgm,?_,?_⟩⟩,⟨rfl,rfl,rfl,by simp,fun k hk _=>heap_alloc_old w.drew _ hk⟩,.inr rfl,fun k hI hq b hb=>?_⟩
   .rw [rJ,rJ];simp [Ho];omega
   .rw [rJ,rJ,Nat.mul_one]
    simp only [Array.toList_append]
    rw [List.take_append_of_le_length (by simp [Ho]),List.take_of_length_le (by simp [Ho])]
   .cases hb
    obtain ⟨q,rfl⟩:=hq
    obtain ⟨XY,ty2,p2,vH,kU⟩:=hI g rfl
    rw [hg] at vH
    cases vH
    refine ⟨_,_,_,heap_alloc_new w.drew _,fun x hx=>?_⟩
    rw [rJ,rJ] at hx
    simp only [Array.toList_append,List.mem_append] at hx
    rcases hx with (hx | hx) | hx
    .rw [<- cT] at hx
     exact kU x (List.mem_of_mem_take hx)
    .exact ⟨q,List.eq_of_mem_replicate hx⟩
    .exact ⟨q,List.eq_of_mem_replicate hx⟩
def Sa (te:TI):Int:=match te.zero with
 | [.int _ _ z]=>z
 | _=>0
def KA (T:bA) (d:TypeDesc) (te:TI) (el:TypeId) (lab:Nat) (x y:SV):Option bL:=
 match BD te.desc,Nat.beq te.size 1&&(Nat.blt 0 te.bytes&&zI te),d,y with
 | some k,true,.int _,.int _ _ m=>match Ij T k el x with
   | some (lo,o1,xs)=>some { bK:=(0<m/\((xs.length:Int)+m)*te.bytes<=140737488355328)::o1,val:=.buf lab,new:=[.cS k (xs++List.replicate m.toNat (Sa te)) el],wr:=fZ lo }
   | none=>none
 | _,_,_,_=>none
theorem SN (aR:cC P Γ) {T':bA} (aK:∀ l B,T' l=some B->T l=some B) (hT:aC w0 M V T w) {lab:Nat} (hf:V.fresh lab) {t t2 ty el:TypeId} {d:TypeDesc} {te:TI} (ht:P.underlying t=some (.slice el)) (Ro:P.underlying t2=some d) (eE:Γ.ty el=some te)
 {x y:SV} {u v:Value} (hx:den V x=some u) (hy:den V y=some v) (he:KA T' d te el lab x y=some e) (ho:∀ q∈e.bK,q):oR P w0 M V T lab e (Builtin.append_ #[t,t2] ty #[u,v]) w:=by
 unfold KA at he
 split at he
 case h_2=>cases he
 rename_i k ik sm km m hk iE
 simp only [zzn] at iE
 obtain ⟨gR,FX,hzi⟩:=iE
 split at he
 case h_2=>cases he
 rename_i lo o1 xs h1
 simp only [zzI] at he
 subst he
 obtain ⟨_,i,z,hi,cF,jT,hz,hzero⟩:=aR el te eE
 have fU:i.size=1:=by rw [cF];exact zzN gR
 have rH:0<te.bytes:=by simpa [Nat.blt_eq] using FX
 obtain ⟨hm0,hbound⟩:=ho _ zzC
 have ho1:∀ q∈o1,q:=fun q hq=>ho q (zzO _ hq)
 have Be:z.cells = #[Value.int k (Sa te)]:=by
  unfold zI at hzi
  split at hzi
  .rename_i s k1 z1 k2 TZ EW
   have e1:=zzD hzi
   subst e1
   have Ci:k1=k:=by
    unfold BD at hk
    rw [EW] at hk
    simpa using hk
   subst Ci
   have h3:=hzero V
   have e2:Sa te=z1:=by unfold Sa;rw [TZ]
   rw [TZ] at h3
   simp only [aG,den,zza,zzm,zzI] at h3
   rw [e2]
   apply Array.ext';rw [<- h3]
  .cases hzi
 obtain ⟨n,rfl⟩:=zzT (Int.le_of_lt hm0)
 simp only [den,zzI] at hy
 subst hy
 have lR:(xs.length+n)*i.bytes<=140737488355328:=by
  rw [jT]
  have:(((xs.length+n)*te.bytes:Nat):Int)<=140737488355328:=by rw [Int.natCast_mul,Int.natCast_add];exact hbound
  omega
 have GR:xs.length+n<=maxLen:=by
  rw [jT] at lR
  have:=Nat.le_mul_of_pos_right (xs.length+n) rH
  simp only [maxLen];omega
 obtain ⟨bN,jH,Js⟩:=Qe (hT.sub aK) hx h1 ho1
 have jD:∀ l,lo=some l->∃ B,T l=some B/\B.owned=true/\∀ n,u.ownBlock=some n->B.aN V l=some n:=fun l hl=>by
  obtain ⟨B,h1,h2,h3⟩:=Js l hl;exact ⟨B,aK l B h1,h2,h3⟩
 obtain ⟨v',w',hr,jZ,rL,fE,hI⟩:=zK (P:=P) (ty:=ty) ht Ro hi hz fU Be rfl km n (by omega) bN GR lR
 refine ⟨V.aX lab v',v',w',hr,aZ.bX hf lab (zzr _) (by omega) v',by simp [den,aZ.aX],?_⟩
 exact hT.append hf ⟨k,xs++List.replicate n (Sa te),rfl,rfl,rfl,hI k (vD (hT.sub aK) hx h1) ⟨_,rfl⟩⟩ (show SB.cells V (.cS k (xs++List.replicate n (Sa te)) el)=some ((xs++List.replicate n (Sa te)).map (Value.int k)) from rfl) (by simpa using jZ) rL fE jH jD _ _
def txI (s:ByteArray):List Int:=s.data.toList.map fun b=>(b.toNat:Int)
def Ue (T:bA) (te:TI) (x y:SV):Option bL:=
 match x,y,te.desc,Nat.beq te.size 1 with
 | .aJ l _ off len _,.raw (.string s),.int .u8,true=>match T l with
   | some (.own cs ty)=>some { bK:=[(rR .u8 cs ty off ((txI s).take (Nat.min s.size len))).1],val:=.int false .i64 ((Nat.min s.size len:Nat):Int),wr:=[(l,(rR .u8 cs ty off ((txI s).take (Nat.min s.size len))).2)] }
   | _=>none
 | _,_,_,_=>none
theorem DW (aR:cC P Γ) {T':bA} (aK:∀ l B,T' l=some B->T l=some B) (hT:aC w0 M V T w) {lab:Nat} {dT sT ty el:TypeId} {te:TI} (ht:P.underlying dT=some (.slice el)) (eE:Γ.ty el=some te)
 {x y:SV} {u v:Value} (hx:den V x=some u) (hy:den V y=some v) (he:Ue T' te x y=some e) (ho:∀ q∈e.bK,q):oR P w0 M V T lab e (Builtin.copy_ #[dT,sT] ty #[u,v]) w:=by
 unfold Ue at he
 split at he
 case h_2=>cases he
 rename_i l s0 off len cap s hk gR
 split at he
 case h_2=>cases he
 rename_i cs ety hB
 simp only [zzI] at he
 subst he
 obtain ⟨_,i,z,hi,cF,jT,hz,hzero⟩:=aR el te eE
 have fU:i.size=1:=by rw [cF];exact zzN gR
 simp only [den,zzM,zzI] at hx hy
 obtain ⟨p,hβ,rfl⟩:=hx
 subst hy
 obtain ⟨w',hr,oZ⟩:=Em (P:=P) lab (.int false .i64 ((Nat.min s.size len:Nat):Int)) [(rR .u8 cs ety off ((txI s).take (Nat.min s.size len))).1] hT (aK l _ hB) (b:=p.1) (o:=p.2) hβ (ho _ zzC)
 refine ⟨V,.int .i64 ((Nat.min s.size len:Nat):Int),w',?_,V.cP lab,rfl,oZ⟩
 have hf:(Builtin.firstCells 1 (Nat.min s.size len) (.string s)).run P w = .ok (((txI s).take (Nat.min s.size len)).map (Value.int .u8)).toArray w:=by
  simp only [Builtin.firstCells,Sem.run_pure]
  congr 1
  apply Array.ext'
  simp [txI,List.map_take]
  rfl
 simp [Builtin.copy_,run_underlying ht,Builtin.lenOf,run_sizeOf hi,fU,goInt] at hf hr |-
 simp [hf,hr]
def Me (T:bA) (te:TI) (x:SV):Option bL:=
 match x,te.zero,Nat.beq te.size 1 with
 | .aJ l _ off len _,[.int _ k z],true=>match T l with
   | some (.own cs ty)=>some { bK:=[(rR k cs ty off (List.replicate len z)).1],val:=.eP [],wr:=[(l,(rR k cs ty off (List.replicate len z)).2)] }
   | _=>none
 | _,_,_=>none
theorem Wd (aR:cC P Γ) {T':bA} (aK:∀ l B,T' l=some B->T l=some B) (hT:aC w0 M V T w) {lab:Nat} {t ty el:TypeId} {te:TI} (ht:P.underlying t=some (.slice el)) (eE:Γ.ty el=some te)
 {x:SV} {u:Value} (hx:den V x=some u) (he:Me T' te x=some e) (ho:∀ q∈e.bK,q):oR P w0 M V T lab e (Builtin.clear_ #[t] ty #[u]) w:=by
 unfold Me at he
 split at he
 case h_2=>cases he
 rename_i l s off len cap sz k z FL gR
 split at he
 case h_2=>cases he
 rename_i cs ety hB
 simp only [zzI] at he
 subst he
 obtain ⟨_,i,zv,hi,cF,jT,hz,hzero⟩:=aR el te eE
 have Be:zv.cells = #[.int k z]:=by
  have:=hzero V
  rw [FL] at this
  simp only [aG,den,zza,zzm,zzI] at this
  rw [<- Array.toList_inj,<- this]
 simp only [den,zzM] at hx
 obtain ⟨p,hβ,rfl⟩:=hx
 obtain ⟨w',hr,oZ⟩:=Em (P:=P) (ys:=List.replicate len z) (k:=k) (off:=off) lab (.eP []) [(rR k cs ety off (List.replicate len z)).1] hT (aK l _ hB) (b:=p.1) (o:=p.2) hβ (ho _ (by simp))
 cases len with
 | zero=>
   refine ⟨V,.tuple #[],w',?_,V.cP lab,by simp [den,aG],oZ⟩
   simp only [List.replicate_zero,List.map_nil,storeCells,Sem.run_pure,Result.ok.injEq,true_and] at hr
   subst hr
   simp [Builtin.clear_,run_underlying ht]
 | succ n=>
   refine ⟨V,.tuple #[],w',?_,V.cP lab,by simp [den,aG],oZ⟩
   have hzl:(Builtin.zeroCells zv.cells (n+1)).toList=(List.replicate (n+1) z).map (Value.int k):=by
    rw [Be,iX]
    simp
   rw [<- hzl] at hr
   simp [Builtin.clear_,run_underlying ht,eJ hi hz,hr]
end aGj
def xO (Γ:Env) (T:bA) (lab:Nat) (b:Builtin) (ts:List TypeId) (vs:List SV):Option bL:=
 match b,ts,vs with
 | .len,t::_,[v]=>match Γ.ty t with
   | some ti=>aJt Γ T ti.desc v
   | none=>none
 | .cap,t::_,[v]=>match Γ.ty t with
   | some ti=>match ti.desc with
     | .slice _=>aJu v
     | _=>none
   | none=>none
 | .append,[t,t2],[x,y]=>match Nat.beq t t2,y with
   | false,.int .. => match Γ.ty t,Γ.ty t2 with
     | some ti,some ti2=>match ti.desc with
       | .slice el=>match Γ.ty el with
         | some te=>kN (Fe ti2.desc te el lab x y) (KA T ti2.desc te el lab x y)
         | none=>none
       | _=>none
     | _,_=>none
   | _,_=>match Γ.ty t,Nat.beq t t2 with
     | some ti,true=>match ti.desc with
       | .slice el=>match Γ.ty el with
         | some te=>kN (KC T te el lab x y) (kN (KD T te el lab x y) (kN (KG T te el lab x y) (kN (KE T te x y) (kN (KB T te el lab x y) (kN (KH T te el lab x y) (KF T te el lab x y))))))
         | none=>none
       | _=>none
     | _,_=>none
 | .copy,[t,_],[x,y]=>match Γ.ty t with
   | some ti=>match ti.desc with
     | .slice el=>match Γ.ty el with
       | some te=>kN (Ug T te.size x y) (kN (Uf T te x y) (Ue T te x y))
       | none=>none
     | _=>none
   | none=>none
 | .clear,[t],[x]=>match Γ.ty t with
   | some ti=>match ti.desc with
     | .slice el=>match Γ.ty el with
       | some te=>kN (Mf T te x) (kN (Mg T te x) (Me T te x))
       | none=>none
     | _=>none
   | none=>none
 | _,_,_=>none
def JY (Γ:Env) (g:Nat->Option SV) (T:bA) (lab F:Nat) (c:Call):Option bL:=
 match VP Γ g c.args.toList with
 | none=>none
 | some vs=>match c.callee with
   | .builtin b=>xO Γ T lab b c.argTypes.toList vs
   | .value f=>match ev Γ g f with
     | some (.fn (.func id) first Ki)=>match Γ.sum id with
       | some S=>S (first++vs++Ki) T lab F
       | none=>none
     | _=>none
   | .invoke _ _=>none
section bHa
variable {P:Program} {Γ:Env} {V:aZ} {w w0:World} {M:Nat->Prop} {T:bA} {g:Nat->Option SV} {a:Act} {o:Oper} {e:bL}
def Ui (Γ:Env) (g:Nat->Option SV) (T:bA) (src dst:TypeId) (x:Operand):Option bL:=
 match ev Γ g x,Γ.ty src with
 | some (.aJ l s off len cap),some ts=>match ts.desc with
   | .slice el=>match Γ.ty el,T l with
     | some te,some (.own cs _)=>match te.desc,Nat.beq src dst,dA .u8 cs with
       | .int .u8,true,some ns=>some { val:=.aJ l s off len cap,wr:=[(l,.nZ .u8 ns)] }
       | _,_,_=>none
     | _,_=>none
   | _=>none
 | _,_=>none
theorem EA (aR:cC P Γ) (ht:cG V g a) (hg:bO Γ V) {T':bA} (aK:∀ l B,T' l=some B->T l=some B) (hT:aC w0 M V T w) {src dst:TypeId} {x:Operand} (bY:o.op = .convert src dst x)
 (he:Ui Γ g T' src dst x=some e) (lab:Nat):kR P w0 M V T lab e o a w:=by
 unfold Ui at he
 split at he
 case h_2=>cases he
 rename_i l s off len cap ts hx FM
 split at he
 case h_2=>cases he
 rename_i el hd
 split at he
 case h_2=>cases he
 rename_i te cs ty eE hB
 split at he
 case h_2=>cases he
 rename_i ns hu8 hsd hns
 have hsd:=zzN hsd
 subst hsd
 simp only [zzI] at he
 subst he
 have ex:=bG ht hg hx
 simp only [den,zzM] at ex
 obtain ⟨⟨b,base⟩,hβ,ex⟩:=ex
 have hu:=(aR src ts FM).1
 rw [hd] at hu
 have Gi:=(aR el te eE).1
 rw [hu8] at Gi
 obtain ⟨us,hc,b',hb,hh⟩:=hT.ok l _ (aK l _ hB)
 rw [hβ] at hb;cases hb
 have pU:us=ns.map (Value.int .u8):=by
  have h1:=cX (V:=V) hns
  rw [show aG V cs=some us from hc] at h1
  exact Option.some.inj h1
 have cM:b<w.heap.size:=(Array.getElem?_eq_some_iff.1 hh).1
 have Cj:∃ w',w'=w.freeze ⟨b,us.length,none⟩ 1:=⟨_,rfl⟩
 obtain ⟨w',UB⟩:=Cj
 have Dt:w'.heap[b]?=some (.cells us.toArray ty (us.length,us.length+1)):=by
  rw [UB]
  simp [World.freeze,Array.getElem?_modify,hh]
 have bCz:∀ n,n≠b->w'.heap[n]?=w.heap[n]?:=fun n hn=>by
  rw [UB]
  simp only [World.freeze]
  rw [if_neg (by decide:¬ (1:Nat)=0)]
  simp only [Array.getElem?_modify]
  rw [if_neg (fun q:b=n=>hn q.symm)]
 have gR:w'.heap.size=w.heap.size:=by rw [UB];simp [World.freeze]
 have dS:(execOp a.eval o).run P w = .ok (.value (a.eval x)) w':=by
  have hsh:w.shape? b=some (ty,us.length):=by simp [World.shape?,hh]
  unfold execOp
  simp [bY,<- ex,convert,run_underlying hu,run_underlying Gi,markStringish,hsh,UB]
 intro K Q hK
 unfold Oper.wp
 rw [dS,Oper.upon_value]
 refine hK V _ w' (V.cP lab) (by rw [<- ex];simp [den,hβ]) ?_
 refine hT.change (B0:=.own cs ty) (B:=.nZ .u8 ns) (b:=b) (aK l _ hB) rfl (by simp [SB.aN,hβ]) ⟨us,by rw [pU];rfl,b,0,hβ,⟨by omega,fun s hs=>?_⟩,fun j v hj=>?_⟩ (by simp [SB.aN,hβ]) (by omega) (fun n _ dG=>bCz n dG) (by rw [UB];simp [World.freeze]) (by rw [UB];simp [World.freeze]) (by rw [UB];simp [World.freeze]) lab _ []
 .rw [pU] at hs
  simp at hs
 .simp [World.cell?,Dt,hj]
def Mb (Γ:Env) (g:Nat->Option SV) (T:bA) (t:TypeId) (x y:Operand):Option bL:=
 match ev Γ g x,ev Γ g y,Γ.ty t with
 | some (.buf l),some (.int _ _ k),some ti=>match ti.desc,T l with
   | .slice el,some (.cS _ xs _)=>match Γ.ty el with
     | some te=>match Nat.beq te.size 1 with
       | true=>some { bK:=[0<=k/\k<xs.length],val:=.jQ l k.toNat }
       | false=>none
     | none=>none
   | _,_=>none
 | _,_,_=>none
theorem Wa (aR:cC P Γ) (ht:cG V g a) (hg:bO Γ V) {T':bA} (aK:∀ l B,T' l=some B->T l=some B) (hT:aC w0 M V T w) {t:TypeId} {x y:Operand} (bY:o.op = .indexAddr t x y)
 (he:Mb Γ g T' t x y=some e) (ho:∀ q∈e.bK,q) (lab:Nat):kR P w0 M V T lab e o a w:=by
 unfold Mb at he
 split at he
 case h_2=>cases he
 rename_i l sk kk k ti hx hy dX
 split at he
 case h_2=>cases he
 rename_i el k2 xs ty hd hB
 split at he
 case h_2=>cases he
 rename_i te eE
 split at he
 case h_2=>cases he
 rename_i fU
 have fU:=zzN fU
 simp only [zzI] at he
 subst he
 have hb:0<=k/\k<xs.length:=ho _ (by simp)
 have ex:=bG ht hg hx
 have ey:=bG ht hg hy
 simp only [den,zzI] at ex ey
 obtain ⟨us,hc,v,hσ,bN⟩:=hT.ok l _ (aK l _ hB)
 rw [hσ] at ex
 cases ex
 rcases bN.1.2 with ⟨hv,h0⟩ | ⟨b,cap,cur,hv,_⟩
 .omega
 obtain ⟨_,i,z,hi,cF,_⟩:=aR el te eE
 have hu:=(aR t ti dX).1
 rw [hd] at hu
 refine bD (x:=.pointer (some ⟨b,0+k.toNat*te.size,none⟩)) ?_ (by simp [den,hσ,hv,bH,fU]) rfl rfl hT
 unfold execOp
 simp only [bY,hv,<- ey,Instr.indexAt,asIntOf,Sem.run_bind,Sem.run_pure,run_underlying hu w,Result.andThen_ok,if_pos hb,run_sizeOf hi,cF,bH]
def Lq (Γ:Env) (g:Nat->Option SV) (T:bA) (t:TypeId) (x y:Operand):Option bL:=
 match ev Γ g x,ev Γ g y,Γ.ty t with
 | some (.jQ l off),some (.int _ k n),some ti=>match T l,Nat.beq ti.size 1 with
   | some (.cS k2 xs ty),true=>match decide (k2=k) with
     | true=>some { bK:=[off<xs.length],val:=.raw undef,wr:=[(l,.cS k (xs.set off n) ty)] }
     | false=>none
   | _,_=>none
 | _,_,_=>none
theorem Vn (aR:cC P Γ) (ht:cG V g a) (hg:bO Γ V) {T':bA} (aK:∀ l B,T' l=some B->T l=some B) (hT:aC w0 M V T w) {t:TypeId} {x y:Operand} (bY:o.op = .store t x y)
 (he:Lq Γ g T' t x y=some e) (ho:∀ q∈e.bK,q) (lab:Nat):kR P w0 M V T lab e o a w:=by
 unfold Lq at he
 split at he
 case h_2=>cases he
 rename_i l off sk k n ti hx hy dX
 split at he
 case h_2=>cases he
 rename_i k2 xs ty hB fU
 split at he
 case h_2=>cases he
 rename_i hk
 have hk:=zzD hk
 subst hk
 have fU:=zzN fU
 simp only [zzI] at he
 subst he
 have hb:off<xs.length:=ho _ (by simp)
 have ex:=bG ht hg hx
 have ey:=bG ht hg hy
 simp only [den,zzI] at ey
 obtain ⟨hu,i,z,hi,cF,_⟩:=aR t ti dX
 obtain ⟨us,hc,v,hσ,bN⟩:=hT.ok l _ (aK l _ hB)
 have hc':us=xs.map (Value.int k2):=(Option.some.inj hc).symm
 subst hc'
 obtain ⟨bN,hI⟩:=bN
 rcases bN.2 with ⟨hv,h0⟩ | ⟨b,cap,cur,hv,_,hh,hle,rC,mK,cT⟩
 .omega
 subst hv
 simp only [den,hσ,zzI] at ex
 have Jq:=(World.ownsRow.stored bN off (.int k2 n))
 obtain ⟨bCx,GO⟩:=Jq
 have cM:off<cur.size:=by omega
 have dS:(execOp a.eval o).run P w = .ok .skip (w.setCell ⟨b,off,none⟩ (.int k2 n)):=by
  have fI:w.cell? ⟨b,off,none⟩=some cur[off]:=by simp [World.cell?,hh,cM]
  have FR:w.frozen? ⟨b,off,none⟩=false:=World.ownsRow.frozenAt bN off
  have aOb:(store (⟨b,off,none⟩:Addr) (.int k2 n)).run P w = .ok () (w.setCell ⟨b,off,none⟩ (.int k2 n)):=by
   rw [run_store P w _ _ _ rfl,fI]
   simp [FR]
  have TZ:i.size=1:=by omega
  unfold execOp
  simp [bY,<- ex,<- ey,Instr.storeAt,Instr.sureAddr,storeVar,run_sizeOf hi,TZ,Value.cells,storeCells,bH,aOb]
 intro K Q hK
 unfold Oper.wp
 rw [dS,Oper.upon_skip]
 refine hK V undef _ (V.cP lab) rfl ?_
 refine hT.change (B0:=.cS k2 xs ty) (B:=.cS k2 (xs.set off n) ty) (b:=b) (aK l _ hB) rfl (by simp [SB.aN,hσ,Value.ownBlock]) ⟨_,rfl,_,hσ,?_⟩ (by simp [SB.aN,hσ,Value.ownBlock]) GO.size (fun m hm dG=>GO.block m hm (fun q=>dG (Option.some.inj q))) GO.os GO.tape GO.output lab _ _
 rw [List.length_set,List.map_set]
 refine ⟨bCx,fun b' hb=>?_⟩
 cases hb
 obtain ⟨XY,ty2,p2,vH,kU⟩:=hI b rfl
 rw [hh] at vH
 cases vH
 refine ⟨_,_,_,heap_setCell_same w b off cur _ (.int k2 n) hh,fun q hq=>?_⟩
 rw [Array.toList_setIfInBounds] at hq
 rcases List.mem_or_eq_of_mem_set hq with hq | hq
 .exact kU q hq
 .exact ⟨n,hq⟩
end bHa
section bGz
variable {P:Program} {Γ:Env} {V:aZ} {w w0:World} {M:Nat->Prop} {T:bA} {g:Nat->Option SV} {a:Act} {o:Oper} {e:bL}
def Nw (ys:List Int):ByteArray:=ys.foldl (fun r n=>r.push (UInt8.ofNat n.toNat)) ByteArray.empty
def Uh (Γ:Env) (g:Nat->Option SV) (T:bA) (src dst:TypeId) (x:Operand):Option bL:=
 match ev Γ g x,Γ.ty src,Γ.ty dst with
 | some v,some ts,some td=>match ts.desc,td.desc with
   | .slice el,.string=>match Γ.ty el,AV T .u8 v with
     | some te,some (ob,ys)=>match te.desc with
       | .int .u8=>some { bK:=ob,val:=.raw (.string (Nw ys)) }
       | _=>none
     | _,_=>none
   | _,_=>none
 | _,_,_=>none
theorem DZ (aR:cC P Γ) (ht:cG V g a) (hg:bO Γ V) {T':bA} (aK:∀ l B,T' l=some B->T l=some B) (hT:aC w0 M V T w) {src dst:TypeId} {x:Operand} (bY:o.op = .convert src dst x)
 (he:Uh Γ g T' src dst x=some e) (ho:∀ q∈e.bK,q) (lab:Nat):kR P w0 M V T lab e o a w:=by
 unfold Uh at he
 split at he
 case h_2=>cases he
 rename_i v ts td hx FM htd
 split at he
 case h_2=>cases he
 rename_i el EW UJ
 split at he
 case h_2=>cases he
 rename_i te ob ys eE hq
 split at he
 case h_2=>cases he
 rename_i hu8
 simp only [zzI] at he
 subst he
 have ex:=bG ht hg hx
 have hh:=wD (hT.sub aK) ex hq ho
 have hu:=(aR src ts FM).1
 rw [EW] at hu
 have hud:=(aR dst td htd).1
 rw [UJ] at hud
 have Gi:=(aR el te eE).1
 rw [hu8] at Gi
 refine bD (x:=.string (Nw ys)) ?_ rfl rfl rfl hT
 unfold execOp
 simp only [bY,Sem.run_bind]
 rcases hh with ⟨hv,rK⟩ | ⟨ad,c,hv,bZ⟩
 .have:ys=[]:=by simpa using rK
  subst this
  rw [hv,run_convert_bytes_string w src dst el _ _ _ hu Gi hud]
  simp [Conv.bytesToString,Nw]
 .have hf:=run_firstCells_some (P:=P) (w:=w) 1 ys.length ad ys.length c (ys.map (Value.int .u8)) (by simp) bZ
  simp only [Builtin.firstCells,Nat.mul_one] at hf
  rw [hv,List.length_map,run_convert_bytes_string w src dst el _ _ _ hu Gi hud,run_bytesToString w ad ys.length c ys hf]
  rfl
def Kt (Γ:Env) (g:Nat->Option SV) (op:BinOp) (x y:Operand):Option bL:=
 match ev Γ g x,ev Γ g y,op with
 | some (.raw (.string s)),some (.raw (.string t)),.eql=>some { val:=.bool false (s.toList==t.toList) }
 | some (.raw (.string s)),some (.raw (.string t)),.neq=>some { val:=.bool false (!(s.toList==t.toList)) }
 | _,_,_=>none
theorem Jg (ht:cG V g a) (hg:bO Γ V) (hT:aC w0 M V T w) {op:BinOp} {t t2:TypeId} {x y:Operand} (bY:o.op = .binOp op t x y t2)
 (he:Kt Γ g op x y=some e) (lab:Nat):kR P w0 M V T lab e o a w:=by
 unfold Kt at he
 split at he
 case h_3=>cases he
 all_goals
  rename_i s s2 hx hy
  simp only [zzI] at he
  subst he
  have ex:=bG ht hg hx
  have ey:=bG ht hg hy
  simp only [den,zzI] at ex ey
 .refine bD (x:=.bool (s.toList==s2.toList)) ?_ rfl rfl rfl hT
  unfold execOp
  have Bi:=cO (P:=P) w .eql t x y (.string s) (.string s2) (fun e=>by cases e.1) (fun _ e=>by cases e)
  simp [bY,<- ex,<- ey,binOp,Op.stringOp,Bi]
 .refine bD (x:=.bool (!(s.toList==s2.toList))) ?_ rfl rfl rfl hT
  unfold execOp
  have Bi:=cO (P:=P) w .neq t x y (.string s) (.string s2) (fun e=>by cases e.1) (fun _ e=>by cases e)
  simp [bY,<- ex,<- ey,binOp,Op.stringOp,Bi]
end bGz
def Di (Γ:Env) (g:Nat->Option SV) (T:bA) (lab F:Nat) (h:Option Bool) (o:Oper):Option bL:=
 match o.op with
 | .move x=>Xp Γ g x
 | .assign x=>Xp Γ g x
 | .pick c x y=>JV Γ g c x y
 | .alloc t=>Uk Γ t lab
 | .box t x=>kN (aJv Γ g T t x lab) (JZ Γ g t x lab)
 | .build t ps=>Uj Γ g T t ps
 | .buildSlice t n ps=>sK Γ g T t n ps lab
 | .load t x=>kN (Uc Γ g T t x) (kN (JW Γ g T t x) (kN (Ub Γ g T t x) (Ua Γ g T t x)))
 | .store t x y=>kN (Tw Γ g T t x y) (kN (Lr Γ g T t x y) (kN (Lp Γ g T t x y) (Lq Γ g T t x y)))
 | .nilCheck x=>aJs Γ g x
 | .binOp op t x y _=>match op with
   | .eql=>kN (HE Γ g h .eql t x y) (kN (Xo Γ g T .eql t x y) (kN (Kx Γ g .eql t x y) (kN (Ku Γ g .eql t x y) (kN (Kv Γ g T .eql t x y) (Kt Γ g .eql x y)))))
   | .neq=>kN (HE Γ g h .neq t x y) (kN (Xo Γ g T .neq t x y) (kN (Kx Γ g .neq t x y) (kN (Ku Γ g .neq t x y) (kN (Kv Γ g T .neq t x y) (Kt Γ g .neq x y)))))
   | _=>HE Γ g h op t x y
 | .unOp op _ x=>eUn Γ g op x
 | .convert s d x=>kN (JX Γ g s d x) (kN (Ui Γ g T s d x) (Uh Γ g T s d x))
 | .sliceToArrayPointer t x=>aJw Γ g t x
 | .makeInterface t x=>vB Γ g t x
 | .makeFunc f xs cs=>zE Γ g f xs cs
 | .makeSlice t x y=>kN (vA Γ g t x y lab) (kN (Ty Γ g t x y lab) (Tz Γ g t x y lab))
 | .slice t x lo hi mx=>kN (Lx Γ g T t x lo hi mx) (kN (Tx Γ g T t x lo hi mx) (kN (Lt Γ g T t x lo hi mx lab) (kN (Lw Γ g T t x lo hi mx lab) (kN (Lv Γ g T t x lo hi mx lab) (kN (Ls Γ g T t x lo hi mx lab) (Lu Γ g T t x lo hi mx lab))))))
 | .fieldAddr t x n=>Ud Γ g t x n
 | .field t x n=>Md Γ g t x n
 | .indexAddr t x y=>kN (vC Γ g t x y) (kN (Mb Γ g T t x y) (kN (Ma Γ g t x y) (Lz Γ g t x y)))
 | .index t x y=>kN (Ly Γ g t x y) (Mc Γ g t x y)
 | .extract x i=>Fc Γ g x i
 | .call c=>JY Γ g T lab F c
 | _=>none
theorem nS {a b:Nat} (h:Nat.beq a b=false):a≠b:=fun e=>by subst e;rw [Nat.beq_refl] at h;cases h
section Ju
variable {P:Program} {Γ:Env} {V:aZ} {w w0:World} {M:Nat->Prop} {T:bA} {g:Nat->Option SV} {a:Act} {o:Oper} {e:bL}
theorem Pw {xs:Array Operand} {vs:List SV} (ht:cG V g a) (hg:bO Γ V) (h:VP Γ g xs.toList=some vs):aG V vs=some (xs.map a.eval).toList:=by
 rw [Array.toList_map];exact Kr ht hg h
theorem sF {v:SV} {xs:List Value} (h:aG V [v]=some xs):∃ x,xs=[x]/\den V v=some x:=by
 simp only [aG,zzM,zzB] at h
 obtain ⟨x,hx,ys,hy,rfl⟩:=h
 simp only [zzI] at hy
 subst hy
 exact ⟨x,rfl,hx⟩
theorem Fg {u v:SV} {xs:List Value} (h:aG V [u,v]=some xs):∃ x y,xs=[x,y]/\den V u=some x/\den V v=some y:=by
 simp only [aG,zzM,zzB] at h
 obtain ⟨x,hx,ys,⟨y,hy,zs,hz,rfl⟩,rfl⟩:=h
 simp only [zzI] at hz
 subst hz
 exact ⟨x,y,rfl,hx,hy⟩
def bFn (b:Builtin) (Gl:Array TypeId) (ty:TypeId) (xs:Array Value):Sem Value:=match b with
 | .len=>Builtin.len_ Gl ty xs
 | .cap=>Builtin.cap_ Gl ty xs
 | .append=>Builtin.append_ Gl ty xs
 | .copy=>Builtin.copy_ Gl ty xs
 | .clear=>Builtin.clear_ Gl ty xs
 | _=>stuck ""
theorem Qv (aR:cC P Γ) {T':bA} (aK:∀ l B,T' l=some B->T l=some B) (hT:aC w0 M V T w) {lab:Nat} (hf:V.fresh lab) {b:Builtin} {Gl:Array TypeId} {ty:TypeId} {vs:List SV} {xs:Array Value}
 (hv:aG V vs=some xs.toList) (he:xO Γ T' lab b Gl.toList vs=some e) (ho:∀ q∈e.bK,q) :
 oR P w0 M V T lab e (bFn b Gl ty xs) w:=by
 obtain ⟨ts,FM⟩:∃ ts,Gl.toList=ts:=⟨_,rfl⟩
 rw [FM] at he
 unfold xO at he
 split at he
 .rename_i t r v
  split at he
  case h_2=>cases he
  rename_i ti dX
  obtain ⟨x,hx,hd⟩:=sF hv
  have mJ:xs = #[x]:=by apply Array.ext';simpa using hx
  subst mJ
  have yC:Gl[0]?=some t:=by rw [<- Array.getElem?_toList,FM];rfl
  exact pR (aFh (ty:=ty) aR aK hT yC (aR t ti dX).1 hd he) hT
 .rename_i t r v
  split at he
  case h_2=>cases he
  rename_i ti dX
  split at he
  case h_2=>cases he
  rename_i el FU
  obtain ⟨x,hx,hd⟩:=sF hv
  have mJ:xs = #[x]:=by apply Array.ext';simpa using hx
  subst mJ
  have yC:Gl[0]?=some t:=by rw [<- Array.getElem?_toList,FM];rfl
  have hu:=(aR t ti dX).1
  rw [FU] at hu
  exact pR (aFj (ty:=ty) yC hu hd he) hT
 .rename_i t t2 x y
  split at he
  .rename_i s k n htt
   split at he
   case h_2=>cases he
   rename_i ti ti2 dX aSa
   split at he
   case h_2=>cases he
   rename_i el FU
   split at he
   case h_2=>cases he
   rename_i te eE
   obtain ⟨p,q,hx,hp,hq⟩:=Fg hv
   have mJ:xs = #[p,q]:=by apply Array.ext';simpa using hx
   subst mJ
   have Sl:Gl = #[t,t2]:=by apply Array.ext';simpa using FM
   subst Sl
   have hu:=(aR t ti dX).1
   rw [FU] at hu
   unfold kN at he
   split at he
   .rename_i h1;cases he;exact Qw (ty:=ty) aR hT hf hu (aR t2 ti2 aSa).1 eE hp hq h1 ho
   .exact SN (ty:=ty) aR aK hT hf hu (aR t2 ti2 aSa).1 eE hp hq he ho
  .split at he
   case h_2=>cases he
   rename_i ti dX htt
   have:=zzN htt
   subst this
   split at he
   case h_2=>cases he
   rename_i el FU
   split at he
   case h_2=>cases he
   rename_i te eE
   obtain ⟨p,q,hx,hp,hq⟩:=Fg hv
   have mJ:xs = #[p,q]:=by apply Array.ext';simpa using hx
   subst mJ
   have Sl:Gl = #[t,t]:=by apply Array.ext';simpa using FM
   subst Sl
   have hu:=(aR t ti dX).1
   rw [FU] at hu
   unfold kN at he
   split at he
   .rename_i e' iD
    cases he
    exact SP (ty:=ty) aR aK hT hf hu eE hp hq iD ho
   split at he
   .rename_i e' iD
    cases he
    exact SQ (ty:=ty) aR aK hT hf hu eE hp hq iD ho
   split at he
   .rename_i e' iD
    cases he
    exact SU (ty:=ty) aR aK hT hf hu eE hp hq iD ho
   .split at he
    .rename_i e' iD
     cases he
     exact SR (ty:=ty) aR aK hT hu eE hp hq iD ho
    .split at he
     .rename_i e' iD
      cases he
      exact SO (ty:=ty) aR aK hT hf hu eE hp hq iD ho
     .split at he
      .rename_i e' iD
       cases he
       exact SW (ty:=ty) aR aK hT hf hu eE hp hq iD
      .exact SS (ty:=ty) aR aK hT hf hu eE hp hq he ho
 .rename_i t t2 x y
  split at he
  case h_2=>cases he
  rename_i ti dX
  split at he
  case h_2=>cases he
  rename_i el FU
  split at he
  case h_2=>cases he
  rename_i te eE
  obtain ⟨p,q,hx,hp,hq⟩:=Fg hv
  have mJ:xs = #[p,q]:=by apply Array.ext';simpa using hx
  subst mJ
  have Sl:Gl = #[t,t2]:=by apply Array.ext';simpa using FM
  subst Sl
  have hu:=(aR t ti dX).1
  rw [FU] at hu
  unfold kN at he
  split at he
  .rename_i e' iD
   cases he
   exact DY (ty:=ty) aR aK hT hu eE hp hq iD
  .split at he
   .rename_i e' iD
    cases he
    exact DX (ty:=ty) aR aK hT hu eE hp hq iD ho
   .exact DW (ty:=ty) aR aK hT hu eE hp hq he ho
 .rename_i t x
  split at he
  case h_2=>cases he
  rename_i ti dX
  split at he
  case h_2=>cases he
  rename_i el FU
  split at he
  case h_2=>cases he
  rename_i te eE
  obtain ⟨p,hx,hp⟩:=sF hv
  have mJ:xs = #[p]:=by apply Array.ext';simpa using hx
  subst mJ
  have Sl:Gl = #[t]:=by apply Array.ext';simpa using FM
  subst Sl
  have hu:=(aR t ti dX).1
  rw [FU] at hu
  unfold kN at he
  split at he
  .rename_i e' iD
   cases he
   exact We (ty:=ty) aR aK hT hu eE hp iD ho
  .split at he
   .rename_i e' iD
    cases he
    exact Wf (ty:=ty) aR aK hT hu eE hp iD
   .exact Wd (ty:=ty) aR aK hT hu eE hp he ho
 .cases he
theorem Qo {lab:Nat} {s:Sem Value} (h:oR P w0 M V T lab e s w) (hr:execOp a.eval o=(do pure (.value (<- s)))):kR P w0 M V T lab e o a w:=by
 obtain ⟨V',x,w',h1,h2,h3,h4⟩:=h
 intro K Q hK
 unfold Oper.wp
 rw [hr]
 simp only [Sem.run_bind,h1,Result.andThen_ok,Sem.run_pure,Oper.upon_value]
 exact hK V' x w' h2 h3 h4
theorem SL (aR:cC P Γ) (aU:cK P Γ) (ht:cG V g a) (hg:bO Γ V) {T':bA} (aK:∀ l B,T' l=some B->T l=some B) (hT:aC w0 M V T w) {lab F:Nat} (hf:V.fresh lab) (hF:V.top F) {c:Call} (bY:o.op = .call c)
 (he:JY Γ g T' lab F c=some e) (ho:∀ q∈e.bK,q):kR P w0 M V T lab e o a w:=by
 unfold JY at he
 split at he
 case h_1=>cases he
 rename_i vs hvs
 have hd:=Pw ht hg hvs
 split at he
 .rename_i b hb
  have hs:=Qv (P:=P) (ty:=o.type) aR aK hT hf hd he ho
  refine Qo hs ?_
  unfold execOp
  simp only [bY,resolve,hb]
  unfold xO at he
  split at he <;> first | (cases he;done) | rfl
 .rename_i f hb
  split at he
  case h_2=>cases he
  rename_i id first Ki hfv
  split at he
  case h_2=>cases he
  rename_i S hS
  have ef:=bG ht hg hfv
  simp only [den,zzB,zzM] at ef
  obtain ⟨xf,hxf,xc,hxc,ef⟩:=ef
  intro K Q hK
  have kU:=cH (cH hxf hd) hxc
  have:=aU.1 id S hS _ _ _ _ _ he ho w0 M V T w _ aK hT hg hf hF kU o a K Q hK
  unfold Oper.wp
  have dS:(execOp a.eval o).run P w=(callFunc id ((xf++(c.args.map a.eval).toList++xc).toArray)).run P w:=by
   unfold execOp
   simp only [bY,resolve,hb,<- ef,Deferred.ofValue,invoke]
   have:(xf++(c.args.map a.eval).toList++xc).toArray=xf.toArray++c.args.map a.eval++xc.toArray:=by
    apply Array.ext';simp
   rw [this]
   rfl
  rw [dS]
  exact this
 .cases he
theorem Ip {l:Nat} {B:SB} {p:Nat × Nat} (h:Sw B=true) (hβ:V.β l=some p) (lQ:okB V w l B):B.owned=true/\B.aN V l=some p.1/\p.2=0/\∃ cs ty,w.heap[p.1]?=some (.cells cs ty (0,0)):=by
 obtain ⟨cs,_,h2⟩:=lQ
 cases B with
 | own cells ty=>obtain ⟨b,hb,hh⟩:=h2;rw [hβ] at hb;cases hb;exact ⟨rfl,by simp [SB.aN,hβ],rfl,_,_,hh⟩
 | ints k xs ty=>obtain ⟨b,hb,hh⟩:=h2;rw [hβ] at hb;cases hb;exact ⟨rfl,by simp [SB.aN,hβ],rfl,_,_,hh⟩
 | eK vs ty=>obtain ⟨b,hb,hh⟩:=h2;rw [hβ] at hb;cases hb;exact ⟨rfl,by simp [SB.aN,hβ],rfl,_,_,hh⟩
 | row sz cells ty=>obtain ⟨b,_,_,hb,_,hh,_⟩:=h2;rw [hβ] at hb;cases hb;exact ⟨rfl,by simp [SB.aN,hβ],rfl,_,_,hh⟩
 | _=>cases h
theorem lC (d:Nat) {e:TypeId} {k0:IntKind} (he:P.underlying e=some (.int k0)) (aS bs:Array Value) :
 ∀ (xs ys:List SV) (j:Nat) (l r:Bool),nG xs ys=some (l,r)->aG V xs=some (aS.toList.drop j)->aG V ys=some (bs.toList.drop j)->(Op.eqItems (d+1) e 1 aS bs (List.range' j xs.length)).run P w = .ok r w
 | [],[],j,l,r,h,_,_=>by
   simp only [nG,zzI,Prod.mk.injEq] at h
   obtain ⟨rfl,rfl⟩:=h
   simp [Op.eqItems]
 | .int s k a::xs,y::ys,j,l,r,h,hx,hy=>by
   cases y <;> simp only [nG] at h <;> first | (cases h;done) | skip
   rename_i s' k' b
   split at h
   case h_2=>cases h
   rename_i l' r' hk hr
   have:=zzD hk
   subst this
   simp only [zzI,Prod.mk.injEq] at h
   obtain ⟨rfl,rfl⟩:=h
   simp only [aG,den,zza,zzM] at hx hy
   obtain ⟨as',mJ,hxa⟩:=hx
   obtain ⟨bs',rK,hyb⟩:=hy
   have ga:aS[j]?=some (.int k a):=by
    have:(aS.toList.drop j)[0]?=some (.int k a):=by rw [<- hxa];rfl
    simpa using this
   have gb:bs[j]?=some (.int k b):=by
    have:(bs.toList.drop j)[0]?=some (.int k b):=by rw [<- hyb];rfl
    simpa using this
   have da:as'=aS.toList.drop (j+1):=by
    have:=congrArg (List.drop 1) hxa
    simpa using this
   have db:bs'=bs.toList.drop (j+1):=by
    have:=congrArg (List.drop 1) hyb
    simpa using this
   have gX:tN (.int k0)=false:=rfl
   have ih:=lC d he aS bs xs ys (j+1) l' r' hr (da ▸ mJ) (db ▸ rK)
   have pa:(part e aS (j*1)).run P w = .ok (.int k a) w:=by
    simp only [Nat.mul_one,part,Sem.run_bind,fA he,gX,Result.andThen_ok,Bool.false_eq_true,if_false,ga,Sem.run_pure]
   have pb:(part e bs (j*1)).run P w = .ok (.int k b) w:=by
    simp only [Nat.mul_one,part,Sem.run_bind,fA he,gX,Result.andThen_ok,Bool.false_eq_true,if_false,gb,Sem.run_pure]
   simp only [List.length_cons,List.range'_succ,Op.eqItems,Sem.run_bind,pa,pb,Result.andThen_ok,run_equalIn_int w d e k k0 a b he]
   cases hab:(a==b) with
   | true=>simp [ih]
   | false=>simp
 | [],_::_,_,_,_,h,_,_=>by simp [nG] at h
 | x::_,[],_,_,_,h,_,_=>by cases x <;> simp [nG] at h
 | .bool .. :: _,_::_,_,_,_,h,_,_=>by simp [nG] at h
 | .ptr .. :: _,_::_,_,_,_,h,_,_=>by simp [nG] at h
 | .aJ .. :: _,_::_,_,_,_,h,_,_=>by simp [nG] at h
 | .agg .. :: _,_::_,_,_,_,h,_,_=>by simp [nG] at h
 | .eP .. :: _,_::_,_,_,_,h,_,_=>by simp [nG] at h
 | .fn .. :: _,_::_,_,_,_,h,_,_=>by simp [nG] at h
 | .rG .. :: _,_::_,_,_,_,h,_,_=>by simp [nG] at h
 | .raw .. :: _,_::_,_,_,_,h,_,_=>by simp [nG] at h
 | .buf .. :: _,_::_,_,_,_,h,_,_=>by simp [nG] at h
 | .jQ .. :: _,_::_,_,_,_,h,_,_=>by simp [nG] at h
 | .nH .. :: _,_::_,_,_,_,h,_,_=>by simp [nG] at h
 | .eH .. :: _,_::_,_,_,_,h,_,_=>by simp [nG] at h
 | .ai .. :: _,_::_,_,_,_,h,_,_=>by simp [nG] at h
 | .cQ .. :: _,_::_,_,_,_,h,_,_=>by simp [nG] at h
theorem Qa (aR:cC P Γ) (aU:cK P Γ) (ht:cG V g a) (hg:bO Γ V) {T':bA} (aK:∀ l B,T' l=some B->T l=some B) (hT:aC w0 M V T w) {op:BinOp} {t t2:TypeId} {x y:Operand} (bY:o.op = .binOp op t x y t2)
 (he:Xo Γ g T' op t x y=some e) (lab:Nat):kR P w0 M V T lab e o a w:=by
 have fin:∀ {u v:Value} {b:Bool},a.eval x=u->a.eval y=v->(Op.equal t u v).run P w = .ok b w->(binOp .eql t u v=(do pure (.bool (<- Op.equal t u v)))/\binOp .neq t u v=(do pure (.bool (!(<- Op.equal t u v))))) ->
  ¬ (u = .nilIface/\v = .nilIface)->(∀ cs,u ≠ .agg cs)->vN op b=some e->kR P w0 M V T lab e o a w:=by
  intro u v b hu hv hr hb Jr UG he
  have Bi:=cO (P:=P) w op t x y u v Jr UG
  have hx:∃ z,((do eqGuard op t x y u v;binOp op t u v):Sem Value).run P w = .ok z w/\den V e.val=some z/\e.new=[]/\e.wr=[]:=by
   cases op <;> simp only [vN] at he <;> first | (cases he;done) | skip
   .simp only [lit,zzI] at he;subst he
    exact ⟨.bool b,by rw [Sem.run_bind,Bi,Result.andThen_ok,hb.1,Sem.run_bind,hr];rfl,rfl,rfl,rfl⟩
   .simp only [lit,zzI] at he;subst he
    exact ⟨.bool (!b),by rw [Sem.run_bind,Bi,Result.andThen_ok,hb.2,Sem.run_bind,hr];rfl,rfl,rfl,rfl⟩
  obtain ⟨z,h1,h2,h3,h4⟩:=hx
  refine bD (x:=z) ?_ h2 h3 h4 hT
  unfold execOp
  simp only [bY,hu,hv]
  rw [Sem.run_bind,h1]
  rfl
 unfold Xo at he
 split at he
 .rename_i l s1 off l' s2 fR hx hy
  have ex:=bG ht hg hx
  have ey:=bG ht hg hy
  simp only [den,zzM] at ex ey
  obtain ⟨p,hp,ex⟩:=ex
  obtain ⟨q,hq,ey⟩:=ey
  split at he
  case h_2=>cases he
  rename_i ti dX
  split at he
  case h_2=>cases he
  rename_i el hd
  split at he
  case h_2=>cases he
  rename_i te eE
  have hu:=(aR t ti dX).1
  rw [hd] at hu
  obtain ⟨_,i,z,hi,gR,_⟩:=aR el te eE
  have bDm:∀ (n0:Nat) (b:Bool),(i.size≠0->(sameAddr ⟨p.1,p.2+off,none⟩ ⟨q.1,q.2+fR,none⟩).run P w = .ok b w)->(i.size=0->((⟨p.1,p.2+off,none⟩:Addr)==⟨q.1,q.2+fR,none⟩)=true/\b=true) ->
   (Op.equalIn (n0+1) t (.pointer (some ⟨p.1,p.2+off,none⟩)) (.pointer (some ⟨q.1,q.2+fR,none⟩))).run P w = .ok b w:=by
   intro n0 b h1 h2
   simp only [Op.equalIn,Sem.run_bind,run_underlying hu w,Result.andThen_ok,run_sizeOf hi]
   by_cases h0:i.size=0
   .rw [if_neg (by simp [h0])]
    obtain ⟨h3,rfl⟩:=h2 h0
    rw [if_pos h3];rfl
   .rw [if_pos (by simpa using h0)]
    exact h1 h0
  have heq:∀ (b:Bool),(i.size≠0->(sameAddr ⟨p.1,p.2+off,none⟩ ⟨q.1,q.2+fR,none⟩).run P w = .ok b w)->(i.size=0->((⟨p.1,p.2+off,none⟩:Addr)==⟨q.1,q.2+fR,none⟩)=true/\b=true) ->
   (Op.equal t (.pointer (some ⟨p.1,p.2+off,none⟩)) (.pointer (some ⟨q.1,q.2+fR,none⟩))).run P w = .ok b w:=fun b=>bDm 9999 b
  split at he
  .rename_i UH
   have:=zzN UH
   subst this
   rw [hp] at hq;cases hq
   split at he
   .rename_i hoo
    have:=zzN hoo
    subst this
    exact fin ex.symm ey.symm (heq true (fun _=>run_sameAddr_same w _) (fun _=>⟨by simp,rfl⟩)) ⟨rfl,rfl⟩ (by simp) (by simp) he
   .rename_i hoo
    have dG:=nS hoo
    split at he
    .cases he
    .rename_i hz
     have hz:=nS hz
     refine fin ex.symm ey.symm (heq false (fun _=>?_) (fun h=>absurd (gR ▸ h) hz)) ⟨rfl,rfl⟩ (by simp) (by simp) he
     simp [sameAddr]
  .rename_i UH
   have dG:=nS UH
   split at he
   case h_2=>cases he
   rename_i B B' hz hB UO
   have hz:=nS hz
   split at he
   case h_2=>cases he
   rename_i hw
   simp only [zzn] at hw
   obtain ⟨o1,b1,z1,cs1,ty1,h1⟩:=Ip hw.1 hp (hT.ok l B (aK l B hB))
   obtain ⟨o2,b2,z2,cs2,ty2,h2⟩:=Ip hw.2 hq (hT.ok l' B' (aK l' B' UO))
   have Ww:p.1≠q.1:=fun e=>hT.jX l B l' B' p.1 dG (aK l B hB) (aK l' B' UO) o1 b1 (e ▸ b2)
   refine fin ex.symm ey.symm (heq false (fun _=>?_) (fun h=>absurd (gR ▸ h) hz)) ⟨rfl,rfl⟩ (by simp) (by simp) he
   exact run_sameAddr_other w (by simp) h1 h2
 .rename_i t1 l s1 off t2' l' s2 fR hx hy
  have ex:=bG ht hg hx
  have ey:=bG ht hg hy
  simp only [den,zzM] at ex ey
  obtain ⟨_,⟨p,hp,rfl⟩,ex⟩:=ex
  obtain ⟨_,⟨q,hq,rfl⟩,ey⟩:=ey
  split at he
  case h_2=>cases he
  rename_i ti t1i dX ht1
  split at he
  case h_2=>cases he
  rename_i ms el hd EW
  split at he
  case h_2=>cases he
  rename_i te eE
  have hu:=(aR t ti dX).1
  rw [hd] at hu
  obtain ⟨ET,i1,z1,Bh,_⟩:=aR t1 t1i ht1
  rw [EW] at ET
  obtain ⟨_,i2,z2,Wv,bCv,_⟩:=aR el te eE
  split at he
  .rename_i hc
   simp only [zzn] at hc
   obtain ⟨c1,c2,c3,c4⟩:=hc
   have:=zzN c1
   subst this
   have:=zzN c2
   subst this
   have:=zzN c3
   subst this
   rw [hp] at hq;cases hq
   have aJf:=(aU.2.2.1 t1 c4).1 i1 Bh
   exact fin ex.symm ey.symm (run_equalIn_iface_ptr_same w 9998 _ hu ET Bh aJf Wv) ⟨rfl,rfl⟩ (by simp) (by simp) he
  .split at he
   case h_2=>cases he
   rename_i s s' hc hs Gb
   split at he
   case h_2=>cases he
   rename_i dG
   simp only [zzn,Bool.not_eq_true'] at hc
   obtain ⟨c1,c4,c5⟩:=hc
   have:=zzN c1
   subst this
   have aJf:=(aU.2.2.1 t1 c4).1 i1 Bh
   have look:∀ {l o:Nat} {s:ByteArray} {p:Nat × Nat},VY T' l o=some s->V.β l=some p->o=0/\vS w p.1/\w.cell? ⟨p.1,p.2,none⟩=some (.string s):=by
    intro l o s p h hp
    unfold VY at h
    split at h
    case h_2=>cases h
    rename_i s0 r hB
    cases h
    obtain ⟨cs,mK,b,o,hb,h0,hh⟩:=hT.ok l _ (aK l _ hB)
    rw [hp] at hb;cases hb
    simp only [SB.cells,aG,den,zzB,zzM] at mK
    obtain ⟨v,hv,w',_,rfl⟩:=mK
    cases hv
    refine ⟨rfl,h0.2 s rfl,?_⟩
    have:=hh 0 (.string s) rfl
    simpa using this
   obtain ⟨rfl,⟨ca,ta,ha⟩,lS⟩:=look hs hp
   obtain ⟨rfl,⟨cb,tb,hb⟩,hcb⟩:=look Gb hq
   have hab:(⟨p.1,p.2+0,none⟩:Addr)≠⟨q.1,q.2+0,none⟩:=fun e=>by
    simp only [Nat.add_zero] at e
    rw [e] at lS
    have:=lS.symm.trans hcb
    simp only [zzI,Value.string.injEq] at this
    exact LZ dG (by rw [this])
   exact fin ex.symm ey.symm (run_equalIn_iface_ptr_other w 9998 hu ET Bh aJf Wv (by rw [bCv];exact nS c5) hab ha hb) ⟨rfl,rfl⟩ (by simp) (by simp) he
 .rename_i xs ys hx hy
  have ex:=bG ht hg hx
  have ey:=bG ht hg hy
  simp only [den,zzM] at ex ey
  obtain ⟨aS,has,ex⟩:=ex
  obtain ⟨bs,UK,ey⟩:=ey
  split at he
  case h_2=>cases he
  rename_i ti dX
  split at he
  case h_2=>cases he
  rename_i n el hd
  split at he
  case h_2=>cases he
  rename_i te eE
  split at he
  case h_2=>cases he
  rename_i k0 l r hdk iE heq
  simp only [zzn] at iE
  have h1:=zzN iE.1
  have h2:=zzN iE.2
  have hu:=(aR t ti dX).1
  rw [hd] at hu
  obtain ⟨Gi,i,z,hi,gR,_⟩:=aR el te eE
  rw [hdk] at Gi
  have fI:P.cellsOf el=1:=by simp [Program.cellsOf,hi,gR,h1]
  have hr:(Op.equal t (.agg aS.toArray) (.agg bs.toArray)).run P w = .ok r w:=by
   have:=run_equalIn_array (P:=P) w 9999 aS.toArray bs.toArray hu hi
   refine Eq.trans this ?_
   rw [fI,<- h2,List.range_eq_range']
   exact lC 9998 Gi aS.toArray bs.toArray xs ys 0 l r heq (by simpa using has) (by simpa using UK)
  have Bi:∀ op:BinOp,(eqGuard op t x y (.agg aS.toArray) (.agg bs.toArray)).run P w = .ok () w:=fun op=>by
   refine run_eqGuard_agg w op t x y _ _ ?_
   obtain ⟨d,GS⟩:=aU.2.2.2
   rw [GS]
   simp [Program.eqGuardType,hu,Gi]
  refine bD (x:=match op with | .eql=>.bool r | _=>.bool (!r)) ?_ ?_ ?_ ?_ hT
  .unfold execOp
   simp only [bY,<- ex,<- ey]
   cases op <;> simp only [Tv] at he <;> first | (cases he;done) | skip
   .rw [Sem.run_bind,Sem.run_bind,Bi,Result.andThen_ok]
    show (((do pure (.bool (<- Op.equal t (.agg aS.toArray) (.agg bs.toArray)))):Sem Value).run P w).andThen _=_
    rw [Sem.run_bind,hr];rfl
   .rw [Sem.run_bind,Sem.run_bind,Bi,Result.andThen_ok]
    show (((do pure (.bool (!(<- Op.equal t (.agg aS.toArray) (.agg bs.toArray))))):Sem Value).run P w).andThen _=_
    rw [Sem.run_bind,hr];rfl
  all_goals (cases op <;> simp only [Tv] at he <;> first | (cases he;done) | (cases he;rfl))
 .cases he
theorem Px (k:IntKind):∀ (xs ys:List Int),xs.length=ys.length->∃ l,nG (xs.map (SV.int false k)) (ys.map (SV.int false k))=some (l,decide (xs=ys))
 | [],[],_=>⟨true,rfl⟩
 | [],_::_,h=>by simp at h
 | _::_,[],h=>by simp at h
 | x::xs,y::ys,h=>by
   obtain ⟨l,hl⟩:=Px k xs ys (by simpa using h)
   refine ⟨false&&(false&&l),?_⟩
   simp only [List.map_cons,nG,Zx,decide_true,hl]
   by_cases e:x=y
   .subst e;simp
   .simp [e]
theorem Jj (aR:cC P Γ) (aU:cK P Γ) (ht:cG V g a) (hg:bO Γ V) (hT:aC w0 M V T w) {op:BinOp} {t t2:TypeId} {x y:Operand} (bY:o.op = .binOp op t x y t2)
 (he:Kx Γ g op t x y=some e) (ho:∀ q∈e.bK,q) (lab:Nat):kR P w0 M V T lab e o a w:=by
 unfold Kx at he
 split at he
 case h_2=>cases he
 rename_i k xs k2 ys ti hx hy dX
 split at he
 case h_2=>cases he
 rename_i n el hd
 split at he
 case h_2=>cases he
 rename_i te eE
 split at he
 case h_2=>cases he
 rename_i k0 hdk fU Ci
 have fU:=zzN fU
 have Ci:k=k2:=zzD Ci
 subst Ci
 simp only [zzB] at hx hy
 obtain ⟨vx,hx,VI⟩:=hx
 obtain ⟨vy,hy,hiy⟩:=hy
 have ex:=(bG ht hg hx).symm.trans (Jc VI)
 have ey:=(bG ht hg hy).symm.trans (Jc hiy)
 simp only [zzI] at ex ey
 have hu:=(aR t ti dX).1
 rw [hd] at hu
 obtain ⟨Gi,i,z,hi,gR,_⟩:=aR el te eE
 rw [hdk] at Gi
 have fI:P.cellsOf el=1:=by simp [Program.cellsOf,hi,gR,fU]
 have hlen:xs.length=n/\ys.length=n:=by
  cases op <;> simp only [Kw] at he <;> first | (cases he;done) | (cases he;exact ho _ (by simp))
 obtain ⟨l,hl⟩:=Px k xs ys (by omega)
 have dm:∀ zs:List Int,aG V (zs.map (SV.int false k))=some (zs.map (Value.int k)):=fun zs=>by
  induction zs with
  | nil=>rfl
  | cons z zs ih=>simp [aG,den,ih]
 have hr:(Op.equal t (.agg (xs.map (Value.int k)).toArray) (.agg (ys.map (Value.int k)).toArray)).run P w = .ok (decide (xs=ys)) w:=by
  have:=run_equalIn_array (P:=P) w 9999 (xs.map (Value.int k)).toArray (ys.map (Value.int k)).toArray hu hi
  refine Eq.trans this ?_
  rw [fI,<- hlen.1,List.range_eq_range']
  have:=lC (P:=P) (w:=w) (V:=V) 9998 Gi (xs.map (Value.int k)).toArray (ys.map (Value.int k)).toArray (xs.map (SV.int false k)) (ys.map (SV.int false k)) 0 l _ hl (by simpa using dm xs) (by simpa using dm ys)
  simpa using this
 have Bi:∀ op:BinOp,(eqGuard op t x y (.agg (xs.map (Value.int k)).toArray) (.agg (ys.map (Value.int k)).toArray)).run P w = .ok () w:=fun op=>by
  refine run_eqGuard_agg w op t x y _ _ ?_
  obtain ⟨d,GS⟩:=aU.2.2.2
  rw [GS]
  simp [Program.eqGuardType,hu,Gi]
 refine bD (x:=match op with | .eql=>.bool (decide (xs=ys)) | _=>.bool (!decide (xs=ys))) ?_ ?_ ?_ ?_ hT
 .unfold execOp
  simp only [bY,ex,ey]
  cases op <;> simp only [Kw] at he <;> first | (cases he;done) | skip
  .rw [Sem.run_bind,Sem.run_bind,Bi,Result.andThen_ok]
   show (((do pure (.bool (<- Op.equal t (.agg (xs.map (Value.int k)).toArray) (.agg (ys.map (Value.int k)).toArray)))):Sem Value).run P w).andThen _=_
   rw [Sem.run_bind,hr];rfl
  .rw [Sem.run_bind,Sem.run_bind,Bi,Result.andThen_ok]
   show (((do pure (.bool (!(<- Op.equal t (.agg (xs.map (Value.int k)).toArray) (.agg (ys.map (Value.int k)).toArray))))):Sem Value).run P w).andThen _=_
   rw [Sem.run_bind,hr];rfl
 all_goals (cases op <;> simp only [Kw] at he <;> first | (cases he;done) | (cases he;rfl))
theorem Jh (aR:cC P Γ) (aU:cK P Γ) (ht:cG V g a) (hg:bO Γ V) (hT:aC w0 M V T w) {op:BinOp} {t t2:TypeId} {x y:Operand} (bY:o.op = .binOp op t x y t2)
 (he:Ku Γ g op t x y=some e) (lab:Nat):kR P w0 M V T lab e o a w:=by
 unfold Ku at he
 split at he
 case h_2=>cases he
 rename_i s1 k1 x1 s2 k2 x2 s3 k3 y1 s4 k4 y2 ti hx hy dX
 split at he
 case h_2=>cases he
 rename_i fs hd
 split at he
 case h_2=>cases he
 rename_i f1 f2 hfs
 split at he
 case h_2=>cases he
 rename_i t1 t2 ht1 Ro
 split at he
 case h_2=>cases he
 rename_i d1 d2 EW UJ iE
 simp only [zzn,Bool.not_eq_true',beq_eq_false_iff_ne,ne_eq] at iE
 obtain ⟨⟨⟨n1,n2⟩,o1,o2⟩,⟨hk1,gF⟩,hc⟩:=iE
 have o1:=zzN o1
 have o2:=zzN o2
 have hk1:k1=k3:=zzD hk1
 have gF:k2=k4:=zzD gF
 subst hk1 gF
 have ex:=bG ht hg hx
 have ey:=bG ht hg hy
 simp only [den,aG,zza,zzm,zzI] at ex ey
 have hu:=(aR t ti dX).1
 rw [hd] at hu
 have ET:=(aR _ t1 ht1).1
 rw [EW] at ET
 have VE:=(aR _ t2 Ro).1
 rw [UJ] at VE
 have FT:P.fieldsOf t=fs:=by simp [Program.fieldsOf,hu]
 have gX:∀ k,tN (.int k)=false:=fun _=>rfl
 have p1:∀ u v:Value,(part f1.type #[u,v] f1.offset).run P w = .ok u w:=fun u v=>by
  simp [o1,part,Sem.run_bind,fA ET,gX,Result.andThen_ok]
 have p2:∀ u v:Value,(part f2.type #[u,v] f2.offset).run P w = .ok v w:=fun u v=>by
  simp [o2,part,Sem.run_bind,fA VE,gX,Result.andThen_ok]
 have hr:(Op.equal t (.agg #[.int k1 x1,.int k2 x2]) (.agg #[.int k1 y1,.int k2 y2])).run P w = .ok (decide (x1=y1)&&decide (x2=y2)) w:=by
  refine Eq.trans (run_equalIn_struct w 9999 t _ _ (by rw [FT];exact hu) (aU.2.2.1 t hc).2) ?_
  rw [FT,hfs]
  simp only [Op.eqFields,ne_eq,n1,n2,not_false_eq_true,if_true,Sem.run_bind,p1,Result.andThen_ok,run_equalIn_int w 9998 f1.type k1 d1 x1 y1 ET]
  have q2:∀ u v:Int,(Op.equalIn 9999 f2.type (.int k2 u) (.int k2 v)).run P w = .ok (u==v) w:=fun u v=>run_equalIn_int w 9998 f2.type k2 d2 u v VE
  by_cases h1:x1=y1 <;> by_cases h2:x2=y2 <;> simp [h1,h2,Sem.run_bind,p2,Result.andThen_ok] <;> (try (rw [q2];simp [h2]))
 have hfa:fs = #[f1,f2]:=by apply Array.ext';simpa using hfs
 have Bi:∀ op:BinOp,(eqGuard op t x y (.agg #[.int k1 x1,.int k2 x2]) (.agg #[.int k1 y1,.int k2 y2])).run P w = .ok () w:=fun op=>by
  refine run_eqGuard_agg w op t x y _ _ ?_
  obtain ⟨d,GS⟩:=aU.2.2.2
  rw [GS]
  simp [Program.eqGuardType,hu,ET,VE,hfa]
 refine bD (x:=match op with | .eql=>.bool (decide (x1=y1)&&decide (x2=y2)) | _=>.bool (!(decide (x1=y1)&&decide (x2=y2)))) ?_ ?_ ?_ ?_ hT
 .unfold execOp
  simp only [bY,<- ex,<- ey]
  split at he
  .rw [Sem.run_bind,Sem.run_bind,Bi,Result.andThen_ok]
   show (((do pure (.bool (<- Op.equal t (.agg #[.int k1 x1,.int k2 x2]) (.agg #[.int k1 y1,.int k2 y2])))):Sem Value).run P w).andThen _=_
   rw [Sem.run_bind,hr];rfl
  .rw [Sem.run_bind,Sem.run_bind,Bi,Result.andThen_ok]
   show (((do pure (.bool (!(<- Op.equal t (.agg #[.int k1 x1,.int k2 x2]) (.agg #[.int k1 y1,.int k2 y2]))))):Sem Value).run P w).andThen _=_
   rw [Sem.run_bind,hr];rfl
  .cases he
 all_goals (split at he <;> first | (cases he;done) | (cases he;rfl))
theorem DR (aR:cC P Γ) (ht:cG V g a) (hg:bO Γ V) (hT:aC w0 M V T w) {t:TypeId} {x y:Operand} (bY:o.op = .makeSlice t x y) {lab:Nat} (hf:V.fresh lab) (he:Tz Γ g t x y lab=some e) (ho:∀ q∈e.bK,q):kR P w0 M V T lab e o a w:=by
 unfold Tz at he
 split at he
 case h_2=>cases he
 rename_i sx kx n sy ky c ti hx hy dX
 split at he
 case h_2=>cases he
 rename_i el hd
 split at he
 case h_2=>cases he
 rename_i te eE
 split at he
 case h_2=>cases he
 rename_i FL gR
 simp only [zzI] at he
 subst he
 have hb:=ho _ zzC
 have ex:=bG ht hg hx
 have ey:=bG ht hg hy
 simp only [den,zzI] at ex ey
 have hu:=(aR t ti dX).1
 rw [hd] at hu
 obtain ⟨_,i,zv,hi,cF,FX,hz,hzero⟩:=aR el te eE
 have fU:i.size=1:=by rw [cF];exact zzN gR
 have Be:zv.cells = #[.slice none 0 0]:=by
  have:=hzero V
  rw [FL] at this
  simp only [aG,den,zza,zzm,zzI] at this
  rw [<- Array.toList_inj,<- this]
 rw [<- FX] at hb
 have dS:=oL (P:=P) (w:=w) (kx:=kx) (ky:=ky) hu hi hz Be fU hb
 have JN:(execOp a.eval o).run P w = .ok (.value (.slice (some ⟨w.heap.size,0,none⟩) n.toNat c.toNat)) (w.alloc (.cells (List.replicate c.toNat (Value.slice none 0 0)).toArray el)):=by
  unfold execOp
  simp only [bY,<- ex,<- ey,Sem.run_bind,dS,Result.andThen_ok,Sem.run_pure]
 intro K Q hK
 unfold Oper.wp
 rw [JN,Oper.upon_value]
 exact hK _ _ _ (aZ.kG hf lab (zzr _) (by omega) _) (by simp [den,aZ.put]) (hT.alloc hf (B:=.eK _ el) (.inr (.inr rfl)) rfl _ _)
theorem Ji (aR:cC P Γ) (ht:cG V g a) (hg:bO Γ V) {T':bA} (aK:∀ l B,T' l=some B->T l=some B) (hT:aC w0 M V T w) {op:BinOp} {t t2:TypeId} {x y:Operand} (bY:o.op = .binOp op t x y t2)
 (he:Kv Γ g T' op t x y=some e) (ho:∀ q∈e.bK,q) (lab:Nat):kR P w0 M V T lab e o a w:=by
 unfold Kv at he
 split at he
 case h_2=>cases he
 rename_i l i n ti hx hy dX
 split at he
 case h_2=>cases he
 rename_i el ds z hd hB
 simp only [zzI] at he
 subst he
 have hi:ds.length<=i:=ho _ (by simp)
 have ex:=bG ht hg hx
 have ey:=bG ht hg hy
 simp only [den,zzI] at ey
 obtain ⟨v,us,h1,_,_,_,h5⟩:=hT.tV l _ (aK l _ hB)
 simp only [den,h1,zza,My,List.getElem?_cons_succ,zzB] at ex
 obtain ⟨u,hu,hr⟩:=ex
 have nX:=(dB hr).1
 have VE:=h5 i u hu hi
 have e1:a.eval x = .slice none 0 0:=nX.trans VE
 have hut:=(aR t ti dX).1
 rw [hd] at hut
 have hq:=qW (P:=P) w hut none none 0 0 0 0 (.inl rfl)
 refine bD (x:=.bool true) ?_ rfl rfl rfl hT
 unfold execOp
 simp only [bY,e1,<- ey]
 rw [Sem.run_bind,Sem.run_bind,cO w .eql t x y _ _ (by simp) (by simp),Result.andThen_ok]
 show (((do pure (.bool (<- Op.equal t (.slice none 0 0) (.slice none 0 0)))):Sem Value).run P w).andThen _=_
 rw [Sem.run_bind,hq];rfl
theorem DQ (aR:cC P Γ) (ht:cG V g a) (hg:bO Γ V) (hT:aC w0 M V T w) {t:TypeId} {x y:Operand} (bY:o.op = .makeSlice t x y) {lab:Nat} (hf:V.fresh lab) (he:Ty Γ g t x y lab=some e) (ho:∀ q∈e.bK,q):kR P w0 M V T lab e o a w:=by
 unfold Ty at he
 split at he
 case h_2=>cases he
 rename_i kx sy ky c ti hx hy dX
 split at he
 case h_2=>cases he
 rename_i el hd
 split at he
 case h_2=>cases he
 rename_i te eE
 split at he
 case h_2=>cases he
 rename_i iE
 simp only [zzn] at iE
 have tI:=zzN iE.1
 have hz2:=zzN iE.2
 simp only [zzI] at he
 subst he
 obtain ⟨h1,h2,h3⟩:=ho _ zzC
 have ex:=bG ht hg hx
 have ey:=bG ht hg hy
 simp only [den,zzI] at ex ey
 have hu:=(aR t ti dX).1
 rw [hd] at hu
 obtain ⟨_,i,z,hi,cF,FX,hz,hzero⟩:=aR el te eE
 have Wv:i.size=2:=cF.trans tI
 have rJ:z.cells.size=2:=by
  have h1:=bC (hzero V)
  rw [<- hz2,<- h1];simp
 rw [<- FX] at h2
 have en:IntKind.i64.wrap 0=0:=tF (by omega) (by omega)
 have ec:IntKind.i64.wrap c=c:=tF (by omega) (by omega)
 have dX:(typeInfo el).run P w = .ok i w:=by simp [typeInfo,hi]
 have Om:(c<0||(i.bytes:Int)*c>2^48||(0:Int)<0||(0:Int)>c)=false:=by simp;omega
 obtain ⟨cur,aSg,dS⟩:∃ cur:Array Value,cur.size=c.toNat*2/\(Instr.makeSlice t (.int kx 0) (.int ky c)).run P w = .ok (.slice (some ⟨w.heap.size,0,none⟩) 0 c.toNat) (w.alloc (.cells cur el)):=by
  unfold Instr.makeSlice
  simp only [Sem.run_bind,run_underlying hu w,Result.andThen_ok,asInt,asIntOf,Sem.run_pure,dX,en,ec,Om,Bool.false_eq_true,if_false,run_askRoom,run_sizeOf hi,Wv]
  by_cases Ck:c.toNat*2=0
  .exact ⟨#[],by simp;omega,by simp [show c.toNat=0 by omega,newRow,show Array.range 0 = #[] from rfl]⟩
  .refine ⟨(Array.range (c.toNat*2)).map fun j=>z.cells[j%z.cells.size]!,by simp,?_⟩
   simp only [if_neg Ck,Sem.run_bind,eJ hi hz,Result.andThen_ok,Sem.run_pure,newRow,run_newObj,World.alloc_eq,Int.toNat_zero]
 intro K Q hK
 unfold Oper.wp
 have hr:(execOp a.eval o).run P w = .ok (.value (.slice (some ⟨w.heap.size,0,none⟩) 0 c.toNat)) (w.alloc (.cells cur el)):=by
  unfold execOp
  simp only [bY,<- ex,<- ey,Sem.run_bind,dS,Result.andThen_ok,Sem.run_pure]
 rw [hr,Oper.upon_value]
 have hs:(V.aX lab (.slice (some ⟨w.heap.size,0,none⟩) 0 c.toNat)).σ lab=some (.slice (some ⟨w.heap.size,0,none⟩) 0 c.toNat):=by simp [aZ.aX]
 have lQ:okB (V.aX lab (.slice (some ⟨w.heap.size,0,none⟩) 0 c.toNat)) (w.alloc (.cells cur el)) lab (.eQ [] el):=
  ⟨[],rfl,_,hs,rfl,.inr ⟨w.heap.size,c.toNat,cur,rfl,Nat.zero_le _,heap_alloc_new w _,Nat.zero_le _,by simp only [maxLen];omega,aSg,by simp⟩⟩
 refine hK _ (.slice (some ⟨w.heap.size,0,none⟩) 0 c.toNat) _ (aZ.bX hf lab (zzr _) (by omega) (.slice (some ⟨w.heap.size,0,none⟩) 0 c.toNat)) (by simp only [den];exact hs) ?_
 exact hT.qJ (lo:=none) (v:=.slice none 0 0) (v':=.slice (some ⟨w.heap.size,0,none⟩) 0 c.toNat) hf lQ (fun n hb=>by simpa [SB.aN,hs] using hb) (World.grownBy_alloc w _ _) (.inr rfl) (fun _=>rfl) (fun l hl=>by cases hl) _ _
theorem Po (aR:cC P Γ) (aU:cK P Γ) (ht:cG V g a) (hg:bO Γ V) {T':bA} (aK:∀ l B,T' l=some B->T l=some B) (hT:aC w0 M V T w) {lab F:Nat} (hf:V.fresh lab) (hF:V.top F) {h:Option Bool}
 (he:Di Γ g T' lab F h o=some e) (ho:∀ q∈e.bK,q):kR P w0 M V T lab e o a w:=by
 unfold Di at he
 split at he
 .rename_i bY;exact Qb ht hg hT (.inl bY) he lab
 .rename_i bY;exact Qb ht hg hT (.inr bY) he lab
 .rename_i bY;exact SI ht hg hT bY he lab
 .rename_i bY;exact EC aR hT bY hf he
 .rename_i bY
  unfold kN at he
  split at he
  .rename_i h1;cases he;exact aFk ht hg aK hT bY hf h1
  .exact SM ht hg hT bY hf he
 .rename_i bY;exact EB aR ht hg aK hT bY he ho lab
 .rename_i bY;exact Fy aR ht hg aK hT bY hf he
 .rename_i bY
  unfold kN at he
  split at he
  .rename_i h1;cases he;exact DU aR ht hg aK hT bY h1 ho lab
  .split at he
   .rename_i h1;cases he;exact SJ aR ht hg aK hT bY h1 ho lab
   .split at he
    .rename_i h1;cases he;exact DT aR ht hg aK hT bY h1 ho lab
    .exact DS aR ht hg aK hT bY he ho lab
 .rename_i bY
  unfold kN at he
  split at he
  .rename_i h1;cases he;exact DO aR ht hg aK hT bY h1 ho lab
  .split at he
   .rename_i h1;cases he;exact Vo aR ht hg aK hT bY h1 ho lab
   .split at he
    .rename_i h1;cases he;exact Vm aR ht hg aK hT bY h1 lab
    .exact Vn aR ht hg aK hT bY he ho lab
 .rename_i bY;exact aFg ht hg hT bY he lab
 .rename_i bY
  split at he
  .unfold kN at he
   split at he
   .rename_i e' iD;cases he;exact Mh aR ht hg hT bY iD ho lab
   .split at he
    .rename_i h1;cases he;exact Qa aR aU ht hg aK hT bY h1 lab
    .split at he
     .rename_i h1;cases he;exact Jj aR aU ht hg hT bY h1 ho lab
     .split at he
      .rename_i h1;cases he;exact Jh aR aU ht hg hT bY h1 lab
      .split at he
       .rename_i h1;cases he;exact Ji aR ht hg aK hT bY h1 ho lab
       .exact Jg ht hg hT bY he lab
  .unfold kN at he
   split at he
   .rename_i e' iD;cases he;exact Mh aR ht hg hT bY iD ho lab
   .split at he
    .rename_i h1;cases he;exact Qa aR aU ht hg aK hT bY h1 lab
    .split at he
     .rename_i h1;cases he;exact Jj aR aU ht hg hT bY h1 ho lab
     .split at he
      .rename_i h1;cases he;exact Jh aR aU ht hg hT bY h1 lab
      .split at he
       .rename_i h1;cases he;exact Ji aR ht hg aK hT bY h1 ho lab
       .exact Jg ht hg hT bY he lab
  .exact Mh aR ht hg hT bY he ho lab
 .rename_i bY;exact aPo ht hg hT bY he lab
 .rename_i bY
  unfold kN at he
  split at he
  .rename_i h1;cases he;exact SK aR ht hg hT bY h1 lab
  .split at he
   .rename_i h1;cases he;exact EA aR ht hg aK hT bY h1 lab
   .exact DZ aR ht hg aK hT bY he ho lab
 .rename_i bY;exact aFl aR ht hg hT bY he ho lab
 .rename_i bY;exact Hi aR ht hg hT bY he lab
 .rename_i bY;exact Mk ht hg hT bY he lab
 .rename_i bY
  unfold kN at he
  split at he
  .rename_i h1;cases he;exact Hh aR ht hg hT bY hf h1 ho
  .split at he
   .rename_i h1;cases he;exact DQ aR ht hg hT bY hf h1 ho
   .exact DR aR ht hg hT bY hf he ho
 .rename_i bY
  unfold kN at he
  split at he
  .rename_i h1;cases he;exact Vv aR ht hg aK hT bY h1 lab
  .split at he
   .rename_i h1;cases he;exact DP aR ht hg aK hT bY h1 ho lab
   .split at he
    .rename_i h1;cases he;exact Vq aR ht hg aK hT bY hf h1 ho
    .split at he
     .rename_i h1;cases he;exact Vu aR ht hg aK hT bY hf h1 ho
     .split at he
      .rename_i h1;cases he;exact Vt aR ht hg aK hT bY hf h1 ho
      .split at he
       .rename_i h1;cases he;exact Vp aR ht hg aK hT bY hf h1 ho
       .exact Vr aR ht hg aK hT bY hf he ho
 .rename_i bY;exact DV aR ht hg hT bY he lab
 .rename_i bY;exact Wc aR ht hg hT bY he lab
 .rename_i bY
  unfold kN at he
  split at he
  .rename_i h1;cases he;exact Hj aR ht hg hT bY h1 ho lab
  .split at he
   .rename_i h1;cases he;exact Wa aR ht hg aK hT bY h1 ho lab
   .split at he
    .rename_i h1;cases he;exact Vz aR ht hg hT bY h1 ho lab
    .exact Vy aR ht hg hT bY he ho lab
 .rename_i bY
  unfold kN at he
  split at he
  .rename_i h1;cases he;exact Vx aR ht hg hT bY h1 lab
  .exact Wb aR ht hg hT bY he ho lab
 .rename_i bY;exact Qu ht hg hT bY he lab
 .rename_i bY;exact SL aR aU ht hg aK hT hf hF bY he ho
 .cases he
end Ju
inductive Tr (α:Type) where
 | lf
 | nd (l:Tr α) (v:Option α) (r:Tr α)
noncomputable def Tr.get {α:Type} (t:Tr α):Nat->Option α:=Tr.rec (motive:=fun _=>Nat->Option α) (fun _=>none)
 (fun _ v _ ihl ihr n=>Bool.rec (Bool.rec (ihr (n/2-1)) (ihl (n/2)) (Nat.beq (n%2) 1)) v (Nat.beq n 0)) t
noncomputable def Tr.new {α:Type} (v:α) (f:Nat):Nat->Tr α:=Nat.rec (motive:=fun _=>Nat->Tr α) (fun _=>.nd .lf (some v) .lf)
 (fun _ ih n=>Bool.rec (Bool.rec (.nd .lf none (ih (n/2-1))) (.nd (ih (n/2)) none .lf) (Nat.beq (n%2) 1)) (.nd .lf (some v) .lf) (Nat.beq n 0)) f
noncomputable def Tr.put {α:Type} (v:α) (f:Nat) (t:Tr α):Nat->Option (Tr α):=Tr.rec (motive:=fun _=>Nat->Option (Tr α)) (fun n=>Bool.rec none (some (Tr.new v f n)) (Nat.ble (n+1) (2^f)))
 (fun l u r ihl ihr n=>Bool.rec (Bool.rec (Option.rec none (fun r'=>some (.nd l u r')) (ihr (n/2-1))) (Option.rec none (fun l'=>some (.nd l' u r)) (ihl (n/2))) (Nat.beq (n%2) 1)) (some (.nd l (some v) r)) (Nat.beq n 0)) t
theorem Tr.lX {α:Type} (n:Nat):(Tr.lf:Tr α).get n=none:=rfl
theorem Tr.oW {α:Type} (l r:Tr α) (v:Option α) (n:Nat):(Tr.nd l v r).get n=if n=0 then v else if n%2=1 then l.get (n/2) else r.get (n/2-1):=by
 show Bool.rec (motive:=fun _=>Option α) (Bool.rec (motive:=fun _=>Option α) (r.get (n/2-1)) (l.get (n/2)) (Nat.beq (n%2) 1)) v (Nat.beq n 0)=_
 by_cases h0:n=0
 .subst h0;rfl
 .rw [if_neg h0]
  have e0:Nat.beq n 0=false:=by
   cases hb:Nat.beq n 0 with
   | false=>rfl
   | true=>exact absurd (zzN hb) h0
  rw [e0]
  by_cases h1:n%2=1
  .rw [if_pos h1,h1];rfl
  .rw [if_neg h1]
   have e1:Nat.beq (n%2) 1=false:=by
    cases hb:Nat.beq (n%2) 1 with
    | false=>rfl
    | true=>exact absurd (zzN hb) h1
   rw [e1]
theorem beq_false {a b:Nat} (h:Nat.beq a b=false):a≠b:=fun e=>by subst e;rw [Nat.beq_refl] at h;cases h
theorem Tr.Lh {α:Type} (v:α):∀ (f n m:Nat),n<2^f->(Tr.new v f n).get m=if m=n then some v else none
 | 0,n,m,h=>by
   have h0:n=0:=by simpa using h
   subst h0
   show (Tr.nd .lf (some v) .lf).get m=_
   rw [Tr.oW,Tr.lX,Tr.lX]
   split
   .rfl
   .split <;> rfl
 | f+1,n,m,h=>by
   have h2:n/2<2^f:=by rw [Nat.pow_succ] at h;omega
   show Tr.get (Bool.rec (motive:=fun _=>Tr α) (Bool.rec (motive:=fun _=>Tr α) (.nd .lf none (Tr.new v f (n/2-1))) (.nd (Tr.new v f (n/2)) none .lf) (Nat.beq (n%2) 1)) (.nd .lf (some v) .lf) (Nat.beq n 0)) m=_
   cases h0:Nat.beq n 0 with
   | true=>
     have:=zzN h0
     subst this
     show (Tr.nd .lf (some v) .lf).get m=_
     rw [Tr.oW,Tr.lX,Tr.lX]
     split
     .rfl
     .split <;> rfl
   | false=>
     have Gd:=beq_false h0
     cases h1:Nat.beq (n%2) 1 with
     | true=>
       have Jr:=zzN h1
       show (Tr.nd (Tr.new v f (n/2)) none .lf).get m=_
       rw [Tr.oW,Tr.lX,Tr.Lh v f _ _ h2]
       by_cases e:m=n
       .subst e;rw [if_neg Gd,if_pos Jr,if_pos rfl,if_pos rfl]
       .rw [if_neg e]
        split
        .rfl
        .split
         .rw [if_neg (by omega)]
         .rfl
     | false=>
       have Jr:=beq_false h1
       show (Tr.nd .lf none (Tr.new v f (n/2-1))).get m=_
       rw [Tr.oW,Tr.lX,Tr.Lh v f _ _ (by omega)]
       by_cases e:m=n
       .subst e;rw [if_neg Gd,if_neg Jr,if_pos rfl,if_pos rfl]
       .rw [if_neg e]
        split
        .rfl
        .split
         .rfl
         .rw [if_neg (by omega)]
theorem Tr.iH {α:Type} (v:α) (f:Nat) (t:Tr α):∀ (n:Nat) (t':Tr α),Tr.put v f t n=some t'->∀ m,t'.get m=if m=n then some v else t.get m:=by
 induction t with
 | lf=>
   intro n t' h m
   have h:Bool.rec (motive:=fun _=>Option (Tr α)) none (some (Tr.new v f n)) (Nat.ble (n+1) (2^f))=some t':=h
   cases hb:Nat.ble (n+1) (2^f) with
   | false=>rw [hb] at h;cases h
   | true=>
     rw [hb] at h
     cases h
     have:=zzL hb
     rw [Tr.Lh v f n m (by omega),Tr.lX]
 | nd l u r ihl ihr=>
   intro n t' h m
   have h:Bool.rec (motive:=fun _=>Option (Tr α)) (Bool.rec (motive:=fun _=>Option (Tr α)) (Option.rec (motive:=fun _=>Option (Tr α)) none (fun r'=>some (.nd l u r')) (Tr.put v f r (n/2-1))) (Option.rec (motive:=fun _=>Option (Tr α)) none (fun l'=>some (.nd l' u r)) (Tr.put v f l (n/2))) (Nat.beq (n%2) 1)) (some (.nd l (some v) r)) (Nat.beq n 0)=some t':=h
   cases h0:Nat.beq n 0 with
   | true=>
     rw [h0] at h
     cases h
     have:=zzN h0
     subst this
     rw [Tr.oW,Tr.oW]
     by_cases e:m=0
     .subst e;rfl
     .rw [if_neg e,if_neg e,if_neg e]
   | false=>
     have Gd:=beq_false h0
     rw [h0] at h
     cases h1:Nat.beq (n%2) 1 with
     | true=>
       have Jr:=zzN h1
       rw [h1] at h
       cases hp:Tr.put v f l (n/2) with
       | none=>rw [hp] at h;cases h
       | some l'=>
         rw [hp] at h
         cases h
         have ih:=ihl (n/2) l' hp
         rw [Tr.oW,Tr.oW]
         by_cases e:m=n
         .subst e;rw [if_neg Gd,if_pos Jr,ih,if_pos rfl,if_pos rfl]
         .rw [if_neg e]
          split
          .rfl
          .split
           .rw [ih,if_neg (by omega)]
           .rfl
     | false=>
       have Jr:=beq_false h1
       rw [h1] at h
       cases hp:Tr.put v f r (n/2-1) with
       | none=>rw [hp] at h;cases h
       | some r'=>
         rw [hp] at h
         cases h
         have ih:=ihr (n/2-1) r' hp
         rw [Tr.oW,Tr.oW]
         by_cases e:m=n
         .subst e;rw [if_neg Gd,if_neg Jr,ih,if_pos rfl,if_pos rfl]
         .rw [if_neg e]
          split
          .rfl
          .split
           .rfl
           .rw [ih,if_neg (by omega)]
structure St where
 g:Tr SV
 tb:Tr SB
 nx:Nat
 ws:List Nat
 ob:List Prop
 df:List SV:=[]
 hs:List Bool:=[]
noncomputable def St.T (B:bA) (s:St):bA:=fun l=>match s.tb.get l with
 | some b=>some b
 | none=>B l
noncomputable def GJ (F0:Nat):List (Nat × SB)->Tr SB->List Nat->Option (Tr SB × List Nat)
 | [],t,ws=>some (t,ws)
 | (l,b)::r,t,ws=>match GJ F0 r t ws with
   | none=>none
   | some (t,ws)=>match Tr.put b 64 t l with
     | none=>none
     | some t=>some (t,match Nat.blt l F0,ws.elem l with
       | true,false=>l::ws
       | _,_=>ws)
theorem Pn {F0:Nat}:∀ {r:List (Nat × SB)} {t t':Tr SB} {ws ws':List Nat},GJ F0 r t ws=some (t',ws') ->
 (∀ l,t'.get l=match look l r with | some b=>some b | none=>t.get l)/\(∀ l,l∈ws->l∈ws')/\(∀ l b,look l r=some b->l<F0->l∈ws')
 | [],t,t',ws,ws',h=>by
   simp only [GJ,zzI,Prod.mk.injEq] at h
   obtain ⟨rfl,rfl⟩:=h
   exact ⟨fun l=>rfl,fun l hl=>hl,fun l b hl=>by cases hl⟩
 | (k,c)::r,t,t',ws,ws',h=>by
   simp only [GJ] at h
   split at h
   .cases h
   .rename_i t1 ws1 h1
    obtain ⟨i1,i2,i3⟩:=Pn h1
    split at h
    .cases h
    .rename_i t2 h2
     simp only [zzI,Prod.mk.injEq] at h
     obtain ⟨rfl,hws⟩:=h
     have hg:=Tr.iH c 64 t1 k t2 h2
     have aK:∀ l,l∈ws1->l∈ws':=by
      intro l hl
      rw [<- hws]
      split
      .exact zzO _ hl
      .exact hl
     have hk:k<F0->k∈ws':=by
      intro cM
      rw [<- hws]
      split
      .exact zzC
      .rename_i Gc
       have hb:Nat.blt k F0=true:=by simpa [Nat.blt_eq] using cM
       cases he:ws1.elem k with
       | true=>simpa using he
       | false=>exact (Gc hb he).elim
     refine ⟨fun l=>?_,fun l hl=>aK l (i2 l hl),fun l b hl cM=>?_⟩
     .rw [hg l]
      by_cases e:k=l
      .subst e;rw [aH,if_pos rfl]
      .rw [aD e,if_neg (fun x=>e x.symm)];exact i1 l
     .by_cases e:k=l
      .subst e;exact hk cM
      .rw [aD e] at hl
       exact aK l (i3 l b hl cM)
noncomputable def St.step (F0 N:Nat) (s:St) (dst:Option Tmp) (e:bL) (lab nx:Nat):Option St:=
 match GJ F0 (e.eI lab) s.tb s.ws,Nat.ble e.new.length 8&&e.wr.all (fun p=>Nat.blt p.1 nx) with
 | some (tb,ws),true=>match dst with
   | none=>some { g:=s.g,tb:=tb,nx:=nx,ws:=ws,ob:=e.bK++s.ob,df:=s.df,hs:=s.hs }
   | some d=>match Tr.put e.val 64 s.g d,Nat.blt d N with
     | some g,true=>some { g:=g,tb:=tb,nx:=nx,ws:=ws,ob:=e.bK++s.ob,df:=s.df,hs:=s.hs }
     | _,_=>none
 | _,_=>none
def Bl (ops:Array Oper) (g:Nat->Option SV) (o:Oper):Option Bool:=
 match o.guard with
 | none=>some true
 | some (j,want)=>match (ops[j]?).bind (·.dst) with
   | none=>none
   | some d=>match g d with
     | some (.bool true b)=>some (b==want)
     | some (.raw v)=>match v with
       | .bool _=>none
       | _=>some false
     | _=>none
theorem St.Yi {F0 N:Nat} {s s':St} {dst:Option Tmp} {e:bL} {lab nx:Nat} (h:s.step F0 N dst e lab nx=some s'):s'.df=s.df:=by
 unfold St.step at h
 split at h
 .split at h
  .cases h;rfl
  .split at h
   .cases h;rfl
   .cases h
 .cases h
def toD:Value->Deferred
 | .func f xs ys=>{ target:=.fn f ys,args:=xs }
 | _=>{ target:=.nil,args := #[] }
structure Inv (P:Program) (Γ:Env) (w0:World) (M:Nat->Prop) (B:bA) (N F0:Nat) (V0:aZ) (s:St) (V:aZ) (a:Act) (w:World):Prop where
 tmp:cG V s.g.get a
 keys:∀ d v,s.g.get d=some v->d<N
 size:N<=a.tmps.size
 defers:∃ xs,aG V s.df=some xs/\a.defers=xs.map toD
 eI:aC w0 M V (s.T B) w
 aT:bO Γ V
 top:V.top s.nx
 le:V0.le V
 low:∀ l,l<F0->V.β l=V0.β l/\V.σ l=V0.σ l
 ch:∀ l,l<F0->l ∉ s.ws->s.tb.get l=none
 nx:F0<=s.nx
 hi:∀ l,s.nx<=l->s.T B l=none
theorem aZ.top.fresh {V:aZ} {F:Nat} (h:V.top F):V.fresh F:=fun l h1 _=>h l h1
theorem aZ.top.mono {V:aZ} {F F':Nat} (h:V.top F) (hl:F<=F'):V.top F':=fun l h1=>h l (Nat.le_trans hl h1)
theorem qK {ops:Array Oper} {V:aZ} {g:Nat->Option SV} {a:Act} (ht:cG V g a) (hs:∀ d v,g d=some v->d<a.tmps.size) {o:Oper} {b:Bool} (h:Bl ops g o=some b):Region.wanted o (yielded ops a.tmps)=b:=by
 unfold Bl at h
 unfold Region.wanted
 split at h
 .rename_i hg;simp only [zzI] at h;subst h;rw [hg]
 .rename_i j want hg
  rw [hg]
  split at h
  .cases h
  .rename_i d hd
   split at h
   .rename_i c hc
    simp only [zzI] at h
    subst h
    have hv:=ht d _ hc
    have cM:=hs d _ hc
    simp only [den,zzI,Act.eval] at hv
    have rA:a.tmps[d]?=some (.bool c):=by
     rw [Array.getElem?_eq_getElem cM]
     rw [Array.getD_eq_getD_getElem?,Array.getElem?_eq_getElem cM,Option.getD_some] at hv
     rw [hv]
    simp only [yielded,hd,zza,rA]
    cases c <;> cases want <;> rfl
   .rename_i v hc
    split at h
    .cases h
    .rename_i hnb
     simp only [zzI] at h
     subst h
     have hv:=ht d _ hc
     have cM:=hs d _ hc
     simp only [den,zzI,Act.eval] at hv
     have rA:a.tmps[d]?=some v:=by
      rw [Array.getElem?_eq_getElem cM]
      rw [Array.getD_eq_getD_getElem?,Array.getElem?_eq_getElem cM,Option.getD_some] at hv
      rw [hv]
     have hy:yielded ops a.tmps j=none:=by
      simp only [yielded,hd,zza,rA]
      split
      .rename_i b' hq;cases hq;exact absurd rfl (hnb b')
      .rfl
     show (yielded ops a.tmps j==some want)=false
     rw [hy]
     rfl
   .cases h
theorem St.cR {F0 N:Nat} {s s':St} {dst:Option Tmp} {e:bL} {lab nx:Nat} (B:bA) (h:s.step F0 N dst e lab nx=some s') :
 s'.T B=eG (s.T B) lab e/\s'.nx=nx/\s'.ob=e.bK++s.ob/\(∀ l,l∈s.ws->l∈s'.ws)/\(∀ l,l<F0->l ∉ s'.ws->s.tb.get l=none->s'.tb.get l=none) /\
  (∀ m,s'.g.get m=if dst=some m then some e.val else s.g.get m)/\(∀ d,dst=some d->d<N)/\e.new.length<=8/\(∀ l b,look l e.wr=some b->l<nx):=by
 unfold St.step at h
 split at h
 case h_2=>cases h
 rename_i tb ws hp iE
 obtain ⟨i1,i2,i3⟩:=Pn hp
 simp only [zzn] at iE
 have aSi:=zzL iE.1
 have aSh:∀ l b,look l e.wr=some b->l<nx:=fun l b hl=>by
  have:=List.all_eq_true.1 iE.2 _ (gC hl)
  simpa [Nat.blt_eq] using this
 have hT:∀ g nx ob df hs,(St.mk g tb nx ws ob df hs).T B=eG (s.T B) lab e:=by
  intro g nx ob df hs
  funext l
  simp only [St.T,eG,i1 l]
  cases look l (e.eI lab) <;> rfl
 have hch:∀ l,l<F0->l ∉ ws->s.tb.get l=none->tb.get l=none:=by
  intro l hl hn h0
  rw [i1 l]
  cases hk:look l (e.eI lab) with
  | none=>exact h0
  | some b=>exact (hn (i3 l b hk hl)).elim
 split at h
 .simp only [zzI] at h
  subst h
  exact ⟨hT _ _ _ _ _,rfl,rfl,i2,hch,fun m=>by simp,(fun d hd=>by cases hd),aSi,aSh⟩
 .rename_i d
  split at h
  .rename_i g hg cM
   simp only [zzI] at h
   subst h
   refine ⟨hT _ _ _ _ _,rfl,rfl,i2,hch,fun m=>?_,fun d' hd'=>?_,aSi,aSh⟩
   .rw [Tr.iH _ _ _ _ _ hg m]
    by_cases e:m=d
    .subst e;simp
    .rw [if_neg e,if_neg (by simp;exact fun x=>e x.symm)]
   .cases hd';simpa [Nat.blt_eq] using cM
  .cases h
theorem Inv.step {P:Program} {Γ:Env} {w0 w w':World} {M:Nat->Prop} {B:bA} {N F0:Nat} {V0 V V':aZ} {s s':St} {a:Act} {dst:Option Tmp} {e:bL} {x:Value} {lab nx:Nat}
 (h:Inv P Γ w0 M B N F0 V0 s V a w) (hs:s.step F0 N dst e lab nx=some s') (hle:s.nx<=lab) (hn:lab+8<=nx) (hV:V.ext lab V') (hx:dst.isSome=true->den V' e.val=some x)
 (hT:aC w0 M V' (eG (s.T B) lab e) w'):Inv P Γ w0 M B N F0 V0 s' V' (a.put dst x) w':=by
 obtain ⟨h1,h2,h3,h4,h5,h6,h7,h8,h9⟩:=St.cR B hs
 refine ⟨fun t v hv=>?_,fun d v hv=>?_,?_,?_,by rw [h1];exact hT,fun n l hl=>hV.1.1 _ _ (h.aT n l hl),fun l hl=>?_,aZ.le_trans h.le hV.1,fun l hl=>?_,fun l hl hw=>?_,?_,fun l hl=>?_⟩
 .rw [h6] at hv
  by_cases hd:dst=some t
  .subst hd
   simp only [if_true,zzI] at hv
   subst hv
   have cM:t<a.tmps.size:=Nat.lt_of_lt_of_le (h7 t rfl) h.size
   rw [hx rfl]
   simp [Act.eval,Act.put,Array.getD_eq_getD_getElem?,cM]
  .rw [if_neg hd] at hv
   rw [pL hV.1 (h.tmp t v hv)]
   rw [Act.eval_put (fun d hd' hq=>hd (by cases hq;exact hd'))]
 .rw [h6] at hv
  by_cases hd:dst=some d
  .exact h7 d hd
  .rw [if_neg hd] at hv;exact h.keys d v hv
 .cases dst with
  | none=>exact h.size
  | some d=>simpa [Act.put] using h.size
 .obtain ⟨xs,gM,nX⟩:=h.defers
  refine ⟨xs,by rw [St.Yi hs];exact dC hV.1 gM,?_⟩
  cases dst <;> exact nX
 .rw [h2] at hl
  have:=hV.2 l (.inr (by omega))
  rw [this.1,this.2]
  exact h.top l (by omega)
 .have:=hV.2 l (.inl (by have:=h.nx;omega))
  rw [this.1,this.2]
  exact h.low l hl
 .exact h5 l hl hw (h.ch l hl (fun q=>hw (h4 l q)))
 .rw [h2];have:=h.nx;omega
 .rw [h2] at hl
  rw [h1]
  unfold eG bL.eI
  rw [cD]
  cases hk:look l e.wr with
  | some b=>have:=h9 l b hk;omega
  | none=>
    have:look l (fT lab e.new)=none:=by
     rw [fL]
     split
     .apply List.getElem?_eq_none;omega
     .rfl
    simp only [this]
    exact h.hi l (by omega)
def Ul (Γ:Env) (g:Nat->Option SV) (c:Call):Option SV:=match VP Γ g c.args.toList,c.callee with
 | some vs,.value f=>match ev Γ g f with
   | some (.fn f first Ki)=>some (.fn f (first++vs) Ki)
   | _=>none
 | _,_=>none
theorem EI {P:Program} {Γ:Env} {V:aZ} {g:Nat->Option SV} {a:Act} {w:World} (ht:cG V g a) (hg:bO Γ V) {c:Call} {o:Oper} (bY:o.op = .defer c) {v:SV} (h:Ul Γ g c=some v) :
 ∃ x,den V v=some x/\(execOp a.eval o).run P w = .ok (.defer (toD x)) w:=by
 unfold Ul at h
 split at h
 case h_2=>cases h
 rename_i vs f hvs hc
 split at h
 case h_2=>cases h
 rename_i f' first Ki hf
 cases h
 have hd:=Pw ht hg hvs
 have ef:=bG ht hg hf
 simp only [den,zzB,zzM] at ef
 obtain ⟨xf,hxf,xc,hxc,ef⟩:=ef
 refine ⟨.func f' (xf++(c.args.map a.eval).toList).toArray xc.toArray,by simp only [den,cH hxf hd,hxc,zza,zzm],?_⟩
 unfold execOp
 simp only [bY,resolve,hc,<- ef,Deferred.ofValue,Sem.run_bind,Sem.run_pure,Result.andThen_ok,toD]
 have:(xf++(c.args.map a.eval).toList).toArray=xf.toArray++c.args.map a.eval:=by
  apply Array.ext';simp
 rw [this]
noncomputable def GY (ops:Array Oper) (o:Oper) (s:St):Option St:=match o.guard with
 | none=>some s
 | some (j,_)=>match (ops[j]?).bind (·.dst) with
   | none=>some s
   | some d=>match s.g.get d with
     | some (.bool false b)=>match s.hs with
       | true::r=>match Tr.put (.bool true true) 64 s.g d with
         | some g=>some { s with g:=g,ob:=(b=true)::s.ob,hs:=r }
         | none=>none
       | false::r=>match Tr.put (.bool true false) 64 s.g d with
         | some g=>some { s with g:=g,ob:=(b=false)::s.ob,hs:=r }
         | none=>none
       | []=>none
     | _=>some s
theorem aEi {ops:Array Oper} {o:Oper} {s s':St} (h:GY ops o s=some s'):∀ q∈s.ob,q∈s'.ob:=by
 intro q hq
 unfold GY at h
 split at h
 .cases h;exact hq
 split at h
 .cases h;exact hq
 split at h
 .split at h
  .split at h
   .cases h;exact zzO _ hq
   .cases h
  .split at h
   .cases h;exact zzO _ hq
   .cases h
  .cases h
 .cases h;exact hq
theorem Inv.known {P:Program} {Γ:Env} {w0:World} {M:Nat->Prop} {B:bA} {N F0:Nat} {V0:aZ} {s:St} {V:aZ} {a:Act} {w:World} (hi:Inv P Γ w0 M B N F0 V0 s V a w) {d:Nat} {b c:Bool} {g:Tr SV} {ob:List Prop} {hs:List Bool}
 (hd:s.g.get d=some (.bool false b)) (hp:Tr.put (.bool true c) 64 s.g d=some g) (hb:b=c):Inv P Γ w0 M B N F0 V0 { s with g:=g,ob:=ob,hs:=hs } V a w:=by
 refine ⟨fun m v hv=>?_,fun m v hv=>?_,hi.size,hi.defers,hi.eI,hi.aT,hi.top,hi.le,hi.low,hi.ch,hi.nx,hi.hi⟩
 .have hv:g.get m=some v:=hv
  rw [Tr.iH _ _ _ _ _ hp m] at hv
  split at hv
  .rename_i e
   cases hv
   have:=hi.tmp d _ hd
   rw [e]
   rw [hb] at this
   exact this
  .exact hi.tmp m v hv
 .have hv:g.get m=some v:=hv
  rw [Tr.iH _ _ _ _ _ hp m] at hv
  split at hv
  .rename_i e;rw [e];exact hi.keys d _ hd
  .exact hi.keys m v hv
theorem aEh {P:Program} {Γ:Env} {w0:World} {M:Nat->Prop} {B:bA} {N F0:Nat} {V0:aZ} {s s':St} {V:aZ} {a:Act} {w:World} {ops:Array Oper} {o:Oper} (hi:Inv P Γ w0 M B N F0 V0 s V a w)
 (h:GY ops o s=some s') (ho:∀ q∈s'.ob,q):Inv P Γ w0 M B N F0 V0 s' V a w:=by
 unfold GY at h
 split at h
 .cases h;exact hi
 split at h
 .cases h;exact hi
 split at h
 .rename_i hd
  split at h
  .split at h
   .rename_i g hp;cases h;exact hi.known hd hp (ho _ zzC)
   .cases h
  .split at h
   .rename_i g hp;cases h;exact hi.known hd hp (ho _ zzC)
   .cases h
  .cases h
 .cases h;exact hi
noncomputable def Xb (Γ:Env) (B:bA) (F0 N:Nat) (ops:Array Oper) (o:Oper) (s:St):Option St:=match Bl ops s.g.get o with
 | some true=>match o.op with
   | .defer c=>match Ul Γ s.g.get c with
     | some v=>match s.step F0 N o.dst { val:=.raw undef } s.nx (s.nx+8) with
       | some s'=>some { s' with df:=v::s'.df }
       | none=>none
     | none=>none
   | _=>match Di Γ s.g.get (s.T B) s.nx (s.nx+8) none o with
     | some e=>s.step F0 N o.dst e s.nx (s.nx+8)
     | none=>none
 | some false=>s.step F0 N o.dst { val:=.raw undef } s.nx (s.nx+8)
 | none=>none
theorem Pc {Γ:Env} {B:bA} {F0 N:Nat} {ops:Array Oper} {o:Oper} {s s':St} (h:Xb Γ B F0 N ops o s=some s'):∀ q∈s.ob,q∈s'.ob:=by
 intro q hq
 unfold Xb at h
 split at h
 .split at h
  .split at h
   .split at h
    .rename_i s1 h1
     cases h
     show q∈s1.ob
     rw [(St.cR B h1).2.2.1];exact List.mem_append_right _ hq
    .cases h
   .cases h
  .split at h
   .rw [(St.cR B h).2.2.1];exact List.mem_append_right _ hq
   .cases h
 .rw [(St.cR B h).2.2.1];exact List.mem_append_right _ hq
 .cases h
noncomputable def Jz (Γ:Env) (B:bA) (F0 N:Nat) (ops:Array Oper):List Oper->St->Option St
 | [],s=>some s
 | o::r,s=>match GY ops o s with
   | some s1=>match Xb Γ B F0 N ops o s1 with
     | some s2=>Jz Γ B F0 N ops r s2
     | none=>none
   | none=>none
theorem wC {Γ:Env} {B:bA} {F0 N:Nat} {ops:Array Oper}:∀ {l:List Oper} {s s':St},Jz Γ B F0 N ops l s=some s'->∀ q∈s.ob,q∈s'.ob
 | [],s,s',h,q,hq=>by simp only [Jz,zzI] at h;subst h;exact hq
 | o::r,s,s',h,q,hq=>by
   unfold Jz at h
   split at h
   .rename_i s1 h1
    split at h
    .rename_i s2 h2
     exact wC h q (Pc h2 q (aEi h1 q hq))
    .cases h
   .cases h
theorem wB {P:Program} {Γ:Env} {w0:World} {M:Nat->Prop} {B:bA} {N F0:Nat} {V0:aZ} (aR:cC P Γ) (aU:cK P Γ) {ops:Array Oper} {Q:Exit->Act->World->Prop} :
 ∀ {l:List Oper} {s s':St} {V:aZ} {a:Act} {w:World},Jz Γ B F0 N ops l s=some s'->(∀ q∈s'.ob,q)->Inv P Γ w0 M B N F0 V0 s V a w ->
   (∀ V' a' w',Inv P Γ w0 M B N F0 V0 s' V' a' w'->Q .normal a' w')->wpList P ops Q l a w
 | [],s,s',V,a,w,h,ho,hi,hQ=>by
   simp only [Jz,zzI] at h
   subst h
   exact wpList_nil (hQ V a w hi)
 | o::r,s0,s',V,a,w,h,ho,VJ,hQ=>by
   unfold Jz at h
   split at h
   case h_2=>cases h
   rename_i s bDk
   split at h
   case h_2=>cases h
   rename_i s2 Jq
   have hi:=aEh VJ bDk (fun q hq=>ho q (wC h q (Pc Jq q hq)))
   unfold Xb at Jq
   split at Jq
   .rename_i hw
    have hw:=qK hi.tmp (fun d v hd=>Nat.lt_of_lt_of_le (hi.keys d v hd) hi.size) hw
    split at Jq
    .rename_i c bY
     split at Jq
     case h_2=>cases Jq
     rename_i v hv
     split at Jq
     case h_2=>cases Jq
     rename_i s1 h1
     cases Jq
     refine wpList_step fun K hK=>?_
     rw [if_pos hw]
     obtain ⟨x,hx,hr⟩:=EI (P:=P) (w:=w) hi.tmp hi.aT bY hv
     unfold Oper.wp
     rw [hr,Oper.upon_defer]
     have h2:=hi.step (a:=a) (w':=w) (x:=undef) h1 (zzr _) (zzr _) (V.cP _) (fun _=>rfl) (by rw [kI _ _ rfl rfl];exact hi.eI)
     refine hK _ _ (wB aR aU h ho ⟨?_,h2.keys,?_,?_,h2.eI,h2.aT,h2.top,h2.le,h2.low,h2.ch,h2.nx,h2.hi⟩ hQ)
     .intro t v' Ra
      have:=h2.tmp t v' Ra
      rw [this]
      cases o.dst <;> rfl
     .have:=h2.size;cases ho:o.dst <;> (rw [ho] at this;exact this)
     .obtain ⟨xs,gM,nX⟩:=h2.defers
      refine ⟨x::xs,by simp only [aG,hx,gM,zza,zzm],?_⟩
      simp only [List.map_cons,<- nX]
      cases o.dst <;> rfl
    .split at Jq
     case h_2=>cases Jq
     rename_i e he
     have h1:=Jq
     have uA:∀ q∈e.bK,q:=fun q hq=>ho q (wC h q (by rw [(St.cR B h1).2.2.1];exact List.mem_append_left _ hq))
     refine wpList_step fun K hK=>?_
     rw [if_pos hw]
     refine Po aR aU hi.tmp hi.aT (T':=s.T B) (fun _ _ h=>h) hi.eI hi.top.fresh (hi.top.mono (by omega)) he uA K Q fun V' x w' hV hx hT=>hK _ _ ?_
     exact wB aR aU h ho (hi.step h1 (zzr _) (zzr _) hV (fun _=>hx) hT) hQ
   .rename_i hw
    have hw:=qK hi.tmp (fun d v hd=>Nat.lt_of_lt_of_le (hi.keys d v hd) hi.size) hw
    have h1:=Jq
    refine wpList_step fun K hK=>?_
    rw [if_neg (by rw [hw];simp)]
    refine hK _ _ (wB aR aU h ho (hi.step h1 (zzr _) (zzr _) (V.cP _) (fun _=>rfl) ?_) hQ)
    rw [kI _ _ rfl rfl]
    exact hi.eI
   .cases Jq
def oV:Op->Bool
 | .binOp .eql t .. | .binOp .neq t .. => Nat.blt t 6||(Nat.beq t 26||Nat.beq t 100)
 | .move _ | .assign _ | .pick .. | .alloc _ | .box .. | .build .. | .buildSlice .. | .nilCheck _ | .binOp .. | .unOp .. | .sliceToArrayPointer .. | .makeInterface .. | .makeFunc .. | .makeSlice .. | .fieldAddr .. | .field .. | .indexAddr .. | .index .. | .extract .. => true
 | .convert s d _ => !Nat.beq s d
 | .call c=>match c.callee,c.args.toList with
   | .value (.func f),[]=>Nat.beq f 30
   | _,_=>false
 | _=>false
def nL (ms:List Nat):List Edge->Option Nat
 | []=>some 0
 | e::r=>match Region.binds .any e with
   | true=>match ms[e.on]?,nL ms r with
     | some m,some k=>some ((m ||| (1 <<< e.on)) ||| k)
     | _,_=>none
   | false=>nL ms r
theorem xU (i k:Nat):(1 <<< i).testBit k=decide (k=i):=by
 rw [Nat.one_shiftLeft,Nat.testBit_two_pow]
 simp [eq_comm]
theorem kZ {ms:List Nat}:∀ {es:List Edge} {m:Nat},nL ms es=some m->∀ k,m.testBit k=true ->
 ∃ e∈es,Region.binds .any e=true/\(k=e.on\/∃ me,ms[e.on]?=some me/\me.testBit k=true)
 | [],m,h,k,hk=>by simp only [nL,zzI] at h;subst h;simp at hk
 | e::r,m,h,k,hk=>by
   simp only [nL] at h
   split at h
   .rename_i hb
    split at h
    .rename_i me mr Wt hmr
     simp only [zzI] at h
     subst h
     simp only [Nat.testBit_or,Bool.or_eq_true,xU,decide_eq_true_eq] at hk
     rcases hk with (hk | hk) | hk
     .exact ⟨e,by simp,hb,.inr ⟨me,Wt,hk⟩⟩
     .exact ⟨e,by simp,hb,.inl hk⟩
     .obtain ⟨e',iD,h1,h2⟩:=kZ hmr k hk
      exact ⟨e',by simp [iD],h1,h2⟩
    .cases h
   .obtain ⟨e',iD,h1,h2⟩:=kZ h k hk
    exact ⟨e',by simp [iD],h1,h2⟩
theorem tG {ms:List Nat}:∀ {es:List Edge} {m:Nat},nL ms es=some m->∀ e∈es,Region.binds .any e=true->e.on<ms.length/\m.testBit e.on=true
 | [],m,h,e,he,_=>by cases he
 | e0::r,m,h,e,he,hb=>by
   simp only [nL] at h
   split at h
   .split at h
    .rename_i me mr Wt hmr
     simp only [zzI] at h
     subst h
     rcases List.mem_cons.1 he with rfl | he
     .refine ⟨(List.getElem?_eq_some_iff.1 Wt).1,?_⟩
      simp [Nat.testBit_or]
     .obtain ⟨h1,h2⟩:=tG hmr e he hb
      exact ⟨h1,by simp [Nat.testBit_or,h2]⟩
    .cases h
   .rename_i hnb
    rcases List.mem_cons.1 he with rfl | he
    .rw [hb] at hnb;cases hnb
    .exact tG h e he hb
theorem qN {ms:List Nat}:∀ {es:List Edge} {m:Nat},nL ms es=some m->∀ e∈es,Region.binds .any e=true->∀ {me:Nat},ms[e.on]?=some me->∀ q,me.testBit q=true->m.testBit q=true
 | [],m,h,e,he,_,_,_,_,_=>by cases he
 | e0::r,m,h,e,he,hb,me,Wt,q,hq=>by
   simp only [nL] at h
   split at h
   .split at h
    .rename_i me' mr aSd hmr
     simp only [zzI] at h
     subst h
     rcases List.mem_cons.1 he with rfl | he
     .rw [Wt] at aSd;cases aSd
      simp [Nat.testBit_or,hq]
     .simp [Nat.testBit_or,qN hmr e he hb Wt q hq]
    .cases h
   .rename_i hnb
    rcases List.mem_cons.1 he with rfl | he
    .rw [hb] at hnb;cases hnb
    .exact qN h e he hb Wt q hq
def kQ (t:Nat):List Oper->Nat->Option Nat
 | [],_=>none
 | o::r,i=>match o.dst with
   | some d=>match Nat.beq d t with
     | true=>some i
     | false=>kQ t r (i+1)
   | none=>kQ t r (i+1)
theorem nR {t:Nat}:∀ {l:List Oper} {i j:Nat},kQ t l i=some j->∃ o,i<=j/\l[j-i]?=some o/\o.dst=some t
 | [],i,j,h=>by cases h
 | o::r,i,j,h=>by
   simp only [kQ] at h
   have Na:kQ t r (i+1)=some j->∃ o',i<=j/\(o::r)[j-i]?=some o'/\o'.dst=some t:=by
    intro h
    obtain ⟨o',h1,h2,h3⟩:=nR h
    refine ⟨o',by omega,?_,h3⟩
    rw [show j-i=(j-(i+1))+1 from by omega]
    simpa using h2
   split at h
   .rename_i d hd
    split at h
    .rename_i hb
     have:=zzN hb
     subst this
     cases h
     exact ⟨o,zzr _,by simp,hd⟩
    .exact Na h
   .exact Na h
def gS (ops:List Oper) (E:Nat->Option bL) (g0:Nat->Option SV) (S O:Nat->Bool) (t:Nat):Option SV:=
 match kQ t ops 0 with
 | none=>g0 t
 | some j=>match S j with
   | true=>(E j).map (·.val)
   | false=>match O j with
     | true=>g0 t
     | false=>none
def xB (all:Array Oper) (i j:Nat):Bool:=match all[j]? with
 | some o=>o.after.toList.any fun e=>Nat.beq e.on i&&Region.binds .any e
 | none=>false
def Dg (T0:bA) (lab0 n:Nat) (E:Nat->Option bL) (S:Nat->Bool):bA:=fun l=>
 match Nat.ble lab0 l&&Nat.blt l (lab0+8*n) with
 | true=>match S ((l-lab0)/8) with
   | true=>(E ((l-lab0)/8)).bind fun e=>e.new[(l-lab0)%8]?
   | false=>none
 | false=>T0 l
def TS (T0:bA) (lab0 n:Nat) (E:Nat->Option bL) (wr:List (Nat × SB)) (S:Nat->Bool):bA:=fun l=>
 match look l wr with
 | some b=>some b
 | none=>Dg T0 lab0 n E S l
def uO:Op->Bool
 | .load .. => true
 | .slice .. => true
 | .convert s d _=>Nat.beq s d
 | .call c=>match c.callee with
   | .builtin .len=>true
   | .builtin .cap=>true
   | _=>false
 | _=>false
def aIz:SV->Nat
 | .buf l=>l
 | .cQ l _ _ _=>l
 | .eH l _=>l
 | _=>1000000000
def bCh:SV->Nat
 | .tZ l _=>l
 | .jQ l _=>l
 | v=>aIz v
def Ri (Γ:Env) (g:Nat->Option SV) (o:Oper):Option Nat:=match o.op with
 | .load _ x=>match ev Γ g x with
   | some (.ptr l _ _)=>some l
   | some (.jQ l _)=>some l
   | some (.EP l _)=>some l
   | _=>none
 | .slice _ x _ _ _=>(ev Γ g x).map bCh
 | .convert s d x=>match Nat.beq s d,ev Γ g x with
   | true,some (.aJ l _ _ _ _)=>some l
   | _,_=>none
 | .call c=>match c.callee,c.args.toList with
   | .builtin .len,[x]=>(ev Γ g x).map aIz
   | .builtin .cap,[x]=>(ev Γ g x).map aIz
   | _,_=>none
 | _=>none
theorem NT {Γ:Env} {g:Nat->Option SV} {o:Oper} {l:Nat} (h:Ri Γ g o=some l):uO o.op=true:=by
 unfold Ri at h
 split at h
 .rename_i bY;rw [bY];rfl
 .rename_i bY;rw [bY];rfl
 .rename_i bY
  rw [bY]
  split at h
  .rename_i hb _;exact hb
  .cases h
 .rename_i c bY
  rw [bY]
  split at h
  .rename_i hc _;simp only [uO,hc]
  .rename_i hc _;simp only [uO,hc]
  .cases h
 .cases h
def aIq (l:Nat) (T:bA):bA:=fun k=>match Nat.beq k l with
 | true=>T k
 | false=>none
theorem OA {l k:Nat} {T:bA} {B:SB} (h:aIq l T k=some B):k=l/\T l=some B:=by
 unfold aIq at h
 split at h
 .rename_i hb
  have:=zzN hb
  subst this
  exact ⟨rfl,h⟩
 .cases h
def Gx (l m:Nat) (es:List bL):List Nat->Bool
 | []=>true
 | s::r=>match m.testBit s with
   | true=>Gx l m es r
   | false=>match es[s]? with
     | some e=>match look l e.wr with
       | none=>Gx l m es r
       | some _=>false
     | none=>false
theorem Lj {l m:Nat} {es:List bL}:∀ {L:List Nat},Gx l m es L=true->∀ s∈L,m.testBit s=true\/∃ e,es[s]?=some e/\look l e.wr=none
 | [],_,s,hs=>by cases hs
 | k::r,h,s,hs=>by
   simp only [Gx] at h
   split at h
   .rename_i hk
    rcases List.mem_cons.1 hs with rfl | hs
    .exact .inl hk
    .exact Lj h s hs
   .split at h
    case h_2=>cases h
    rename_i e he
    split at h
    .rename_i hl
     rcases List.mem_cons.1 hs with rfl | hs
     .exact .inr ⟨e,he,hl⟩
     .exact Lj h s hs
    .cases h
theorem Ag {l m:Nat} {es:List bL} {e:bL}:∀ {L:List Nat},(∀ s∈L,s<es.length)->Gx l m (es++[e]) L=Gx l m es L
 | [],_=>rfl
 | s::r,h=>by
   have ih:=Ag (l:=l) (m:=m) (es:=es) (e:=e) (L:=r) (fun s hs=>h s (zzO _ hs))
   simp only [Gx,ih,List.getElem?_append_left (h s zzC)]
def yD (g0:Nat->Option SV) (all:Array Oper) (es:List bL) (j m:Nat):Nat->Option SV:=
 gS all.toList (fun j=>es[j]?) g0 (fun k=>m.testBit k) (xB all j)
def AX (Γ:Env) (g0:Nat->Option SV) (all:Array Oper) (es:List bL) (ms:List Nat) (wr:List (Nat × SB)) (m:Nat):List Oper->Nat->Nat->Bool
 | _,_,0=>true
 | [],_,_=>true
 | o::r,j,k+1=>match oV o.op||m.testBit j with
   | true=>AX Γ g0 all es ms wr m r (j+1) k
   | false=>match ms[j]? with
     | some mj=>match Ri Γ (yD g0 all es j mj) o with
       | some l=>match look l wr with
         | none=>AX Γ g0 all es ms wr m r (j+1) k
         | some _=>false
       | none=>false
     | none=>false
theorem Yz {Γ:Env} {g0:Nat->Option SV} {all:Array Oper} {es:List bL} {ms:List Nat} {wr:List (Nat × SB)} {m:Nat}:∀ {l:List Oper} {j k:Nat},AX Γ g0 all es ms wr m l j k=true->∀ (i:Nat) (o:Oper),i<k->l[i]?=some o ->
 (oV o.op=true\/m.testBit (j+i)=true)\/∃ mj lb,ms[j+i]?=some mj/\Ri Γ (yD g0 all es (j+i) mj) o=some lb/\look lb wr=none
 | _,_,0,_,i,o,hi,_=>by omega
 | [],_,k+1,_,i,o,_,ho=>by simp at ho
 | o'::r,j,k+1,h,i,o,hi,ho=>by
   have Na:AX Γ g0 all es ms wr m r (j+1) k=true->∀ i',i=i'+1->(oV o.op=true\/m.testBit (j+i)=true)\/∃ mj lb,ms[j+i]?=some mj/\Ri Γ (yD g0 all es (j+i) mj) o=some lb/\look lb wr=none:=by
    rintro h i' rfl
    simp only [List.getElem?_cons_succ] at ho
    have:=Yz h i' o (by omega) ho
    rw [show j+(i'+1)=j+1+i' from by omega]
    exact this
   simp only [AX] at h
   cases i with
   | zero=>
     simp only [List.getElem?_cons_zero,zzI] at ho
     subst ho
     split at h
     .rename_i hb
      left
      simpa using hb
     .split at h
      case h_2=>cases h
      rename_i mj hmj
      split at h
      case h_2=>cases h
      rename_i lb hlb
      split at h
      .rename_i hl
       exact .inr ⟨mj,lb,hmj,hlb,hl⟩
      .cases h
   | succ i=>
     split at h
     .exact Na h i rfl
     .split at h
      case h_2=>cases h
      split at h
      case h_2=>cases h
      split at h
      .exact Na h i rfl
      .cases h
def jN (es:List bL):List Nat->List (Nat × SB)
 | []=>[]
 | s::r=>match es[s]? with
   | some e=>e.wr++jN es r
   | none=>jN es r
theorem Iz {es:List bL} {l:Nat} {b:SB}:∀ {L:List Nat},look l (jN es L)=some b->∃ s∈L,∃ e,es[s]?=some e/\look l e.wr=some b
 | [],h=>by simp [jN,look] at h
 | s::r,h=>by
   simp only [jN] at h
   have Na:look l (jN es r)=some b->∃ s'∈s::r,∃ e,es[s']?=some e/\look l e.wr=some b:=fun h=>by
    obtain ⟨s',h1,h2⟩:=Iz h
    exact ⟨s',zzO _ h1,h2⟩
   split at h
   .rename_i e he
    rw [cD] at h
    cases hk:look l e.wr with
    | some b'=>rw [hk] at h;cases h;exact ⟨s,zzC,e,he,hk⟩
    | none=>rw [hk] at h;exact Na h
   .exact Na h
theorem sI {es:List bL} {e:bL}:∀ {L:List Nat},(∀ s∈L,s<es.length)->jN (es++[e]) L=jN es L
 | [],_=>rfl
 | s::r,h=>by
   have ih:=sI (es:=es) (e:=e) (L:=r) (fun s hs=>h s (zzO _ hs))
   simp only [jN,ih,List.getElem?_append_left (h s zzC)]
def inM (m:Nat):List Nat->Bool
 | []=>true
 | s::r=>match m.testBit s with
   | true=>inM m r
   | false=>false
theorem MH {m:Nat}:∀ {L:List Nat},inM m L=true->∀ s∈L,m.testBit s=true
 | [],_,s,hs=>by cases hs
 | k::r,h,s,hs=>by
   simp only [inM] at h
   split at h
   .rename_i hk
    rcases List.mem_cons.1 hs with rfl | hs
    .exact hk
    .exact MH h s hs
   .cases h
def isNil {α:Type}:List α->Bool
 | []=>true
 | _=>false
def rF (i:Nat):List Nat->List Nat
 | []=>[]
 | s::r=>match Nat.blt s i with
   | true=>s::rF i r
   | false=>rF i r
theorem nO (i:Nat):∀ L:List Nat,rF i L=L.filter fun s=>Nat.blt s i
 | []=>rfl
 | s::r=>by
   simp only [rF,List.filter_cons,nO i r]
   cases Nat.blt s i <;> rfl
def Kq:List Oper->Nat->Bool
 | [],_=>false
 | o::r,i=>match o.guard with
   | some (j,_)=>match Nat.beq j i with
     | true=>true
     | false=>Kq r i
   | none=>Kq r i
def uJ (b:Bool) (all:Array Oper) (i:Nat) (e:bL):bL:=match e.val with
 | .bool false c=>match Kq all.toList i with
   | true=>{ e with val:=.bool true b,bK:=(c=b)::e.bK }
   | false=>e
 | _=>e
def nxH (all:Array Oper) (i:Nat) (e:bL) (hs:List Bool):List Bool:=match e.val with
 | .bool false _=>match Kq all.toList i with
   | true=>hs.tail
   | false=>hs
 | _=>hs
theorem BT {b:Bool} {all:Array Oper} {i:Nat} {e:bL} (ho:∀ q∈(uJ b all i e).bK,q):(∀ q∈e.bK,q)/\(uJ b all i e).new=e.new/\(uJ b all i e).wr=e.wr/\∀ V,den V (uJ b all i e).val=den V e.val:=by
 unfold uJ at ho |-
 split
 .rename_i c hc
  rw [hc] at ho
  simp only at ho
  split
  .rename_i hg
   rw [hg] at ho
   refine ⟨fun q hq=>ho q (zzO _ hq),rfl,rfl,fun V=>?_⟩
   have:c=b:=ho _ zzC
   subst this
   rw [hc];rfl
  .rename_i hg
   rw [hg] at ho
   exact ⟨ho,rfl,rfl,fun _=>rfl⟩
 .rename_i dG
  refine ⟨?_,rfl,rfl,fun _=>rfl⟩
  split at ho
  .rename_i c hc;exact (dG c hc).elim
  .exact ho
def aIp (Γ:Env) (g:Nat->Option SV) (o:Oper) (wr:List (Nat × SB)):Bool:=match Ri Γ g o with
 | some lb=>wr.all fun p=>Nat.beq p.1 lb
 | none=>false
theorem aBr {Γ:Env} {g:Nat->Option SV} {o:Oper} {wr:List (Nat × SB)} (h:aIp Γ g o wr=true):∃ lb,Ri Γ g o=some lb/\∀ l,l≠lb->look l wr=none:=by
 unfold aIp at h
 split at h
 case h_2=>cases h
 rename_i lb hlb
 refine ⟨lb,hlb,fun l hl=>?_⟩
 cases hk:look l wr with
 | none=>rfl
 | some b=>
   have:=List.all_eq_true.1 h _ (gC hk)
   exact absurd (zzN this) hl
def XW (Γ:Env) (g0:Nat->Option SV) (T0:bA) (lab0 n:Nat) (all:Array Oper) (o:Oper) (i m:Nat) (es:List bL) (wi:List Nat):Option bL:=
 match Bl all (yD g0 all es i m) o with
 | some false=>some { val:=.raw undef }
 | some true=>match oV o.op with
   | true=>Di Γ (yD g0 all es i m) (fun _=>none) (lab0+8*i) (lab0+8*n) none o
   | false=>match Ri Γ (yD g0 all es i m) o with
     | some l=>match Gx l m es (rF i wi) with
       | true=>Di Γ (yD g0 all es i m) (aIq l (TS T0 lab0 n (fun j=>es[j]?) (jN es ((rF i wi).filter fun s=>m.testBit s)) (fun j=>m.testBit j))) (lab0+8*i) (lab0+8*n) none o
       | false=>none
     | none=>match inM m (rF i wi) with
       | true=>Di Γ (yD g0 all es i m) (TS T0 lab0 n (fun j=>es[j]?) (jN es (rF i wi)) (fun j=>m.testBit j)) (lab0+8*i) (lab0+8*n) none o
       | false=>none
 | none=>none
def Ha (b:Bool) (Γ:Env) (g0:Nat->Option SV) (T0:bA) (lab0 n:Nat) (all:Array Oper) (o:Oper) (i m:Nat) (es:List bL) (wi:List Nat):Option bL:=
 match XW Γ g0 T0 lab0 n all o i m es wi with
 | some e=>some (uJ b all i e)
 | none=>none
def aJr (Γ:Env) (g0:Nat->Option SV) (T0:bA) (lab0 n:Nat) (all:Array Oper) (o:Oper) (i m:Nat) (es:List bL) (wi:List Nat) (hs:List Bool):Option (bL × List Bool):=
 match XW Γ g0 T0 lab0 n all o i m es wi with
 | some e=>some (uJ (hs.headD true) all i e,nxH all i e hs)
 | none=>none
theorem DN {Γ:Env} {g0:Nat->Option SV} {T0:bA} {lab0 n:Nat} {all:Array Oper} {o:Oper} {i m:Nat} {es:List bL} {wi:List Nat} {hs Gb:List Bool} {e:bL} (h:aJr Γ g0 T0 lab0 n all o i m es wi hs=some (e,Gb)):∃ b,Ha b Γ g0 T0 lab0 n all o i m es wi=some e:=by
 unfold aJr at h
 split at h
 case h_2=>cases h
 rename_i e0 h0
 cases h
 exact ⟨hs.headD true,by unfold Ha;rw [h0]⟩
def Ih (Γ:Env) (g0:Nat->Option SV) (T0:bA) (lab0 n:Nat) (all:Array Oper):List Oper->Nat->List bL->List Nat->List Nat->List Bool->Option (List bL × List Nat × List Nat × List Bool)
 | [],_,es,ms,wi,hs=>some (es,ms,wi,hs)
 | o::r,i,es,ms,wi,hs=>match nL ms o.after.toList with
   | none=>none
   | some m=>match aJr Γ g0 T0 lab0 n all o i m es wi hs,(match o.dst with | some d=>kQ d all.toList 0==some i | none=>true) with
     | some (e,Gb),true=>match isNil e.wr with
       | true=>match Nat.ble e.new.length 8 with
         | true=>Ih Γ g0 T0 lab0 n all r (i+1) (es++[e]) (ms++[m]) wi Gb
         | false=>none
       | false=>match Nat.ble e.new.length 8&&AX Γ g0 all es ms e.wr m all.toList 0 i&&e.wr.all (fun p=>Nat.blt p.1 lab0||(Nat.ble lab0 p.1&&m.testBit ((p.1-lab0)/8)))&&(!oV o.op&&(!uO o.op||aIp Γ (yD g0 all es i m) o e.wr)) with
         | true=>Ih Γ g0 T0 lab0 n all r (i+1) (es++[e]) (ms++[m]) (i::wi) Gb
         | false=>none
     | _,_=>none
structure Ay (Γ:Env) (g0:Nat->Option SV) (T0:bA) (lab0 n:Nat) (all:Array Oper) (i:Nat) (es:List bL) (ms:List Nat) (wi:List Nat):Prop where
 Mn:es.length=i
 Bd:ms.length=i
 lt:∀ (j m:Nat),ms[j]?=some m->∀ k,m.testBit k=true->k<j
 cl:∀ (j m:Nat),ms[j]?=some m->∀ k mk,m.testBit k=true->ms[k]?=some mk->∀ q,mk.testBit q=true->m.testBit q=true
 aft:∀ (j m:Nat) (o:Oper),ms[j]?=some m->all[j]?=some o->∀ e∈o.after,Region.binds .any e=true->e.on<j/\m.testBit e.on=true
 aTc:∀ (j m:Nat) (o:Oper),ms[j]?=some m->all[j]?=some o->∀ k,m.testBit k=true->∃ e∈o.after,Region.binds .any e=true/\(k=e.on\/∃ me,ms[e.on]?=some me/\me.testBit k=true)
 dst:∀ (j:Nat) (o:Oper) (d:Tmp),j<i->all[j]?=some o->o.dst=some d->kQ d all.toList 0=some j
 new:∀ (j:Nat) (e:bL),es[j]?=some e->e.new.length<=8
 wrt:∀ (j:Nat) (e:bL),es[j]?=some e->e.wr≠[]->j∈wi
 rF:∀ s∈wi,s<i
 wso:wi.Pairwise (· > ·)
 wim:∀ s∈wi,∀ (o:Oper),all[s]?=some o->oV o.op=false
 wnp:∀ s∈wi,∀ (m:Nat),ms[s]?=some m->∀ (j:Nat) (o:Oper),j<s->all[j]?=some o->(oV o.op=true\/m.testBit j=true)\/∃ mj lb e,ms[j]?=some mj/\es[s]?=some e/\Ri Γ (yD g0 all es j mj) o=some lb/\look lb e.wr=none
 wlb:∀ s∈wi,∀ (m:Nat),ms[s]?=some m->∀ (e:bL),es[s]?=some e->∀ l b,look l e.wr=some b->l<lab0\/(lab0<=l/\m.testBit ((l-lab0)/8)=true)
 eff:∀ (j m:Nat) (o:Oper) (e:bL),ms[j]?=some m->all[j]?=some o->es[j]?=some e->∃ b,Ha b Γ g0 T0 lab0 n all o j m es wi=some e
 wld:∀ s∈wi,∀ (o:Oper) (m:Nat) (e:bL),all[s]?=some o->ms[s]?=some m->es[s]?=some e->uO o.op=false\/∃ lb,Ri Γ (yD g0 all es s m) o=some lb/\∀ l,l≠lb->look l e.wr=none
theorem Fa {ops:List Oper} {E E':Nat->Option bL} {g0:Nat->Option SV} {S O:Nat->Bool} (h:∀ j,S j=true->E j=E' j):gS ops E g0 S O=gS ops E' g0 S O:=by
 funext t
 unfold gS
 cases kQ t ops 0 with
 | none=>rfl
 | some j=>
   cases hs:S j with
   | false=>simp [hs]
   | true=>simp [hs,h j hs]
theorem Wj {T0:bA} {lab0 n:Nat} {E E':Nat->Option bL} {S:Nat->Bool} (h:∀ j,S j=true->E j=E' j):Dg T0 lab0 n E S=Dg T0 lab0 n E' S:=by
 funext l
 unfold Dg
 split
 .cases hs:S ((l-lab0)/8) with
  | false=>rfl
  | true=>simp only [h _ hs]
 .rfl
theorem TL {T0:bA} {lab0 n:Nat} {E E':Nat->Option bL} {wr:List (Nat × SB)} {S:Nat->Bool} (h:∀ j,S j=true->E j=E' j):TS T0 lab0 n E wr S=TS T0 lab0 n E' wr S:=by
 funext l
 unfold TS
 rw [Wj h]
theorem Pz {b:Bool} {Γ:Env} {g0:Nat->Option SV} {T0:bA} {lab0 n:Nat} {all:Array Oper} {o:Oper} {j m:Nat} {es:List bL} {wi Wl:List Nat} (e:bL) (hm:∀ k,m.testBit k=true->k<es.length) (hj:j<=es.length)
 (hw:Wl=wi\/(∃ s,Wl=s::wi/\j<=s)):Ha b Γ g0 T0 lab0 n all o j m (es++[e]) Wl=Ha b Γ g0 T0 lab0 n all o j m es wi:=by
 have hE:∀ k,m.testBit k=true->(es++[e])[k]?=es[k]?:=fun k hk=>List.getElem?_append_left (hm k hk)
 have hg:yD g0 all (es++[e]) j m=yD g0 all es j m:=Fa (ops:=all.toList) (E:=fun k=>(es++[e])[k]?) (E':=fun k=>es[k]?) (g0:=g0) (S:=fun k=>m.testBit k) (O:=xB all j) hE
 have hwl:rF j Wl=rF j wi:=by
  rcases hw with rfl | ⟨s,rfl,hs⟩
  .rfl
  .have:Nat.blt s j=false:=by
    cases hb:Nat.blt s j with
    | false=>rfl
    | true=>simp [Nat.blt_eq] at hb;omega
   simp [rF,this]
 have cM:∀ s∈rF j wi,s<es.length:=fun s hs=>by
  rw [nO,List.mem_filter] at hs
  have:s<j:=by simpa [Nat.blt_eq] using hs.2
  omega
 have AI:jN (es++[e]) (rF j wi)=jN es (rF j wi):=sI cM
 have bCr:jN (es++[e]) ((rF j wi).filter fun s=>m.testBit s)=jN es ((rF j wi).filter fun s=>m.testBit s):=sI fun s hs=>cM s (List.mem_filter.1 hs).1
 have hfw:∀ l,Gx l m (es++[e]) (rF j wi)=Gx l m es (rF j wi):=fun l=>Ag cM
 have hT:=fun wr=>TL (T0:=T0) (lab0:=lab0) (n:=n) (E:=fun k=>(es++[e])[k]?) (E':=fun k=>es[k]?) (wr:=wr) (S:=fun k=>m.testBit k) hE
 unfold Ha XW
 simp only [hg,hwl,AI,bCr,hT,hfw]
theorem dV {α:Type} {l:List α} {x y:α} {j:Nat} (h:(l++[x])[j]?=some y):l[j]?=some y\/(j=l.length/\x=y):=by
 by_cases hj:j<l.length
 .rw [List.getElem?_append_left hj] at h;exact .inl h
 .have:j=l.length:=by
   have:=(List.getElem?_eq_some_iff.1 h).1
   simp at this;omega
  subst this
  simp at h
  exact .inr ⟨rfl,h⟩
theorem Ay.nil {Γ:Env} {g0:Nat->Option SV} {T0:bA} {lab0 n:Nat} {all:Array Oper}:Ay Γ g0 T0 lab0 n all 0 [] [] []:=
 ⟨rfl,rfl,(fun j m h=>by simp at h),(fun j m h=>by simp at h),(fun j m o h=>by simp at h),(fun j m o h=>by simp at h),(fun j o d h=>by omega),(fun j e h=>by simp at h),(fun j e h=>by simp at h),
  (fun s h=>by cases h),List.Pairwise.nil,(fun s h=>by cases h),(fun s h=>by cases h),(fun s h=>by cases h),(fun j m o e h=>by simp at h),(fun s h=>by cases h)⟩
theorem Ay.snoc {Γ:Env} {g0:Nat->Option SV} {T0:bA} {lab0 n:Nat} {all:Array Oper} {i:Nat} {es:List bL} {ms:List Nat} {wi Wl:List Nat} (h:Ay Γ g0 T0 lab0 n all i es ms wi) {o:Oper} {m:Nat} {e:bL}
 (ho:all[i]?=some o) (hm:nL ms o.after.toList=some m) (he:∃ b,Ha b Γ g0 T0 lab0 n all o i m es wi=some e) (hd:∀ d,o.dst=some d->kQ d all.toList 0=some i) (hn:e.new.length<=8)
 (hw:(e.wr=[]/\Wl=wi)\/(Wl=i::wi/\(oV o.op=false/\(uO o.op=false\/∃ lb,Ri Γ (yD g0 all es i m) o=some lb/\∀ l,l≠lb->look l e.wr=none))/\(∀ (j:Nat) (o:Oper),j<i->all[j]?=some o->(oV o.op=true\/m.testBit j=true)\/∃ mj lb,ms[j]?=some mj/\Ri Γ (yD g0 all es j mj) o=some lb/\look lb e.wr=none)/\∀ l b,look l e.wr=some b->l<lab0\/(lab0<=l/\m.testBit ((l-lab0)/8)=true))) :
 Ay Γ g0 T0 lab0 n all (i+1) (es++[e]) (ms++[m]) Wl:=by
 have XE:∀ k,m.testBit k=true->k<i:=by
  intro k hk
  obtain ⟨ed,EV,hb,hk⟩:=kZ hm k hk
  have h1:=(tG hm ed EV hb).1
  rw [h.Bd] at h1
  rcases hk with rfl | ⟨me,Wt,hk⟩
  .exact h1
  .have:=h.lt _ _ Wt k hk;omega
 have bQ:∀ (b:Bool) (j m':Nat) (o':Oper),ms[j]?=some m'->Ha b Γ g0 T0 lab0 n all o' j m' (es++[e]) Wl=Ha b Γ g0 T0 lab0 n all o' j m' es wi:=by
  intro b j m' o' hj
  have hjl:=(List.getElem?_eq_some_iff.1 hj).1
  rw [h.Bd] at hjl
  refine Pz e (fun k hk=>?_) (by rw [h.Mn];omega) ?_
  .have:=h.lt j m' hj k hk;rw [h.Mn];omega
  .rcases hw with ⟨_,rfl⟩ | ⟨rfl,_⟩
   .exact .inl rfl
   .exact .inr ⟨i,rfl,by omega⟩
 have Rs:∀ {j m':Nat},ms[j]?=some m'->(ms++[m])[j]?=some m':=fun {j m'} hj=>by
  rw [List.getElem?_append_left (List.getElem?_eq_some_iff.1 hj).1];exact hj
 refine ⟨by simp [h.Mn],by simp [h.Bd],fun j m' hj k hk=>?_,fun j m' hj k mk hk Ch q hq=>?_,fun j m' o' hj lF ed EV hb=>?_,fun j m' o' hj lF k hk=>?_,fun j o' d hj lF hd'=>?_,fun j e' iD=>?_,fun j e' iD dG=>?_,fun s hs=>?_,?_,fun s hs o' lF=>?_,fun s hs m' kL j o' hj lF=>?_,fun s hs m' kL e' iD l b hl=>?_,fun j m' o' e' hj lF iD=>?_,fun s hs o' m' e' lF kL iD=>?_⟩
 .rcases dV hj with hj | ⟨rfl,rfl⟩
  .exact h.lt j m' hj k hk
  .rw [h.Bd];exact XE k hk
 .have BE:ms[k]?=some mk\/k=i:=by
   rcases dV Ch with h1 | ⟨h1,_⟩
   .exact .inl h1
   .right;rw [h1,h.Bd]
  rcases dV hj with hj | ⟨rfl,rfl⟩
  .have hki:=h.lt j m' hj k hk
   have Mt:=(List.getElem?_eq_some_iff.1 hj).1
   rw [h.Bd] at Mt
   rcases BE with BE | rfl
   .exact h.cl j m' hj k mk hk BE q hq
   .omega
  .have hki:=XE k hk
   rcases BE with BE | rfl
   .obtain ⟨ed,EV,hb,gF⟩:=kZ hm k hk
    have key:∀ k mk,m.testBit k=true->ms[k]?=some mk->mk.testBit q=true->m.testBit q=true:=by
     intro k mk hk Ch hq
     obtain ⟨ed,EV,hb,gF⟩:=kZ hm k hk
     rcases gF with rfl | ⟨me,Wt,gF⟩
     .exact qN hm ed EV hb Ch q hq
     .exact qN hm ed EV hb Wt q (h.cl _ me Wt k mk gF Ch q hq)
    exact key k mk hk BE hq
   .omega
 .rcases dV hj with hj | ⟨rfl,rfl⟩
  .exact h.aft j m' o' hj lF ed EV hb
  .rw [h.Bd] at lF
   rw [ho] at lF;cases lF
   obtain ⟨h1,h2⟩:=tG hm ed (by simpa using EV) hb
   exact ⟨h1,h2⟩
 .rcases dV hj with hj | ⟨rfl,rfl⟩
  .obtain ⟨ed,h1,h2,h3⟩:=h.aTc j m' o' hj lF k hk
   refine ⟨ed,h1,h2,?_⟩
   rcases h3 with h3 | ⟨me,h3,h4⟩
   .exact .inl h3
   .exact .inr ⟨me,Rs h3,h4⟩
  .rw [h.Bd] at lF
   rw [ho] at lF;cases lF
   obtain ⟨ed,h1,h2,h3⟩:=kZ hm k hk
   refine ⟨ed,by simpa using h1,h2,?_⟩
   rcases h3 with h3 | ⟨me,h3,h4⟩
   .exact .inl h3
   .exact .inr ⟨me,Rs h3,h4⟩
 .by_cases Mt:j=i
  .subst Mt;rw [ho] at lF;cases lF;exact hd d hd'
  .exact h.dst j o' d (by omega) lF hd'
 .rcases dV iD with iD | ⟨_,rfl⟩
  .exact h.new j e' iD
  .exact hn
 .rcases dV iD with iD | ⟨rfl,rfl⟩
  .have:=h.wrt j e' iD dG
   rcases hw with ⟨_,rfl⟩ | ⟨rfl,_⟩
   .exact this
   .exact zzO _ this
  .rcases hw with ⟨hw,_⟩ | ⟨rfl,_⟩
   .exact absurd hw dG
   .rw [h.Mn];exact zzC
 .rcases hw with ⟨_,rfl⟩ | ⟨rfl,_⟩
  .have:=h.rF s hs;omega
  .rcases List.mem_cons.1 hs with rfl | hs
   .omega
   .have:=h.rF s hs;omega
 .rcases hw with ⟨_,rfl⟩ | ⟨rfl,_⟩
  .exact h.wso
  .exact List.pairwise_cons.2 ⟨fun s hs=>h.rF s hs,h.wso⟩
 .rcases hw with ⟨_,rfl⟩ | ⟨rfl,hpo,_⟩
  .exact h.wim s hs o' lF
  .rcases List.mem_cons.1 hs with rfl | hs
   .rw [ho] at lF;cases lF;exact hpo.1
   .exact h.wim s hs o' lF
 .have hes:∀ {k e'},es[k]?=some e'->(es++[e])[k]?=some e':=fun {k e'} hk=>by
   rw [List.getElem?_append_left (List.getElem?_eq_some_iff.1 hk).1];exact hk
  have hgo:∀ {k mk},ms[k]?=some mk->yD g0 all (es++[e]) k mk=yD g0 all es k mk:=fun {k mk} hk=>by
   refine Fa fun q hq=>List.getElem?_append_left ?_
   have h1:=h.lt k mk hk q hq
   have h2:=(List.getElem?_eq_some_iff.1 hk).1
   rw [h.Bd] at h2
   rw [h.Mn]
   omega
  have zM:s∈wi->(oV o'.op=true\/m'.testBit j=true)\/∃ mj lb e',(ms++[m])[j]?=some mj/\(es++[e])[s]?=some e'/\Ri Γ (yD g0 all (es++[e]) j mj) o'=some lb/\look lb e'.wr=none:=fun hs=>by
   have AL:=h.rF s hs
   rcases dV kL with kL | ⟨h1,_⟩
   .rcases h.wnp s hs m' kL j o' hj lF with h3 | ⟨mj,lb,e',k1,k2,k3,k4⟩
    .exact .inl h3
    .exact .inr ⟨mj,lb,e',Rs k1,hes k2,by rw [hgo k1];exact k3,k4⟩
   .rw [h.Bd] at h1;omega
  rcases hw with ⟨_,rfl⟩ | ⟨rfl,_,hnp,_⟩
  .exact zM hs
  .rcases List.mem_cons.1 hs with rfl | hs
   .rcases dV kL with kL | ⟨_,rfl⟩
    .have:=(List.getElem?_eq_some_iff.1 kL).1;rw [h.Bd] at this;omega
    .rcases hnp j o' hj lF with h3 | ⟨mj,lb,k1,k3,k4⟩
     .exact .inl h3
     .exact .inr ⟨mj,lb,e,Rs k1,by rw [<- h.Mn];simp,by rw [hgo k1];exact k3,k4⟩
   .exact zM hs
 .have zM:s∈wi->l<lab0\/(lab0<=l/\m'.testBit ((l-lab0)/8)=true):=fun hs=>by
   have AL:=h.rF s hs
   rcases dV kL with kL | ⟨h1,_⟩
   .rcases dV iD with iD | ⟨h1,_⟩
    .exact h.wlb s hs m' kL e' iD l b hl
    .rw [h.Mn] at h1;omega
   .rw [h.Bd] at h1;omega
  rcases hw with ⟨_,rfl⟩ | ⟨rfl,_,_,hlb⟩
  .exact zM hs
  .rcases List.mem_cons.1 hs with rfl | hs
   .rcases dV kL with kL | ⟨_,rfl⟩
    .have:=(List.getElem?_eq_some_iff.1 kL).1;rw [h.Bd] at this;omega
    .rcases dV iD with iD | ⟨_,rfl⟩
     .have:=(List.getElem?_eq_some_iff.1 iD).1;rw [h.Mn] at this;omega
     .exact hlb l b hl
   .exact zM hs
 .rcases dV hj with hj | ⟨rfl,rfl⟩
  .have Mt:=(List.getElem?_eq_some_iff.1 hj).1
   rw [h.Bd] at Mt
   rcases dV iD with iD | ⟨h1,_⟩
   .obtain ⟨b,hb⟩:=h.eff j m' o' e' hj lF iD
    exact ⟨b,by rw [bQ b j m' o' hj];exact hb⟩
   .rw [h.Mn] at h1;omega
  .rw [h.Bd] at lF iD |-
   rw [ho] at lF;cases lF
   rcases dV iD with iD | ⟨_,rfl⟩
   .have:=(List.getElem?_eq_some_iff.1 iD).1;rw [h.Mn] at this;omega
   .obtain ⟨b,he⟩:=he
    refine ⟨b,?_⟩
    rw [Pz e (fun k hk=>by rw [h.Mn];exact XE k hk) (by rw [h.Mn];exact zzr _) ?_]
    .exact he
    .rcases hw with ⟨_,rfl⟩ | ⟨rfl,_⟩
     .exact .inl rfl
     .exact .inr ⟨i,rfl,zzr _⟩
 .have hgo:∀ {k mk},k<=i->(∀ q,mk.testBit q=true->q<k)->yD g0 all (es++[e]) k mk=yD g0 all es k mk:=fun {k mk} hk cM=>by
   refine Fa fun q hq=>List.getElem?_append_left ?_
   have h1:=cM q hq
   rw [h.Mn]
   omega
  have zM:s∈wi->uO o'.op=false\/∃ lb,Ri Γ (yD g0 all (es++[e]) s m') o'=some lb/\∀ l,l≠lb->look l e'.wr=none:=fun hs=>by
   have AL:=h.rF s hs
   rcases dV kL with kL | ⟨h1,_⟩
   .rcases dV iD with iD | ⟨h1,_⟩
    .rcases h.wld s hs o' m' e' lF kL iD with h3 | ⟨lb,h3,h4⟩
     .exact .inl h3
     .exact .inr ⟨lb,by rw [hgo (by omega) (h.lt s m' kL)];exact h3,h4⟩
    .rw [h.Mn] at h1;omega
   .rw [h.Bd] at h1;omega
  rcases hw with ⟨_,rfl⟩ | ⟨rfl,hpo,_⟩
  .exact zM hs
  .rcases List.mem_cons.1 hs with rfl | hs
   .rw [ho] at lF;cases lF
    rcases dV kL with kL | ⟨_,rfl⟩
    .have:=(List.getElem?_eq_some_iff.1 kL).1;rw [h.Bd] at this;omega
    .rcases dV iD with iD | ⟨_,rfl⟩
     .have:=(List.getElem?_eq_some_iff.1 iD).1;rw [h.Mn] at this;omega
     .rcases hpo.2 with h3 | ⟨lb,h3,h4⟩
      .exact .inl h3
      .exact .inr ⟨lb,by rw [hgo (zzr _) XE];exact h3,h4⟩
   .exact zM hs
theorem filter_le {f f':Nat->Bool}:∀ (l:List Nat),(∀ j,f' j=true->f j=true)->(l.filter f').length<=(l.filter f).length
 | [],_=>by simp
 | x::r,h=>by
   have ih:=filter_le r h
   cases hx:f' x with
   | true=>simp [hx,h x hx,ih]
   | false=>
     cases hy:f x with
     | true=>simp [hx,hy];omega
     | false=>simp [hx,hy,ih]
theorem filter_lt {f f':Nat->Bool} {i:Nat}:∀ (l:List Nat),i∈l->(∀ j,f' j=true->f j=true)->f i=true->f' i=false->(l.filter f').length+1<=(l.filter f).length
 | [],h,_,_,_=>by simp at h
 | x::r,h,hm,h1,h2=>by
   by_cases e:x=i
   .subst e
    have:=filter_le r hm
    simp [h1,h2,this]
   .have hr:i∈r:=by
     rcases List.mem_cons.1 h with h | h
     .exact absurd h.symm e
     .exact h
    have ih:=filter_lt r hr hm h1 h2
    cases hx:f' x with
    | true=>simp [hx,hm x hx];omega
    | false=>
      cases hy:f x with
      | true=>simp [hx,hy];omega
      | false=>simp [hx,hy];omega
theorem uZ {Γ:Env} {g0:Nat->Option SV} {T0:bA} {lab0 n:Nat} {all:Array Oper}:∀ {r:List Oper} {i:Nat} {es UQ:List bL} {ms AF:List Nat} {wi Wl:List Nat} {hs Gb:List Bool},
 Ih Γ g0 T0 lab0 n all r i es ms wi hs=some (UQ,AF,Wl,Gb)->(∀ k,r[k]?=all[i+k]?)->Ay Γ g0 T0 lab0 n all i es ms wi->Ay Γ g0 T0 lab0 n all (i+r.length) UQ AF Wl
 | [],i,es,UQ,ms,AF,wi,Wl,hs,Gb,h,_,hd=>by
   simp only [Ih,zzI,Prod.mk.injEq] at h
   obtain ⟨rfl,rfl,rfl,rfl⟩:=h
   exact hd
 | o::r,i,es,UQ,ms,AF,wi,Wl,hs,Gb,h,hr,hd=>by
   have ho:all[i]?=some o:=by have:=hr 0;simpa using this.symm
   have hr':∀ k,r[k]?=all[i+1+k]?:=fun k=>by
    have:=hr (k+1)
    rw [show i+1+k=i+(k+1) from by omega]
    simpa using this
   simp only [Ih] at h
   split at h
   .cases h
   .rename_i m hm
    split at h
    case h_2=>cases h
    rename_i e fU he BG
    have he:=DN he
    have aHt:∀ d,o.dst=some d->kQ d all.toList 0=some i:=by
     intro d hd'
     rw [hd'] at BG
     simpa using BG
    split at h
    .rename_i Nd
     split at h
     case h_2=>cases h
     rename_i hn
     have hw:e.wr=[]:=by
      cases AI:e.wr with
      | nil=>rfl
      | cons a b=>rw [AI] at Nd;cases Nd
     have:=uZ h hr' (hd.snoc ho hm he aHt (zzL hn) (.inl ⟨hw,rfl⟩))
     rw [show i+(o::r).length=i+1+r.length from by simp;omega]
     exact this
    .split at h
     .rename_i iE
      simp only [zzn,Bool.or_eq_true] at iE
      obtain ⟨⟨⟨c1,c2⟩,c3⟩,c4⟩:=iE
      have:=uZ h hr' (hd.snoc ho hm he aHt (zzL c1) (.inr ⟨rfl,⟨by simpa using c4.1,by
       rcases c4.2 with h1 | h1
       .exact .inl (by simpa using h1)
       .exact .inr (aBr h1)⟩,fun j o' hj lF=>?_,fun l b hl=>?_⟩))
      .rw [show i+(o::r).length=i+1+r.length from by simp;omega]
       exact this
      .have:=Yz c2 j o' hj (by simpa using lF)
       simpa using this
      .have:=List.all_eq_true.1 c3 _ (gC hl)
       simp only [Bool.or_eq_true,zzn] at this
       rcases this with h1 | ⟨h1,h2⟩
       .left;simpa [Nat.blt_eq] using h1
       .right;exact ⟨zzL h1,h2⟩
     .cases h
def Cc (es:List bL) (wi:List Nat) (S:Nat->Bool):List (Nat × SB):=jN es (wi.filter S)
structure BO (P:Program) (Γ:Env) (w0:World) (M:Nat->Prop) (N:Nat) (df:List Deferred) (g0:Nat->Option SV) (T0:bA) (lab0:Nat) (all:Array Oper) (es:List bL) (wi:List Nat) (Vs:aZ) (S:Nat->Bool) (V:aZ) (a:Act) (w:World):Prop where
 tmp:cG V (gS all.toList (fun j=>es[j]?) g0 S (fun j => !S j)) a
 size:N<=a.tmps.size
 defers:a.defers=df
 eI:aC w0 M V (TS T0 lab0 all.size (fun j=>es[j]?) (Cc es wi S) S) w
 aT:bO Γ V
 top:V.top (lab0+8*all.size)
 fresh:∀ j,j<all.size->S j=false->V.fresh (lab0+8*j)
 le:Vs.le V
 low:∀ l,l<lab0->V.β l=Vs.β l/\V.σ l=Vs.σ l
theorem aOi {ops:List Oper} {E:Nat->Option bL} {g0:Nat->Option SV} {S S' O:Nat->Bool} (h:∀ j,S j=true->S' j=true) (hO:∀ j,O j=true->S' j=false) {t:Nat} {v:SV} (hv:gS ops E g0 S O t=some v):gS ops E g0 S' (fun j => !S' j) t=some v:=by
 unfold gS at *
 cases hd:kQ t ops 0 with
 | none=>rw [hd] at hv;exact hv
 | some j=>
   rw [hd] at hv
   simp only at hv |-
   cases hs:S j with
   | false=>
     rw [hs] at hv
     simp only at hv
     cases ho:O j with
     | false=>rw [ho] at hv;cases hv
     | true=>rw [ho] at hv;rw [hO j ho];exact hv
   | true=>rw [hs] at hv;rw [h j hs];exact hv
theorem Ut {T0:bA} {lab0 n:Nat} {E:Nat->Option bL} {wr:List (Nat × SB)} {S S':Nat->Bool} (h:∀ j,S j=true->S' j=true) {l:Nat} {B:SB} (hv:TS T0 lab0 n E wr S l=some B):TS T0 lab0 n E wr S' l=some B:=by
 unfold TS at *
 cases hl:look l wr with
 | some b=>rw [hl] at hv;exact hv
 | none=>
   rw [hl] at hv
   simp only at hv |-
   unfold Dg at *
   split at hv
   .cases hs:S ((l-lab0)/8) with
    | false=>rw [hs] at hv;cases hv
    | true=>rw [hs] at hv;rw [h _ hs];exact hv
   .exact hv
theorem Pk {lab0 l n:Nat} (h1:lab0<=l) (h2:l<lab0+8*n):(Nat.ble lab0 l&&Nat.blt l (lab0+8*n))=true:=by
 rw [Nat.ble_eq_true_of_le h1];simpa [Nat.blt_eq] using h2
theorem Ir {lab0 l n:Nat} (h:¬ (lab0<=l/\l<lab0+8*n)):(Nat.ble lab0 l&&Nat.blt l (lab0+8*n))=false:=by
 cases hb:(Nat.ble lab0 l&&Nat.blt l (lab0+8*n)) with
 | false=>rfl
 | true=>
   simp only [zzn] at hb
   exact absurd ⟨zzL hb.1,by simpa [Nat.blt_eq] using hb.2⟩ h
theorem EN {T0:bA} {lab0 n:Nat} {es:List bL} {S S':Nat->Bool} {i:Nat} {e:bL} (hi:i<n) (he:es[i]?=some e) (hS:S i=false) (Ru:∀ j,S' j=(S j||decide (j=i))) (hn:e.new.length<=8) (l:Nat) :
 Dg T0 lab0 n (fun j=>es[j]?) S' l=match look l (fT (lab0+8*i) e.new) with
  | some b=>some b
  | none=>Dg T0 lab0 n (fun j=>es[j]?) S l:=by
 rw [fL]
 unfold Dg
 by_cases h1:lab0<=l/\l<lab0+8*n
 .rw [Pk h1.1 h1.2]
  simp only
  by_cases h3:(l-lab0)/8=i
  .rw [h3,Ru i,hS]
   simp only [Bool.false_or,decide_true,he,zza]
   have h4:lab0+8*i<=l:=by omega
   rw [if_pos h4,show (l-lab0)%8=l-(lab0+8*i) from by omega]
   cases e.new[l-(lab0+8*i)]? <;> rfl
  .rw [Ru _,show decide ((l-lab0)/8=i)=false from by simpa using h3,Bool.or_false]
   have h5:(if lab0+8*i<=l then e.new[l-(lab0+8*i)]? else none)=none:=by
    split
    .apply List.getElem?_eq_none;omega
    .rfl
   rw [h5]
 .rw [Ir h1]
  have h5:(if lab0+8*i<=l then e.new[l-(lab0+8*i)]? else none)=none:=by
   split
   .apply List.getElem?_eq_none;omega
   .rfl
  rw [h5]
theorem Ja {es:List bL} {e:bL} {S S':Nat->Bool} {i:Nat} (he:es[i]?=some e) (hS:S i=false) (Ru:∀ j,S' j=(S j||decide (j=i))) {l:Nat}:∀ {L:List Nat},L.Pairwise (· > ·) ->
 (i∈L->∀ s∈L,S s=true->s<i\/∀ e',es[s]?=some e'->look l e.wr≠none->look l e'.wr=none) ->
 look l (jN es (L.filter S'))=if i∈L then (match look l e.wr with | some b=>some b | none=>look l (jN es (L.filter S))) else look l (jN es (L.filter S))
 | [],_,_=>by simp
 | x::r,hp,h=>by
   obtain ⟨FN,UE⟩:=List.pairwise_cons.1 hp
   by_cases q:x=i
   .subst q
    have hr:r.filter S'=r.filter S:=by
     refine List.filter_congr fun s hs=>?_
     have:=FN s hs
     rw [Ru,show decide (s=x)=false from by simp;omega,Bool.or_false]
    have h1:S' x=true:=by rw [Ru];simp
    rw [if_pos zzC,List.filter_cons,if_pos h1,hr,List.filter_cons,if_neg (by rw [hS];simp)]
    simp only [jN,he,cD]
    cases look l e.wr <;> rfl
   .have hx:S' x=S x:=by rw [Ru,show decide (x=i)=false from by simpa using q,Bool.or_false]
    have ih:=Ja he hS Ru (l:=l) UE (fun hi s hs=>h (zzO _ hi) s (zzO _ hs))
    have aJe:i∈x::r<->i∈r:=by
     rw [List.mem_cons]
     exact ⟨fun h=>h.resolve_left fun w=>q w.symm,.inr⟩
    simp only [aJe]
    cases hb:S x with
    | false=>
      have f1:(x::r).filter S'=r.filter S':=by rw [List.filter_cons,hx,hb];rfl
      have f2:(x::r).filter S=r.filter S:=by rw [List.filter_cons,hb];rfl
      rw [f1,f2]
      exact ih
    | true=>
      have f1:(x::r).filter S'=x::r.filter S':=by rw [List.filter_cons,hx,hb];rfl
      have f2:(x::r).filter S=x::r.filter S:=by rw [List.filter_cons,hb];rfl
      rw [f1,f2]
      cases hes:es[x]? with
      | none=>simp only [jN,hes];exact ih
      | some ex=>
        simp only [jN,hes,cD]
        cases hk:look l ex.wr with
        | none=>simp only;exact ih
        | some b=>
          simp only
          by_cases hi:i∈r
          .rw [if_pos hi]
           have h2:=FN i hi
           rcases h (zzO _ hi) x zzC hb with h3 | h3
           .omega
           .cases hw:look l e.wr with
            | none=>rfl
            | some b'=>
              have:=h3 ex hes (by rw [hw];simp)
              rw [hk] at this;cases this
          .rw [if_neg hi]
theorem AA {T0:bA} {lab0 n:Nat} {es:List bL} {wi:List Nat} {S S':Nat->Bool} {i:Nat} {e:bL} (hi:i<n) (he:es[i]?=some e) (hS:S i=false) (Ru:∀ j,S' j=(S j||decide (j=i)))
 (hn:e.new.length<=8) (hw:e.wr≠[]->i∈wi) (hso:wi.Pairwise (· > ·)) (hnw:i∈wi->∀ s∈wi,S s=true->s<i\/∀ e',es[s]?=some e'->∀ l,look l e.wr≠none->look l e'.wr=none)
 (hwl:∀ s∈wi,S s=true->∀ e',es[s]?=some e'->∀ l b,look l e'.wr=some b->l<lab0\/(lab0<=l/\S ((l-lab0)/8)=true)) :
 TS T0 lab0 n (fun j=>es[j]?) (Cc es wi S') S'=eG (TS T0 lab0 n (fun j=>es[j]?) (Cc es wi S) S) (lab0+8*i) e:=by
 funext l
 have fE:=EN (T0:=T0) (lab0:=lab0) hi he hS Ru hn
 have e0:look l (Cc es wi S')=match look l e.wr with
   | some b=>some b
   | none=>look l (Cc es wi S):=by
  unfold Cc
  rw [Ja he hS Ru hso (fun hi s hs zP=>(hnw hi s hs zP).imp id fun h e' iD hl=>h e' iD l hl)]
  by_cases hm:i∈wi
  .rw [if_pos hm]
  .rw [if_neg hm]
   have:e.wr=[]:=by
    cases hk:e.wr with
    | nil=>rfl
    | cons x y=>exact absurd (hw (by rw [hk];simp)) hm
   rw [this]
   rfl
 unfold eG bL.eI
 rw [cD]
 show (match look l (Cc es wi S') with
  | some b=>some b
  | none=>Dg T0 lab0 n (fun j=>es[j]?) S' l)=_
 rw [e0]
 cases hk:look l e.wr with
 | some b=>rfl
 | none=>
   simp only
   cases gF:look l (Cc es wi S) with
   | none=>
     simp only
     rw [fE l]
     cases look l (fT (lab0+8*i) e.new) with
     | some b=>rfl
     | none=>simp only [TS,gF]
   | some b=>
     simp only
     have Gc:look l (fT (lab0+8*i) e.new)=none:=by
      rw [fL]
      split
      .rename_i UI
       obtain ⟨s,hs,e',iD,hl⟩:=Iz gF
       rw [List.mem_filter] at hs
       rcases hwl s hs.1 hs.2 e' iD l b hl with h1 | ⟨h1,h2⟩
       .omega
       .apply List.getElem?_eq_none
        have:(l-lab0)/8≠i:=fun q=>by rw [q,hS] at h2;cases h2
        omega
      .rfl
     rw [Gc]
     simp only [TS,gF]
section
variable {P:Program} {Γ:Env} {w0:World} {M:Nat->Prop} {N:Nat} {df:List Deferred} {g0:Nat->Option SV} {T0:bA} {lab0:Nat} {all:Array Oper} {es:List bL} {ms:List Nat} {wi:List Nat} {Vs:aZ} {Q:Exit->Act->World->Prop}
theorem BO.put {S S':Nat->Bool} {V V':aZ} {a:Act} {w w':World} {i:Nat} {o:Oper} {e:bL} {x:Value} {m:Nat} (hd:Ay Γ g0 T0 lab0 all.size all all.size es ms wi)
 (h:BO P Γ w0 M N df g0 T0 lab0 all es wi Vs S V a w) (ho:all[i]?=some o) (he:es[i]?=some e) (hm:ms[i]?=some m) (hS:S i=false) (Ru:∀ j,S' j=(S j||decide (j=i)))
 (hN:∀ d,o.dst=some d->d<N) (qS:∀ s,S s=true->∀ m,ms[s]?=some m->∀ k,m.testBit k=true->S k=true)
 (hV:V.ext (lab0+8*i) V') (hx:o.dst.isSome=true->den V' e.val=some x) (hT:aC w0 M V' (eG (TS T0 lab0 all.size (fun j=>es[j]?) (Cc es wi S) S) (lab0+8*i) e) w') :
 BO P Γ w0 M N df g0 T0 lab0 all es wi Vs S' V' (a.put o.dst x) w':=by
 have hi:i<all.size:=(Array.getElem?_eq_some_iff.1 ho).1
 have JI:=AA (T0:=T0) (lab0:=lab0) (n:=all.size) (wi:=wi) hi he hS Ru (hd.new i e he) (hd.wrt i e he) hd.wso (fun hiw s hs zP=>by
  by_cases cM:s<i
  .exact .inl cM
  .right
   have Rb:=hd.rF s hs
   obtain ⟨AF,Nf⟩:∃ q,ms[s]?=some q:=⟨_,List.getElem?_eq_getElem (by rw [hd.Bd];exact Rb)⟩
   by_cases AL:s=i
   .subst AL;rw [hS] at zP;cases zP
   .rcases hd.wnp s hs AF Nf i o (by omega) ho with (h3 | h3) | ⟨mj,lb,e',k1,k2,h3,h4⟩
    .rw [hd.wim i hiw o ho] at h3;cases h3
    .have:=qS s zP AF Nf i h3
     rw [hS] at this;cases this
    .intro e2 he2 l hl
     rw [k2] at he2;cases he2
     rcases hd.wld i hiw o mj e ho k1 he with h5 | ⟨lb',h5,h6⟩
     .rw [NT h3] at h5;cases h5
     .rw [h3] at h5;cases h5
      by_cases UH:l=lb
      .subst UH;exact h4
      .exact absurd (h6 l UH) hl) (fun s hs zP e' iD l b hl=>by
  have Rb:=hd.rF s hs
  obtain ⟨AF,Nf⟩:∃ q,ms[s]?=some q:=⟨_,List.getElem?_eq_getElem (by rw [hd.Bd];exact Rb)⟩
  rcases hd.wlb s hs AF Nf e' iD l b hl with h1 | ⟨h1,h2⟩
  .exact .inl h1
  .exact .inr ⟨h1,qS s zP AF Nf _ h2⟩)
 refine ⟨fun t v hv=>?_,?_,?_,by rw [JI];exact hT,fun n l hl=>hV.1.1 _ _ (h.aT n l hl),fun l hl=>?_,fun j hj hSj=>?_,aZ.le_trans h.le hV.1,fun l hl=>?_⟩
 .unfold gS at hv
  cases Mo:kQ t all.toList 0 with
  | none=>
    rw [Mo] at hv
    have dG:∀ d,o.dst=some d->(Operand.tmp t) ≠ .tmp d:=by
     intro d Bg hq
     cases hq
     have:=hd.dst i o t hi ho Bg
     rw [this] at Mo;cases Mo
    rw [Act.eval_put dG]
    exact pL hV.1 (h.tmp t v (by unfold gS;rw [Mo];exact hv))
  | some j=>
    rw [Mo] at hv
    simp only at hv
    by_cases Mt:j=i
    .subst Mt
     have hSt:S' j=true:=by rw [Ru];simp
     rw [hSt] at hv
     simp only [he,zzm,zzI] at hv
     subst hv
     obtain ⟨o',_,lF,Bg⟩:=nR Mo
     have:o'=o:=by
      have h1:all[j]?=some o':=by simpa using lF
      rw [ho] at h1;cases h1;rfl
     subst this
     have cM:t<a.tmps.size:=Nat.lt_of_lt_of_le (hN t Bg) h.size
     rw [Bg] at hx |-
     rw [hx rfl]
     simp [Act.eval,Act.put,Array.getD_eq_getD_getElem?,cM]
    .have hSj:S' j=S j:=by rw [Ru];simp [Mt]
     rw [hSj] at hv
     have dG:∀ d,o.dst=some d->(Operand.tmp t) ≠ .tmp d:=by
      intro d Bg hq
      cases hq
      have:=hd.dst i o t hi ho Bg
      rw [this] at Mo;cases Mo;exact Mt rfl
     rw [Act.eval_put dG]
     exact pL hV.1 (h.tmp t v (by unfold gS;rw [Mo];exact hv))
 .cases Bg:o.dst with
  | none=>exact h.size
  | some d=>simpa [Act.put] using h.size
 .cases o.dst <;> exact h.defers
 .have:=hV.2 l (.inr (by omega))
  rw [this.1,this.2]
  exact h.top l hl
 .rw [Ru] at hSj
  simp only [Bool.or_eq_false_iff,decide_eq_false_iff_not] at hSj
  intro l h1 h2
  have:=hV.2 l (by
   rcases Nat.lt_or_ge j i with cM | UI
   .left;omega
   .right;omega)
  rw [this.1,this.2]
  exact h.fresh j hj hSj.1 l h1 h2
 .have:=hV.2 l (.inl (by omega))
  rw [this.1,this.2]
  exact h.low l hl
theorem bGg (aR:cC P Γ) (aU:cK P Γ) (hd:Ay Γ g0 T0 lab0 all.size all all.size es ms wi) (hN:∀ (i:Nat) (o:Oper) (d:Tmp),all[i]?=some o->o.dst=some d->d<N)
 (uA:∀ e∈es,∀ q∈e.bK,q) (Bi:∀ d v,g0 d=some v->d<N)
 (hQ:∀ (S:Nat->Bool) V a w,(∀ j,j<all.size->S j=true)->BO P Γ w0 M N df g0 T0 lab0 all es wi Vs S V a w->Q .normal a w) :
 ∀ (fuel:Nat) (listed:Array Bool) (V:aZ) (a:Act) (w:World),listed.size=all.size->((List.range all.size).filter fun j => !listed.getD j false).length<=fuel ->
   (∀ s,listed.getD s false=true->∀ m,ms[s]?=some m->∀ k,m.testBit k=true->listed.getD k false=true) ->
   BO P Γ w0 M N df g0 T0 lab0 all es wi Vs (fun j=>listed.getD j false) V a w->wpAny P .any all Q fuel listed a w:=by
 have done:∀ (listed:Array Bool),listed.size=all.size->Region.ready .any all listed=[]->∀ j,j<all.size->listed.getD j false=true:=by
  intro listed hl hr j
  induction j using Nat.strongRecOn with
  | ind j ih=>
    intro hj
    cases hb:listed.getD j false with
    | true=>rfl
    | false=>
      exfalso
      obtain ⟨o,ho⟩:∃ o,all[j]?=some o:=⟨_,Array.getElem?_eq_getElem hj⟩
      obtain ⟨m,hm⟩:∃ m,ms[j]?=some m:=⟨_,List.getElem?_eq_getElem (by rw [hd.Bd];exact hj)⟩
      have:j∈Region.ready .any all listed:=by
       rw [mem_ready]
       refine ⟨?_,o,ho,fun e he hbd=>?_⟩
       .have cM:j<listed.size:=by omega
        simp [cM] at hb |-
        exact hb
       .have:=(hd.aft j m o hm ho e he hbd).1
        exact ih e.on this (by omega)
      rw [hr] at this
      cases this
 intro fuel
 induction fuel with
 | zero=>
   intro listed V a w hl hc qS hi
   have kU:∀ j,j<all.size->listed.getD j false=true:=by
    intro j hj
    cases hb:listed.getD j false with
    | true=>rfl
    | false=>
      exfalso
      have:j∈(List.range all.size).filter fun j => !listed.getD j false:=by
       rw [List.mem_filter]
       exact ⟨List.mem_range.2 hj,by simp only [hb,Bool.not_false]⟩
      have h0:=List.eq_nil_of_length_eq_zero (Nat.le_zero.1 hc)
      rw [h0] at this
      cases this
   refine ⟨?_,hQ _ V a w kU hi⟩
   cases hr:Region.ready .any all listed with
   | nil=>rfl
   | cons x xs=>
     exfalso
     have hx:x∈Region.ready .any all listed:=by rw [hr];simp
     obtain ⟨h1,o,ho,_⟩:=mem_ready.1 hx
     have cM:=(Array.getElem?_eq_some_iff.1 ho).1
     have h2:=kU x cM
     have hls:x<listed.size:=by omega
     simp [hls] at h1 h2
     rw [h1] at h2;cases h2
 | succ fuel ih=>
   intro listed V a w hl hc qS hi
   refine ⟨fun hr=>hQ _ V a w (done listed hl hr) hi,fun i hir=>?_⟩
   obtain ⟨h1,o,ho,bDo⟩:=mem_ready.1 hir
   have cM:=(Array.getElem?_eq_some_iff.1 ho).1
   have hls:i<listed.size:=by omega
   have hSi:listed.getD i false=false:=by simp [hls] at h1 |-;exact h1
   obtain ⟨m,hm⟩:∃ m,ms[i]?=some m:=⟨_,List.getElem?_eq_getElem (by rw [hd.Bd];exact cM)⟩
   obtain ⟨e,he⟩:∃ e,es[i]?=some e:=⟨_,List.getElem?_eq_getElem (by rw [hd.Mn];exact cM)⟩
   have hmS:∀ k,m.testBit k=true->listed.getD k false=true:=by
    intro k hk
    obtain ⟨ed,EV,hb,gF⟩:=hd.aTc i m o hm ho k hk
    have hon:=bDo ed EV hb
    rcases gF with rfl | ⟨me,Wt,gF⟩
    .exact hon
    .exact qS ed.on hon me Wt k gF
   have oO:∀ j,(listed.setIfInBounds i true).getD j false=(listed.getD j false||decide (j=i)):=by
    intro j
    by_cases Mt:j=i
    .subst Mt
     have:(listed.setIfInBounds j true).getD j false=true:=by simp [hls]
     rw [this];simp
    .rw [getD_set_ne false (Ne.symm Mt)];simp [Mt]
   have aWv:∀ V' a' w',BO P Γ w0 M N df g0 T0 lab0 all es wi Vs (fun j=>(listed.setIfInBounds i true).getD j false) V' a' w'->wpAny P .any all Q fuel (listed.setIfInBounds i true) a' w':=by
    intro V' a' w' fW
    refine ih _ V' a' w' (by simpa using hl) ?_ (fun s hs m' kL k hk=>?_) fW
    .have:=filter_lt (f:=fun j => !listed.getD j false) (f':=fun j => !(listed.setIfInBounds i true).getD j false) (i:=i) (List.range all.size) (List.mem_range.2 cM) (fun j hj=>by
      rw [oO] at hj
      simp only [Bool.not_eq_true',Bool.or_eq_false_iff] at hj
      simp only [hj.1,Bool.not_false]) (by simp only [hSi,Bool.not_false]) (by rw [oO];simp)
     omega
    .rw [oO] at hs |-
     simp only [Bool.or_eq_true,decide_eq_true_eq] at hs |-
     rcases hs with hs | rfl
     .exact .inl (qS s hs m' kL k hk)
     .rw [hm] at kL;cases kL
      exact .inl (hmS k hk)
   obtain ⟨b0,pB⟩:=hd.eff i m o e hm ho he
   have aWu:∀ q∈e.bK,q:=uA e (List.mem_of_getElem? he)
   unfold Ha at pB
   split at pB
   case h_2=>cases pB
   rename_i e1 aWz
   simp only [zzI] at pB
   obtain ⟨bDd,Jr,xX,hv1⟩:(∀ q∈e1.bK,q)/\e.new=e1.new/\e.wr=e1.wr/\∀ V,den V e.val=den V e1.val:=by subst pB;exact BT aWu
   have bCt:∀ T:bA,∀ l,eG T l e=eG T l e1:=fun T l=>by unfold eG bL.eI;rw [Jr,xX]
   have hwf:∀ j,xB all i j=true->listed.getD j false=false:=by
    intro j hj
    cases hb:listed.getD j false with
    | false=>rfl
    | true=>
      exfalso
      unfold xB at hj
      split at hj
      case h_2=>cases hj
      rename_i oj hoj
      obtain ⟨ed,EV,hq⟩:=List.any_eq_true.1 hj
      simp only [zzn] at hq
      have hjl:=(Array.getElem?_eq_some_iff.1 hoj).1
      obtain ⟨mj,hmj⟩:∃ m,ms[j]?=some m:=⟨_,List.getElem?_eq_getElem (by rw [hd.Bd];exact hjl)⟩
      have h3:=(hd.aft j mj oj hmj hoj ed (by simpa using EV) hq.2).2
      rw [zzN hq.1] at h3
      have:=qS j hb mj hmj i h3
      rw [hSi] at this;cases this
   have aWy:∀ {t v},yD g0 all es i m t=some v->gS all.toList (fun j=>es[j]?) g0 (fun j=>listed.getD j false) (fun j => !listed.getD j false) t=some v:=fun hv=>aOi hmS hwf hv
   have htm:cG V (yD g0 all es i m) a:=fun t v hv=>hi.tmp t v (aWy hv)
   have aHr:∀ d v,yD g0 all es i m d=some v->d<a.tmps.size:=by
    intro d v hv
    refine Nat.lt_of_lt_of_le ?_ hi.size
    unfold yD gS at hv
    cases Mo:kQ d all.toList 0 with
    | none=>rw [Mo] at hv;exact Bi d v hv
    | some j=>
      obtain ⟨o',_,lF,Bg⟩:=nR Mo
      exact hN j o' d (by simpa using lF) Bg
   have Da:∀ {V' x w'},V.ext (lab0+8*i) V'->(o.dst.isSome=true->den V' e1.val=some x)->aC w0 M V' (eG (TS T0 lab0 all.size (fun j=>es[j]?) (Cc es wi (fun j=>listed.getD j false)) (fun j=>listed.getD j false)) (lab0+8*i) e1) w' ->
    wpAny P .any all Q fuel (listed.setIfInBounds i true) (a.put o.dst x) w':=fun hV hx hT=>
    aWv _ _ _ (hi.put hd ho he hm hSi oO (fun d Bg=>hN i o d ho Bg) qS hV (fun hs=>by rw [hv1];exact hx hs) (by rw [bCt];exact hT))
   unfold wpOp
   simp only [ho]
   have pB:=aWz
   unfold XW at pB
   split at pB
   .rename_i hw
    have hw:=qK htm aHr hw
    rw [if_neg (by rw [hw];simp)]
    simp only [zzI] at pB
    subst pB
    refine Da (V.cP _) (fun _=>rfl) ?_
    rw [kI _ _ rfl rfl]
    exact hi.eI
   .rename_i hw
    have hw:=qK htm aHr hw
    rw [if_pos hw]
    left
    have sim:∀ {T':bA},(∀ l B,T' l=some B->TS T0 lab0 all.size (fun j=>es[j]?) (Cc es wi (fun j=>listed.getD j false)) (fun j=>listed.getD j false) l=some B) ->
     Di Γ (yD g0 all es i m) T' (lab0+8*i) (lab0+8*all.size) none o=some e1 ->
     o.wp P a w (wpAny P .any all Q fuel (listed.setIfInBounds i true)) Q:=fun aK iD=>
     Po aR aU htm hi.aT aK hi.eI (hi.fresh i cM hSi) hi.top iD bDd _ Q fun V' x w' hV hx hT=>Da hV (fun _=>hx) hT
    split at pB
    .exact sim (fun l B hB=>by cases hB) pB
    .rename_i aWp
     have late:∀ s∈wi,listed.getD s false=true->¬ s<i->∃ lb e',es[s]?=some e'/\Ri Γ (yD g0 all es i m) o=some lb/\look lb e'.wr=none:=by
      intro s hs zP AL
      have Rb:=hd.rF s hs
      obtain ⟨m',kL⟩:∃ q,ms[s]?=some q:=⟨_,List.getElem?_eq_getElem (by rw [hd.Bd];exact Rb)⟩
      have dG:s≠i:=fun q=>by subst q;rw [hSi] at zP;cases zP
      rcases hd.wnp s hs m' kL i o (by omega) ho with (h3 | h3) | ⟨mj,lb,e',k1,k2,k3,k4⟩
      .rw [aWp] at h3;cases h3
      .have:=qS s zP m' kL i h3
       rw [hSi] at this;cases this
      .rw [hm] at k1;cases k1
       exact ⟨lb,e',k2,k3,k4⟩
     split at pB
     .rename_i lb hlb
      split at pB
      case h_2=>cases pB
      rename_i BF
      have BF:=Lj BF
      refine sim (fun l B hB=>?_) pB
      obtain ⟨rfl,hB⟩:=OA hB
      have aWo:look l (Cc es wi (fun j=>listed.getD j false))=look l (jN es ((rF i wi).filter fun s=>m.testBit s)):=by
       unfold Cc
       have gen:∀ L:List Nat,(∀ s∈L,s∈wi)->look l (jN es (L.filter fun j=>listed.getD j false))=look l (jN es ((rF i L).filter fun s=>m.testBit s)):=by
        intro L
        induction L with
        | nil=>intro _;rfl
        | cons s r ih=>
          intro hL
          have ih:=ih (fun q hq=>hL q (zzO _ hq))
          have hs:=hL s zzC
          have Rb:=hd.rF s hs
          obtain ⟨UQ,XJ⟩:∃ q,es[s]?=some q:=⟨_,List.getElem?_eq_getElem (by rw [hd.Mn];exact Rb)⟩
          have aRq:look l UQ.wr=none->look l (jN es (s::r.filter fun j=>listed.getD j false))=look l (jN es (r.filter fun j=>listed.getD j false)):=by
           intro hn
           simp only [jN,XJ,cD,hn]
          by_cases AL:s<i
          .have hb:Nat.blt s i=true:=by simpa [Nat.blt_eq] using AL
           simp only [rF,hb]
           cases Rs:m.testBit s with
           | true=>
             have zP:=hmS s Rs
             rw [List.filter_cons,if_pos zP,List.filter_cons,if_pos Rs]
             simp only [jN,XJ,cD,ih]
           | false=>
             rw [List.filter_cons (p:=fun s=>m.testBit s),if_neg (by rw [Rs];simp),<- ih]
             cases zP:listed.getD s false with
             | false=>rw [List.filter_cons,if_neg (by rw [zP];simp)]
             | true=>
               rw [List.filter_cons,if_pos zP]
               rcases BF s (by rw [nO,List.mem_filter];exact ⟨hs,hb⟩) with h4 | ⟨e',h4,h5⟩
               .rw [Rs] at h4;cases h4
               .rw [XJ] at h4;cases h4;exact aRq h5
          .have hb:Nat.blt s i=false:=by
            cases hb:Nat.blt s i with
            | false=>rfl
            | true=>exact absurd (by simpa [Nat.blt_eq] using hb) AL
           simp only [rF,hb]
           rw [<- ih]
           cases zP:listed.getD s false with
           | false=>rw [List.filter_cons,if_neg (by rw [zP];simp)]
           | true=>
             rw [List.filter_cons,if_pos zP]
             obtain ⟨lb',e',k2,k3,k4⟩:=late s hs zP AL
             rw [hlb] at k3;cases k3
             rw [XJ] at k2;cases k2
             exact aRq k4
       exact gen wi (fun s hs=>hs)
      have hB2:=Ut (S':=fun j=>listed.getD j false) hmS hB
      unfold TS at hB2 |-
      rw [aWo];exact hB2
     .rename_i FP
      split at pB
      case h_2=>cases pB
      rename_i Wu
      refine sim (fun l B hB=>?_) pB
      have hB2:=Ut (S':=fun j=>listed.getD j false) hmS hB
      have AI:jN es (rF i wi)=Cc es wi (fun j=>listed.getD j false):=by
       unfold Cc
       rw [nO]
       congr 1
       refine List.filter_congr fun s hs=>?_
       by_cases AL:s<i
       .have hb:Nat.blt s i=true:=by simpa [Nat.blt_eq] using AL
        rw [hb]
        exact (hmS s (MH Wu s (by rw [nO,List.mem_filter];exact ⟨hs,hb⟩))).symm
       .have hb:Nat.blt s i=false:=by
         cases hb:Nat.blt s i with
         | false=>rfl
         | true=>exact absurd (by simpa [Nat.blt_eq] using hb) AL
        rw [hb]
        cases zP:listed.getD s false with
        | false=>rfl
        | true=>
          obtain ⟨lb',e',k2,k3,k4⟩:=late s hs zP AL
          rw [FP] at k3;cases k3
      rw [<- AI]
      exact hB2
   .cases pB
end
noncomputable def oC (F0 N lab0 nx:Nat):List Oper->List bL->Nat->St->Option St
 | [],_,_,s=>some s
 | o::r,e::es,i,s=>match s.step F0 N o.dst e (lab0+8*i) nx with
   | some s'=>oC F0 N lab0 nx r es (i+1) s'
   | none=>none
 | _::_,[],_,_=>none
noncomputable def Ii (Γ:Env) (B:bA) (F0 N:Nat) (ops:Array Oper) (s:St):Option St:=
 match Ih Γ s.g.get (s.T B) s.nx ops.size ops ops.toList 0 [] [] [] s.hs with
 | some (es,_,_,hs)=>match oC F0 N s.nx (s.nx+8*ops.size) ops.toList es 0 s with
   | some s'=>some { g:=s'.g,tb:=s'.tb,nx:=s'.nx,ws:=s'.ws,ob:=s'.ob,df:=s'.df,hs:=hs }
   | none=>none
 | none=>none
theorem Pv {F0 N lab0 nx:Nat}:∀ {r:List Oper} {er:List bL} {i:Nat} {s s':St},oC F0 N lab0 nx r er i s=some s'->s'.df=s.df
 | [],er,i,s,s',h=>by simp only [oC,zzI] at h;subst h;rfl
 | o::r,[],i,s,s',h=>by simp [oC] at h
 | o::r,e::er,i,s,s',h=>by
   simp only [oC] at h
   split at h
   .rename_i s1 h1;rw [Pv h,St.Yi h1]
   .cases h
structure aKh (B:bA) (F0 N lab0 nx:Nat) (all:Array Oper) (es:List bL) (wi:List Nat) (s0:St) (i:Nat) (s:St):Prop where
 T:s.T B=TS (s0.T B) lab0 all.size (fun j=>es[j]?) (Cc es wi (fun j=>decide (j<i))) (fun j=>decide (j<i))
 g:∀ t v,s.g.get t=some v->(∃ j e,kQ t all.toList 0=some j/\j<i/\es[j]?=some e/\e.val=v)\/((∀ j,kQ t all.toList 0=some j->i<=j)/\s0.g.get t=some v)
 keys:∀ t v,s.g.get t=some v->t<N
 hi:∀ l,nx<=l->s.T B l=none
 ch:∀ l,l<F0->l ∉ s.ws->s.tb.get l=none
 ob0:∀ q∈s0.ob,q∈s.ob
 ob:∀ j e,j<i->es[j]?=some e->∀ q∈e.bK,q∈s.ob
 dN:∀ j o d,j<i->all[j]?=some o->o.dst=some d->d<N
 nxe:(s.nx=s0.nx/\i=0)\/s.nx=nx
theorem Pt {Γ:Env} {B:bA} {F0 N lab0 nx:Nat} {all:Array Oper} {es:List bL} {ms:List Nat} {wi:List Nat} {s0:St} {g0:Nat->Option SV} (hd:Ay Γ g0 (s0.T B) lab0 all.size all all.size es ms wi) (hnx:nx=lab0+8*all.size) :
 ∀ {r:List Oper} {er:List bL} {i:Nat} {s s':St},oC F0 N lab0 nx r er i s=some s'->(∀ k,r[k]?=all[i+k]?)->(∀ k,er[k]?=es[i+k]?)->i+r.length=all.size ->
   aKh B F0 N lab0 nx all es wi s0 i s->aKh B F0 N lab0 nx all es wi s0 all.size s'
 | [],er,i,s,s',h,hr,he,hl,hf=>by
   simp only [oC,zzI] at h
   subst h
   have:i=all.size:=by simpa using hl
   rw [<- this];exact hf
 | o::r,[],i,s,s',h,hr,he,hl,hf=>by simp [oC] at h
 | o::r,e::er,i,s,s',h,hr,he,hl,hf=>by
   have ho:all[i]?=some o:=by have:=hr 0;simpa using this.symm
   have hee:es[i]?=some e:=by have:=he 0;simpa using this.symm
   have hi:i<all.size:=(Array.getElem?_eq_some_iff.1 ho).1
   have hr':∀ k,r[k]?=all[i+1+k]?:=fun k=>by
    have:=hr (k+1)
    rw [show i+1+k=i+(k+1) from by omega]
    simpa using this
   have iD:∀ k,er[k]?=es[i+1+k]?:=fun k=>by
    have:=he (k+1)
    rw [show i+1+k=i+(k+1) from by omega]
    simpa using this
   simp only [oC] at h
   split at h
   case h_2=>cases h
   rename_i s1 h1
   obtain ⟨k1,k2,k3,k4,k5,k6,k7,k8,k9⟩:=St.cR B h1
   refine Pt hd hnx h hr' iD (by simp at hl;omega) ?_
   have GU:∀ j,decide (j<i+1)=(decide (j<i)||decide (j=i)):=by
    intro j
    by_cases h1:j<i
    .simp [h1];omega
    .by_cases h2:j=i
     .simp [h2]
     .simp [h1,h2];omega
   have JI:=AA (T0:=s0.T B) (lab0:=lab0) (n:=all.size) (wi:=wi) (S:=fun j=>decide (j<i)) (S':=fun j=>decide (j<i+1)) hi hee (by simp) GU (hd.new i e hee) (hd.wrt i e hee) hd.wso (fun _ s _ zP=>.inl (by simpa using zP)) (fun s hs zP e' iD l b hlk=>by
    have Rb:=hd.rF s hs
    obtain ⟨AF,Nf⟩:∃ q,ms[s]?=some q:=⟨_,List.getElem?_eq_getElem (by rw [hd.Bd];exact Rb)⟩
    rcases hd.wlb s hs AF Nf e' iD l b hlk with h1 | ⟨h1,h2⟩
    .exact .inl h1
    .have:=hd.lt s AF Nf _ h2
     simp only [decide_eq_true_eq] at zP
     exact .inr ⟨h1,by simp only [decide_eq_true_eq];omega⟩)
   refine ⟨?_,fun t v hv=>?_,fun t v hv=>?_,fun l hl=>?_,fun l hl hw=>?_,fun q hq=>?_,fun j e' hj hje q hq=>?_,fun j o' d hj lF Bg=>?_,.inr k2⟩
   .rw [k1,hf.T,JI]
   .rw [k6] at hv
    by_cases Bg:o.dst=some t
    .rw [if_pos Bg] at hv
     cases hv
     exact .inl ⟨i,e,hd.dst i o t hi ho Bg,by omega,hee,rfl⟩
    .rw [if_neg Bg] at hv
     rcases hf.g t v hv with ⟨j,e',h2,h3,h4,h5⟩ | ⟨h2,h3⟩
     .exact .inl ⟨j,e',h2,by omega,h4,h5⟩
     .refine .inr ⟨fun j hj=>?_,h3⟩
      have:=h2 j hj
      have dG:j≠i:=by
       intro q
       subst q
       obtain ⟨o',_,lF,bDc⟩:=nR hj
       have:o'=o:=by
        have h1:all[j]?=some o':=by simpa using lF
        rw [ho] at h1;cases h1;rfl
       subst this
       exact Bg bDc
      omega
   .rw [k6] at hv
    by_cases Bg:o.dst=some t
    .exact k7 t Bg
    .rw [if_neg Bg] at hv;exact hf.keys t v hv
   .rw [k1]
    unfold eG bL.eI
    rw [cD]
    cases hk:look l e.wr with
    | some b=>have:=k9 l b hk;omega
    | none=>
      have:look l (fT (lab0+8*i) e.new)=none:=by
       rw [fL]
       split
       .apply List.getElem?_eq_none;omega
       .rfl
      simp only [this]
      exact hf.hi l hl
   .exact k5 l hl hw (hf.ch l hl (fun q=>hw (k4 l q)))
   .rw [k3];exact List.mem_append_right _ (hf.ob0 q hq)
   .rw [k3]
    by_cases Mt:j=i
    .subst Mt;rw [hee] at hje;cases hje;exact List.mem_append_left _ hq
    .exact List.mem_append_right _ (hf.ob j e' (by omega) hje q hq)
   .by_cases Mt:j=i
    .subst Mt;rw [ho] at lF;cases lF;exact k7 d Bg
    .exact hf.dN j o' d (by omega) lF Bg
theorem Qc {P:Program} {Γ:Env} {w0:World} {M:Nat->Prop} {B:bA} {N F0:Nat} {V0:aZ} (aR:cC P Γ) (aU:cK P Γ) (jO:P.follows .mixedOrders=true) {id:Nat} {ops:Array Oper} {Q:Exit->Act->World->Prop}
 {s s':St} {V:aZ} {a:Act} {w:World} (h:Ii Γ B F0 N ops s=some s') (ho:∀ q∈s'.ob,q) (hi:Inv P Γ w0 M B N F0 V0 s V a w)
 (hQ:∀ V' a' w',Inv P Γ w0 M B N F0 V0 s' V' a' w'->Q .normal a' w'):(Code.region id ops true).wp P Q a w:=by
 unfold Ii at h
 split at h
 case h_2=>cases h
 rename_i es ms wi tI he
 split at h
 case h_2=>cases h
 rename_i s1 h1
 cases h
 have h:=h1
 have hd:Ay Γ s.g.get (s.T B) s.nx ops.size ops ops.size es ms wi:=by
  have:=uZ he (fun k=>by simp) Ay.nil
  simpa using this
 have hF0:aKh B F0 N s.nx (s.nx+8*ops.size) ops es wi s 0 s:=by
  refine ⟨?_,fun t v hv=>.inr ⟨fun j _=>Nat.zero_le _,hv⟩,hi.keys,fun l hl=>hi.hi l (by omega),hi.ch,fun q hq=>hq,fun j e hj=>by omega,fun j o d hj=>by omega,.inl ⟨rfl,rfl⟩⟩
  funext l
  have hw:Cc es wi (fun j=>decide (j<0))=[]:=by
   unfold Cc
   rw [List.filter_eq_nil_iff.2 (fun s _=>by simp)]
   rfl
  simp only [TS,hw,look,Dg]
  by_cases hl:s.nx<=l/\l<s.nx+8*ops.size
  .rw [Pk hl.1 hl.2]
   simp [hi.hi l hl.1]
  .rw [Ir hl]
 have hF:=Pt hd rfl h (fun k=>by simp) (fun k=>by simp) (by simp) hF0
 refine wp_region_any jO ?_
 refine bGg (M:=M) (w0:=w0) (N:=N) (df:=a.defers) (Vs:=V) aR aU hd (fun i o d fW Bg=>hF.dN i o d (Array.getElem?_eq_some_iff.1 fW).1 fW Bg) (fun e hee q hq=>?_) hi.keys (fun S V' a' w' kU hr=>?_) ops.size _ V a _ (by simp) ?_ ?_ ?_
 .obtain ⟨j,hj,hje⟩:=List.getElem_of_mem hee
  have hjl:j<ops.size:=by rw [hd.Mn] at hj;exact hj
  exact ho q (hF.ob j e hjl (by rw [List.getElem?_eq_getElem hj,hje]) q hq)
 .refine hQ V' a' w' ⟨fun t v hv=>?_,hF.keys,hr.size,(by obtain ⟨xs,gM,nX⟩:=hi.defers;exact ⟨xs,by rw [Pv h];exact dC hr.le gM,hr.defers.trans nX⟩),?_,hr.aT,?_,aZ.le_trans hi.le hr.le,fun l hl=>?_,hF.ch,?_,fun l hl=>?_⟩
  .refine hr.tmp t v ?_
   unfold gS
   rcases hF.g t v hv with ⟨j,e,h2,h3,h4,h5⟩ | ⟨h2,h3⟩
   .rw [h2]
    simp only [kU j h3,h4,zzm,h5]
   .cases Mo:kQ t ops.toList 0 with
    | none=>exact h3
    | some j=>
      have:=h2 j Mo
      obtain ⟨o',_,lF,_⟩:=nR Mo
      have cM:=(List.getElem?_eq_some_iff.1 lF).1
      simp at cM
      omega
  .refine hr.eI.sub fun l b hl=>?_
   have hl:s1.T B l=some b:=hl
   rw [hF.T] at hl
   have hw:Cc es wi (fun j=>decide (j<ops.size))=Cc es wi S:=by
    unfold Cc
    congr 1
    refine List.filter_congr fun q hq=>?_
    have:=hd.rF q hq
    rw [kU q this]
    simpa using this
   rw [hw] at hl
   refine Ut (fun j hj=>?_) hl
   exact kU j (by simpa using hj)
  .refine hr.top.mono ?_
   rcases hF.nxe with ⟨h1,h2⟩ | h2
   .rw [h1,h2];exact zzr _
   .rw [h2];exact zzr _
  .have h1:=hr.low l (Nat.lt_of_lt_of_le hl hi.nx)
   rw [h1.1,h1.2]
   exact hi.low l hl
  .rcases hF.nxe with ⟨h1,_⟩ | h2
   .rw [h1];exact hi.nx
   .rw [h2];have:=hi.nx;omega
  .rcases hF.nxe with ⟨h1,h2⟩ | h2
   .exact hF.hi l (by rw [h1] at hl;rw [h2];exact hl)
   .exact hF.hi l (by rw [h2] at hl;exact hl)
 .have:=List.length_filter_le (fun j => !(Array.replicate ops.size false).getD j false) (List.range ops.size)
  simpa using this
 .intro q hq
  exfalso
  simp [Array.getElem?_replicate] at hq
  split at hq <;> simp at hq
 .have hS:∀ j,(Array.replicate ops.size false).getD j false=false:=by
   intro j
   simp [Array.getElem?_replicate]
   split <;> rfl
  refine ⟨fun t v hv=>?_,hi.size,rfl,?_,hi.aT,hi.top.mono (by omega),fun j _ _=>fun l h1 _=>hi.top l (by omega),aZ.le_refl V,fun l _=>⟨rfl,rfl⟩⟩
  .unfold gS at hv
   cases Mo:kQ t ops.toList 0 with
   | none=>rw [Mo] at hv;exact hi.tmp t v hv
   | some j=>rw [Mo] at hv;simp only [hS j,Bool.not_false] at hv;exact hi.tmp t v hv
  .have hT0:aC w0 M V (s.T B) { w with drawn:=w.drawn+1 }:=hi.eI.aXu rfl rfl rfl rfl
   refine hT0.sub fun l b hl=>?_
   have hw:Cc es wi (fun j=>(Array.replicate ops.size false).getD j false)=[]:=by
    unfold Cc
    rw [List.filter_eq_nil_iff.2 (fun s _=>by simp only [hS s];simp)]
    rfl
   simp only [TS,hw,look,Dg] at hl
   split at hl
   .simp only [hS] at hl;cases hl
   .exact hl
inductive Ex where
 | normal
 | exit (id:Nat)
 | ret
def Ex.to:Ex->Exit
 | .normal=>.normal
 | .exit id=>.exit id
 | .ret=>.ret
noncomputable def Oo (Γ:Env) (B:bA) (F0 N:Nat) (rec:Code->St->Option (St × Ex)) (c:Code) (s:St):Option (St × Ex):=
 match c with
 | .skip=>some (s,.normal)
 | .label _=>some (s,.normal)
 | .region _ ops d=>match d with
   | true=>match Ii Γ B F0 N ops s with
     | some s'=>some (s',.normal)
     | none=>none
   | false=>match Jz Γ B F0 N ops ops.toList s with
     | some s'=>some (s',.normal)
     | none=>none
 | .seq x y=>match rec x s with
   | some (s',.normal)=>rec y s'
   | r=>r
 | .cond c x y=>match ev Γ s.g.get c with
   | some (.bool true true)=>rec x s
   | some (.bool true false)=>rec y s
   | some (.bool false b)=>match s.hs with
     | true::r=>rec x { s with ob:=(b=true)::s.ob,hs:=r }
     | false::r=>rec y { s with ob:=(b=false)::s.ob,hs:=r }
     | []=>none
   | _=>none
 | .block id c=>match rec c s with
   | some (s',.exit Ms)=>match Nat.beq Ms id with
     | true=>some (s',.normal)
     | false=>some (s',.exit Ms)
   | r=>r
 | .loop c=>match rec c s with
   | some (s',.normal)=>rec (.loop c) s'
   | r=>r
 | .exit id=>some (s,.exit id)
 | .ret=>some (s,.ret)
 | .scope c=>rec c s
 | _=>none
noncomputable def exec (Γ:Env) (B:bA) (F0 N:Nat) (n:Nat):Code->St->Option (St × Ex):=
 Nat.rec (fun _ _=>none) (fun _ ih=>Oo Γ B F0 N ih) n
theorem zC {Γ:Env} {B:bA} {F0 N:Nat} (c:Code) (s:St):exec Γ B F0 N 0 c s=none:=rfl
theorem zD {Γ:Env} {B:bA} {F0 N:Nat} (n:Nat) (c:Code) (s:St):exec Γ B F0 N (n+1) c s=Oo Γ B F0 N (exec Γ B F0 N n) c s:=rfl
theorem Pu {F0 N lab0 nx:Nat}:∀ {r:List Oper} {er:List bL} {i:Nat} {s s':St},oC F0 N lab0 nx r er i s=some s'->∀ q∈s.ob,q∈s'.ob
 | [],er,i,s,s',h,q,hq=>by simp only [oC,zzI] at h;subst h;exact hq
 | o::r,[],i,s,s',h,q,hq=>by simp [oC] at h
 | o::r,e::er,i,s,s',h,q,hq=>by
   simp only [oC] at h
   split at h
   .rename_i s1 h1
    have:=(St.cR (fun _=>none) h1).2.2.1
    exact Pu h q (by rw [this];exact List.mem_append_right _ hq)
   .cases h
theorem Qd {Γ:Env} {B:bA} {F0 N:Nat} {ops:Array Oper} {s s':St} (h:Ii Γ B F0 N ops s=some s'):∀ q∈s.ob,q∈s'.ob:=by
 unfold Ii at h
 split at h
 .split at h
  .rename_i s1 h1
   cases h
   exact Pu (s':=s1) h1
  .cases h
 .cases h
theorem Bw {Γ:Env} {B:bA} {F0 N:Nat}:∀ {n:Nat} {c:Code} {s s':St} {x:Ex},exec Γ B F0 N n c s=some (s',x)->∀ q∈s.ob,q∈s'.ob:=by
 intro n
 induction n with
 | zero=>intro c s s' x h;rw [zC] at h;cases h
 | succ n ih=>
   intro c s s' x h q hq
   rw [zD] at h
   unfold Oo at h
   split at h
   .cases h;exact hq
   .cases h;exact hq
   .split at h
    .split at h
     .rename_i s1 h1;cases h;exact Qd h1 q hq
     .cases h
    .split at h
     .rename_i s1 h1;cases h;exact wC h1 q hq
     .cases h
   .split at h
    .rename_i s1 h1;exact ih h q (ih h1 q hq)
    .exact ih h q hq
   .split at h
    .exact ih h q hq
    .exact ih h q hq
    .split at h
     .exact ih h q (zzO _ hq)
     .exact ih h q (zzO _ hq)
     .cases h
    .cases h
   .split at h
    .rename_i s1 Ms h1
     split at h <;> (cases h;exact ih h1 q hq)
    .exact ih h q hq
   .split at h
    .rename_i s1 h1;exact ih h q (ih h1 q hq)
    .exact ih h q hq
   .cases h;exact hq
   .cases h;exact hq
   .exact ih h q hq
   .cases h
theorem aEo {P:Program} {Γ:Env} {w0:World} {M:Nat->Prop} {B:bA} {N F0:Nat} {V0:aZ} (aR:cC P Γ) (aU:cK P Γ) (jO:P.follows .mixedOrders=true) :
 ∀ (n:Nat),(∀ {c:Code} {s s':St} {x:Ex} {V:aZ} {a:Act} {w:World} {Q:Exit->Act->World->Prop},exec Γ B F0 N n c s=some (s',x)->(∀ q∈s'.ob,q)->Inv P Γ w0 M B N F0 V0 s V a w ->
   (∀ V' a' w',Inv P Γ w0 M B N F0 V0 s' V' a' w'->Q x.to a' w')->c.wp P Q a w) /\
 (∀ {c:Code} {s s':St} {x:Ex} {V:aZ} {a:Act} {w:World} {Q:Exit->Act->World->Prop},exec Γ B F0 N n (.loop c) s=some (s',x)->(∀ q∈s'.ob,q)->Inv P Γ w0 M B N F0 V0 s V a w ->
  (∀ V' a' w',Inv P Γ w0 M B N F0 V0 s' V' a' w'->Q x.to a' w')->Code.rounds P c Q n a w):=by
 intro n
 induction n with
 | zero=>exact ⟨fun h=>(by rw [zC] at h;cases h),fun h=>(by rw [zC] at h;cases h)⟩
 | succ n ih=>
   obtain ⟨ih,il⟩:=ih
   have loop:∀ {c:Code} {s s':St} {x:Ex} {V:aZ} {a:Act} {w:World} {Q:Exit->Act->World->Prop},exec Γ B F0 N (n+1) (.loop c) s=some (s',x)->(∀ q∈s'.ob,q)->Inv P Γ w0 M B N F0 V0 s V a w ->
    (∀ V' a' w',Inv P Γ w0 M B N F0 V0 s' V' a' w'->Q x.to a' w')->Code.rounds P c Q (n+1) a w:=by
    intro c s s' x V a w Q h ho hi hQ
    rw [zD] at h
    simp only [Oo] at h
    rw [rounds_succ]
    split at h
    .rename_i s1 h1
     exact ih h1 (fun q hq=>ho q (Bw h q hq)) hi fun V' a' w' fW=>il h ho fW hQ
    .rename_i dG
     refine ih h ho hi fun V' a' w' fW=>?_
     have:=hQ V' a' w' fW
     cases x with
     | normal=>exact absurd h (fun q=>dG _ q)
     | exit id=>exact this
     | ret=>exact this
   refine ⟨?_,loop⟩
   intro c s s' x V a w Q h ho hi hQ
   have h0:=h
   rw [zD] at h
   unfold Oo at h
   split at h
   .cases h;exact wp_skip (hQ V a w hi)
   .cases h;exact wp_label (hQ V a w hi)
   .split at h
    .split at h
     .rename_i s1 h1;cases h;exact Qc aR aU jO h1 ho hi hQ
     .cases h
    .split at h
     .rename_i s1 h1;cases h;exact wp_region_list (wB aR aU h1 ho hi hQ)
     .cases h
   .refine wp_seq ?_
    split at h
    .rename_i s1 h1
     exact ih h1 (fun q hq=>ho q (Bw h q hq)) hi fun V' a' w' fW=>ih h ho fW hQ
    .rename_i dG
     refine ih h ho hi fun V' a' w' fW=>?_
     have:=hQ V' a' w' fW
     cases x with
     | normal=>exact absurd h (fun q=>dG _ q)
     | exit id=>exact this
     | ret=>exact this
   .split at h
    .rename_i hc
     have hc:=bG hi.tmp hi.aT hc
     simp only [den,zzI] at hc
     exact wp_cond_true hc.symm (ih h ho hi hQ)
    .rename_i hc
     have hc:=bG hi.tmp hi.aT hc
     simp only [den,zzI] at hc
     exact wp_cond_false hc.symm (ih h ho hi hQ)
    .rename_i b hc
     have hc:=bG hi.tmp hi.aT hc
     simp only [den,zzI] at hc
     split at h
     .have hb:b=true:=ho _ (Bw h _ zzC)
      rw [hb] at hc
      exact wp_cond_true hc.symm (ih h ho ⟨hi.tmp,hi.keys,hi.size,hi.defers,hi.eI,hi.aT,hi.top,hi.le,hi.low,hi.ch,hi.nx,hi.hi⟩ hQ)
     .have hb:b=false:=ho _ (Bw h _ zzC)
      rw [hb] at hc
      exact wp_cond_false hc.symm (ih h ho ⟨hi.tmp,hi.keys,hi.size,hi.defers,hi.eI,hi.aT,hi.top,hi.le,hi.low,hi.ch,hi.nx,hi.hi⟩ hQ)
     .cases h
    .cases h
   .refine wp_block ?_
    split at h
    .rename_i bid _ _ s1 Ms h1
     split at h
     .rename_i hb
      cases h
      refine ih h1 ho hi fun V' a' w' fW=>?_
      show (if Ms=bid then Q .normal a' w' else Q (.exit Ms) a' w')
      rw [if_pos (zzN hb)]
      exact hQ V' a' w' fW
     .rename_i hb
      cases h
      refine ih h1 ho hi fun V' a' w' fW=>?_
      show (if Ms=bid then Q .normal a' w' else Q (.exit Ms) a' w')
      rw [if_neg (beq_false hb)]
      exact hQ V' a' w' fW
    .rename_i dG
     refine ih h ho hi fun V' a' w' fW=>?_
     have:=hQ V' a' w' fW
     cases x with
     | normal=>exact this
     | exit id=>exact absurd h (fun q=>dG _ _ q)
     | ret=>exact this
   .exact wp_loop_rounds (n+1) (loop h0 ho hi hQ)
   .cases h;exact wp_exit (hQ V a w hi)
   .cases h;exact wp_ret (hQ V a w hi)
   .refine wp_scope_straight (ih h ho hi fun V' a' w' fW=>?_)
    have:=hQ V' a' w' fW
    cases x <;> exact this
   .cases h
end Go.Proofs.YticicdfijghigaaGreatDoor.Sx
