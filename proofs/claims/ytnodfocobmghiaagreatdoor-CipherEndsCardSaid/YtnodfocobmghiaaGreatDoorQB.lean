/- The symbolic executor, fourteenth text: one operation, whichever it is; calls. -/
import Derived.Defers
import Derived.LaidEql
import Derived.ChangeKeysEq
import Derived.Laws.BytesString
import Derived.LoopN
import Derived.Scope
import Derived.Laws.Externs
import Derived.Deep.LoopGhost
import Derived.Test.YtnodfocobmghiaaGreatDoorQA
open Go
set_option maxRecDepth 100000
namespace Go.Proofs.YtnodfocobmghiaaGreatDoor.Sx
def bA.top (V:bA) (F:Nat):Prop:=∀ l,F<=l->V.β l=none/\V.σ l=none
def aF (P:Program) (Γ:Env) (f:FuncId) (S:Sum):Prop:=
 ∀ vs T lab F e,S vs T lab F=some e->(∀ q∈e.bO,q)->∀ (w0:World) (M:Nat->Prop) (V:bA) (T2:bB) (w:World) (xs:List Value),
   (∀ l B,T l=some B->T2 l=some B)->aD w0 M V T2 w->bP Γ V->V.fresh lab->V.top F->aI V vs=some xs ->
   ∀ (o:Oper) (a:Act) K Q,(∀ V' x w',V.ext lab V'->den V' e.val=some x->aD w0 M V' (eQ T2 lab e) w'->K (a.put o.dst x) w') ->
     o.upon P a K Q ((callFunc f xs.toArray).run P w)
def Av (P:Program) (Γ:Env) (f:FuncId) (S:Sum):Prop:=
 ∀ vs T lab F e,S vs T lab F=some e->(∀ q∈e.bO,q)->∀ (w0:World) (M:Nat->Prop) (V:bA) (T2:bB) (w:World) (xs:List Value),
   (∀ l B,T l=some B->T2 l=some B)->aD w0 M V T2 w->bP Γ V->V.fresh lab->V.top F->aI V vs=some xs ->
   ∀ (fn:Func) (tmps:Array Value) (ds:List Deferred) (R:Ending->World->Prop),(∀ V' w',V.ext lab V'->aD w0 M V' (eQ T2 lab e) w'->Leaves P fn tmps R ds .returning w') ->
     ∀ aS cs:Array Value,aS.toList++cs.toList=xs->Leaves P fn tmps R ({ target:=.fn (.func f) cs,args:=aS }::ds) .returning w
def cH (P:Program) (Γ:Env):Prop:=(∀ f S,Γ.sum f=some S->aF P Γ f S)/\(∀ f S,Γ.PY f=some S->Av P Γ f S) /\
 (∀ t,Γ.cmp.elem t=true->(∀ i,P.info? t=some i->i.comparable=true)/\P.stoodInHeld t=false)/\∃ d,P.depth=d+2
def kW (a b:Option bK):Option bK:=match a with
 | some e=>some e
 | none=>b
def Uc (a b:IntKind):Bool:=decide (a=b)
def Nk:SB->Bool
 | .own .. | .ints .. | .eI .. | .row .. => true
 | _=>false
def lR:List SV->List SV->Option (Bool × Bool)
 | [],[]=>some (true,true)
 | .int s k a::xs,.int s' k' b::ys=>match Uc k k',lR xs ys with
   | true,some (l,r)=>some (s&&(s'&&l),(a==b)&&r)
   | _,_=>none
 | _,_=>none
def Ob (op:BinOp) (s b:Bool):Option bK:=match op with
 | .eql=>some { val:=.bool s b }
 | .neq=>some { val:=.bool s (!b) }
 | _=>none
def OJ (T:bB) (l o:Nat):Option ByteArray:=match T l,o with
 | some (.fL (.raw (.string s)::_)),0=>some s
 | _,_=>none
def neS:List UInt8->List UInt8->Bool
 | [],[]=>false
 | x::r,y::q=>match Nat.beq x.toNat y.toNat with
   | true=>neS r q
   | false=>true
 | _,_=>true
theorem EZ:∀ {s q:List UInt8},neS s q=true->s≠q
 | [],[],h,_=>by simp [neS] at h
 | [],y::q,_,e=>by cases e
 | x::r,[],_,e=>by cases e
 | x::r,y::q,h,e=>by
   cases e
   simp only [neS,Nat.beq_refl] at h
   exact EZ h rfl
def Rr (Γ:Env) (g:Nat->Option SV) (T:bB) (op:BinOp) (t:TypeId) (x y:Operand):Option bK:=
 match ev Γ g x,ev Γ g y with
 | some (.ptr l _ o),some (.ptr l' _ o')=>match Γ.ty t with
   | some ti=>match ti.desc with
     | .pointer el=>match Γ.ty el with
       | some te=>match Nat.beq l l' with
         | true=>match Nat.beq o o' with
           | true=>sY op true
           | false=>match Nat.beq te.size 0 with
             | true=>none
             | false=>sY op false
         | false=>match Nat.beq te.size 0,T l,T l' with
           | false,some B,some B'=>match Nk B&&Nk B' with
             | true=>sY op false
             | false=>none
           | _,_,_=>none
       | none=>none
     | _=>none
   | none=>none
 | some (.rC t1 (.ptr l _ o)),some (.rC t2 (.ptr l' _ o'))=>match Γ.ty t,Γ.ty t1 with
   | some ti,some t1i=>match ti.desc,t1i.desc with
     | .interface _,.pointer el=>match Γ.ty el with
       | some te=>match Nat.beq t1 t2&&(Nat.beq l l'&&(Nat.beq o o'&&Γ.cmp.elem t1)) with
         | true=>sY op true
         | false=>match Nat.beq t1 t2&&(Γ.cmp.elem t1 && !Nat.beq te.size 0),OJ T l o,OJ T l' o' with
           | true,some s,some s'=>match neS s.data.toList s'.data.toList with
             | true=>sY op false
             | false=>none
           | _,_,_=>none
       | none=>none
     | _,_=>none
   | _,_=>none
 | some (.agg xs),some (.agg ys)=>match Γ.ty t with
   | some ti=>match ti.desc with
     | .array n el=>match Γ.ty el with
       | some te=>match te.desc,Nat.beq te.size 1&&Nat.beq xs.length n,lR xs ys with
         | .int _,true,some (l,r)=>Ob op l r
         | _,_,_=>none
       | none=>none
     | _=>none
   | none=>none
 | _,_=>none
def Gl (op:BinOp) (n:Nat) (xs ys:List Int):Option bK:=match op with
 | .eql=>some { bO:=[xs.length=n/\ys.length=n],val:=.bool false (decide (xs=ys)) }
 | .neq=>some { bO:=[xs.length=n/\ys.length=n],val:=.bool false (!decide (xs=ys)) }
 | _=>none
def Gm (Γ:Env) (g:Nat->Option SV) (op:BinOp) (t:TypeId) (x y:Operand):Option bK:=
 match (ev Γ g x).bind cJ,(ev Γ g y).bind cJ,Γ.ty t with
 | some (k,xs),some (k2,ys),some ti=>match ti.desc with
   | .array n el=>match Γ.ty el with
     | some te=>match te.desc,Nat.beq te.size 1,wW k k2 with
       | .int _,true,true=>Gl op n xs ys
       | _,_,_=>none
     | none=>none
   | _=>none
 | _,_,_=>none
def Gk (Γ:Env) (g:Nat->Option SV) (op:BinOp) (t:TypeId) (x y:Operand):Option bK:=
 match ev Γ g x,ev Γ g y,Γ.ty t with
 | some (.agg [.int _ k1 a,.int _ k2 b]),some (.agg [.int _ k3 c,.int _ k4 d]),some ti=>match ti.desc with
   | .struct fs=>match fs.toList with
     | [f1,f2]=>match Γ.ty f1.type,Γ.ty f2.type with
       | some t1,some t2=>match t1.desc,t2.desc,((!(f1.name == "_") && !(f2.name == "_"))&&(Nat.beq f1.offset 0&&Nat.beq f2.offset 1))&&((wW k1 k3&&wW k2 k4)&&Γ.cmp.elem t) with
         | .int _,.int _,true=>match op with
           | .eql=>some { val:=.bool false (decide (a=c)&&decide (b=d)) }
           | .neq=>some { val:=.bool false (!(decide (a=c)&&decide (b=d))) }
           | _=>none
         | _,_,_=>none
       | _,_=>none
     | _=>none
   | _=>none
 | _,_,_=>none
def Oe (Γ:Env) (g:Nat->Option SV) (t:TypeId) (x y:Operand) (lab:Nat):Option bK:=
 match ev Γ g x,ev Γ g y,Γ.ty t with
 | some (.int true _ 0),some (.int _ _ c),some ti=>match ti.desc with
   | .slice el=>match Γ.ty el with
     | some te=>match Nat.beq te.size 2&&Nat.beq te.zero.length 2 with
       | true=>some { bO:=[0<=c/\(te.bytes:Int)*c<=2^48/\c<2^63],val:=.buf lab,new:=[.eH [] el] }
       | false=>none
     | none=>none
   | _=>none
 | _,_,_=>none
section YJ
variable {P:Program} {Γ:Env} {V:bA} {w w0:World} {M:Nat->Prop} {T:bB} {g:Nat->Option SV} {a:Act} {o:Oper} {e:bK}
def DN (T:bB) (te:TI) (x y:SV):Option bK:=
 match x,Ve te.desc,Nat.beq te.size 1 with
 | .aG l true 0 len cap,some k,true=>match T l with
   | some (.ints k2 xs ty)=>match wW k k2,Ux T k y with
     | true,some (ob,ys)=>some { bO:=(cap=xs.length/\len+ys.length<=cap)::ob,val:=.aG l true 0 (len+ys.length) cap,wr:=[(l,.ints k (xs.take len++ys++xs.drop (len+ys.length)) ty)] }
     | _,_=>none
   | _=>none
 | _,_,_=>none
theorem LO (aW:cA P Γ) {T':bB} (aO:∀ l B,T' l=some B->T l=some B) (hT:aD w0 M V T w) {lab:Nat} {t ty el:TypeId} {te:TI} (ht:P.underlying t=some (.slice el)) (eD:Γ.ty el=some te)
 {x y:SV} {u v:Value} (hx:den V x=some u) (hy:den V y=some v) (he:DN T' te x y=some e) (ho:∀ q∈e.bO,q):oB P w0 M V T lab e (Builtin.append_ #[t,t] ty #[u,v]) w:=by
 unfold DN at he
 split at he
 case h_2=>cases he
 rename_i l len cap k hk fX
 split at he
 case h_2=>cases he
 rename_i k2 xs ety hB
 split at he
 case h_2=>cases he
 rename_i ob ys yR hq
 simp only [aV] at he
 subst he
 have yR:k=k2:=jG yR
 subst yR
 obtain ⟨rM,hle⟩:=ho _ dB
 obtain ⟨_,i,z,hi,cD,lO,hz,hzero⟩:=aW el te eD
 have iC:i.size=1:=by rw [cD];exact cM fX
 have hh:=tM (hT.sub aO) hy hq (fun q hq=>ho q (eK _ hq))
 simp only [den,dC] at hx
 obtain ⟨p,hβ,rfl⟩:=hx
 obtain ⟨w',hr,pC⟩:=nR (P:=P) (xs:=ys) (off:=len) lab (.aG l true 0 (len+ys.length) cap) ((cap=xs.length/\len+ys.length<=cap)::ob) hT (aO l _ hB) (b:=p.1) (o:=p.2) hβ (by omega)
 have aKl:(⟨p.1,p.2,none⟩:Addr).add len=⟨p.1,p.2+len,none⟩:=by cases len <;> simp [Addr.add]
 refine ⟨V,.slice (some ⟨p.1,p.2+0,none⟩) (len+ys.length) cap,w',?_,V.cN lab,by simp [den,hβ],pC⟩
 rcases hh with ⟨rfl,pE⟩ | ⟨ad,c,rfl,bY⟩
 .have:ys=[]:=by simpa using pE
  subst this
  have hf:=run_firstCells_none (P:=P) (w:=w) 1 0 0 0
  have PI:len<=cap:=by simpa using hle
  simp at hr
  simp [Builtin.append_,run_underlying ht,Builtin.lenOf,run_sizeOf hi,iC,hf,PI,aKl,hr]
 .have hf:=run_firstCells_some (P:=P) (w:=w) 1 ys.length ad ys.length c (ys.map (Value.int k)) (by simp) bY
  simp [Builtin.append_,run_underlying ht,Builtin.lenOf,run_sizeOf hi,iC,hf,hle,aKl,hr]
def Hr (T:bB) (te:TI) (x:SV):Option bK:=
 match x,te.zero,Nat.beq te.size 1 with
 | .aG l false off len _,[.int _ k z],true=>match T l with
   | some (.ints k2 xs ty)=>match wW k k2 with
     | true=>some { bO:=[off+len<=xs.length],val:=.eF [],wr:=[(l,.ints k (xs.take off++List.replicate len z++xs.drop (off+len)) ty)] }
     | _=>none
   | _=>none
 | _,_,_=>none
theorem Qi (aW:cA P Γ) {T':bB} (aO:∀ l B,T' l=some B->T l=some B) (hT:aD w0 M V T w) {lab:Nat} {t ty el:TypeId} {te:TI} (ht:P.underlying t=some (.slice el)) (eD:Γ.ty el=some te)
 {x:SV} {u:Value} (hx:den V x=some u) (he:Hr T' te x=some e) (ho:∀ q∈e.bO,q):oB P w0 M V T lab e (Builtin.clear_ #[t] ty #[u]) w:=by
 unfold Hr at he
 split at he
 case h_2=>cases he
 rename_i l off len cap sz k z hzz fX
 split at he
 case h_2=>cases he
 rename_i k2 xs ety hB
 split at he
 case h_2=>cases he
 rename_i yR
 simp only [aV] at he
 subst he
 have yR:k=k2:=jG yR
 subst yR
 have hle:=ho _ dB
 obtain ⟨_,i,zv,hi,cD,lO,hz,hzero⟩:=aW el te eD
 have Cc:zv.cells = #[.int k z]:=by
  have:=hzero V
  rw [hzz] at this
  simp only [aI,den,mZ,gQ,aV] at this
  rw [<- Array.toList_inj,<- this]
 simp only [den,dC] at hx
 obtain ⟨p,hβ,rfl⟩:=hx
 obtain ⟨w',hr,pC⟩:=nR (P:=P) (xs:=List.replicate len z) (off:=off) lab (.eF []) [off+len<=xs.length] hT (aO l _ hB) (b:=p.1) (o:=p.2) hβ (by simpa using hle)
 rw [List.length_replicate] at pC
 cases len with
 | zero=>
   refine ⟨V,.tuple #[],w',?_,V.cN lab,by simp [den,aI],pC⟩
   simp only [List.replicate_zero,List.map_nil,storeCells,Sem.run_pure,Result.ok.injEq,true_and] at hr
   subst hr
   simp [Builtin.clear_,run_underlying ht]
 | succ n=>
   refine ⟨V,.tuple #[],w',?_,V.cN lab,by simp [den,aI],pC⟩
   have hzl:(Builtin.zeroCells zv.cells (n+1)).toList=(List.replicate (n+1) z).map (Value.int k):=by
    rw [Cc,hH]
    simp
   rw [<- hzl] at hr
   simp [Builtin.clear_,run_underlying ht,dV hi hz,hr]
def hdK (k:IntKind):List SV->List Int × List SV
 | .int s k' n::r=>match wW k k' with
   | true=>((n::(hdK k r).1),(hdK k r).2)
   | false=>([],.int s k' n::r)
 | r=>([],r)
def NI (k:IntKind):List SV->List SV × List Int × List SV
 | []=>([],[],[])
 | v::r=>match (hdK k (v::r)).1 with
   | []=>(v::(NI k r).1,(NI k r).2.1,(NI k r).2.2)
   | n::ns=>([],n::ns,(hdK k (v::r)).2)
theorem FJ {V:bA} {k:IntKind}:∀ {cs:List SV} {xs:List Value},aI V cs=some xs->∃ qs,aI V (hdK k cs).2=some qs/\xs=(hdK k cs).1.map (Value.int k)++qs
 | [],xs,h=>⟨xs,h,rfl⟩
 | v::r,xs,h=>by
   unfold hdK
   split
   .rename_i s k' n r' e
    cases e
    split
    .rename_i hk
     have hk:k=k':=jG hk
     subst hk
     simp only [aI,den,mZ,dC] at h
     obtain ⟨ys,hy,rfl⟩:=h
     obtain ⟨qs,h1,h2⟩:=FJ (k:=k) hy
     exact ⟨qs,h1,by rw [h2];rfl⟩
    .exact ⟨xs,h,rfl⟩
   .exact ⟨xs,h,rfl⟩
theorem EI {V:bA} {k:IntKind}:∀ {cs:List SV} {xs:List Value},aI V cs=some xs->∃ ps qs,aI V (NI k cs).1=some ps/\aI V (NI k cs).2.2=some qs/\xs=ps++((NI k cs).2.1.map (Value.int k)++qs)
 | [],xs,h=>by simp only [aI,aV] at h;subst h;exact ⟨[],[],rfl,rfl,rfl⟩
 | v::r,xs,h=>by
   unfold NI
   split
   .simp only [aI,dC,gL] at h
    obtain ⟨x,hx,ys,hy,rfl⟩:=h
    obtain ⟨ps,qs,h1,h2,h3⟩:=EI (k:=k) hy
    exact ⟨x::ps,qs,by simp [aI,hx,h1],h2,by rw [h3];rfl⟩
   .rename_i n ns e
    obtain ⟨qs,h1,h2⟩:=FJ (k:=k) h
    rw [e] at h2
    exact ⟨[],qs,rfl,h1,h2⟩
def pK (k:IntKind) (cs:List SV) (ty:TypeId) (off:Nat) (ys:List Int):Prop × SB:=match NI k cs with
 | (pre,ns,post)=>((pre.length<=off/\off+ys.length<=pre.length+ns.length),match pre,post with
   | [],[]=>.ints k (ns.take off++ys++ns.drop (off+ys.length)) ty
   | pre,post=>.own (pre++(cK k ns.length (ns.take (off-pre.length)++ys++ns.drop (off-pre.length+ys.length))++post)) ty)
theorem Aw {k:IntKind} {cells:List SV} {ty:TypeId} {l off b o:Nat} {ys:List Int} (lab:Nat) (rv:SV) (ob:List Prop)
 (hT:aD w0 M V T w) (hl:T l=some (.own cells ty)) (hβ:V.β l=some (b,o)) (hle:(pK k cells ty off ys).1) :
 ∃ w',(storeCells ⟨b,o+off,none⟩ (ys.map (Value.int k))).run P w = .ok () w'/\aD w0 M V (eQ T lab { bO:=ob,val:=rv,wr:=[(l,(pK k cells ty off ys).2)] }) w':=by
 obtain ⟨cs,hc,b',hb,hh⟩:=hT.ok l _ hl
 rw [hβ] at hb;cases hb
 obtain ⟨ps,qs,h1,h2,h3⟩:=EI (V:=V) (k:=k) (show aI V cells=some cs from hc)
 unfold pK at hle |-
 generalize NI k cells=sp at *
 obtain ⟨pre,ns,post⟩:=sp
 simp only at hle h1 h2 h3 |-
 obtain ⟨ha,nC⟩:=hle
 have Zh:=bG h1
 have qV:cs.length=pre.length+(ns.length+post.length):=by rw [h3];simp [Zh,bG h2]
 refine ⟨_,run_storeCells_at P b (0+off) ty _ 0 _ w hh (by simp;omega) (by intro x hx;simp only [List.mem_map] at hx;obtain ⟨y,_,rfl⟩:=hx;rfl),?_⟩
 obtain ⟨zs,rJ⟩:∃ zs,zs=ns.take (off-pre.length)++ys++ns.drop (off-pre.length+ys.length):=⟨_,rfl⟩
 have hzl:zs.length=ns.length:=by rw [rJ];simp;omega
 have key:ps++(zs.map (Value.int k)++qs)=cs.take off++ys.map (Value.int k)++cs.drop (off+(ys.map (Value.int k)).length):=by
  rw [h3,rJ]
  obtain ⟨d,rfl⟩:∃ d,off=pre.length+d:=⟨off-pre.length,by omega⟩
  have e1:(ps++(ns.map (Value.int k)++qs)).take (pre.length+d)=ps++(ns.map (Value.int k)).take d:=by
   rw [<- Zh,List.take_length_add_append,List.take_append_of_le_length (by simp;omega)]
  have e2:(ps++(ns.map (Value.int k)++qs)).drop (pre.length+d+(ys.map (Value.int k)).length)=(ns.map (Value.int k)).drop (d+ys.length)++qs:=by
   rw [<- Zh,List.length_map,Nat.add_assoc,List.drop_length_add_append,List.drop_append_of_le_length (by simp;omega)]
  rw [e1,e2,Nat.add_sub_cancel_left]
  simp [List.map_take,List.map_drop]
 split
 .have e0:ps=[]:=by cases ps with | nil=>rfl | cons=>simp at Zh
  have e1:qs=[]:=by have:=bG h2;cases qs with | nil=>rfl | cons=>simp at this
  subst e0 e1
  simp only [List.length_nil,Nat.sub_zero] at rJ
  rw [<- rJ]
  have:=hT.write (B0:=.own cells ty) (B:=.ints k zs ty) hl hβ rfl (by simp [SB.aT,hβ]) hh (cs:=cs.take off++ys.map (Value.int k)++cs.drop (off+(ys.map (Value.int k)).length)) (by rw [<- key];simp [SB.cells]) (.inr (.inl rfl)) lab rv ob
  simpa using this
 .rw [<- rJ]
  have wP:aI V (pre++(cK k ns.length zs++post))=some (ps++(zs.map (Value.int k)++qs)):=cI h1 (cI (uS hzl) h2)
  rw [key] at wP
  have:=hT.write (B0:=.own cells ty) (B:=.own (pre++(cK k ns.length zs++post)) ty) hl hβ rfl (by simp [SB.aT,hβ]) hh wP (.inl rfl) lab rv ob
  simpa using this
def Oj (T:bB) (te:TI) (x y:SV):Option bK:=
 match x,Ve te.desc,Nat.beq te.size 1 with
 | .aG l _ off len _,some k,true=>match Ux T k y with
   | some (ob,ys)=>match T l with
     | some (.own cs ty)=>some { bO:=(pK k cs ty off (ys.take (Nat.min ys.length len))).1::ob,val:=.int false .i64 ((Nat.min ys.length len:Nat):Int),wr:=[(l,(pK k cs ty off (ys.take (Nat.min ys.length len))).2)] }
     | some (.ints k2 xs ty)=>match wW k k2 with
       | true=>some { bO:=(off+Nat.min ys.length len<=xs.length)::ob,val:=.int false .i64 ((Nat.min ys.length len:Nat):Int),wr:=[(l,.ints k (xs.take off++ys.take (Nat.min ys.length len)++xs.drop (off+Nat.min ys.length len)) ty)] }
       | false=>none
     | _=>none
   | none=>none
 | _,_,_=>none
theorem Xv (aW:cA P Γ) {T':bB} (aO:∀ l B,T' l=some B->T l=some B) (hT:aD w0 M V T w) {lab:Nat} {dT sT ty el:TypeId} {te:TI} (ht:P.underlying dT=some (.slice el)) (eD:Γ.ty el=some te)
 {x y:SV} {u v:Value} (hx:den V x=some u) (hy:den V y=some v) (he:Oj T' te x y=some e) (ho:∀ q∈e.bO,q):oB P w0 M V T lab e (Builtin.copy_ #[dT,sT] ty #[u,v]) w:=by
 unfold Oj at he
 split at he
 case h_2=>cases he
 rename_i l s off len cap k hk fX
 split at he
 case h_2=>cases he
 rename_i ob ys hq
 obtain ⟨_,i,z,hi,cD,lO,hz,hzero⟩:=aW el te eD
 have iC:i.size=1:=by rw [cD];exact cM fX
 simp only [den,dC] at hx
 obtain ⟨p,hβ,rfl⟩:=hx
 have fin:∀ (B:SB) (q:Prop),(∃ w',(storeCells ⟨p.1,p.2+off,none⟩ ((ys.take (Nat.min ys.length len)).map (Value.int k))).run P w = .ok () w'/\aD w0 M V (eQ T lab { bO:=q::ob,val:=.int false .i64 ((Nat.min ys.length len:Nat):Int),wr:=[(l,B)] }) w') ->
  Sa w v (ys.map (Value.int k))->oB P w0 M V T lab { bO:=q::ob,val:=.int false .i64 ((Nat.min ys.length len:Nat):Int),wr:=[(l,B)] } (Builtin.copy_ #[dT,sT] ty #[.slice (some ⟨p.1,p.2+off,none⟩) len cap,v]) w:=by
  rintro B q ⟨w',hr,pC⟩ hh
  refine ⟨V,.int .i64 ((Nat.min ys.length len:Nat):Int),w',?_,V.cN lab,rfl,pC⟩
  rcases hh with ⟨rfl,pE⟩ | ⟨ad,c,rfl,bY⟩
  .have:ys=[]:=by simpa using pE
   subst this
   have hf:=run_firstCells_none (P:=P) (w:=w) 1 0 0 0
   simp at hr
   simp [Builtin.copy_,run_underlying ht,Builtin.lenOf,run_sizeOf hi,iC,hf,hr,goInt]
  .have hf:=run_firstCells_some (P:=P) (w:=w) 1 (Nat.min ys.length len) ad ys.length c ((ys.take (Nat.min ys.length len)).map (Value.int k))
    (by rw [List.length_map,List.length_take,Nat.mul_one];exact Nat.min_eq_left (Nat.min_le_left _ _))
    (fun j q hj=>by
     rw [List.map_take,List.getElem?_take] at hj
     split at hj
     .exact bY j q hj
     .cases hj)
   have e1:(ys.map (Value.int k)).length=ys.length:=by simp
   rw [e1]
   simp [Builtin.copy_,run_underlying ht,Builtin.lenOf,run_sizeOf hi,iC,goInt] at hf hr |-
   simp [hf,hr]
 split at he
 .rename_i cs ety hB
  simp only [aV] at he
  subst he
  exact fin _ _ (Aw lab _ _ hT (aO l _ hB) hβ (ho _ dB)) (tM (hT.sub aO) hy hq (fun q hq=>ho q (eK _ hq)))
 .rename_i k2 xs ety hB
  split at he
  case h_2=>cases he
  rename_i yR
  simp only [aV] at he
  subst he
  have yR:k=k2:=jG yR
  subst yR
  have hle:off+Nat.min ys.length len<=xs.length:=ho _ dB
  have MW:(ys.take (Nat.min ys.length len)).length=Nat.min ys.length len:=by rw [List.length_take];exact Nat.min_eq_left (Nat.min_le_left _ _)
  have:=nR (P:=P) (xs:=ys.take (Nat.min ys.length len)) (off:=off) lab (.int false .i64 ((Nat.min ys.length len:Nat):Int)) ((off+Nat.min ys.length len<=xs.length)::ob) hT (aO l _ hB) (b:=p.1) (o:=p.2) hβ (by omega)
  rw [MW] at this
  exact fin _ _ this (tM (hT.sub aO) hy hq (fun q hq=>ho q (eK _ hq)))
 .cases he
theorem wM {t t2 ty el:TypeId} {ik:IntKind} {i:TypeInfo} {z z0 v:Value} (ht:P.underlying t=some (.slice el)) (Mm:P.underlying t2=some (.int ik)) (hi:P.info? el=some i) (hz:i.zero=some z) (fX:i.size=1) (Cc:z.cells = #[z0]) (h1:z0.oneCell'=true)
 (k0:IntKind) (m:Nat) (h0:0<m) {n:Nat} {xs:List Value} (fD:w.ownsRow 0 el 1 v n xs) (ZC:n+m<=maxLen) (hb:(n+m)*i.bytes<=140737488355328) :
 ∃ v' w',(Builtin.append_ #[t,t2] ty #[v,.int k0 m]).run P w = .ok v' w'/\w'.ownsRow 0 el 1 v' (n+m) (xs++List.replicate m z0)/\w.grownBy w' v.ownBlock/\(v'.ownBlock=v.ownBlock\/v'.ownBlock=some w.heap.size) /\
   ∀ k,gO w k v->(∃ q,z0=Value.int k q)->gO w' k v':=by
 have Ny:n+m<=9223372036854775807:=by simp only [maxLen] at ZC;omega
 have rJ:∀ c,Builtin.zeroCells z.cells c=(List.replicate c z0).toArray:=fun c=>by rw [Cc,hH]
 have hw:IntKind.i64.wrap (m:Int)=m:=IntWalk.i64_in _ (by omega)
 have hmm:¬ ((m:Int)<0):=by omega
 have hbm:m*i.bytes<=140737488355328:=Nat.le_trans (Nat.mul_le_mul_right _ (Nat.le_add_left m n)) hb
 have h2:¬ (281474976710656<(m:Int)*(i.bytes:Int)):=by
  have:((m*i.bytes:Nat):Int)<=140737488355328:=by omega
  rw [Int.natCast_mul] at this
  omega
 rcases fD.2 with ⟨rfl,rfl⟩ | ⟨g,cap,cur,rfl,_,hg,MV,NW,nU,dK⟩
 .have nE:xs=[]:=List.eq_nil_of_length_eq_zero (by simpa using fD.1)
  subst nE
  rw [Nat.zero_add] at ZC hb Ny
  have hr:=oW (P:=P) (ty:=ty) w ht Mm hi hz fX k0 m h0 (by omega) hb
  have ZA:=grownCap_ge w m 0 el
  have YZ:grownCap w m 0 el<=maxLen:=grownCap_le_maxLen w m 0 el (by simp only [maxLen];omega)
  refine ⟨_,_,hr,⟨by simp,.inr ⟨w.heap.size,grownCap w m 0 el,_,by rw [Nat.zero_add],Nat.zero_le _,heap_alloc_new w.drew _,by omega,YZ,?_,?_⟩⟩,⟨rfl,rfl,rfl,by simp,fun k hk _=>heap_alloc_old w.drew _ hk⟩,.inr rfl,fun k _ hq b hb=>?_⟩
  .rw [rJ,rJ];simp;omega
  .rw [rJ,rJ];simp
  .cases hb
   obtain ⟨q,rfl⟩:=hq
   refine ⟨_,_,_,heap_alloc_new w.drew _,fun x hx=>?_⟩
   rw [rJ,rJ] at hx
   simp only [Array.toList_append,List.mem_append] at hx
   rcases hx with hx | hx <;> exact ⟨q,List.eq_of_mem_replicate hx⟩
 .rw [Nat.mul_one] at nU dK
  have aKh:cur.toList.length=cap:=by rw [Array.length_toList];exact nU
  by_cases tD:n+m<=cap
  .have Fj:=run_storeCells_at P g n el (List.replicate m z0) 0 cur w hg (by simp;omega) (fun u hu=>by rw [List.eq_of_mem_replicate hu];exact h1)
   simp only [Nat.add_zero,List.length_replicate] at Fj
   have hr:(Builtin.append_ #[t,t2] ty #[.slice (some ⟨g,0,none⟩) n cap,.int k0 m]).run P w = .ok (.slice (some ⟨g,0,none⟩) (n+m) cap) (w.setRow g (cur.toList.take n++List.replicate m z0++cur.toList.drop (n+m)).toArray):=by
    have dJ:m≠0:=by omega
    simp [Builtin.append_,run_underlying ht,run_underlying Mm,sizeOf,typeInfo,zeroValue,hi,hz,fX,asInt,asIntOf,hw,hmm,h2,dJ,tD,rJ,Addr.add_lit,Fj]
   refine ⟨_,_,hr,⟨by simp [fD.1],.inr ⟨g,cap,_,rfl,Nat.zero_le _,setRow_heap w g cur _ el (0,0) hg,tD,NW,?_,?_⟩⟩,⟨rfl,rfl,rfl,by simp [World.setRow],fun k _ hk=>setRow_other w g k _ (fun e=>hk (by simp [Value.ownBlock,e]))⟩,.inl rfl,fun k hI hq b hb=>?_⟩
   .simp;omega
   .have hl:(cur.toList.take n).length=n:=by rw [List.length_take];omega
    rw [Nat.mul_one,<- dK,List.take_append_of_le_length (by simp;omega)]
    rw [List.take_of_length_le (by simp;omega)]
   .cases hb
    obtain ⟨q,rfl⟩:=hq
    obtain ⟨aCm,ty2,p2,wP,kB⟩:=hI g rfl
    rw [hg] at wP
    cases wP
    refine ⟨_,_,_,setRow_heap w g cur _ el (0,0) hg,fun x hx=>?_⟩
    simp only [List.mem_append] at hx
    rcases hx with (hx | hx) | hx
    .exact kB x (List.mem_of_mem_take hx)
    .exact ⟨q,List.eq_of_mem_replicate hx⟩
    .exact kB x (List.mem_of_mem_drop hx)
  .have holds:∀ (j:Nat) (u:Value),xs[j]?=some u->w.drew.cell? ((⟨g,0,none⟩:Addr).add j)=some u:=fun j u hj=>by
    have:w.cell? ((⟨g,0,none⟩:Addr).add j)=some u:=by
     rw [bJ,cell_of_row w g _ _ _ _ hg]
     rw [<- dK,List.getElem?_take] at hj
     split at hj
     .simpa using hj
     .cases hj
    simpa using this
   have Zl:=run_firstCells_some (P:=P) w.drew i.size n ⟨g,0,none⟩ n cap xs (by rw [fX];exact fD.1) holds
   rw [fX] at Zl
   have hn:¬ (n+m<=cap):=tD
   have aBy:¬ (9223372036854775807<((n:Int)+(m:Int))):=by omega
   have h48:Builtin.nextslicecap (n+m) cap*i.bytes<=281474976710656:=growslice_fits (by omega) hb
   have aBz:¬ (281474976710656<Builtin.nextslicecap (n+m) cap*i.bytes):=by omega
   have dJ:m≠0:=by omega
   have hr:(Builtin.append_ #[t,t2] ty #[.slice (some ⟨g,0,none⟩) n cap,.int k0 m]).run P w = .ok (.slice (some ⟨w.heap.size,0,none⟩) (n+m) (grownCap w (n+m) cap el))
    (w.drew.alloc (.cells (xs.toArray++Builtin.zeroCells z.cells m++Builtin.zeroCells z.cells (grownCap w (n+m) cap el-(n+m))) el)):=by
    simp [Builtin.append_,run_underlying ht,run_underlying Mm,sizeOf,typeInfo,zeroValue,hi,hz,fX,asInt,asIntOf,hw,hmm,h2,dJ,hn,aBy,aBz,Question.forced,Zl,newRow,grownCap]
   have ZA:=grownCap_ge w (n+m) cap el
   have YZ:grownCap w (n+m) cap el<=maxLen:=grownCap_le_maxLen w (n+m) cap el ZC
   have Fh:=fD.1
   rw [Nat.mul_one] at Fh
   refine ⟨_,_,hr,⟨by simp [Fh],.inr ⟨w.heap.size,_,_,rfl,Nat.zero_le _,heap_alloc_new w.drew _,ZA,YZ,?_,?_⟩⟩,⟨rfl,rfl,rfl,by simp,fun k hk _=>heap_alloc_old w.drew _ hk⟩,.inr rfl,fun k hI hq b hb=>?_⟩
   .rw [rJ,rJ];simp [Fh];omega
   .rw [rJ,rJ,Nat.mul_one]
    simp only [Array.toList_append]
    rw [List.take_append_of_le_length (by simp [Fh]),List.take_of_length_le (by simp [Fh])]
   .cases hb
    obtain ⟨q,rfl⟩:=hq
    obtain ⟨aCm,ty2,p2,wP,kB⟩:=hI g rfl
    rw [hg] at wP
    cases wP
    refine ⟨_,_,_,heap_alloc_new w.drew _,fun x hx=>?_⟩
    rw [rJ,rJ] at hx
    simp only [Array.toList_append,List.mem_append] at hx
    rcases hx with (hx | hx) | hx
    .rw [<- dK] at hx
     exact kB x (List.mem_of_mem_take hx)
    .exact ⟨q,List.eq_of_mem_replicate hx⟩
    .exact ⟨q,List.eq_of_mem_replicate hx⟩
def Mt (te:TI):Int:=match te.zero with
 | [.int _ _ z]=>z
 | _=>0
def DK (T:bB) (d:TypeDesc) (te:TI) (el:TypeId) (lab:Nat) (x y:SV):Option bK:=
 match Ve te.desc,Nat.beq te.size 1&&(Nat.blt 0 te.bytes&&zI te),d,y with
 | some k,true,.int _,.int _ _ m=>match Ee T k el x with
   | some (lo,o1,xs)=>some { bO:=(0<m/\((xs.length:Int)+m)*te.bytes<=140737488355328)::o1,val:=.buf lab,new:=[.dL k (xs++List.replicate m.toNat (Mt te)) el],wr:=gY lo }
   | none=>none
 | _,_,_,_=>none
theorem LL (aW:cA P Γ) {T':bB} (aO:∀ l B,T' l=some B->T l=some B) (hT:aD w0 M V T w) {lab:Nat} (hf:V.fresh lab) {t t2 ty el:TypeId} {d:TypeDesc} {te:TI} (ht:P.underlying t=some (.slice el)) (Mm:P.underlying t2=some d) (eD:Γ.ty el=some te)
 {x y:SV} {u v:Value} (hx:den V x=some u) (hy:den V y=some v) (he:DK T' d te el lab x y=some e) (ho:∀ q∈e.bO,q):oB P w0 M V T lab e (Builtin.append_ #[t,t2] ty #[u,v]) w:=by
 unfold DK at he
 split at he
 case h_2=>cases he
 rename_i k ik sm km m hk jT
 simp only [iG] at jT
 obtain ⟨fX,NX,hzi⟩:=jT
 split at he
 case h_2=>cases he
 rename_i lo o1 xs h1
 simp only [aV] at he
 subst he
 obtain ⟨_,i,z,hi,cD,lO,hz,hzero⟩:=aW el te eD
 have iC:i.size=1:=by rw [cD];exact cM fX
 have pB:0<te.bytes:=by simpa [Nat.blt_eq] using NX
 obtain ⟨hm0,hbound⟩:=ho _ dB
 have ho1:∀ q∈o1,q:=fun q hq=>ho q (eK _ hq)
 have Cc:z.cells = #[Value.int k (Mt te)]:=by
  unfold zI at hzi
  split at hzi
  .rename_i s k1 z1 k2 hz1 NU
   have e1:=jG hzi
   subst e1
   have yR:k1=k:=by
    unfold Ve at hk
    rw [NU] at hk
    simpa using hk
   subst yR
   have h3:=hzero V
   have e2:Mt te=z1:=by unfold Mt;rw [hz1]
   rw [hz1] at h3
   simp only [aI,den,mZ,gQ,aV] at h3
   rw [e2]
   apply Array.ext';rw [<- h3]
  .cases hzi
 obtain ⟨n,rfl⟩:=pD (Int.le_of_lt hm0)
 simp only [den,aV] at hy
 subst hy
 have nC:(xs.length+n)*i.bytes<=140737488355328:=by
  rw [lO]
  have:(((xs.length+n)*te.bytes:Nat):Int)<=140737488355328:=by rw [Int.natCast_mul,Int.natCast_add];exact hbound
  omega
 have AH:xs.length+n<=maxLen:=by
  rw [lO] at nC
  have:=Nat.le_mul_of_pos_right (xs.length+n) pB
  simp only [maxLen];omega
 obtain ⟨bQ,jK,Ii⟩:=Lh (hT.sub aO) hx h1 ho1
 have jH:∀ l,lo=some l->∃ B,T l=some B/\B.owned=true/\∀ n,u.ownBlock=some n->B.aT V l=some n:=fun l hl=>by
  obtain ⟨B,h1,h2,h3⟩:=Ii l hl;exact ⟨B,aO l B h1,h2,h3⟩
 obtain ⟨v',w',hr,rI,sQ,eZ,hI⟩:=wM (P:=P) (ty:=ty) ht Mm hi hz iC Cc rfl km n (by omega) bQ AH nC
 refine ⟨V.aZ lab v',v',w',hr,bA.cC hf lab (dF _) (by omega) v',by simp [den,bA.aZ],?_⟩
 exact hT.append hf ⟨k,xs++List.replicate n (Mt te),rfl,rfl,rfl,hI k (sL (hT.sub aO) hx h1) ⟨_,rfl⟩⟩ (show SB.cells V (.dL k (xs++List.replicate n (Mt te)) el)=some ((xs++List.replicate n (Mt te)).map (Value.int k)) from rfl) (by simpa using rI) sQ eZ jK jH _ _
def txI (s:ByteArray):List Int:=s.data.toList.map fun b=>(b.toNat:Int)
def Oi (T:bB) (te:TI) (x y:SV):Option bK:=
 match x,y,te.desc,Nat.beq te.size 1 with
 | .aG l _ off len _,.raw (.string s),.int .u8,true=>match T l with
   | some (.own cs ty)=>some { bO:=[(pK .u8 cs ty off ((txI s).take (Nat.min s.size len))).1],val:=.int false .i64 ((Nat.min s.size len:Nat):Int),wr:=[(l,(pK .u8 cs ty off ((txI s).take (Nat.min s.size len))).2)] }
   | _=>none
 | _,_,_,_=>none
theorem Xu (aW:cA P Γ) {T':bB} (aO:∀ l B,T' l=some B->T l=some B) (hT:aD w0 M V T w) {lab:Nat} {dT sT ty el:TypeId} {te:TI} (ht:P.underlying dT=some (.slice el)) (eD:Γ.ty el=some te)
 {x y:SV} {u v:Value} (hx:den V x=some u) (hy:den V y=some v) (he:Oi T' te x y=some e) (ho:∀ q∈e.bO,q):oB P w0 M V T lab e (Builtin.copy_ #[dT,sT] ty #[u,v]) w:=by
 unfold Oi at he
 split at he
 case h_2=>cases he
 rename_i l s0 off len cap s hk fX
 split at he
 case h_2=>cases he
 rename_i cs ety hB
 simp only [aV] at he
 subst he
 obtain ⟨_,i,z,hi,cD,lO,hz,hzero⟩:=aW el te eD
 have iC:i.size=1:=by rw [cD];exact cM fX
 simp only [den,dC,aV] at hx hy
 obtain ⟨p,hβ,rfl⟩:=hx
 subst hy
 obtain ⟨w',hr,pC⟩:=Aw (P:=P) lab (.int false .i64 ((Nat.min s.size len:Nat):Int)) [(pK .u8 cs ety off ((txI s).take (Nat.min s.size len))).1] hT (aO l _ hB) (b:=p.1) (o:=p.2) hβ (ho _ dB)
 refine ⟨V,.int .i64 ((Nat.min s.size len:Nat):Int),w',?_,V.cN lab,rfl,pC⟩
 have hf:(Builtin.firstCells 1 (Nat.min s.size len) (.string s)).run P w = .ok (((txI s).take (Nat.min s.size len)).map (Value.int .u8)).toArray w:=by
  simp only [Builtin.firstCells,Sem.run_pure]
  congr 1
  apply Array.ext'
  simp [txI,List.map_take]
  rfl
 simp [Builtin.copy_,run_underlying ht,Builtin.lenOf,run_sizeOf hi,iC,goInt] at hf hr |-
 simp [hf,hr]
def Hq (T:bB) (te:TI) (x:SV):Option bK:=
 match x,te.zero,Nat.beq te.size 1 with
 | .aG l _ off len _,[.int _ k z],true=>match T l with
   | some (.own cs ty)=>some { bO:=[(pK k cs ty off (List.replicate len z)).1],val:=.eF [],wr:=[(l,(pK k cs ty off (List.replicate len z)).2)] }
   | _=>none
 | _,_,_=>none
theorem Qh (aW:cA P Γ) {T':bB} (aO:∀ l B,T' l=some B->T l=some B) (hT:aD w0 M V T w) {lab:Nat} {t ty el:TypeId} {te:TI} (ht:P.underlying t=some (.slice el)) (eD:Γ.ty el=some te)
 {x:SV} {u:Value} (hx:den V x=some u) (he:Hq T' te x=some e) (ho:∀ q∈e.bO,q):oB P w0 M V T lab e (Builtin.clear_ #[t] ty #[u]) w:=by
 unfold Hq at he
 split at he
 case h_2=>cases he
 rename_i l s off len cap sz k z hzz fX
 split at he
 case h_2=>cases he
 rename_i cs ety hB
 simp only [aV] at he
 subst he
 obtain ⟨_,i,zv,hi,cD,lO,hz,hzero⟩:=aW el te eD
 have Cc:zv.cells = #[.int k z]:=by
  have:=hzero V
  rw [hzz] at this
  simp only [aI,den,mZ,gQ,aV] at this
  rw [<- Array.toList_inj,<- this]
 simp only [den,dC] at hx
 obtain ⟨p,hβ,rfl⟩:=hx
 obtain ⟨w',hr,pC⟩:=Aw (P:=P) (ys:=List.replicate len z) (k:=k) (off:=off) lab (.eF []) [(pK k cs ety off (List.replicate len z)).1] hT (aO l _ hB) (b:=p.1) (o:=p.2) hβ (ho _ (by simp))
 cases len with
 | zero=>
   refine ⟨V,.tuple #[],w',?_,V.cN lab,by simp [den,aI],pC⟩
   simp only [List.replicate_zero,List.map_nil,storeCells,Sem.run_pure,Result.ok.injEq,true_and] at hr
   subst hr
   simp [Builtin.clear_,run_underlying ht]
 | succ n=>
   refine ⟨V,.tuple #[],w',?_,V.cN lab,by simp [den,aI],pC⟩
   have hzl:(Builtin.zeroCells zv.cells (n+1)).toList=(List.replicate (n+1) z).map (Value.int k):=by
    rw [Cc,hH]
    simp
   rw [<- hzl] at hr
   simp [Builtin.clear_,run_underlying ht,dV hi hz,hr]
end YJ
def uV (Γ:Env) (T:bB) (lab:Nat) (b:Builtin) (ts:List TypeId) (vs:List SV):Option bK:=
 match b,ts,vs with
 | .len,t::_,[v]=>match Γ.ty t with
   | some ti=>aCh Γ T ti.desc v
   | none=>none
 | .cap,t::_,[v]=>match Γ.ty t with
   | some ti=>match ti.desc with
     | .slice _=>aCi v
     | _=>none
   | none=>none
 | .append,[t,t2],[x,y]=>match Nat.beq t t2,y with
   | false,.int .. => match Γ.ty t,Γ.ty t2 with
     | some ti,some ti2=>match ti.desc with
       | .slice el=>match Γ.ty el with
         | some te=>kW (Bn ti2.desc te el lab x y) (DK T ti2.desc te el lab x y)
         | none=>none
       | _=>none
     | _,_=>none
   | _,_=>match Γ.ty t,Nat.beq t t2 with
     | some ti,true=>match ti.desc with
       | .slice el=>match Γ.ty el with
         | some te=>kW (DM T te el lab x y) (kW (DN T te x y) (kW (DL T te el lab x y) (kW (DP T te el lab x y) (DO T te el lab x y))))
         | none=>none
       | _=>none
     | _,_=>none
 | .copy,[t,_],[x,y]=>match Γ.ty t with
   | some ti=>match ti.desc with
     | .slice el=>match Γ.ty el with
       | some te=>kW (Ol T te.size x y) (kW (Oj T te x y) (Oi T te x y))
       | none=>none
     | _=>none
   | none=>none
 | .clear,[t],[x]=>match Γ.ty t with
   | some ti=>match ti.desc with
     | .slice el=>match Γ.ty el with
       | some te=>kW (Hr T te x) (kW (Hs T te x) (Hq T te x))
       | none=>none
     | _=>none
   | none=>none
 | _,_,_=>none
def DI (Γ:Env) (g:Nat->Option SV) (T:bB) (lab F:Nat) (c:Call):Option bK:=
 match OA Γ g c.args.toList with
 | none=>none
 | some vs=>match c.callee with
   | .builtin b=>uV Γ T lab b c.argTypes.toList vs
   | .value f=>match ev Γ g f with
     | some (.fn (.func id) first Fz)=>match Γ.sum id with
       | some S=>S (first++vs++Fz) T lab F
       | none=>none
     | _=>none
   | .invoke _ _=>none
section aWe
variable {P:Program} {Γ:Env} {V:bA} {w w0:World} {M:Nat->Prop} {T:bB} {g:Nat->Option SV} {a:Act} {o:Oper} {e:bK}
def On (Γ:Env) (g:Nat->Option SV) (T:bB) (src dst:TypeId) (x:Operand):Option bK:=
 match ev Γ g x,Γ.ty src with
 | some (.aG l s off len cap),some ts=>match ts.desc with
   | .slice el=>match Γ.ty el,T l with
     | some te,some (.own cs _)=>match te.desc,Nat.beq src dst,cR .u8 cs with
       | .int .u8,true,some ns=>some { val:=.aG l s off len cap,wr:=[(l,.nA .u8 ns)] }
       | _,_,_=>none
     | _,_=>none
   | _=>none
 | _,_=>none
theorem Xy (aW:cA P Γ) (ht:cF V g a) (hg:bP Γ V) {T':bB} (aO:∀ l B,T' l=some B->T l=some B) (hT:aD w0 M V T w) {src dst:TypeId} {x:Operand} (bV:o.op = .convert src dst x)
 (he:On Γ g T' src dst x=some e) (lab:Nat):kM P w0 M V T lab e o a w:=by
 unfold On at he
 split at he
 case h_2=>cases he
 rename_i l s off len cap ts hx Zg
 split at he
 case h_2=>cases he
 rename_i el hd
 split at he
 case h_2=>cases he
 rename_i te cs ty eD hB
 split at he
 case h_2=>cases he
 rename_i ns hu8 hsd YX
 have hsd:=cM hsd
 subst hsd
 simp only [aV] at he
 subst he
 have ex:=bH ht hg hx
 simp only [den,dC] at ex
 obtain ⟨⟨b,base⟩,hβ,ex⟩:=ex
 have hu:=(aW src ts Zg).1
 rw [hd] at hu
 have Ci:=(aW el te eD).1
 rw [hu8] at Ci
 obtain ⟨us,hc,b',hb,hh⟩:=hT.ok l _ (aO l _ hB)
 rw [hβ] at hb;cases hb
 have Dj:us=ns.map (Value.int .u8):=by
  have h1:=cQ (V:=V) YX
  rw [show aI V cs=some us from hc] at h1
  exact Option.some.inj h1
 have cL:b<w.heap.size:=(Array.getElem?_eq_some_iff.1 hh).1
 have hfr:∃ w',w'=w.freeze ⟨b,us.length,none⟩ 1:=⟨_,rfl⟩
 obtain ⟨w',MO⟩:=hfr
 have Ac:w'.heap[b]?=some (.cells us.toArray ty (us.length,us.length+1)):=by
  rw [MO]
  simp [World.freeze,Array.getElem?_modify,hh]
 have aSz:∀ n,n≠b->w'.heap[n]?=w.heap[n]?:=fun n hn=>by
  rw [MO]
  simp only [World.freeze]
  rw [if_neg (by decide:¬ (1:Nat)=0)]
  simp only [Array.getElem?_modify]
  rw [if_neg (fun q:b=n=>hn q.symm)]
 have fX:w'.heap.size=w.heap.size:=by rw [MO];simp [World.freeze]
 have dY:(execOp a.eval o).run P w = .ok (.value (a.eval x)) w':=by
  have hsh:w.shape? b=some (ty,us.length):=by simp [World.shape?,hh]
  unfold execOp
  simp [bV,<- ex,convert,run_underlying hu,run_underlying Ci,markStringish,hsh,MO]
 intro K Q hK
 unfold Oper.wp
 rw [dY,Oper.upon_value]
 refine hK V _ w' (V.cN lab) (by rw [<- ex];simp [den,hβ]) ?_
 refine hT.change (B0:=.own cs ty) (B:=.nA .u8 ns) (b:=b) (aO l _ hB) rfl (by simp [SB.aT,hβ]) ⟨us,by rw [Dj];rfl,b,0,hβ,⟨by omega,fun s hs=>?_⟩,fun j v hj=>?_⟩ (by simp [SB.aT,hβ]) (by omega) (fun n _ dJ=>aSz n dJ) (by rw [MO];simp [World.freeze]) (by rw [MO];simp [World.freeze]) (by rw [MO];simp [World.freeze]) lab _ []
 .rw [Dj] at hs
  simp at hs
 .simp [World.cell?,Ac,hj]
def Hn (Γ:Env) (g:Nat->Option SV) (T:bB) (t:TypeId) (x y:Operand):Option bK:=
 match ev Γ g x,ev Γ g y,Γ.ty t with
 | some (.buf l),some (.int _ _ k),some ti=>match ti.desc,T l with
   | .slice el,some (.dL _ xs _)=>match Γ.ty el with
     | some te=>match Nat.beq te.size 1 with
       | true=>some { bO:=[0<=k/\k<xs.length],val:=.iS l k.toNat }
       | false=>none
     | none=>none
   | _,_=>none
 | _,_,_=>none
theorem Qe (aW:cA P Γ) (ht:cF V g a) (hg:bP Γ V) {T':bB} (aO:∀ l B,T' l=some B->T l=some B) (hT:aD w0 M V T w) {t:TypeId} {x y:Operand} (bV:o.op = .indexAddr t x y)
 (he:Hn Γ g T' t x y=some e) (ho:∀ q∈e.bO,q) (lab:Nat):kM P w0 M V T lab e o a w:=by
 unfold Hn at he
 split at he
 case h_2=>cases he
 rename_i l sk kk k ti hx hy dX
 split at he
 case h_2=>cases he
 rename_i el k2 xs ty hd hB
 split at he
 case h_2=>cases he
 rename_i te eD
 split at he
 case h_2=>cases he
 rename_i iC
 have iC:=cM iC
 simp only [aV] at he
 subst he
 have hb:0<=k/\k<xs.length:=ho _ (by simp)
 have ex:=bH ht hg hx
 have ey:=bH ht hg hy
 simp only [den,aV] at ex ey
 obtain ⟨us,hc,v,hσ,bQ⟩:=hT.ok l _ (aO l _ hB)
 rw [hσ] at ex
 cases ex
 rcases bQ.1.2 with ⟨hv,h0⟩ | ⟨b,cap,cur,hv,_⟩
 .omega
 obtain ⟨_,i,z,hi,cD,_⟩:=aW el te eD
 have hu:=(aW t ti dX).1
 rw [hd] at hu
 refine bE (x:=.pointer (some ⟨b,0+k.toNat*te.size,none⟩)) ?_ (by simp [den,hσ,hv,bJ,iC]) rfl rfl hT
 unfold execOp
 simp only [bV,hv,<- ey,Instr.indexAt,asIntOf,Sem.run_bind,Sem.run_pure,run_underlying hu w,Result.andThen_ok,if_pos hb,run_sizeOf hi,cD,bJ]
def Hf (Γ:Env) (g:Nat->Option SV) (T:bB) (t:TypeId) (x y:Operand):Option bK:=
 match ev Γ g x,ev Γ g y,Γ.ty t with
 | some (.iS l off),some (.int _ k n),some ti=>match T l,Nat.beq ti.size 1 with
   | some (.dL k2 xs ty),true=>match decide (k2=k) with
     | true=>some { bO:=[off<xs.length],val:=.raw undef,wr:=[(l,.dL k (xs.set off n) ty)] }
     | false=>none
   | _,_=>none
 | _,_,_=>none
theorem Pw (aW:cA P Γ) (ht:cF V g a) (hg:bP Γ V) {T':bB} (aO:∀ l B,T' l=some B->T l=some B) (hT:aD w0 M V T w) {t:TypeId} {x y:Operand} (bV:o.op = .store t x y)
 (he:Hf Γ g T' t x y=some e) (ho:∀ q∈e.bO,q) (lab:Nat):kM P w0 M V T lab e o a w:=by
 unfold Hf at he
 split at he
 case h_2=>cases he
 rename_i l off sk k n ti hx hy dX
 split at he
 case h_2=>cases he
 rename_i k2 xs ty hB iC
 split at he
 case h_2=>cases he
 rename_i hk
 have hk:=jG hk
 subst hk
 have iC:=cM iC
 simp only [aV] at he
 subst he
 have hb:off<xs.length:=ho _ (by simp)
 have ex:=bH ht hg hx
 have ey:=bH ht hg hy
 simp only [den,aV] at ey
 obtain ⟨hu,i,z,hi,cD,_⟩:=aW t ti dX
 obtain ⟨us,hc,v,hσ,bQ⟩:=hT.ok l _ (aO l _ hB)
 have hc':us=xs.map (Value.int k2):=(Option.some.inj hc).symm
 subst hc'
 obtain ⟨bQ,hI⟩:=bQ
 rcases bQ.2 with ⟨hv,h0⟩ | ⟨b,cap,cur,hv,_,hh,hle,rM,nU,dK⟩
 .omega
 subst hv
 simp only [den,hσ,aV] at ex
 have Fj:=(World.ownsRow.stored bQ off (.int k2 n))
 obtain ⟨aSy,AD⟩:=Fj
 have cL:off<cur.size:=by omega
 have dY:(execOp a.eval o).run P w = .ok .skip (w.setCell ⟨b,off,none⟩ (.int k2 n)):=by
  have gK:w.cell? ⟨b,off,none⟩=some cur[off]:=by simp [World.cell?,hh,cL]
  have hfz:w.frozen? ⟨b,off,none⟩=false:=World.ownsRow.frozenAt bQ off
  have aGf:(store (⟨b,off,none⟩:Addr) (.int k2 n)).run P w = .ok () (w.setCell ⟨b,off,none⟩ (.int k2 n)):=by
   rw [run_store P w _ _ _ rfl,gK]
   simp [hfz]
  have hz1:i.size=1:=by omega
  unfold execOp
  simp [bV,<- ex,<- ey,Instr.storeAt,Instr.sureAddr,storeVar,run_sizeOf hi,hz1,Value.cells,storeCells,bJ,aGf]
 intro K Q hK
 unfold Oper.wp
 rw [dY,Oper.upon_skip]
 refine hK V undef _ (V.cN lab) rfl ?_
 refine hT.change (B0:=.dL k2 xs ty) (B:=.dL k2 (xs.set off n) ty) (b:=b) (aO l _ hB) rfl (by simp [SB.aT,hσ,Value.ownBlock]) ⟨_,rfl,_,hσ,?_⟩ (by simp [SB.aT,hσ,Value.ownBlock]) AD.size (fun m hm dJ=>AD.block m hm (fun q=>dJ (Option.some.inj q))) AD.os AD.tape AD.output lab _ _
 rw [List.length_set,List.map_set]
 refine ⟨aSy,fun b' hb=>?_⟩
 cases hb
 obtain ⟨aCm,ty2,p2,wP,kB⟩:=hI b rfl
 rw [hh] at wP
 cases wP
 refine ⟨_,_,_,heap_setCell_same w b off cur _ (.int k2 n) hh,fun q hq=>?_⟩
 rw [Array.toList_setIfInBounds] at hq
 rcases List.mem_or_eq_of_mem_set hq with hq | hq
 .exact kB q hq
 .exact ⟨n,hq⟩
end aWe
section aWd
variable {P:Program} {Γ:Env} {V:bA} {w w0:World} {M:Nat->Prop} {T:bB} {g:Nat->Option SV} {a:Act} {o:Oper} {e:bK}
def AX (ys:List Int):ByteArray:=ys.foldl (fun r n=>r.push (UInt8.ofNat n.toNat)) ByteArray.empty
def Om (Γ:Env) (g:Nat->Option SV) (T:bB) (src dst:TypeId) (x:Operand):Option bK:=
 match ev Γ g x,Γ.ty src,Γ.ty dst with
 | some v,some ts,some td=>match ts.desc,td.desc with
   | .slice el,.string=>match Γ.ty el,Ux T .u8 v with
     | some te,some (ob,ys)=>match te.desc with
       | .int .u8=>some { bO:=ob,val:=.raw (.string (AX ys)) }
       | _=>none
     | _,_=>none
   | _,_=>none
 | _,_,_=>none
theorem Xx (aW:cA P Γ) (ht:cF V g a) (hg:bP Γ V) {T':bB} (aO:∀ l B,T' l=some B->T l=some B) (hT:aD w0 M V T w) {src dst:TypeId} {x:Operand} (bV:o.op = .convert src dst x)
 (he:Om Γ g T' src dst x=some e) (ho:∀ q∈e.bO,q) (lab:Nat):kM P w0 M V T lab e o a w:=by
 unfold Om at he
 split at he
 case h_2=>cases he
 rename_i v ts td hx Zg htd
 split at he
 case h_2=>cases he
 rename_i el NU MY
 split at he
 case h_2=>cases he
 rename_i te ob ys eD hq
 split at he
 case h_2=>cases he
 rename_i hu8
 simp only [aV] at he
 subst he
 have ex:=bH ht hg hx
 have hh:=tM (hT.sub aO) ex hq ho
 have hu:=(aW src ts Zg).1
 rw [NU] at hu
 have hud:=(aW dst td htd).1
 rw [MY] at hud
 have Ci:=(aW el te eD).1
 rw [hu8] at Ci
 refine bE (x:=.string (AX ys)) ?_ rfl rfl rfl hT
 unfold execOp
 simp only [bV,Sem.run_bind]
 rcases hh with ⟨hv,pE⟩ | ⟨ad,c,hv,bY⟩
 .have:ys=[]:=by simpa using pE
  subst this
  rw [hv,run_convert_bytes_string w src dst el _ _ _ hu Ci hud]
  simp [Conv.bytesToString,AX]
 .have hf:=run_firstCells_some (P:=P) (w:=w) 1 ys.length ad ys.length c (ys.map (Value.int .u8)) (by simp) bY
  simp only [Builtin.firstCells,Nat.mul_one] at hf
  rw [hv,List.length_map,run_convert_bytes_string w src dst el _ _ _ hu Ci hud,run_bytesToString w ad ys.length c ys hf]
  rfl
def Gj (Γ:Env) (g:Nat->Option SV) (op:BinOp) (x y:Operand):Option bK:=
 match ev Γ g x,ev Γ g y,op with
 | some (.raw (.string s)),some (.raw (.string t)),.eql=>some { val:=.bool false (s.toList==t.toList) }
 | some (.raw (.string s)),some (.raw (.string t)),.neq=>some { val:=.bool false (!(s.toList==t.toList)) }
 | _,_,_=>none
theorem Ew (ht:cF V g a) (hg:bP Γ V) (hT:aD w0 M V T w) {op:BinOp} {t t2:TypeId} {x y:Operand} (bV:o.op = .binOp op t x y t2)
 (he:Gj Γ g op x y=some e) (lab:Nat):kM P w0 M V T lab e o a w:=by
 unfold Gj at he
 split at he
 case h_3=>cases he
 all_goals
  rename_i s s2 hx hy
  simp only [aV] at he
  subst he
  have ex:=bH ht hg hx
  have ey:=bH ht hg hy
  simp only [den,aV] at ex ey
 .refine bE (x:=.bool (s.toList==s2.toList)) ?_ rfl rfl rfl hT
  unfold execOp
  have xX:=cP (P:=P) w .eql t x y (.string s) (.string s2) (fun e=>by cases e.1) (fun _ e=>by cases e)
  simp [bV,<- ex,<- ey,binOp,Op.stringOp,xX]
 .refine bE (x:=.bool (!(s.toList==s2.toList))) ?_ rfl rfl rfl hT
  unfold execOp
  have xX:=cP (P:=P) w .neq t x y (.string s) (.string s2) (fun e=>by cases e.1) (fun _ e=>by cases e)
  simp [bV,<- ex,<- ey,binOp,Op.stringOp,xX]
end aWd
def zU (Γ:Env) (g:Nat->Option SV) (T:bB) (lab F:Nat) (h:Option Bool) (o:Oper):Option bK:=
 match o.op with
 | .move x=>Rs Γ g x
 | .assign x=>Rs Γ g x
 | .pick c x y=>DF Γ g c x y
 | .alloc t=>Oq Γ t lab
 | .box t x=>kW (aCj Γ g T t x lab) (DJ Γ g t x lab)
 | .build t ps=>Oo Γ g T t ps
 | .buildSlice t n ps=>qC Γ g T t n ps lab
 | .load t x=>kW (Og Γ g T t x) (kW (DG Γ g T t x) (Of Γ g T t x))
 | .store t x y=>kW (Oc Γ g T t x y) (kW (Hg Γ g T t x y) (kW (He Γ g T t x y) (Hf Γ g T t x y)))
 | .nilCheck x=>aCg Γ g x
 | .binOp op t x y _=>match op with
   | .eql=>kW (AT Γ g h .eql t x y) (kW (Rr Γ g T .eql t x y) (kW (Gm Γ g .eql t x y) (kW (Gk Γ g .eql t x y) (Gj Γ g .eql x y))))
   | .neq=>kW (AT Γ g h .neq t x y) (kW (Rr Γ g T .neq t x y) (kW (Gm Γ g .neq t x y) (kW (Gk Γ g .neq t x y) (Gj Γ g .neq x y))))
   | _=>AT Γ g h op t x y
 | .unOp op _ x=>eUn Γ g op x
 | .convert s d x=>kW (DH Γ g s d x) (kW (On Γ g T s d x) (Om Γ g T s d x))
 | .sliceToArrayPointer t x=>aCk Γ g t x
 | .makeInterface t x=>sJ Γ g t x
 | .makeFunc f xs cs=>wH Γ g f xs cs
 | .makeSlice t x y=>kW (sI Γ g t x y lab) (Oe Γ g t x y lab)
 | .slice t x lo hi mx=>kW (Hk Γ g T t x lo hi mx) (kW (Od Γ g T t x lo hi mx) (kW (Hh Γ g T t x lo hi mx lab) (kW (Hj Γ g T t x lo hi mx lab) (Hi Γ g T t x lo hi mx lab))))
 | .fieldAddr t x n=>Oh Γ g t x n
 | .field t x n=>Hp Γ g t x n
 | .indexAddr t x y=>kW (sK Γ g t x y) (kW (Hn Γ g T t x y) (Hm Γ g t x y))
 | .index t x y=>kW (Hl Γ g t x y) (Ho Γ g t x y)
 | .extract x i=>Bm Γ g x i
 | .call c=>DI Γ g T lab F c
 | _=>none
theorem mE {a b:Nat} (h:Nat.beq a b=false):a≠b:=fun e=>by subst e;rw [Nat.beq_refl] at h;cases h
section Fm
variable {P:Program} {Γ:Env} {V:bA} {w w0:World} {M:Nat->Prop} {T:bB} {g:Nat->Option SV} {a:Act} {o:Oper} {e:bK}
theorem La {xs:Array Operand} {vs:List SV} (ht:cF V g a) (hg:bP Γ V) (h:OA Γ g xs.toList=some vs):aI V vs=some (xs.map a.eval).toList:=by
 rw [Array.toList_map];exact Gh ht hg h
theorem pX {v:SV} {xs:List Value} (h:aI V [v]=some xs):∃ x,xs=[x]/\den V v=some x:=by
 simp only [aI,dC,gL] at h
 obtain ⟨x,hx,ys,hy,rfl⟩:=h
 simp only [aV] at hy
 subst hy
 exact ⟨x,rfl,hx⟩
theorem Bo {u v:SV} {xs:List Value} (h:aI V [u,v]=some xs):∃ x y,xs=[x,y]/\den V u=some x/\den V v=some y:=by
 simp only [aI,dC,gL] at h
 obtain ⟨x,hx,ys,⟨y,hy,zs,hz,rfl⟩,rfl⟩:=h
 simp only [aV] at hz
 subst hz
 exact ⟨x,y,rfl,hx,hy⟩
def aVq (b:Builtin) (Cn:Array TypeId) (ty:TypeId) (xs:Array Value):Sem Value:=match b with
 | .len=>Builtin.len_ Cn ty xs
 | .cap=>Builtin.cap_ Cn ty xs
 | .append=>Builtin.append_ Cn ty xs
 | .copy=>Builtin.copy_ Cn ty xs
 | .clear=>Builtin.clear_ Cn ty xs
 | _=>stuck ""
theorem Lx (aW:cA P Γ) {T':bB} (aO:∀ l B,T' l=some B->T l=some B) (hT:aD w0 M V T w) {lab:Nat} (hf:V.fresh lab) {b:Builtin} {Cn:Array TypeId} {ty:TypeId} {vs:List SV} {xs:Array Value}
 (hv:aI V vs=some xs.toList) (he:uV Γ T' lab b Cn.toList vs=some e) (ho:∀ q∈e.bO,q) :
 oB P w0 M V T lab e (aVq b Cn ty xs) w:=by
 obtain ⟨ts,Zg⟩:∃ ts,Cn.toList=ts:=⟨_,rfl⟩
 rw [Zg] at he
 unfold uV at he
 split at he
 .rename_i t r v
  split at he
  case h_2=>cases he
  rename_i ti dX
  obtain ⟨x,hx,hd⟩:=pX hv
  have nE:xs = #[x]:=by apply Array.ext';simpa using hx
  subst nE
  have yT:Cn[0]?=some t:=by rw [<- Array.getElem?_toList,Zg];rfl
  exact nS (XN (ty:=ty) aW aO hT yT (aW t ti dX).1 hd he) hT
 .rename_i t r v
  split at he
  case h_2=>cases he
  rename_i ti dX
  split at he
  case h_2=>cases he
  rename_i el Zm
  obtain ⟨x,hx,hd⟩:=pX hv
  have nE:xs = #[x]:=by apply Array.ext';simpa using hx
  subst nE
  have yT:Cn[0]?=some t:=by rw [<- Array.getElem?_toList,Zg];rfl
  have hu:=(aW t ti dX).1
  rw [Zm] at hu
  exact nS (XP (ty:=ty) yT hu hd he) hT
 .rename_i t t2 x y
  split at he
  .rename_i s k n htt
   split at he
   case h_2=>cases he
   rename_i ti ti2 dX aJz
   split at he
   case h_2=>cases he
   rename_i el Zm
   split at he
   case h_2=>cases he
   rename_i te eD
   obtain ⟨p,q,hx,hp,hq⟩:=Bo hv
   have nE:xs = #[p,q]:=by apply Array.ext';simpa using hx
   subst nE
   have Nd:Cn = #[t,t2]:=by apply Array.ext';simpa using Zg
   subst Nd
   have hu:=(aW t ti dX).1
   rw [Zm] at hu
   unfold kW at he
   split at he
   .rename_i h1;cases he;exact Ly (ty:=ty) aW hT hf hu (aW t2 ti2 aJz).1 eD hp hq h1 ho
   .exact LL (ty:=ty) aW aO hT hf hu (aW t2 ti2 aJz).1 eD hp hq he ho
  .split at he
   case h_2=>cases he
   rename_i ti dX htt
   have:=cM htt
   subst this
   split at he
   case h_2=>cases he
   rename_i el Zm
   split at he
   case h_2=>cases he
   rename_i te eD
   obtain ⟨p,q,hx,hp,hq⟩:=Bo hv
   have nE:xs = #[p,q]:=by apply Array.ext';simpa using hx
   subst nE
   have Nd:Cn = #[t,t]:=by apply Array.ext';simpa using Zg
   subst Nd
   have hu:=(aW t ti dX).1
   rw [Zm] at hu
   unfold kW at he
   split at he
   .rename_i e' gU
    cases he
    exact LN (ty:=ty) aW aO hT hf hu eD hp hq gU ho
   .split at he
    .rename_i e' gU
     cases he
     exact LO (ty:=ty) aW aO hT hu eD hp hq gU ho
    .split at he
     .rename_i e' gU
      cases he
      exact LM (ty:=ty) aW aO hT hf hu eD hp hq gU ho
     .split at he
      .rename_i e' gU
       cases he
       exact LQ (ty:=ty) aW aO hT hf hu eD hp hq gU
      .exact LP (ty:=ty) aW aO hT hf hu eD hp hq he ho
 .rename_i t t2 x y
  split at he
  case h_2=>cases he
  rename_i ti dX
  split at he
  case h_2=>cases he
  rename_i el Zm
  split at he
  case h_2=>cases he
  rename_i te eD
  obtain ⟨p,q,hx,hp,hq⟩:=Bo hv
  have nE:xs = #[p,q]:=by apply Array.ext';simpa using hx
  subst nE
  have Nd:Cn = #[t,t2]:=by apply Array.ext';simpa using Zg
  subst Nd
  have hu:=(aW t ti dX).1
  rw [Zm] at hu
  unfold kW at he
  split at he
  .rename_i e' gU
   cases he
   exact Xw (ty:=ty) aW aO hT hu eD hp hq gU
  .split at he
   .rename_i e' gU
    cases he
    exact Xv (ty:=ty) aW aO hT hu eD hp hq gU ho
   .exact Xu (ty:=ty) aW aO hT hu eD hp hq he ho
 .rename_i t x
  split at he
  case h_2=>cases he
  rename_i ti dX
  split at he
  case h_2=>cases he
  rename_i el Zm
  split at he
  case h_2=>cases he
  rename_i te eD
  obtain ⟨p,hx,hp⟩:=pX hv
  have nE:xs = #[p]:=by apply Array.ext';simpa using hx
  subst nE
  have Nd:Cn = #[t]:=by apply Array.ext';simpa using Zg
  subst Nd
  have hu:=(aW t ti dX).1
  rw [Zm] at hu
  unfold kW at he
  split at he
  .rename_i e' gU
   cases he
   exact Qi (ty:=ty) aW aO hT hu eD hp gU ho
  .split at he
   .rename_i e' gU
    cases he
    exact Qj (ty:=ty) aW aO hT hu eD hp gU
   .exact Qh (ty:=ty) aW aO hT hu eD hp he ho
 .cases he
theorem Lr {lab:Nat} {s:Sem Value} (h:oB P w0 M V T lab e s w) (hr:execOp a.eval o=(do pure (.value (<- s)))):kM P w0 M V T lab e o a w:=by
 obtain ⟨V',x,w',h1,h2,h3,h4⟩:=h
 intro K Q hK
 unfold Oper.wp
 rw [hr]
 simp only [Sem.run_bind,h1,Result.andThen_ok,Sem.run_pure,Oper.upon_value]
 exact hK V' x w' h2 h3 h4
theorem LJ (aW:cA P Γ) (aY:cH P Γ) (ht:cF V g a) (hg:bP Γ V) {T':bB} (aO:∀ l B,T' l=some B->T l=some B) (hT:aD w0 M V T w) {lab F:Nat} (hf:V.fresh lab) (hF:V.top F) {c:Call} (bV:o.op = .call c)
 (he:DI Γ g T' lab F c=some e) (ho:∀ q∈e.bO,q):kM P w0 M V T lab e o a w:=by
 unfold DI at he
 split at he
 case h_1=>cases he
 rename_i vs hvs
 have hd:=La ht hg hvs
 split at he
 .rename_i b hb
  have hs:=Lx (P:=P) (ty:=o.type) aW aO hT hf hd he ho
  refine Lr hs ?_
  unfold execOp
  simp only [bV,resolve,hb]
  unfold uV at he
  split at he <;> first | (cases he;done) | rfl
 .rename_i f hb
  split at he
  case h_2=>cases he
  rename_i id first Fz hfv
  split at he
  case h_2=>cases he
  rename_i S hS
  have ef:=bH ht hg hfv
  simp only [den,gL,dC] at ef
  obtain ⟨xf,hxf,xc,hxc,ef⟩:=ef
  intro K Q hK
  have kB:=cI (cI hxf hd) hxc
  have:=aY.1 id S hS _ _ _ _ _ he ho w0 M V T w _ aO hT hg hf hF kB o a K Q hK
  unfold Oper.wp
  have dY:(execOp a.eval o).run P w=(callFunc id ((xf++(c.args.map a.eval).toList++xc).toArray)).run P w:=by
   unfold execOp
   simp only [bV,resolve,hb,<- ef,Deferred.ofValue,invoke]
   have:(xf++(c.args.map a.eval).toList++xc).toArray=xf.toArray++c.args.map a.eval++xc.toArray:=by
    apply Array.ext';simp
   rw [this]
   rfl
  rw [dY]
  exact this
 .cases he
theorem Eg {l:Nat} {B:SB} {p:Nat × Nat} (h:Nk B=true) (hβ:V.β l=some p) (mV:okB V w l B):B.owned=true/\B.aT V l=some p.1/\p.2=0/\∃ cs ty,w.heap[p.1]?=some (.cells cs ty (0,0)):=by
 obtain ⟨cs,_,h2⟩:=mV
 cases B with
 | own cells ty=>obtain ⟨b,hb,hh⟩:=h2;rw [hβ] at hb;cases hb;exact ⟨rfl,by simp [SB.aT,hβ],rfl,_,_,hh⟩
 | ints k xs ty=>obtain ⟨b,hb,hh⟩:=h2;rw [hβ] at hb;cases hb;exact ⟨rfl,by simp [SB.aT,hβ],rfl,_,_,hh⟩
 | eI vs ty=>obtain ⟨b,hb,hh⟩:=h2;rw [hβ] at hb;cases hb;exact ⟨rfl,by simp [SB.aT,hβ],rfl,_,_,hh⟩
 | row sz cells ty=>obtain ⟨b,_,_,hb,_,hh,_⟩:=h2;rw [hβ] at hb;cases hb;exact ⟨rfl,by simp [SB.aT,hβ],rfl,_,_,hh⟩
 | _=>cases h
theorem jO (d:Nat) {e:TypeId} {k0:IntKind} (he:P.underlying e=some (.int k0)) (aS bs:Array Value) :
 ∀ (xs ys:List SV) (j:Nat) (l r:Bool),lR xs ys=some (l,r)->aI V xs=some (aS.toList.drop j)->aI V ys=some (bs.toList.drop j)->(Op.eqItems (d+1) e 1 aS bs (List.range' j xs.length)).run P w = .ok r w
 | [],[],j,l,r,h,_,_=>by
   simp only [lR,aV,Prod.mk.injEq] at h
   obtain ⟨rfl,rfl⟩:=h
   simp [Op.eqItems]
 | .int s k a::xs,y::ys,j,l,r,h,hx,hy=>by
   cases y <;> simp only [lR] at h <;> first | (cases h;done) | skip
   rename_i s' k' b
   split at h
   case h_2=>cases h
   rename_i l' r' hk hr
   have:=jG hk
   subst this
   simp only [aV,Prod.mk.injEq] at h
   obtain ⟨rfl,rfl⟩:=h
   simp only [aI,den,mZ,dC] at hx hy
   obtain ⟨as',nE,hxa⟩:=hx
   obtain ⟨bs',pE,hyb⟩:=hy
   have ga:aS[j]?=some (.int k a):=by
    have:(aS.toList.drop j)[0]?=some (.int k a):=by rw [<- hxa];rfl
    simpa using this
   have gb:bs[j]?=some (.int k b):=by
    have:(bs.toList.drop j)[0]?=some (.int k b):=by rw [<- hyb];rfl
    simpa using this
   have da:as'=aS.toList.drop (j+1):=by
    have:=congrArg (List.drop 1) hxa
    simpa using this
   have db:bs'=bs.toList.drop (j+1):=by
    have:=congrArg (List.drop 1) hyb
    simpa using this
   have fZ:rP (.int k0)=false:=rfl
   have ih:=jO d he aS bs xs ys (j+1) l' r' hr (da ▸ nE) (db ▸ pE)
   have pa:(part e aS (j*1)).run P w = .ok (.int k a) w:=by
    simp only [Nat.mul_one,part,Sem.run_bind,eJ he,fZ,Result.andThen_ok,Bool.false_eq_true,if_false,ga,Sem.run_pure]
   have pb:(part e bs (j*1)).run P w = .ok (.int k b) w:=by
    simp only [Nat.mul_one,part,Sem.run_bind,eJ he,fZ,Result.andThen_ok,Bool.false_eq_true,if_false,gb,Sem.run_pure]
   simp only [List.length_cons,List.range'_succ,Op.eqItems,Sem.run_bind,pa,pb,Result.andThen_ok,run_equalIn_int w d e k k0 a b he]
   cases hab:(a==b) with
   | true=>simp [ih]
   | false=>simp
 | [],_::_,_,_,_,h,_,_=>by simp [lR] at h
 | x::_,[],_,_,_,h,_,_=>by cases x <;> simp [lR] at h
 | .bool .. :: _,_::_,_,_,_,h,_,_=>by simp [lR] at h
 | .ptr .. :: _,_::_,_,_,_,h,_,_=>by simp [lR] at h
 | .aG .. :: _,_::_,_,_,_,h,_,_=>by simp [lR] at h
 | .agg .. :: _,_::_,_,_,_,h,_,_=>by simp [lR] at h
 | .eF .. :: _,_::_,_,_,_,h,_,_=>by simp [lR] at h
 | .fn .. :: _,_::_,_,_,_,h,_,_=>by simp [lR] at h
 | .rC .. :: _,_::_,_,_,_,h,_,_=>by simp [lR] at h
 | .raw .. :: _,_::_,_,_,_,h,_,_=>by simp [lR] at h
 | .buf .. :: _,_::_,_,_,_,h,_,_=>by simp [lR] at h
 | .iS .. :: _,_::_,_,_,_,h,_,_=>by simp [lR] at h
 | .lS .. :: _,_::_,_,_,_,h,_,_=>by simp [lR] at h
 | .iA .. :: _,_::_,_,_,_,h,_,_=>by simp [lR] at h
 | .ai .. :: _,_::_,_,_,_,h,_,_=>by simp [lR] at h
 | .dD .. :: _,_::_,_,_,_,h,_,_=>by simp [lR] at h
theorem Ld (aW:cA P Γ) (aY:cH P Γ) (ht:cF V g a) (hg:bP Γ V) {T':bB} (aO:∀ l B,T' l=some B->T l=some B) (hT:aD w0 M V T w) {op:BinOp} {t t2:TypeId} {x y:Operand} (bV:o.op = .binOp op t x y t2)
 (he:Rr Γ g T' op t x y=some e) (lab:Nat):kM P w0 M V T lab e o a w:=by
 have fin:∀ {u v:Value} {b:Bool},a.eval x=u->a.eval y=v->(Op.equal t u v).run P w = .ok b w->(binOp .eql t u v=(do pure (.bool (<- Op.equal t u v)))/\binOp .neq t u v=(do pure (.bool (!(<- Op.equal t u v))))) ->
  ¬ (u = .nilIface/\v = .nilIface)->(∀ cs,u ≠ .agg cs)->sY op b=some e->kM P w0 M V T lab e o a w:=by
  intro u v b hu hv hr hb Up hn2 he
  have xX:=cP (P:=P) w op t x y u v Up hn2
  have hx:∃ z,((do eqGuard op t x y u v;binOp op t u v):Sem Value).run P w = .ok z w/\den V e.val=some z/\e.new=[]/\e.wr=[]:=by
   cases op <;> simp only [sY] at he <;> first | (cases he;done) | skip
   .simp only [lit,aV] at he;subst he
    exact ⟨.bool b,by rw [Sem.run_bind,xX,Result.andThen_ok,hb.1,Sem.run_bind,hr];rfl,rfl,rfl,rfl⟩
   .simp only [lit,aV] at he;subst he
    exact ⟨.bool (!b),by rw [Sem.run_bind,xX,Result.andThen_ok,hb.2,Sem.run_bind,hr];rfl,rfl,rfl,rfl⟩
  obtain ⟨z,h1,h2,h3,h4⟩:=hx
  refine bE (x:=z) ?_ h2 h3 h4 hT
  unfold execOp
  simp only [bV,hu,hv]
  rw [Sem.run_bind,h1]
  rfl
 unfold Rr at he
 split at he
 .rename_i l s1 off l' s2 eY hx hy
  have ex:=bH ht hg hx
  have ey:=bH ht hg hy
  simp only [den,dC] at ex ey
  obtain ⟨p,hp,ex⟩:=ex
  obtain ⟨q,hq,ey⟩:=ey
  split at he
  case h_2=>cases he
  rename_i ti dX
  split at he
  case h_2=>cases he
  rename_i el hd
  split at he
  case h_2=>cases he
  rename_i te eD
  have hu:=(aW t ti dX).1
  rw [hd] at hu
  obtain ⟨_,i,z,hi,fX,_⟩:=aW el te eD
  have aTl:∀ (n0:Nat) (b:Bool),(i.size≠0->(sameAddr ⟨p.1,p.2+off,none⟩ ⟨q.1,q.2+eY,none⟩).run P w = .ok b w)->(i.size=0->((⟨p.1,p.2+off,none⟩:Addr)==⟨q.1,q.2+eY,none⟩)=true/\b=true) ->
   (Op.equalIn (n0+1) t (.pointer (some ⟨p.1,p.2+off,none⟩)) (.pointer (some ⟨q.1,q.2+eY,none⟩))).run P w = .ok b w:=by
   intro n0 b h1 h2
   simp only [Op.equalIn,Sem.run_bind,run_underlying hu w,Result.andThen_ok,run_sizeOf hi]
   by_cases h0:i.size=0
   .rw [if_neg (by simp [h0])]
    obtain ⟨h3,rfl⟩:=h2 h0
    rw [if_pos h3];rfl
   .rw [if_pos (by simpa using h0)]
    exact h1 h0
  have heq:∀ (b:Bool),(i.size≠0->(sameAddr ⟨p.1,p.2+off,none⟩ ⟨q.1,q.2+eY,none⟩).run P w = .ok b w)->(i.size=0->((⟨p.1,p.2+off,none⟩:Addr)==⟨q.1,q.2+eY,none⟩)=true/\b=true) ->
   (Op.equal t (.pointer (some ⟨p.1,p.2+off,none⟩)) (.pointer (some ⟨q.1,q.2+eY,none⟩))).run P w = .ok b w:=fun b=>aTl 9999 b
  split at he
  .rename_i NQ
   have:=cM NQ
   subst this
   rw [hp] at hq;cases hq
   split at he
   .rename_i hoo
    have:=cM hoo
    subst this
    exact fin ex.symm ey.symm (heq true (fun _=>run_sameAddr_same w _) (fun _=>⟨by simp,rfl⟩)) ⟨rfl,rfl⟩ (by simp) (by simp) he
   .rename_i hoo
    have dJ:=mE hoo
    split at he
    .cases he
    .rename_i hz
     have hz:=mE hz
     refine fin ex.symm ey.symm (heq false (fun _=>?_) (fun h=>absurd (fX ▸ h) hz)) ⟨rfl,rfl⟩ (by simp) (by simp) he
     simp [sameAddr]
  .rename_i NQ
   have dJ:=mE NQ
   split at he
   case h_2=>cases he
   rename_i B B' hz hB hB'
   have hz:=mE hz
   split at he
   case h_2=>cases he
   rename_i hw
   simp only [iG] at hw
   obtain ⟨o1,b1,z1,cs1,ty1,h1⟩:=Eg hw.1 hp (hT.ok l B (aO l B hB))
   obtain ⟨o2,b2,z2,cs2,ty2,h2⟩:=Eg hw.2 hq (hT.ok l' B' (aO l' B' hB'))
   have Yu:p.1≠q.1:=fun e=>hT.jI l B l' B' p.1 dJ (aO l B hB) (aO l' B' hB') o1 b1 (e ▸ b2)
   refine fin ex.symm ey.symm (heq false (fun _=>?_) (fun h=>absurd (fX ▸ h) hz)) ⟨rfl,rfl⟩ (by simp) (by simp) he
   exact run_sameAddr_other w (by simp) h1 h2
 .rename_i t1 l s1 off t2' l' s2 eY hx hy
  have ex:=bH ht hg hx
  have ey:=bH ht hg hy
  simp only [den,dC] at ex ey
  obtain ⟨_,⟨p,hp,rfl⟩,ex⟩:=ex
  obtain ⟨_,⟨q,hq,rfl⟩,ey⟩:=ey
  split at he
  case h_2=>cases he
  rename_i ti t1i dX ht1
  split at he
  case h_2=>cases he
  rename_i ms el hd NU
  split at he
  case h_2=>cases he
  rename_i te eD
  have hu:=(aW t ti dX).1
  rw [hd] at hu
  obtain ⟨YQ,i1,z1,Uq,_⟩:=aW t1 t1i ht1
  rw [NU] at YQ
  obtain ⟨_,i2,z2,Qz,aSw,_⟩:=aW el te eD
  split at he
  .rename_i hc
   simp only [iG] at hc
   obtain ⟨c1,c2,c3,c4⟩:=hc
   have:=cM c1
   subst this
   have:=cM c2
   subst this
   have:=cM c3
   subst this
   rw [hp] at hq;cases hq
   have aBx:=(aY.2.2.1 t1 c4).1 i1 Uq
   exact fin ex.symm ey.symm (run_equalIn_iface_ptr_same w 9998 _ hu YQ Uq aBx Qz) ⟨rfl,rfl⟩ (by simp) (by simp) he
  .split at he
   case h_2=>cases he
   rename_i s s' hc hs Ce
   split at he
   case h_2=>cases he
   rename_i dJ
   simp only [iG,Bool.not_eq_true'] at hc
   obtain ⟨c1,c4,c5⟩:=hc
   have:=cM c1
   subst this
   have aBx:=(aY.2.2.1 t1 c4).1 i1 Uq
   have look:∀ {l o:Nat} {s:ByteArray} {p:Nat × Nat},OJ T' l o=some s->V.β l=some p->o=0/\tE w p.1/\w.cell? ⟨p.1,p.2,none⟩=some (.string s):=by
    intro l o s p h hp
    unfold OJ at h
    split at h
    case h_2=>cases h
    rename_i s0 r hB
    cases h
    obtain ⟨cs,nU,b,o,hb,h0,hh⟩:=hT.ok l _ (aO l _ hB)
    rw [hp] at hb;cases hb
    simp only [SB.cells,aI,den,gL,dC] at nU
    obtain ⟨v,hv,w',_,rfl⟩:=nU
    cases hv
    refine ⟨rfl,h0.2 s rfl,?_⟩
    have:=hh 0 (.string s) rfl
    simpa using this
   obtain ⟨rfl,⟨ca,ta,ha⟩,kA⟩:=look hs hp
   obtain ⟨rfl,⟨cb,tb,hb⟩,hcb⟩:=look Ce hq
   have hab:(⟨p.1,p.2+0,none⟩:Addr)≠⟨q.1,q.2+0,none⟩:=fun e=>by
    simp only [Nat.add_zero] at e
    rw [e] at kA
    have:=kA.symm.trans hcb
    simp only [aV,Value.string.injEq] at this
    exact EZ dJ (by rw [this])
   exact fin ex.symm ey.symm (run_equalIn_iface_ptr_other w 9998 hu YQ Uq aBx Qz (by rw [aSw];exact mE c5) hab ha hb) ⟨rfl,rfl⟩ (by simp) (by simp) he
 .rename_i xs ys hx hy
  have ex:=bH ht hg hx
  have ey:=bH ht hg hy
  simp only [den,dC] at ex ey
  obtain ⟨aS,has,ex⟩:=ex
  obtain ⟨bs,hbs,ey⟩:=ey
  split at he
  case h_2=>cases he
  rename_i ti dX
  split at he
  case h_2=>cases he
  rename_i n el hd
  split at he
  case h_2=>cases he
  rename_i te eD
  split at he
  case h_2=>cases he
  rename_i k0 l r hdk jT heq
  simp only [iG] at jT
  have h1:=cM jT.1
  have h2:=cM jT.2
  have hu:=(aW t ti dX).1
  rw [hd] at hu
  obtain ⟨Ci,i,z,hi,fX,_⟩:=aW el te eD
  rw [hdk] at Ci
  have gK:P.cellsOf el=1:=by simp [Program.cellsOf,hi,fX,h1]
  have hr:(Op.equal t (.agg aS.toArray) (.agg bs.toArray)).run P w = .ok r w:=by
   have:=run_equalIn_array (P:=P) w 9999 aS.toArray bs.toArray hu hi
   refine Eq.trans this ?_
   rw [gK,<- h2,List.range_eq_range']
   exact jO 9998 Ci aS.toArray bs.toArray xs ys 0 l r heq (by simpa using has) (by simpa using hbs)
  have xX:∀ op:BinOp,(eqGuard op t x y (.agg aS.toArray) (.agg bs.toArray)).run P w = .ok () w:=fun op=>by
   refine run_eqGuard_agg w op t x y _ _ ?_
   obtain ⟨d,AI⟩:=aY.2.2.2
   rw [AI]
   simp [Program.eqGuardType,hu,Ci]
  refine bE (x:=match op with | .eql=>.bool r | _=>.bool (!r)) ?_ ?_ ?_ ?_ hT
  .unfold execOp
   simp only [bV,<- ex,<- ey]
   cases op <;> simp only [Ob] at he <;> first | (cases he;done) | skip
   .rw [Sem.run_bind,Sem.run_bind,xX,Result.andThen_ok]
    show (((do pure (.bool (<- Op.equal t (.agg aS.toArray) (.agg bs.toArray)))):Sem Value).run P w).andThen _=_
    rw [Sem.run_bind,hr];rfl
   .rw [Sem.run_bind,Sem.run_bind,xX,Result.andThen_ok]
    show (((do pure (.bool (!(<- Op.equal t (.agg aS.toArray) (.agg bs.toArray))))):Sem Value).run P w).andThen _=_
    rw [Sem.run_bind,hr];rfl
  all_goals (cases op <;> simp only [Ob] at he <;> first | (cases he;done) | (cases he;rfl))
 .cases he
theorem Lb (k:IntKind):∀ (xs ys:List Int),xs.length=ys.length->∃ l,lR (xs.map (SV.int false k)) (ys.map (SV.int false k))=some (l,decide (xs=ys))
 | [],[],_=>⟨true,rfl⟩
 | [],_::_,h=>by simp at h
 | _::_,[],h=>by simp at h
 | x::xs,y::ys,h=>by
   obtain ⟨l,hl⟩:=Lb k xs ys (by simpa using h)
   refine ⟨false&&(false&&l),?_⟩
   simp only [List.map_cons,lR,Uc,decide_true,hl]
   by_cases e:x=y
   .subst e;simp
   .simp [e]
theorem Ez (aW:cA P Γ) (aY:cH P Γ) (ht:cF V g a) (hg:bP Γ V) (hT:aD w0 M V T w) {op:BinOp} {t t2:TypeId} {x y:Operand} (bV:o.op = .binOp op t x y t2)
 (he:Gm Γ g op t x y=some e) (ho:∀ q∈e.bO,q) (lab:Nat):kM P w0 M V T lab e o a w:=by
 unfold Gm at he
 split at he
 case h_2=>cases he
 rename_i k xs k2 ys ti hx hy dX
 split at he
 case h_2=>cases he
 rename_i n el hd
 split at he
 case h_2=>cases he
 rename_i te eD
 split at he
 case h_2=>cases he
 rename_i k0 hdk iC yR
 have iC:=cM iC
 have yR:k=k2:=jG yR
 subst yR
 simp only [gL] at hx hy
 obtain ⟨vx,hx,NR⟩:=hx
 obtain ⟨vy,hy,hiy⟩:=hy
 have ex:=(bH ht hg hx).symm.trans (Et NR)
 have ey:=(bH ht hg hy).symm.trans (Et hiy)
 simp only [aV] at ex ey
 have hu:=(aW t ti dX).1
 rw [hd] at hu
 obtain ⟨Ci,i,z,hi,fX,_⟩:=aW el te eD
 rw [hdk] at Ci
 have gK:P.cellsOf el=1:=by simp [Program.cellsOf,hi,fX,iC]
 have hlen:xs.length=n/\ys.length=n:=by
  cases op <;> simp only [Gl] at he <;> first | (cases he;done) | (cases he;exact ho _ (by simp))
 obtain ⟨l,hl⟩:=Lb k xs ys (by omega)
 have dm:∀ zs:List Int,aI V (zs.map (SV.int false k))=some (zs.map (Value.int k)):=fun zs=>by
  induction zs with
  | nil=>rfl
  | cons z zs ih=>simp [aI,den,ih]
 have hr:(Op.equal t (.agg (xs.map (Value.int k)).toArray) (.agg (ys.map (Value.int k)).toArray)).run P w = .ok (decide (xs=ys)) w:=by
  have:=run_equalIn_array (P:=P) w 9999 (xs.map (Value.int k)).toArray (ys.map (Value.int k)).toArray hu hi
  refine Eq.trans this ?_
  rw [gK,<- hlen.1,List.range_eq_range']
  have:=jO (P:=P) (w:=w) (V:=V) 9998 Ci (xs.map (Value.int k)).toArray (ys.map (Value.int k)).toArray (xs.map (SV.int false k)) (ys.map (SV.int false k)) 0 l _ hl (by simpa using dm xs) (by simpa using dm ys)
  simpa using this
 have xX:∀ op:BinOp,(eqGuard op t x y (.agg (xs.map (Value.int k)).toArray) (.agg (ys.map (Value.int k)).toArray)).run P w = .ok () w:=fun op=>by
  refine run_eqGuard_agg w op t x y _ _ ?_
  obtain ⟨d,AI⟩:=aY.2.2.2
  rw [AI]
  simp [Program.eqGuardType,hu,Ci]
 refine bE (x:=match op with | .eql=>.bool (decide (xs=ys)) | _=>.bool (!decide (xs=ys))) ?_ ?_ ?_ ?_ hT
 .unfold execOp
  simp only [bV,ex,ey]
  cases op <;> simp only [Gl] at he <;> first | (cases he;done) | skip
  .rw [Sem.run_bind,Sem.run_bind,xX,Result.andThen_ok]
   show (((do pure (.bool (<- Op.equal t (.agg (xs.map (Value.int k)).toArray) (.agg (ys.map (Value.int k)).toArray)))):Sem Value).run P w).andThen _=_
   rw [Sem.run_bind,hr];rfl
  .rw [Sem.run_bind,Sem.run_bind,xX,Result.andThen_ok]
   show (((do pure (.bool (!(<- Op.equal t (.agg (xs.map (Value.int k)).toArray) (.agg (ys.map (Value.int k)).toArray))))):Sem Value).run P w).andThen _=_
   rw [Sem.run_bind,hr];rfl
 all_goals (cases op <;> simp only [Gl] at he <;> first | (cases he;done) | (cases he;rfl))
theorem Ey (aW:cA P Γ) (aY:cH P Γ) (ht:cF V g a) (hg:bP Γ V) (hT:aD w0 M V T w) {op:BinOp} {t t2:TypeId} {x y:Operand} (bV:o.op = .binOp op t x y t2)
 (he:Gk Γ g op t x y=some e) (lab:Nat):kM P w0 M V T lab e o a w:=by
 unfold Gk at he
 split at he
 case h_2=>cases he
 rename_i s1 k1 x1 s2 k2 x2 s3 k3 y1 s4 k4 y2 ti hx hy dX
 split at he
 case h_2=>cases he
 rename_i fs hd
 split at he
 case h_2=>cases he
 rename_i f1 f2 hfs
 split at he
 case h_2=>cases he
 rename_i t1 t2 ht1 Mm
 split at he
 case h_2=>cases he
 rename_i d1 d2 NU MY jT
 simp only [iG,Bool.not_eq_true',beq_eq_false_iff_ne,ne_eq] at jT
 obtain ⟨⟨⟨n1,n2⟩,o1,o2⟩,⟨hk1,fK⟩,hc⟩:=jT
 have o1:=cM o1
 have o2:=cM o2
 have hk1:k1=k3:=jG hk1
 have fK:k2=k4:=jG fK
 subst hk1 fK
 have ex:=bH ht hg hx
 have ey:=bH ht hg hy
 simp only [den,aI,mZ,gQ,aV] at ex ey
 have hu:=(aW t ti dX).1
 rw [hd] at hu
 have YQ:=(aW _ t1 ht1).1
 rw [NU] at YQ
 have hu2:=(aW _ t2 Mm).1
 rw [MY] at hu2
 have Zl:P.fieldsOf t=fs:=by simp [Program.fieldsOf,hu]
 have fZ:∀ k,rP (.int k)=false:=fun _=>rfl
 have p1:∀ u v:Value,(part f1.type #[u,v] f1.offset).run P w = .ok u w:=fun u v=>by
  simp [o1,part,Sem.run_bind,eJ YQ,fZ,Result.andThen_ok]
 have p2:∀ u v:Value,(part f2.type #[u,v] f2.offset).run P w = .ok v w:=fun u v=>by
  simp [o2,part,Sem.run_bind,eJ hu2,fZ,Result.andThen_ok]
 have hr:(Op.equal t (.agg #[.int k1 x1,.int k2 x2]) (.agg #[.int k1 y1,.int k2 y2])).run P w = .ok (decide (x1=y1)&&decide (x2=y2)) w:=by
  refine Eq.trans (run_equalIn_struct w 9999 t _ _ (by rw [Zl];exact hu) (aY.2.2.1 t hc).2) ?_
  rw [Zl,hfs]
  simp only [Op.eqFields,ne_eq,n1,n2,not_false_eq_true,if_true,Sem.run_bind,p1,Result.andThen_ok,run_equalIn_int w 9998 f1.type k1 d1 x1 y1 YQ]
  have q2:∀ u v:Int,(Op.equalIn 9999 f2.type (.int k2 u) (.int k2 v)).run P w = .ok (u==v) w:=fun u v=>run_equalIn_int w 9998 f2.type k2 d2 u v hu2
  by_cases h1:x1=y1 <;> by_cases h2:x2=y2 <;> simp [h1,h2,Sem.run_bind,p2,Result.andThen_ok] <;> (try (rw [q2];simp [h2]))
 have hfa:fs = #[f1,f2]:=by apply Array.ext';simpa using hfs
 have xX:∀ op:BinOp,(eqGuard op t x y (.agg #[.int k1 x1,.int k2 x2]) (.agg #[.int k1 y1,.int k2 y2])).run P w = .ok () w:=fun op=>by
  refine run_eqGuard_agg w op t x y _ _ ?_
  obtain ⟨d,AI⟩:=aY.2.2.2
  rw [AI]
  simp [Program.eqGuardType,hu,YQ,hu2,hfa]
 refine bE (x:=match op with | .eql=>.bool (decide (x1=y1)&&decide (x2=y2)) | _=>.bool (!(decide (x1=y1)&&decide (x2=y2)))) ?_ ?_ ?_ ?_ hT
 .unfold execOp
  simp only [bV,<- ex,<- ey]
  split at he
  .rw [Sem.run_bind,Sem.run_bind,xX,Result.andThen_ok]
   show (((do pure (.bool (<- Op.equal t (.agg #[.int k1 x1,.int k2 x2]) (.agg #[.int k1 y1,.int k2 y2])))):Sem Value).run P w).andThen _=_
   rw [Sem.run_bind,hr];rfl
  .rw [Sem.run_bind,Sem.run_bind,xX,Result.andThen_ok]
   show (((do pure (.bool (!(<- Op.equal t (.agg #[.int k1 x1,.int k2 x2]) (.agg #[.int k1 y1,.int k2 y2]))))):Sem Value).run P w).andThen _=_
   rw [Sem.run_bind,hr];rfl
  .cases he
 all_goals (split at he <;> first | (cases he;done) | (cases he;rfl))
theorem Xq (aW:cA P Γ) (ht:cF V g a) (hg:bP Γ V) (hT:aD w0 M V T w) {t:TypeId} {x y:Operand} (bV:o.op = .makeSlice t x y) {lab:Nat} (hf:V.fresh lab) (he:Oe Γ g t x y lab=some e) (ho:∀ q∈e.bO,q):kM P w0 M V T lab e o a w:=by
 unfold Oe at he
 split at he
 case h_2=>cases he
 rename_i kx sy ky c ti hx hy dX
 split at he
 case h_2=>cases he
 rename_i el hd
 split at he
 case h_2=>cases he
 rename_i te eD
 split at he
 case h_2=>cases he
 rename_i jT
 simp only [iG] at jT
 have vI:=cM jT.1
 have hz2:=cM jT.2
 simp only [aV] at he
 subst he
 obtain ⟨h1,h2,h3⟩:=ho _ dB
 have ex:=bH ht hg hx
 have ey:=bH ht hg hy
 simp only [den,aV] at ex ey
 have hu:=(aW t ti dX).1
 rw [hd] at hu
 obtain ⟨_,i,z,hi,cD,NX,hz,hzero⟩:=aW el te eD
 have Qz:i.size=2:=cD.trans vI
 have rJ:z.cells.size=2:=by
  have h1:=bG (hzero V)
  rw [<- hz2,<- h1];simp
 rw [<- NX] at h2
 have en:IntKind.i64.wrap 0=0:=qS (by omega) (by omega)
 have ec:IntKind.i64.wrap c=c:=qS (by omega) (by omega)
 have dX:(typeInfo el).run P w = .ok i w:=by simp [typeInfo,hi]
 have Jy:(c<0||(i.bytes:Int)*c>2^48||(0:Int)<0||(0:Int)>c)=false:=by simp;omega
 obtain ⟨cur,aKh,dY⟩:∃ cur:Array Value,cur.size=c.toNat*2/\(Instr.makeSlice t (.int kx 0) (.int ky c)).run P w = .ok (.slice (some ⟨w.heap.size,0,none⟩) 0 c.toNat) (w.alloc (.cells cur el)):=by
  unfold Instr.makeSlice
  simp only [Sem.run_bind,run_underlying hu w,Result.andThen_ok,asInt,asIntOf,Sem.run_pure,dX,en,ec,Jy,Bool.false_eq_true,if_false,run_askRoom,run_sizeOf hi,Qz]
  by_cases yS:c.toNat*2=0
  .exact ⟨#[],by simp;omega,by simp [show c.toNat=0 by omega,newRow,show Array.range 0 = #[] from rfl]⟩
  .refine ⟨(Array.range (c.toNat*2)).map fun j=>z.cells[j%z.cells.size]!,by simp,?_⟩
   simp only [if_neg yS,Sem.run_bind,dV hi hz,Result.andThen_ok,Sem.run_pure,newRow,run_newObj,World.alloc_eq,Int.toNat_zero]
 intro K Q hK
 unfold Oper.wp
 have hr:(execOp a.eval o).run P w = .ok (.value (.slice (some ⟨w.heap.size,0,none⟩) 0 c.toNat)) (w.alloc (.cells cur el)):=by
  unfold execOp
  simp only [bV,<- ex,<- ey,Sem.run_bind,dY,Result.andThen_ok,Sem.run_pure]
 rw [hr,Oper.upon_value]
 have hs:(V.aZ lab (.slice (some ⟨w.heap.size,0,none⟩) 0 c.toNat)).σ lab=some (.slice (some ⟨w.heap.size,0,none⟩) 0 c.toNat):=by simp [bA.aZ]
 have mV:okB (V.aZ lab (.slice (some ⟨w.heap.size,0,none⟩) 0 c.toNat)) (w.alloc (.cells cur el)) lab (.eH [] el):=
  ⟨[],rfl,_,hs,rfl,.inr ⟨w.heap.size,c.toNat,cur,rfl,Nat.zero_le _,heap_alloc_new w _,Nat.zero_le _,by simp only [maxLen];omega,aKh,by simp⟩⟩
 refine hK _ (.slice (some ⟨w.heap.size,0,none⟩) 0 c.toNat) _ (bA.cC hf lab (dF _) (by omega) (.slice (some ⟨w.heap.size,0,none⟩) 0 c.toNat)) (by simp only [den];exact hs) ?_
 exact hT.qR (lo:=none) (v:=.slice none 0 0) (v':=.slice (some ⟨w.heap.size,0,none⟩) 0 c.toNat) hf mV (fun n hb=>by simpa [SB.aT,hs] using hb) (World.grownBy_alloc w _ _) (.inr rfl) (fun _=>rfl) (fun l hl=>by cases hl) _ _
theorem Kt (aW:cA P Γ) (aY:cH P Γ) (ht:cF V g a) (hg:bP Γ V) {T':bB} (aO:∀ l B,T' l=some B->T l=some B) (hT:aD w0 M V T w) {lab F:Nat} (hf:V.fresh lab) (hF:V.top F) {h:Option Bool}
 (he:zU Γ g T' lab F h o=some e) (ho:∀ q∈e.bO,q):kM P w0 M V T lab e o a w:=by
 unfold zU at he
 split at he
 .rename_i bV;exact Le ht hg hT (.inl bV) he lab
 .rename_i bV;exact Le ht hg hT (.inr bV) he lab
 .rename_i bV;exact LG ht hg hT bV he lab
 .rename_i bV;exact Ya aW hT bV hf he
 .rename_i bV
  unfold kW at he
  split at he
  .rename_i h1;cases he;exact XQ ht hg aO hT bV hf h1
  .exact LK ht hg hT bV hf he
 .rename_i bV;exact Xz aW ht hg aO hT bV he ho lab
 .rename_i bV;exact Ca aW ht hg aO hT bV hf he
 .rename_i bV
  unfold kW at he
  split at he
  .rename_i h1;cases he;exact Xs aW ht hg aO hT bV h1 ho lab
  .split at he
   .rename_i h1;cases he;exact LH aW ht hg aO hT bV h1 ho lab
   .exact Xr aW ht hg aO hT bV he ho lab
 .rename_i bV
  unfold kW at he
  split at he
  .rename_i h1;cases he;exact Xo aW ht hg aO hT bV h1 ho lab
  .split at he
   .rename_i h1;cases he;exact Px aW ht hg aO hT bV h1 ho lab
   .split at he
    .rename_i h1;cases he;exact Pv aW ht hg aO hT bV h1 lab
    .exact Pw aW ht hg aO hT bV he ho lab
 .rename_i bV;exact XM ht hg hT bV he lab
 .rename_i bV
  split at he
  .unfold kW at he
   split at he
   .rename_i e' gU;cases he;exact Ht aW ht hg hT bV gU ho lab
   .split at he
    .rename_i h1;cases he;exact Ld aW aY ht hg aO hT bV h1 lab
    .split at he
     .rename_i h1;cases he;exact Ez aW aY ht hg hT bV h1 ho lab
     .split at he
      .rename_i h1;cases he;exact Ey aW aY ht hg hT bV h1 lab
      .exact Ew ht hg hT bV he lab
  .unfold kW at he
   split at he
   .rename_i e' gU;cases he;exact Ht aW ht hg hT bV gU ho lab
   .split at he
    .rename_i h1;cases he;exact Ld aW aY ht hg aO hT bV h1 lab
    .split at he
     .rename_i h1;cases he;exact Ez aW aY ht hg hT bV h1 ho lab
     .split at he
      .rename_i h1;cases he;exact Ey aW aY ht hg hT bV h1 lab
      .exact Ew ht hg hT bV he lab
  .exact Ht aW ht hg hT bV he ho lab
 .rename_i bV;exact aHv ht hg hT bV he lab
 .rename_i bV
  unfold kW at he
  split at he
  .rename_i h1;cases he;exact LI aW ht hg hT bV h1 lab
  .split at he
   .rename_i h1;cases he;exact Xy aW ht hg aO hT bV h1 lab
   .exact Xx aW ht hg aO hT bV he ho lab
 .rename_i bV;exact XR aW ht hg hT bV he ho lab
 .rename_i bV;exact Dc aW ht hg hT bV he lab
 .rename_i bV;exact Hy ht hg hT bV he lab
 .rename_i bV
  unfold kW at he
  split at he
  .rename_i h1;cases he;exact Db aW ht hg hT bV hf h1 ho
  .exact Xq aW ht hg hT bV hf he ho
 .rename_i bV
  unfold kW at he
  split at he
  .rename_i h1;cases he;exact Qb aW ht hg aO hT bV h1 lab
  .split at he
   .rename_i h1;cases he;exact Xp aW ht hg aO hT bV h1 ho lab
   .split at he
    .rename_i h1;cases he;exact Py aW ht hg aO hT bV hf h1 ho
    .split at he
     .rename_i h1;cases he;exact Qa aW ht hg aO hT bV hf h1 ho
     .exact Pz aW ht hg aO hT bV hf he ho
 .rename_i bV;exact Xt aW ht hg hT bV he lab
 .rename_i bV;exact Qg aW ht hg hT bV he lab
 .rename_i bV
  unfold kW at he
  split at he
  .rename_i h1;cases he;exact Dd aW ht hg hT bV h1 ho lab
  .split at he
   .rename_i h1;cases he;exact Qe aW ht hg aO hT bV h1 ho lab
   .exact Qd aW ht hg hT bV he ho lab
 .rename_i bV
  unfold kW at he
  split at he
  .rename_i h1;cases he;exact Qc aW ht hg hT bV h1 lab
  .exact Qf aW ht hg hT bV he ho lab
 .rename_i bV;exact Lw ht hg hT bV he lab
 .rename_i bV;exact LJ aW aY ht hg aO hT hf hF bV he ho
 .cases he
end Fm
inductive Tr (α:Type) where
 | lf
 | nd (l:Tr α) (v:Option α) (r:Tr α)
noncomputable def Tr.get {α:Type} (t:Tr α):Nat->Option α:=Tr.rec (motive:=fun _=>Nat->Option α) (fun _=>none)
 (fun _ v _ ihl ihr n=>Bool.rec (Bool.rec (ihr (n/2-1)) (ihl (n/2)) (Nat.beq (n%2) 1)) v (Nat.beq n 0)) t
noncomputable def Tr.new {α:Type} (v:α) (f:Nat):Nat->Tr α:=Nat.rec (motive:=fun _=>Nat->Tr α) (fun _=>.nd .lf (some v) .lf)
 (fun _ ih n=>Bool.rec (Bool.rec (.nd .lf none (ih (n/2-1))) (.nd (ih (n/2)) none .lf) (Nat.beq (n%2) 1)) (.nd .lf (some v) .lf) (Nat.beq n 0)) f
noncomputable def Tr.put {α:Type} (v:α) (f:Nat) (t:Tr α):Nat->Option (Tr α):=Tr.rec (motive:=fun _=>Nat->Option (Tr α)) (fun n=>Bool.rec none (some (Tr.new v f n)) (Nat.ble (n+1) (2^f)))
 (fun l u r ihl ihr n=>Bool.rec (Bool.rec (Option.rec none (fun r'=>some (.nd l u r')) (ihr (n/2-1))) (Option.rec none (fun l'=>some (.nd l' u r)) (ihl (n/2))) (Nat.beq (n%2) 1)) (some (.nd l (some v) r)) (Nat.beq n 0)) t
theorem Tr.kF {α:Type} (n:Nat):(Tr.lf:Tr α).get n=none:=rfl
theorem Tr.mY {α:Type} (l r:Tr α) (v:Option α) (n:Nat):(Tr.nd l v r).get n=if n=0 then v else if n%2=1 then l.get (n/2) else r.get (n/2-1):=by
 show Bool.rec (motive:=fun _=>Option α) (Bool.rec (motive:=fun _=>Option α) (r.get (n/2-1)) (l.get (n/2)) (Nat.beq (n%2) 1)) v (Nat.beq n 0)=_
 by_cases h0:n=0
 .subst h0;rfl
 .rw [if_neg h0]
  have e0:Nat.beq n 0=false:=by
   cases hb:Nat.beq n 0 with
   | false=>rfl
   | true=>exact absurd (cM hb) h0
  rw [e0]
  by_cases h1:n%2=1
  .rw [if_pos h1,h1];rfl
  .rw [if_neg h1]
   have e1:Nat.beq (n%2) 1=false:=by
    cases hb:Nat.beq (n%2) 1 with
    | false=>rfl
    | true=>exact absurd (cM hb) h1
   rw [e1]
theorem beq_false {a b:Nat} (h:Nat.beq a b=false):a≠b:=fun e=>by subst e;rw [Nat.beq_refl] at h;cases h
theorem Tr.Gz {α:Type} (v:α):∀ (f n m:Nat),n<2^f->(Tr.new v f n).get m=if m=n then some v else none
 | 0,n,m,h=>by
   have h0:n=0:=by simpa using h
   subst h0
   show (Tr.nd .lf (some v) .lf).get m=_
   rw [Tr.mY,Tr.kF,Tr.kF]
   split
   .rfl
   .split <;> rfl
 | f+1,n,m,h=>by
   have h2:n/2<2^f:=by rw [Nat.pow_succ] at h;omega
   show Tr.get (Bool.rec (motive:=fun _=>Tr α) (Bool.rec (motive:=fun _=>Tr α) (.nd .lf none (Tr.new v f (n/2-1))) (.nd (Tr.new v f (n/2)) none .lf) (Nat.beq (n%2) 1)) (.nd .lf (some v) .lf) (Nat.beq n 0)) m=_
   cases h0:Nat.beq n 0 with
   | true=>
     have:=cM h0
     subst this
     show (Tr.nd .lf (some v) .lf).get m=_
     rw [Tr.mY,Tr.kF,Tr.kF]
     split
     .rfl
     .split <;> rfl
   | false=>
     have Md:=beq_false h0
     cases h1:Nat.beq (n%2) 1 with
     | true=>
       have Up:=cM h1
       show (Tr.nd (Tr.new v f (n/2)) none .lf).get m=_
       rw [Tr.mY,Tr.kF,Tr.Gz v f _ _ h2]
       by_cases e:m=n
       .subst e;rw [if_neg Md,if_pos Up,if_pos rfl,if_pos rfl]
       .rw [if_neg e]
        split
        .rfl
        .split
         .rw [if_neg (by omega)]
         .rfl
     | false=>
       have Up:=beq_false h1
       show (Tr.nd .lf none (Tr.new v f (n/2-1))).get m=_
       rw [Tr.mY,Tr.kF,Tr.Gz v f _ _ (by omega)]
       by_cases e:m=n
       .subst e;rw [if_neg Md,if_neg Up,if_pos rfl,if_pos rfl]
       .rw [if_neg e]
        split
        .rfl
        .split
         .rfl
         .rw [if_neg (by omega)]
theorem Tr.gF {α:Type} (v:α) (f:Nat) (t:Tr α):∀ (n:Nat) (t':Tr α),Tr.put v f t n=some t'->∀ m,t'.get m=if m=n then some v else t.get m:=by
 induction t with
 | lf=>
   intro n t' h m
   have h:Bool.rec (motive:=fun _=>Option (Tr α)) none (some (Tr.new v f n)) (Nat.ble (n+1) (2^f))=some t':=h
   cases hb:Nat.ble (n+1) (2^f) with
   | false=>rw [hb] at h;cases h
   | true=>
     rw [hb] at h
     cases h
     have:=kJ hb
     rw [Tr.Gz v f n m (by omega),Tr.kF]
 | nd l u r ihl ihr=>
   intro n t' h m
   have h:Bool.rec (motive:=fun _=>Option (Tr α)) (Bool.rec (motive:=fun _=>Option (Tr α)) (Option.rec (motive:=fun _=>Option (Tr α)) none (fun r'=>some (.nd l u r')) (Tr.put v f r (n/2-1))) (Option.rec (motive:=fun _=>Option (Tr α)) none (fun l'=>some (.nd l' u r)) (Tr.put v f l (n/2))) (Nat.beq (n%2) 1)) (some (.nd l (some v) r)) (Nat.beq n 0)=some t':=h
   cases h0:Nat.beq n 0 with
   | true=>
     rw [h0] at h
     cases h
     have:=cM h0
     subst this
     rw [Tr.mY,Tr.mY]
     by_cases e:m=0
     .subst e;rfl
     .rw [if_neg e,if_neg e,if_neg e]
   | false=>
     have Md:=beq_false h0
     rw [h0] at h
     cases h1:Nat.beq (n%2) 1 with
     | true=>
       have Up:=cM h1
       rw [h1] at h
       cases hp:Tr.put v f l (n/2) with
       | none=>rw [hp] at h;cases h
       | some l'=>
         rw [hp] at h
         cases h
         have ih:=ihl (n/2) l' hp
         rw [Tr.mY,Tr.mY]
         by_cases e:m=n
         .subst e;rw [if_neg Md,if_pos Up,ih,if_pos rfl,if_pos rfl]
         .rw [if_neg e]
          split
          .rfl
          .split
           .rw [ih,if_neg (by omega)]
           .rfl
     | false=>
       have Up:=beq_false h1
       rw [h1] at h
       cases hp:Tr.put v f r (n/2-1) with
       | none=>rw [hp] at h;cases h
       | some r'=>
         rw [hp] at h
         cases h
         have ih:=ihr (n/2-1) r' hp
         rw [Tr.mY,Tr.mY]
         by_cases e:m=n
         .subst e;rw [if_neg Md,if_neg Up,ih,if_pos rfl,if_pos rfl]
         .rw [if_neg e]
          split
          .rfl
          .split
           .rfl
           .rw [ih,if_neg (by omega)]
structure St where
 g:Tr SV
 tb:Tr SB
 nx:Nat
 ws:List Nat
 ob:List Prop
 df:List SV:=[]
 hs:List Bool:=[]
noncomputable def St.T (B:bB) (s:St):bB:=fun l=>match s.tb.get l with
 | some b=>some b
 | none=>B l
noncomputable def Zz (F0:Nat):List (Nat × SB)->Tr SB->List Nat->Option (Tr SB × List Nat)
 | [],t,ws=>some (t,ws)
 | (l,b)::r,t,ws=>match Zz F0 r t ws with
   | none=>none
   | some (t,ws)=>match Tr.put b 64 t l with
     | none=>none
     | some t=>some (t,match Nat.blt l F0,ws.elem l with
       | true,false=>l::ws
       | _,_=>ws)
theorem Ks {F0:Nat}:∀ {r:List (Nat × SB)} {t t':Tr SB} {ws ws':List Nat},Zz F0 r t ws=some (t',ws') ->
 (∀ l,t'.get l=match look l r with | some b=>some b | none=>t.get l)/\(∀ l,l∈ws->l∈ws')/\(∀ l b,look l r=some b->l<F0->l∈ws')
 | [],t,t',ws,ws',h=>by
   simp only [Zz,aV,Prod.mk.injEq] at h
   obtain ⟨rfl,rfl⟩:=h
   exact ⟨fun l=>rfl,fun l hl=>hl,fun l b hl=>by cases hl⟩
 | (k,c)::r,t,t',ws,ws',h=>by
   simp only [Zz] at h
   split at h
   .cases h
   .rename_i t1 ws1 h1
    obtain ⟨i1,i2,i3⟩:=Ks h1
    split at h
    .cases h
    .rename_i t2 h2
     simp only [aV,Prod.mk.injEq] at h
     obtain ⟨rfl,hws⟩:=h
     have hg:=Tr.gF c 64 t1 k t2 h2
     have aO:∀ l,l∈ws1->l∈ws':=by
      intro l hl
      rw [<- hws]
      split
      .exact eK _ hl
      .exact hl
     have hk:k<F0->k∈ws':=by
      intro cL
      rw [<- hws]
      split
      .exact dB
      .rename_i MT
       have hb:Nat.blt k F0=true:=by simpa [Nat.blt_eq] using cL
       cases he:ws1.elem k with
       | true=>simpa using he
       | false=>exact (MT hb he).elim
     refine ⟨fun l=>?_,fun l hl=>aO l (i2 l hl),fun l b hl cL=>?_⟩
     .rw [hg l]
      by_cases e:k=l
      .subst e;rw [aK,if_pos rfl]
      .rw [aH e,if_neg (fun x=>e x.symm)];exact i1 l
     .by_cases e:k=l
      .subst e;exact hk cL
      .rw [aH e] at hl
       exact aO l (i3 l b hl cL)
noncomputable def St.step (F0 N:Nat) (s:St) (dst:Option Tmp) (e:bK) (lab nx:Nat):Option St:=
 match Zz F0 (e.fA lab) s.tb s.ws,Nat.ble e.new.length 8&&e.wr.all (fun p=>Nat.blt p.1 nx) with
 | some (tb,ws),true=>match dst with
   | none=>some { g:=s.g,tb:=tb,nx:=nx,ws:=ws,ob:=e.bO++s.ob,df:=s.df,hs:=s.hs }
   | some d=>match Tr.put e.val 64 s.g d,Nat.blt d N with
     | some g,true=>some { g:=g,tb:=tb,nx:=nx,ws:=ws,ob:=e.bO++s.ob,df:=s.df,hs:=s.hs }
     | _,_=>none
 | _,_=>none
def xY (ops:Array Oper) (g:Nat->Option SV) (o:Oper):Option Bool:=
 match o.guard with
 | none=>some true
 | some (j,want)=>match (ops[j]?).bind (·.dst) with
   | none=>none
   | some d=>match g d with
     | some (.bool true b)=>some (b==want)
     | some (.raw v)=>match v with
       | .bool _=>none
       | _=>some false
     | _=>none
theorem St.Sl {F0 N:Nat} {s s':St} {dst:Option Tmp} {e:bK} {lab nx:Nat} (h:s.step F0 N dst e lab nx=some s'):s'.df=s.df:=by
 unfold St.step at h
 split at h
 .split at h
  .cases h;rfl
  .split at h
   .cases h;rfl
   .cases h
 .cases h
def toD:Value->Deferred
 | .func f xs ys=>{ target:=.fn f ys,args:=xs }
 | _=>{ target:=.nil,args := #[] }
structure Inv (P:Program) (Γ:Env) (w0:World) (M:Nat->Prop) (B:bB) (N F0:Nat) (V0:bA) (s:St) (V:bA) (a:Act) (w:World):Prop where
 tmp:cF V s.g.get a
 keys:∀ d v,s.g.get d=some v->d<N
 size:N<=a.tmps.size
 defers:∃ xs,aI V s.df=some xs/\a.defers=xs.map toD
 fA:aD w0 M V (s.T B) w
 aR:bP Γ V
 top:V.top s.nx
 le:V0.le V
 low:∀ l,l<F0->V.β l=V0.β l/\V.σ l=V0.σ l
 ch:∀ l,l<F0->l ∉ s.ws->s.tb.get l=none
 nx:F0<=s.nx
 hi:∀ l,s.nx<=l->s.T B l=none
theorem bA.top.fresh {V:bA} {F:Nat} (h:V.top F):V.fresh F:=fun l h1 _=>h l h1
theorem bA.top.mono {V:bA} {F F':Nat} (h:V.top F) (hl:F<=F'):V.top F':=fun l h1=>h l (Nat.le_trans hl h1)
theorem oJ {ops:Array Oper} {V:bA} {g:Nat->Option SV} {a:Act} (ht:cF V g a) (hs:∀ d v,g d=some v->d<a.tmps.size) {o:Oper} {b:Bool} (h:xY ops g o=some b):Region.wanted o (yielded ops a.tmps)=b:=by
 unfold xY at h
 unfold Region.wanted
 split at h
 .rename_i hg;simp only [aV] at h;subst h;rw [hg]
 .rename_i j want hg
  rw [hg]
  split at h
  .cases h
  .rename_i d hd
   split at h
   .rename_i c hc
    simp only [aV] at h
    subst h
    have hv:=ht d _ hc
    have cL:=hs d _ hc
    simp only [den,aV,Act.eval] at hv
    have qY:a.tmps[d]?=some (.bool c):=by
     rw [Array.getElem?_eq_getElem cL]
     rw [Array.getD_eq_getD_getElem?,Array.getElem?_eq_getElem cL,Option.getD_some] at hv
     rw [hv]
    simp only [yielded,hd,mZ,qY]
    cases c <;> cases want <;> rfl
   .rename_i v hc
    split at h
    .cases h
    .rename_i hnb
     simp only [aV] at h
     subst h
     have hv:=ht d _ hc
     have cL:=hs d _ hc
     simp only [den,aV,Act.eval] at hv
     have qY:a.tmps[d]?=some v:=by
      rw [Array.getElem?_eq_getElem cL]
      rw [Array.getD_eq_getD_getElem?,Array.getElem?_eq_getElem cL,Option.getD_some] at hv
      rw [hv]
     have hy:yielded ops a.tmps j=none:=by
      simp only [yielded,hd,mZ,qY]
      split
      .rename_i b' hq;cases hq;exact absurd rfl (hnb b')
      .rfl
     show (yielded ops a.tmps j==some want)=false
     rw [hy]
     rfl
   .cases h
theorem St.dM {F0 N:Nat} {s s':St} {dst:Option Tmp} {e:bK} {lab nx:Nat} (B:bB) (h:s.step F0 N dst e lab nx=some s') :
 s'.T B=eQ (s.T B) lab e/\s'.nx=nx/\s'.ob=e.bO++s.ob/\(∀ l,l∈s.ws->l∈s'.ws)/\(∀ l,l<F0->l ∉ s'.ws->s.tb.get l=none->s'.tb.get l=none) /\
  (∀ m,s'.g.get m=if dst=some m then some e.val else s.g.get m)/\(∀ d,dst=some d->d<N)/\e.new.length<=8/\(∀ l b,look l e.wr=some b->l<nx):=by
 unfold St.step at h
 split at h
 case h_2=>cases h
 rename_i tb ws hp jT
 obtain ⟨i1,i2,i3⟩:=Ks hp
 simp only [iG] at jT
 have aKj:=kJ jT.1
 have aKi:∀ l b,look l e.wr=some b->l<nx:=fun l b hl=>by
  have:=List.all_eq_true.1 jT.2 _ (fT hl)
  simpa [Nat.blt_eq] using this
 have hT:∀ g nx ob df hs,(St.mk g tb nx ws ob df hs).T B=eQ (s.T B) lab e:=by
  intro g nx ob df hs
  funext l
  simp only [St.T,eQ,i1 l]
  cases look l (e.fA lab) <;> rfl
 have hch:∀ l,l<F0->l ∉ ws->s.tb.get l=none->tb.get l=none:=by
  intro l hl hn h0
  rw [i1 l]
  cases hk:look l (e.fA lab) with
  | none=>exact h0
  | some b=>exact (hn (i3 l b hk hl)).elim
 split at h
 .simp only [aV] at h
  subst h
  exact ⟨hT _ _ _ _ _,rfl,rfl,i2,hch,fun m=>by simp,(fun d hd=>by cases hd),aKj,aKi⟩
 .rename_i d
  split at h
  .rename_i g hg cL
   simp only [aV] at h
   subst h
   refine ⟨hT _ _ _ _ _,rfl,rfl,i2,hch,fun m=>?_,fun d' ZB=>?_,aKj,aKi⟩
   .rw [Tr.gF _ _ _ _ _ hg m]
    by_cases e:m=d
    .subst e;simp
    .rw [if_neg e,if_neg (by simp;exact fun x=>e x.symm)]
   .cases ZB;simpa [Nat.blt_eq] using cL
  .cases h
theorem Inv.step {P:Program} {Γ:Env} {w0 w w':World} {M:Nat->Prop} {B:bB} {N F0:Nat} {V0 V V':bA} {s s':St} {a:Act} {dst:Option Tmp} {e:bK} {x:Value} {lab nx:Nat}
 (h:Inv P Γ w0 M B N F0 V0 s V a w) (hs:s.step F0 N dst e lab nx=some s') (hle:s.nx<=lab) (hn:lab+8<=nx) (hV:V.ext lab V') (hx:dst.isSome=true->den V' e.val=some x)
 (hT:aD w0 M V' (eQ (s.T B) lab e) w'):Inv P Γ w0 M B N F0 V0 s' V' (a.put dst x) w':=by
 obtain ⟨h1,h2,h3,h4,h5,h6,h7,h8,h9⟩:=St.dM B hs
 refine ⟨fun t v hv=>?_,fun d v hv=>?_,?_,?_,by rw [h1];exact hT,fun n l hl=>hV.1.1 _ _ (h.aR n l hl),fun l hl=>?_,bA.le_trans h.le hV.1,fun l hl=>?_,fun l hl hw=>?_,?_,fun l hl=>?_⟩
 .rw [h6] at hv
  by_cases hd:dst=some t
  .subst hd
   simp only [if_true,aV] at hv
   subst hv
   have cL:t<a.tmps.size:=Nat.lt_of_lt_of_le (h7 t rfl) h.size
   rw [hx rfl]
   simp [Act.eval,Act.put,Array.getD_eq_getD_getElem?,cL]
  .rw [if_neg hd] at hv
   rw [nP hV.1 (h.tmp t v hv)]
   rw [Act.eval_put (fun d ZB hq=>hd (by cases hq;exact ZB))]
 .rw [h6] at hv
  by_cases hd:dst=some d
  .exact h7 d hd
  .rw [if_neg hd] at hv;exact h.keys d v hv
 .cases dst with
  | none=>exact h.size
  | some d=>simpa [Act.put] using h.size
 .obtain ⟨xs,fO,mJ⟩:=h.defers
  refine ⟨xs,by rw [St.Sl hs];exact cS hV.1 fO,?_⟩
  cases dst <;> exact mJ
 .rw [h2] at hl
  have:=hV.2 l (.inr (by omega))
  rw [this.1,this.2]
  exact h.top l (by omega)
 .have:=hV.2 l (.inl (by have:=h.nx;omega))
  rw [this.1,this.2]
  exact h.low l hl
 .exact h5 l hl hw (h.ch l hl (fun q=>hw (h4 l q)))
 .rw [h2];have:=h.nx;omega
 .rw [h2] at hl
  rw [h1]
  unfold eQ bK.fA
  rw [cB]
  cases hk:look l e.wr with
  | some b=>have:=h9 l b hk;omega
  | none=>
    have:look l (gC lab e.new)=none:=by
     rw [eW]
     split
     .apply List.getElem?_eq_none;omega
     .rfl
    simp only [this]
    exact h.hi l (by omega)
def Ot (Γ:Env) (g:Nat->Option SV) (c:Call):Option SV:=match OA Γ g c.args.toList,c.callee with
 | some vs,.value f=>match ev Γ g f with
   | some (.fn f first Fz)=>some (.fn f (first++vs) Fz)
   | _=>none
 | _,_=>none
theorem Yg {P:Program} {Γ:Env} {V:bA} {g:Nat->Option SV} {a:Act} {w:World} (ht:cF V g a) (hg:bP Γ V) {c:Call} {o:Oper} (bV:o.op = .defer c) {v:SV} (h:Ot Γ g c=some v) :
 ∃ x,den V v=some x/\(execOp a.eval o).run P w = .ok (.defer (toD x)) w:=by
 unfold Ot at h
 split at h
 case h_2=>cases h
 rename_i vs f hvs hc
 split at h
 case h_2=>cases h
 rename_i f' first Fz hf
 cases h
 have hd:=La ht hg hvs
 have ef:=bH ht hg hf
 simp only [den,gL,dC] at ef
 obtain ⟨xf,hxf,xc,hxc,ef⟩:=ef
 refine ⟨.func f' (xf++(c.args.map a.eval).toList).toArray xc.toArray,by simp only [den,cI hxf hd,hxc,mZ,gQ],?_⟩
 unfold execOp
 simp only [bV,resolve,hc,<- ef,Deferred.ofValue,Sem.run_bind,Sem.run_pure,Result.andThen_ok,toD]
 have:(xf++(c.args.map a.eval).toList).toArray=xf.toArray++c.args.map a.eval:=by
  apply Array.ext';simp
 rw [this]
noncomputable def AM (ops:Array Oper) (o:Oper) (s:St):Option St:=match o.guard with
 | none=>some s
 | some (j,_)=>match (ops[j]?).bind (·.dst) with
   | none=>some s
   | some d=>match s.g.get d with
     | some (.bool false b)=>match s.hs with
       | true::r=>match Tr.put (.bool true true) 64 s.g d with
         | some g=>some { s with g:=g,ob:=(b=true)::s.ob,hs:=r }
         | none=>none
       | false::r=>match Tr.put (.bool true false) 64 s.g d with
         | some g=>some { s with g:=g,ob:=(b=false)::s.ob,hs:=r }
         | none=>none
       | []=>none
     | _=>some s
theorem WN {ops:Array Oper} {o:Oper} {s s':St} (h:AM ops o s=some s'):∀ q∈s.ob,q∈s'.ob:=by
 intro q hq
 unfold AM at h
 split at h
 .cases h;exact hq
 split at h
 .cases h;exact hq
 split at h
 .split at h
  .split at h
   .cases h;exact eK _ hq
   .cases h
  .split at h
   .cases h;exact eK _ hq
   .cases h
  .cases h
 .cases h;exact hq
theorem Inv.known {P:Program} {Γ:Env} {w0:World} {M:Nat->Prop} {B:bB} {N F0:Nat} {V0:bA} {s:St} {V:bA} {a:Act} {w:World} (hi:Inv P Γ w0 M B N F0 V0 s V a w) {d:Nat} {b c:Bool} {g:Tr SV} {ob:List Prop} {hs:List Bool}
 (hd:s.g.get d=some (.bool false b)) (hp:Tr.put (.bool true c) 64 s.g d=some g) (hb:b=c):Inv P Γ w0 M B N F0 V0 { s with g:=g,ob:=ob,hs:=hs } V a w:=by
 refine ⟨fun m v hv=>?_,fun m v hv=>?_,hi.size,hi.defers,hi.fA,hi.aR,hi.top,hi.le,hi.low,hi.ch,hi.nx,hi.hi⟩
 .have hv:g.get m=some v:=hv
  rw [Tr.gF _ _ _ _ _ hp m] at hv
  split at hv
  .rename_i e
   cases hv
   have:=hi.tmp d _ hd
   rw [e]
   rw [hb] at this
   exact this
  .exact hi.tmp m v hv
 .have hv:g.get m=some v:=hv
  rw [Tr.gF _ _ _ _ _ hp m] at hv
  split at hv
  .rename_i e;rw [e];exact hi.keys d _ hd
  .exact hi.keys m v hv
theorem WM {P:Program} {Γ:Env} {w0:World} {M:Nat->Prop} {B:bB} {N F0:Nat} {V0:bA} {s s':St} {V:bA} {a:Act} {w:World} {ops:Array Oper} {o:Oper} (hi:Inv P Γ w0 M B N F0 V0 s V a w)
 (h:AM ops o s=some s') (ho:∀ q∈s'.ob,q):Inv P Γ w0 M B N F0 V0 s' V a w:=by
 unfold AM at h
 split at h
 .cases h;exact hi
 split at h
 .cases h;exact hi
 split at h
 .rename_i hd
  split at h
  .split at h
   .rename_i g hp;cases h;exact hi.known hd hp (ho _ dB)
   .cases h
  .split at h
   .rename_i g hp;cases h;exact hi.known hd hp (ho _ dB)
   .cases h
  .cases h
 .cases h;exact hi
noncomputable def Re (Γ:Env) (B:bB) (F0 N:Nat) (ops:Array Oper) (o:Oper) (s:St):Option St:=match xY ops s.g.get o with
 | some true=>match o.op with
   | .defer c=>match Ot Γ s.g.get c with
     | some v=>match s.step F0 N o.dst { val:=.raw undef } s.nx (s.nx+8) with
       | some s'=>some { s' with df:=v::s'.df }
       | none=>none
     | none=>none
   | _=>match zU Γ s.g.get (s.T B) s.nx (s.nx+8) none o with
     | some e=>s.step F0 N o.dst e s.nx (s.nx+8)
     | none=>none
 | some false=>s.step F0 N o.dst { val:=.raw undef } s.nx (s.nx+8)
 | none=>none
theorem Kj {Γ:Env} {B:bB} {F0 N:Nat} {ops:Array Oper} {o:Oper} {s s':St} (h:Re Γ B F0 N ops o s=some s'):∀ q∈s.ob,q∈s'.ob:=by
 intro q hq
 unfold Re at h
 split at h
 .split at h
  .split at h
   .split at h
    .rename_i s1 h1
     cases h
     show q∈s1.ob
     rw [(St.dM B h1).2.2.1];exact List.mem_append_right _ hq
    .cases h
   .cases h
  .split at h
   .rw [(St.dM B h).2.2.1];exact List.mem_append_right _ hq
   .cases h
 .rw [(St.dM B h).2.2.1];exact List.mem_append_right _ hq
 .cases h
noncomputable def Fs (Γ:Env) (B:bB) (F0 N:Nat) (ops:Array Oper):List Oper->St->Option St
 | [],s=>some s
 | o::r,s=>match AM ops o s with
   | some s1=>match Re Γ B F0 N ops o s1 with
     | some s2=>Fs Γ B F0 N ops r s2
     | none=>none
   | none=>none
theorem tL {Γ:Env} {B:bB} {F0 N:Nat} {ops:Array Oper}:∀ {l:List Oper} {s s':St},Fs Γ B F0 N ops l s=some s'->∀ q∈s.ob,q∈s'.ob
 | [],s,s',h,q,hq=>by simp only [Fs,aV] at h;subst h;exact hq
 | o::r,s,s',h,q,hq=>by
   unfold Fs at h
   split at h
   .rename_i s1 h1
    split at h
    .rename_i s2 h2
     exact tL h q (Kj h2 q (WN h1 q hq))
    .cases h
   .cases h
theorem tK {P:Program} {Γ:Env} {w0:World} {M:Nat->Prop} {B:bB} {N F0:Nat} {V0:bA} (aW:cA P Γ) (aY:cH P Γ) {ops:Array Oper} {Q:Exit->Act->World->Prop} :
 ∀ {l:List Oper} {s s':St} {V:bA} {a:Act} {w:World},Fs Γ B F0 N ops l s=some s'->(∀ q∈s'.ob,q)->Inv P Γ w0 M B N F0 V0 s V a w ->
   (∀ V' a' w',Inv P Γ w0 M B N F0 V0 s' V' a' w'->Q .normal a' w')->wpList P ops Q l a w
 | [],s,s',V,a,w,h,ho,hi,hQ=>by
   simp only [Fs,aV] at h
   subst h
   exact wpList_nil (hQ V a w hi)
 | o::r,s0,s',V,a,w,h,ho,NS,hQ=>by
   unfold Fs at h
   split at h
   case h_2=>cases h
   rename_i s aTj
   split at h
   case h_2=>cases h
   rename_i s2 Fj
   have hi:=WM NS aTj (fun q hq=>ho q (tL h q (Kj Fj q hq)))
   unfold Re at Fj
   split at Fj
   .rename_i hw
    have hw:=oJ hi.tmp (fun d v hd=>Nat.lt_of_lt_of_le (hi.keys d v hd) hi.size) hw
    split at Fj
    .rename_i c bV
     split at Fj
     case h_2=>cases Fj
     rename_i v hv
     split at Fj
     case h_2=>cases Fj
     rename_i s1 h1
     cases Fj
     refine wpList_step fun K hK=>?_
     rw [if_pos hw]
     obtain ⟨x,hx,hr⟩:=Yg (P:=P) (w:=w) hi.tmp hi.aR bV hv
     unfold Oper.wp
     rw [hr,Oper.upon_defer]
     have h2:=hi.step (a:=a) (w':=w) (x:=undef) h1 (dF _) (dF _) (V.cN _) (fun _=>rfl) (by rw [jW _ _ rfl rfl];exact hi.fA)
     refine hK _ _ (tK aW aY h ho ⟨?_,h2.keys,?_,?_,h2.fA,h2.aR,h2.top,h2.le,h2.low,h2.ch,h2.nx,h2.hi⟩ hQ)
     .intro t v' MP
      have:=h2.tmp t v' MP
      rw [this]
      cases o.dst <;> rfl
     .have:=h2.size;cases ho:o.dst <;> (rw [ho] at this;exact this)
     .obtain ⟨xs,fO,mJ⟩:=h2.defers
      refine ⟨x::xs,by simp only [aI,hx,fO,mZ,gQ],?_⟩
      simp only [List.map_cons,<- mJ]
      cases o.dst <;> rfl
    .split at Fj
     case h_2=>cases Fj
     rename_i e he
     have h1:=Fj
     have rK:∀ q∈e.bO,q:=fun q hq=>ho q (tL h q (by rw [(St.dM B h1).2.2.1];exact List.mem_append_left _ hq))
     refine wpList_step fun K hK=>?_
     rw [if_pos hw]
     refine Kt aW aY hi.tmp hi.aR (T':=s.T B) (fun _ _ h=>h) hi.fA hi.top.fresh (hi.top.mono (by omega)) he rK K Q fun V' x w' hV hx hT=>hK _ _ ?_
     exact tK aW aY h ho (hi.step h1 (dF _) (dF _) hV (fun _=>hx) hT) hQ
   .rename_i hw
    have hw:=oJ hi.tmp (fun d v hd=>Nat.lt_of_lt_of_le (hi.keys d v hd) hi.size) hw
    have h1:=Fj
    refine wpList_step fun K hK=>?_
    rw [if_neg (by rw [hw];simp)]
    refine hK _ _ (tK aW aY h ho (hi.step h1 (dF _) (dF _) (V.cN _) (fun _=>rfl) ?_) hQ)
    rw [jW _ _ rfl rfl]
    exact hi.fA
   .cases Fj
def mX:Op->Bool
 | .binOp .eql t .. | .binOp .neq t .. => Nat.blt t 6||(Nat.beq t 26||Nat.beq t 100)
 | .move _ | .assign _ | .pick .. | .alloc _ | .box .. | .build .. | .buildSlice .. | .nilCheck _ | .binOp .. | .unOp .. | .sliceToArrayPointer .. | .makeInterface .. | .makeFunc .. | .makeSlice .. | .fieldAddr .. | .field .. | .indexAddr .. | .index .. | .extract .. => true
 | .convert s d _ => !Nat.beq s d
 | .call c=>match c.callee,c.args.toList with
   | .value (.func f),[]=>Nat.beq f 30
   | _,_=>false
 | _=>false
def lW (ms:List Nat):List Edge->Option Nat
 | []=>some 0
 | e::r=>match Region.binds .any e with
   | true=>match ms[e.on]?,lW ms r with
     | some m,some k=>some ((m ||| (1 <<< e.on)) ||| k)
     | _,_=>none
   | false=>lW ms r
theorem vA (i k:Nat):(1 <<< i).testBit k=decide (k=i):=by
 rw [Nat.one_shiftLeft,Nat.testBit_two_pow]
 simp [eq_comm]
theorem jN {ms:List Nat}:∀ {es:List Edge} {m:Nat},lW ms es=some m->∀ k,m.testBit k=true ->
 ∃ e∈es,Region.binds .any e=true/\(k=e.on\/∃ me,ms[e.on]?=some me/\me.testBit k=true)
 | [],m,h,k,hk=>by simp only [lW,aV] at h;subst h;simp at hk
 | e::r,m,h,k,hk=>by
   simp only [lW] at h
   split at h
   .rename_i hb
    split at h
    .rename_i me mr Qy hmr
     simp only [aV] at h
     subst h
     simp only [Nat.testBit_or,Bool.or_eq_true,vA,decide_eq_true_eq] at hk
     rcases hk with (hk | hk) | hk
     .exact ⟨e,by simp,hb,.inr ⟨me,Qy,hk⟩⟩
     .exact ⟨e,by simp,hb,.inl hk⟩
     .obtain ⟨e',gU,h1,h2⟩:=jN hmr k hk
      exact ⟨e',by simp [gU],h1,h2⟩
    .cases h
   .obtain ⟨e',gU,h1,h2⟩:=jN h k hk
    exact ⟨e',by simp [gU],h1,h2⟩
theorem qT {ms:List Nat}:∀ {es:List Edge} {m:Nat},lW ms es=some m->∀ e∈es,Region.binds .any e=true->e.on<ms.length/\m.testBit e.on=true
 | [],m,h,e,he,_=>by cases he
 | e0::r,m,h,e,he,hb=>by
   simp only [lW] at h
   split at h
   .split at h
    .rename_i me mr Qy hmr
     simp only [aV] at h
     subst h
     rcases List.mem_cons.1 he with rfl | he
     .refine ⟨(List.getElem?_eq_some_iff.1 Qy).1,?_⟩
      simp [Nat.testBit_or]
     .obtain ⟨h1,h2⟩:=qT hmr e he hb
      exact ⟨h1,by simp [Nat.testBit_or,h2]⟩
    .cases h
   .rename_i hnb
    rcases List.mem_cons.1 he with rfl | he
    .rw [hb] at hnb;cases hnb
    .exact qT h e he hb
theorem oL {ms:List Nat}:∀ {es:List Edge} {m:Nat},lW ms es=some m->∀ e∈es,Region.binds .any e=true->∀ {me:Nat},ms[e.on]?=some me->∀ q,me.testBit q=true->m.testBit q=true
 | [],m,h,e,he,_,_,_,_,_=>by cases he
 | e0::r,m,h,e,he,hb,me,Qy,q,hq=>by
   simp only [lW] at h
   split at h
   .split at h
    .rename_i me' mr aKd hmr
     simp only [aV] at h
     subst h
     rcases List.mem_cons.1 he with rfl | he
     .rw [Qy] at aKd;cases aKd
      simp [Nat.testBit_or,hq]
     .simp [Nat.testBit_or,oL hmr e he hb Qy q hq]
    .cases h
   .rename_i hnb
    rcases List.mem_cons.1 he with rfl | he
    .rw [hb] at hnb;cases hnb
    .exact oL h e he hb Qy q hq
def jL (t:Nat):List Oper->Nat->Option Nat
 | [],_=>none
 | o::r,i=>match o.dst with
   | some d=>match Nat.beq d t with
     | true=>some i
     | false=>jL t r (i+1)
   | none=>jL t r (i+1)
theorem mC {t:Nat}:∀ {l:List Oper} {i j:Nat},jL t l i=some j->∃ o,i<=j/\l[j-i]?=some o/\o.dst=some t
 | [],i,j,h=>by cases h
 | o::r,i,j,h=>by
   simp only [jL] at h
   have Io:jL t r (i+1)=some j->∃ o',i<=j/\(o::r)[j-i]?=some o'/\o'.dst=some t:=by
    intro h
    obtain ⟨o',h1,h2,h3⟩:=mC h
    refine ⟨o',by omega,?_,h3⟩
    rw [show j-i=(j-(i+1))+1 from by omega]
    simpa using h2
   split at h
   .rename_i d hd
    split at h
    .rename_i hb
     have:=cM hb
     subst this
     cases h
     exact ⟨o,dF _,by simp,hd⟩
    .exact Io h
   .exact Io h
def gS (ops:List Oper) (E:Nat->Option bK) (g0:Nat->Option SV) (S O:Nat->Bool) (t:Nat):Option SV:=
 match jL t ops 0 with
 | none=>g0 t
 | some j=>match S j with
   | true=>(E j).map (·.val)
   | false=>match O j with
     | true=>g0 t
     | false=>none
def uJ (all:Array Oper) (i j:Nat):Bool:=match all[j]? with
 | some o=>o.after.toList.any fun e=>Nat.beq e.on i&&Region.binds .any e
 | none=>false
def zR (T0:bB) (lab0 n:Nat) (E:Nat->Option bK) (S:Nat->Bool):bB:=fun l=>
 match Nat.ble lab0 l&&Nat.blt l (lab0+8*n) with
 | true=>match S ((l-lab0)/8) with
   | true=>(E ((l-lab0)/8)).bind fun e=>e.new[(l-lab0)%8]?
   | false=>none
 | false=>T0 l
def TS (T0:bB) (lab0 n:Nat) (E:Nat->Option bK) (wr:List (Nat × SB)) (S:Nat->Bool):bB:=fun l=>
 match look l wr with
 | some b=>some b
 | none=>zR T0 lab0 n E S l
def rX:Op->Bool
 | .load .. => true
 | .slice .. => true
 | .convert s d _=>Nat.beq s d
 | .call c=>match c.callee with
   | .builtin .len=>true
   | .builtin .cap=>true
   | _=>false
 | _=>false
def aBq:SV->Nat
 | .buf l=>l
 | .dD l _ _ _=>l
 | .iA l _=>l
 | _=>1000000000
def aSk:SV->Nat
 | .iS l _=>l
 | v=>aBq v
def Mi (Γ:Env) (g:Nat->Option SV) (o:Oper):Option Nat:=match o.op with
 | .load _ x=>match ev Γ g x with
   | some (.ptr l _ _)=>some l
   | some (.iS l _)=>some l
   | _=>none
 | .slice _ x _ _ _=>(ev Γ g x).map aSk
 | .convert s d x=>match Nat.beq s d,ev Γ g x with
   | true,some (.aG l _ _ _ _)=>some l
   | _,_=>none
 | .call c=>match c.callee,c.args.toList with
   | .builtin .len,[x]=>(ev Γ g x).map aBq
   | .builtin .cap,[x]=>(ev Γ g x).map aBq
   | _,_=>none
 | _=>none
theorem GO {Γ:Env} {g:Nat->Option SV} {o:Oper} {l:Nat} (h:Mi Γ g o=some l):rX o.op=true:=by
 unfold Mi at h
 split at h
 .rename_i bV;rw [bV];rfl
 .rename_i bV;rw [bV];rfl
 .rename_i bV
  rw [bV]
  split at h
  .rename_i hb _;exact hb
  .cases h
 .rename_i c bV
  rw [bV]
  split at h
  .rename_i hc _;simp only [rX,hc]
  .rename_i hc _;simp only [rX,hc]
  .cases h
 .cases h
def aBi (l:Nat) (T:bB):bB:=fun k=>match Nat.beq k l with
 | true=>T k
 | false=>none
theorem GV {l k:Nat} {T:bB} {B:SB} (h:aBi l T k=some B):k=l/\T l=some B:=by
 unfold aBi at h
 split at h
 .rename_i hb
  have:=cM hb
  subst this
  exact ⟨rfl,h⟩
 .cases h
def Cx (l m:Nat) (es:List bK):List Nat->Bool
 | []=>true
 | s::r=>match m.testBit s with
   | true=>Cx l m es r
   | false=>match es[s]? with
     | some e=>match look l e.wr with
       | none=>Cx l m es r
       | some _=>false
     | none=>false
theorem Ha {l m:Nat} {es:List bK}:∀ {L:List Nat},Cx l m es L=true->∀ s∈L,m.testBit s=true\/∃ e,es[s]?=some e/\look l e.wr=none
 | [],_,s,hs=>by cases hs
 | k::r,h,s,hs=>by
   simp only [Cx] at h
   split at h
   .rename_i hk
    rcases List.mem_cons.1 hs with rfl | hs
    .exact .inl hk
    .exact Ha h s hs
   .split at h
    case h_2=>cases h
    rename_i e he
    split at h
    .rename_i hl
     rcases List.mem_cons.1 hs with rfl | hs
     .exact .inr ⟨e,he,hl⟩
     .exact Ha h s hs
    .cases h
theorem xC {l m:Nat} {es:List bK} {e:bK}:∀ {L:List Nat},(∀ s∈L,s<es.length)->Cx l m (es++[e]) L=Cx l m es L
 | [],_=>rfl
 | s::r,h=>by
   have ih:=xC (l:=l) (m:=m) (es:=es) (e:=e) (L:=r) (fun s hs=>h s (eK _ hs))
   simp only [Cx,ih,List.getElem?_append_left (h s dB)]
def vK (g0:Nat->Option SV) (all:Array Oper) (es:List bK) (j m:Nat):Nat->Option SV:=
 gS all.toList (fun j=>es[j]?) g0 (fun k=>m.testBit k) (uJ all j)
def Uy (Γ:Env) (g0:Nat->Option SV) (all:Array Oper) (es:List bK) (ms:List Nat) (wr:List (Nat × SB)) (m:Nat):List Oper->Nat->Nat->Bool
 | _,_,0=>true
 | [],_,_=>true
 | o::r,j,k+1=>match mX o.op||m.testBit j with
   | true=>Uy Γ g0 all es ms wr m r (j+1) k
   | false=>match ms[j]? with
     | some mj=>match Mi Γ (vK g0 all es j mj) o with
       | some l=>match look l wr with
         | none=>Uy Γ g0 all es ms wr m r (j+1) k
         | some _=>false
       | none=>false
     | none=>false
theorem Td {Γ:Env} {g0:Nat->Option SV} {all:Array Oper} {es:List bK} {ms:List Nat} {wr:List (Nat × SB)} {m:Nat}:∀ {l:List Oper} {j k:Nat},Uy Γ g0 all es ms wr m l j k=true->∀ (i:Nat) (o:Oper),i<k->l[i]?=some o ->
 (mX o.op=true\/m.testBit (j+i)=true)\/∃ mj lb,ms[j+i]?=some mj/\Mi Γ (vK g0 all es (j+i) mj) o=some lb/\look lb wr=none
 | _,_,0,_,i,o,hi,_=>by omega
 | [],_,k+1,_,i,o,_,ho=>by simp at ho
 | o'::r,j,k+1,h,i,o,hi,ho=>by
   have Io:Uy Γ g0 all es ms wr m r (j+1) k=true->∀ i',i=i'+1->(mX o.op=true\/m.testBit (j+i)=true)\/∃ mj lb,ms[j+i]?=some mj/\Mi Γ (vK g0 all es (j+i) mj) o=some lb/\look lb wr=none:=by
    rintro h i' rfl
    simp only [List.getElem?_cons_succ] at ho
    have:=Td h i' o (by omega) ho
    rw [show j+(i'+1)=j+1+i' from by omega]
    exact this
   simp only [Uy] at h
   cases i with
   | zero=>
     simp only [List.getElem?_cons_zero,aV] at ho
     subst ho
     split at h
     .rename_i hb
      left
      simpa using hb
     .split at h
      case h_2=>cases h
      rename_i mj hmj
      split at h
      case h_2=>cases h
      rename_i lb hlb
      split at h
      .rename_i hl
       exact .inr ⟨mj,lb,hmj,hlb,hl⟩
      .cases h
   | succ i=>
     split at h
     .exact Io h i rfl
     .split at h
      case h_2=>cases h
      split at h
      case h_2=>cases h
      split at h
      .exact Io h i rfl
      .cases h
def iO (es:List bK):List Nat->List (Nat × SB)
 | []=>[]
 | s::r=>match es[s]? with
   | some e=>e.wr++iO es r
   | none=>iO es r
theorem Ep {es:List bK} {l:Nat} {b:SB}:∀ {L:List Nat},look l (iO es L)=some b->∃ s∈L,∃ e,es[s]?=some e/\look l e.wr=some b
 | [],h=>by simp [iO,look] at h
 | s::r,h=>by
   simp only [iO] at h
   have Io:look l (iO es r)=some b->∃ s'∈s::r,∃ e,es[s']?=some e/\look l e.wr=some b:=fun h=>by
    obtain ⟨s',h1,h2⟩:=Ep h
    exact ⟨s',eK _ h1,h2⟩
   split at h
   .rename_i e he
    rw [cB] at h
    cases hk:look l e.wr with
    | some b'=>rw [hk] at h;cases h;exact ⟨s,dB,e,he,hk⟩
    | none=>rw [hk] at h;exact Io h
   .exact Io h
theorem pZ {es:List bK} {e:bK}:∀ {L:List Nat},(∀ s∈L,s<es.length)->iO (es++[e]) L=iO es L
 | [],_=>rfl
 | s::r,h=>by
   have ih:=pZ (es:=es) (e:=e) (L:=r) (fun s hs=>h s (eK _ hs))
   simp only [iO,ih,List.getElem?_append_left (h s dB)]
def inM (m:Nat):List Nat->Bool
 | []=>true
 | s::r=>match m.testBit s with
   | true=>inM m r
   | false=>false
theorem FH {m:Nat}:∀ {L:List Nat},inM m L=true->∀ s∈L,m.testBit s=true
 | [],_,s,hs=>by cases hs
 | k::r,h,s,hs=>by
   simp only [inM] at h
   split at h
   .rename_i hk
    rcases List.mem_cons.1 hs with rfl | hs
    .exact hk
    .exact FH h s hs
   .cases h
def isNil {α:Type}:List α->Bool
 | []=>true
 | _=>false
def pA (i:Nat):List Nat->List Nat
 | []=>[]
 | s::r=>match Nat.blt s i with
   | true=>s::pA i r
   | false=>pA i r
theorem mA (i:Nat):∀ L:List Nat,pA i L=L.filter fun s=>Nat.blt s i
 | []=>rfl
 | s::r=>by
   simp only [pA,List.filter_cons,mA i r]
   cases Nat.blt s i <;> rfl
def Gg:List Oper->Nat->Bool
 | [],_=>false
 | o::r,i=>match o.guard with
   | some (j,_)=>match Nat.beq j i with
     | true=>true
     | false=>Gg r i
   | none=>Gg r i
def rS (b:Bool) (all:Array Oper) (i:Nat) (e:bK):bK:=match e.val with
 | .bool false c=>match Gg all.toList i with
   | true=>{ e with val:=.bool true b,bO:=(c=b)::e.bO }
   | false=>e
 | _=>e
def nxH (all:Array Oper) (i:Nat) (e:bK) (hs:List Bool):List Bool:=match e.val with
 | .bool false _=>match Gg all.toList i with
   | true=>hs.tail
   | false=>hs
 | _=>hs
theorem Vz {b:Bool} {all:Array Oper} {i:Nat} {e:bK} (ho:∀ q∈(rS b all i e).bO,q):(∀ q∈e.bO,q)/\(rS b all i e).new=e.new/\(rS b all i e).wr=e.wr/\∀ V,den V (rS b all i e).val=den V e.val:=by
 unfold rS at ho |-
 split
 .rename_i c hc
  rw [hc] at ho
  simp only at ho
  split
  .rename_i hg
   rw [hg] at ho
   refine ⟨fun q hq=>ho q (eK _ hq),rfl,rfl,fun V=>?_⟩
   have:c=b:=ho _ dB
   subst this
   rw [hc];rfl
  .rename_i hg
   rw [hg] at ho
   exact ⟨ho,rfl,rfl,fun _=>rfl⟩
 .rename_i dJ
  refine ⟨?_,rfl,rfl,fun _=>rfl⟩
  split at ho
  .rename_i c hc;exact (dJ c hc).elim
  .exact ho
def aBh (Γ:Env) (g:Nat->Option SV) (o:Oper) (wr:List (Nat × SB)):Bool:=match Mi Γ g o with
 | some lb=>wr.all fun p=>Nat.beq p.1 lb
 | none=>false
theorem UA {Γ:Env} {g:Nat->Option SV} {o:Oper} {wr:List (Nat × SB)} (h:aBh Γ g o wr=true):∃ lb,Mi Γ g o=some lb/\∀ l,l≠lb->look l wr=none:=by
 unfold aBh at h
 split at h
 case h_2=>cases h
 rename_i lb hlb
 refine ⟨lb,hlb,fun l hl=>?_⟩
 cases hk:look l wr with
 | none=>rfl
 | some b=>
   have:=List.all_eq_true.1 h _ (fT hk)
   exact absurd (cM this) hl
def PX (Γ:Env) (g0:Nat->Option SV) (T0:bB) (lab0 n:Nat) (all:Array Oper) (o:Oper) (i m:Nat) (es:List bK) (wi:List Nat):Option bK:=
 match xY all (vK g0 all es i m) o with
 | some false=>some { val:=.raw undef }
 | some true=>match mX o.op with
   | true=>zU Γ (vK g0 all es i m) (fun _=>none) (lab0+8*i) (lab0+8*n) none o
   | false=>match Mi Γ (vK g0 all es i m) o with
     | some l=>match Cx l m es (pA i wi) with
       | true=>zU Γ (vK g0 all es i m) (aBi l (TS T0 lab0 n (fun j=>es[j]?) (iO es ((pA i wi).filter fun s=>m.testBit s)) (fun j=>m.testBit j))) (lab0+8*i) (lab0+8*n) none o
       | false=>none
     | none=>match inM m (pA i wi) with
       | true=>zU Γ (vK g0 all es i m) (TS T0 lab0 n (fun j=>es[j]?) (iO es (pA i wi)) (fun j=>m.testBit j)) (lab0+8*i) (lab0+8*n) none o
       | false=>none
 | none=>none
def Cy (b:Bool) (Γ:Env) (g0:Nat->Option SV) (T0:bB) (lab0 n:Nat) (all:Array Oper) (o:Oper) (i m:Nat) (es:List bK) (wi:List Nat):Option bK:=
 match PX Γ g0 T0 lab0 n all o i m es wi with
 | some e=>some (rS b all i e)
 | none=>none
def aCf (Γ:Env) (g0:Nat->Option SV) (T0:bB) (lab0 n:Nat) (all:Array Oper) (o:Oper) (i m:Nat) (es:List bK) (wi:List Nat) (hs:List Bool):Option (bK × List Bool):=
 match PX Γ g0 T0 lab0 n all o i m es wi with
 | some e=>some (rS (hs.headD true) all i e,nxH all i e hs)
 | none=>none
theorem Xn {Γ:Env} {g0:Nat->Option SV} {T0:bB} {lab0 n:Nat} {all:Array Oper} {o:Oper} {i m:Nat} {es:List bK} {wi:List Nat} {hs Ce:List Bool} {e:bK} (h:aCf Γ g0 T0 lab0 n all o i m es wi hs=some (e,Ce)):∃ b,Cy b Γ g0 T0 lab0 n all o i m es wi=some e:=by
 unfold aCf at h
 split at h
 case h_2=>cases h
 rename_i e0 h0
 cases h
 exact ⟨hs.headD true,by unfold Cy;rw [h0]⟩
def Ec (Γ:Env) (g0:Nat->Option SV) (T0:bB) (lab0 n:Nat) (all:Array Oper):List Oper->Nat->List bK->List Nat->List Nat->List Bool->Option (List bK × List Nat × List Nat × List Bool)
 | [],_,es,ms,wi,hs=>some (es,ms,wi,hs)
 | o::r,i,es,ms,wi,hs=>match lW ms o.after.toList with
   | none=>none
   | some m=>match aCf Γ g0 T0 lab0 n all o i m es wi hs,(match o.dst with | some d=>jL d all.toList 0==some i | none=>true) with
     | some (e,Ce),true=>match isNil e.wr with
       | true=>match Nat.ble e.new.length 8 with
         | true=>Ec Γ g0 T0 lab0 n all r (i+1) (es++[e]) (ms++[m]) wi Ce
         | false=>none
       | false=>match Nat.ble e.new.length 8&&Uy Γ g0 all es ms e.wr m all.toList 0 i&&e.wr.all (fun p=>Nat.blt p.1 lab0||(Nat.ble lab0 p.1&&m.testBit ((p.1-lab0)/8)))&&(!mX o.op&&(!rX o.op||aBh Γ (vK g0 all es i m) o e.wr)) with
         | true=>Ec Γ g0 T0 lab0 n all r (i+1) (es++[e]) (ms++[m]) (i::wi) Ce
         | false=>none
     | _,_=>none
structure xQ (Γ:Env) (g0:Nat->Option SV) (T0:bB) (lab0 n:Nat) (all:Array Oper) (i:Nat) (es:List bK) (ms:List Nat) (wi:List Nat):Prop where
 Ib:es.length=i
 xU:ms.length=i
 lt:∀ (j m:Nat),ms[j]?=some m->∀ k,m.testBit k=true->k<j
 cl:∀ (j m:Nat),ms[j]?=some m->∀ k mk,m.testBit k=true->ms[k]?=some mk->∀ q,mk.testBit q=true->m.testBit q=true
 aft:∀ (j m:Nat) (o:Oper),ms[j]?=some m->all[j]?=some o->∀ e∈o.after,Region.binds .any e=true->e.on<j/\m.testBit e.on=true
 aLe:∀ (j m:Nat) (o:Oper),ms[j]?=some m->all[j]?=some o->∀ k,m.testBit k=true->∃ e∈o.after,Region.binds .any e=true/\(k=e.on\/∃ me,ms[e.on]?=some me/\me.testBit k=true)
 dst:∀ (j:Nat) (o:Oper) (d:Tmp),j<i->all[j]?=some o->o.dst=some d->jL d all.toList 0=some j
 new:∀ (j:Nat) (e:bK),es[j]?=some e->e.new.length<=8
 wrt:∀ (j:Nat) (e:bK),es[j]?=some e->e.wr≠[]->j∈wi
 pA:∀ s∈wi,s<i
 wso:wi.Pairwise (· > ·)
 wim:∀ s∈wi,∀ (o:Oper),all[s]?=some o->mX o.op=false
 wnp:∀ s∈wi,∀ (m:Nat),ms[s]?=some m->∀ (j:Nat) (o:Oper),j<s->all[j]?=some o->(mX o.op=true\/m.testBit j=true)\/∃ mj lb e,ms[j]?=some mj/\es[s]?=some e/\Mi Γ (vK g0 all es j mj) o=some lb/\look lb e.wr=none
 wlb:∀ s∈wi,∀ (m:Nat),ms[s]?=some m->∀ (e:bK),es[s]?=some e->∀ l b,look l e.wr=some b->l<lab0\/(lab0<=l/\m.testBit ((l-lab0)/8)=true)
 eff:∀ (j m:Nat) (o:Oper) (e:bK),ms[j]?=some m->all[j]?=some o->es[j]?=some e->∃ b,Cy b Γ g0 T0 lab0 n all o j m es wi=some e
 wld:∀ s∈wi,∀ (o:Oper) (m:Nat) (e:bK),all[s]?=some o->ms[s]?=some m->es[s]?=some e->rX o.op=false\/∃ lb,Mi Γ (vK g0 all es s m) o=some lb/\∀ l,l≠lb->look l e.wr=none
theorem Bk {ops:List Oper} {E E':Nat->Option bK} {g0:Nat->Option SV} {S O:Nat->Bool} (h:∀ j,S j=true->E j=E' j):gS ops E g0 S O=gS ops E' g0 S O:=by
 funext t
 unfold gS
 cases jL t ops 0 with
 | none=>rfl
 | some j=>
   cases hs:S j with
   | false=>simp [hs]
   | true=>simp [hs,h j hs]
theorem Qn {T0:bB} {lab0 n:Nat} {E E':Nat->Option bK} {S:Nat->Bool} (h:∀ j,S j=true->E j=E' j):zR T0 lab0 n E S=zR T0 lab0 n E' S:=by
 funext l
 unfold zR
 split
 .cases hs:S ((l-lab0)/8) with
  | false=>rfl
  | true=>simp only [h _ hs]
 .rfl
theorem ME {T0:bB} {lab0 n:Nat} {E E':Nat->Option bK} {wr:List (Nat × SB)} {S:Nat->Bool} (h:∀ j,S j=true->E j=E' j):TS T0 lab0 n E wr S=TS T0 lab0 n E' wr S:=by
 funext l
 unfold TS
 rw [Qn h]
theorem Lc {b:Bool} {Γ:Env} {g0:Nat->Option SV} {T0:bB} {lab0 n:Nat} {all:Array Oper} {o:Oper} {j m:Nat} {es:List bK} {wi Qp:List Nat} (e:bK) (hm:∀ k,m.testBit k=true->k<es.length) (hj:j<=es.length)
 (hw:Qp=wi\/(∃ s,Qp=s::wi/\j<=s)):Cy b Γ g0 T0 lab0 n all o j m (es++[e]) Qp=Cy b Γ g0 T0 lab0 n all o j m es wi:=by
 have hE:∀ k,m.testBit k=true->(es++[e])[k]?=es[k]?:=fun k hk=>List.getElem?_append_left (hm k hk)
 have hg:vK g0 all (es++[e]) j m=vK g0 all es j m:=Bk (ops:=all.toList) (E:=fun k=>(es++[e])[k]?) (E':=fun k=>es[k]?) (g0:=g0) (S:=fun k=>m.testBit k) (O:=uJ all j) hE
 have hwl:pA j Qp=pA j wi:=by
  rcases hw with rfl | ⟨s,rfl,hs⟩
  .rfl
  .have:Nat.blt s j=false:=by
    cases hb:Nat.blt s j with
    | false=>rfl
    | true=>simp [Nat.blt_eq] at hb;omega
   simp [pA,this]
 have cL:∀ s∈pA j wi,s<es.length:=fun s hs=>by
  rw [mA,List.mem_filter] at hs
  have:s<j:=by simpa [Nat.blt_eq] using hs.2
  omega
 have Ul:iO (es++[e]) (pA j wi)=iO es (pA j wi):=pZ cL
 have aSt:iO (es++[e]) ((pA j wi).filter fun s=>m.testBit s)=iO es ((pA j wi).filter fun s=>m.testBit s):=pZ fun s hs=>cL s (List.mem_filter.1 hs).1
 have hfw:∀ l,Cx l m (es++[e]) (pA j wi)=Cx l m es (pA j wi):=fun l=>xC cL
 have hT:=fun wr=>ME (T0:=T0) (lab0:=lab0) (n:=n) (E:=fun k=>(es++[e])[k]?) (E':=fun k=>es[k]?) (wr:=wr) (S:=fun k=>m.testBit k) hE
 unfold Cy PX
 simp only [hg,hwl,Ul,aSt,hT,hfw]
theorem dG {α:Type} {l:List α} {x y:α} {j:Nat} (h:(l++[x])[j]?=some y):l[j]?=some y\/(j=l.length/\x=y):=by
 by_cases hj:j<l.length
 .rw [List.getElem?_append_left hj] at h;exact .inl h
 .have:j=l.length:=by
   have:=(List.getElem?_eq_some_iff.1 h).1
   simp at this;omega
  subst this
  simp at h
  exact .inr ⟨rfl,h⟩
theorem xQ.nil {Γ:Env} {g0:Nat->Option SV} {T0:bB} {lab0 n:Nat} {all:Array Oper}:xQ Γ g0 T0 lab0 n all 0 [] [] []:=
 ⟨rfl,rfl,(fun j m h=>by simp at h),(fun j m h=>by simp at h),(fun j m o h=>by simp at h),(fun j m o h=>by simp at h),(fun j o d h=>by omega),(fun j e h=>by simp at h),(fun j e h=>by simp at h),
  (fun s h=>by cases h),List.Pairwise.nil,(fun s h=>by cases h),(fun s h=>by cases h),(fun s h=>by cases h),(fun j m o e h=>by simp at h),(fun s h=>by cases h)⟩
theorem xQ.snoc {Γ:Env} {g0:Nat->Option SV} {T0:bB} {lab0 n:Nat} {all:Array Oper} {i:Nat} {es:List bK} {ms:List Nat} {wi Qp:List Nat} (h:xQ Γ g0 T0 lab0 n all i es ms wi) {o:Oper} {m:Nat} {e:bK}
 (ho:all[i]?=some o) (hm:lW ms o.after.toList=some m) (he:∃ b,Cy b Γ g0 T0 lab0 n all o i m es wi=some e) (hd:∀ d,o.dst=some d->jL d all.toList 0=some i) (hn:e.new.length<=8)
 (hw:(e.wr=[]/\Qp=wi)\/(Qp=i::wi/\(mX o.op=false/\(rX o.op=false\/∃ lb,Mi Γ (vK g0 all es i m) o=some lb/\∀ l,l≠lb->look l e.wr=none))/\(∀ (j:Nat) (o:Oper),j<i->all[j]?=some o->(mX o.op=true\/m.testBit j=true)\/∃ mj lb,ms[j]?=some mj/\Mi Γ (vK g0 all es j mj) o=some lb/\look lb e.wr=none)/\∀ l b,look l e.wr=some b->l<lab0\/(lab0<=l/\m.testBit ((l-lab0)/8)=true))) :
 xQ Γ g0 T0 lab0 n all (i+1) (es++[e]) (ms++[m]) Qp:=by
 have PF:∀ k,m.testBit k=true->k<i:=by
  intro k hk
  obtain ⟨ed,Ys,hb,hk⟩:=jN hm k hk
  have h1:=(qT hm ed Ys hb).1
  rw [h.xU] at h1
  rcases hk with rfl | ⟨me,Qy,hk⟩
  .exact h1
  .have:=h.lt _ _ Qy k hk;omega
 have bT:∀ (b:Bool) (j m':Nat) (o':Oper),ms[j]?=some m'->Cy b Γ g0 T0 lab0 n all o' j m' (es++[e]) Qp=Cy b Γ g0 T0 lab0 n all o' j m' es wi:=by
  intro b j m' o' hj
  have hjl:=(List.getElem?_eq_some_iff.1 hj).1
  rw [h.xU] at hjl
  refine Lc e (fun k hk=>?_) (by rw [h.Ib];omega) ?_
  .have:=h.lt j m' hj k hk;rw [h.Ib];omega
  .rcases hw with ⟨_,rfl⟩ | ⟨rfl,_⟩
   .exact .inl rfl
   .exact .inr ⟨i,rfl,by omega⟩
 have Zj:∀ {j m':Nat},ms[j]?=some m'->(ms++[m])[j]?=some m':=fun {j m'} hj=>by
  rw [List.getElem?_append_left (List.getElem?_eq_some_iff.1 hj).1];exact hj
 refine ⟨by simp [h.Ib],by simp [h.xU],fun j m' hj k hk=>?_,fun j m' hj k mk hk Fk q hq=>?_,fun j m' o' hj jS ed Ys hb=>?_,fun j m' o' hj jS k hk=>?_,fun j o' d hj jS ZB=>?_,fun j e' gU=>?_,fun j e' gU dJ=>?_,fun s hs=>?_,?_,fun s hs o' jS=>?_,fun s hs m' jZ j o' hj jS=>?_,fun s hs m' jZ e' gU l b hl=>?_,fun j m' o' e' hj jS gU=>?_,fun s hs o' m' e' jS jZ gU=>?_⟩
 .rcases dG hj with hj | ⟨rfl,rfl⟩
  .exact h.lt j m' hj k hk
  .rw [h.xU];exact PF k hk
 .have Vg:ms[k]?=some mk\/k=i:=by
   rcases dG Fk with h1 | ⟨h1,_⟩
   .exact .inl h1
   .right;rw [h1,h.xU]
  rcases dG hj with hj | ⟨rfl,rfl⟩
  .have hki:=h.lt j m' hj k hk
   have Ij:=(List.getElem?_eq_some_iff.1 hj).1
   rw [h.xU] at Ij
   rcases Vg with Vg | rfl
   .exact h.cl j m' hj k mk hk Vg q hq
   .omega
  .have hki:=PF k hk
   rcases Vg with Vg | rfl
   .obtain ⟨ed,Ys,hb,fK⟩:=jN hm k hk
    have key:∀ k mk,m.testBit k=true->ms[k]?=some mk->mk.testBit q=true->m.testBit q=true:=by
     intro k mk hk Fk hq
     obtain ⟨ed,Ys,hb,fK⟩:=jN hm k hk
     rcases fK with rfl | ⟨me,Qy,fK⟩
     .exact oL hm ed Ys hb Fk q hq
     .exact oL hm ed Ys hb Qy q (h.cl _ me Qy k mk fK Fk q hq)
    exact key k mk hk Vg hq
   .omega
 .rcases dG hj with hj | ⟨rfl,rfl⟩
  .exact h.aft j m' o' hj jS ed Ys hb
  .rw [h.xU] at jS
   rw [ho] at jS;cases jS
   obtain ⟨h1,h2⟩:=qT hm ed (by simpa using Ys) hb
   exact ⟨h1,h2⟩
 .rcases dG hj with hj | ⟨rfl,rfl⟩
  .obtain ⟨ed,h1,h2,h3⟩:=h.aLe j m' o' hj jS k hk
   refine ⟨ed,h1,h2,?_⟩
   rcases h3 with h3 | ⟨me,h3,h4⟩
   .exact .inl h3
   .exact .inr ⟨me,Zj h3,h4⟩
  .rw [h.xU] at jS
   rw [ho] at jS;cases jS
   obtain ⟨ed,h1,h2,h3⟩:=jN hm k hk
   refine ⟨ed,by simpa using h1,h2,?_⟩
   rcases h3 with h3 | ⟨me,h3,h4⟩
   .exact .inl h3
   .exact .inr ⟨me,Zj h3,h4⟩
 .by_cases Ij:j=i
  .subst Ij;rw [ho] at jS;cases jS;exact hd d ZB
  .exact h.dst j o' d (by omega) jS ZB
 .rcases dG gU with gU | ⟨_,rfl⟩
  .exact h.new j e' gU
  .exact hn
 .rcases dG gU with gU | ⟨rfl,rfl⟩
  .have:=h.wrt j e' gU dJ
   rcases hw with ⟨_,rfl⟩ | ⟨rfl,_⟩
   .exact this
   .exact eK _ this
  .rcases hw with ⟨hw,_⟩ | ⟨rfl,_⟩
   .exact absurd hw dJ
   .rw [h.Ib];exact dB
 .rcases hw with ⟨_,rfl⟩ | ⟨rfl,_⟩
  .have:=h.pA s hs;omega
  .rcases List.mem_cons.1 hs with rfl | hs
   .omega
   .have:=h.pA s hs;omega
 .rcases hw with ⟨_,rfl⟩ | ⟨rfl,_⟩
  .exact h.wso
  .exact List.pairwise_cons.2 ⟨fun s hs=>h.pA s hs,h.wso⟩
 .rcases hw with ⟨_,rfl⟩ | ⟨rfl,hpo,_⟩
  .exact h.wim s hs o' jS
  .rcases List.mem_cons.1 hs with rfl | hs
   .rw [ho] at jS;cases jS;exact hpo.1
   .exact h.wim s hs o' jS
 .have hes:∀ {k e'},es[k]?=some e'->(es++[e])[k]?=some e':=fun {k e'} hk=>by
   rw [List.getElem?_append_left (List.getElem?_eq_some_iff.1 hk).1];exact hk
  have hgo:∀ {k mk},ms[k]?=some mk->vK g0 all (es++[e]) k mk=vK g0 all es k mk:=fun {k mk} hk=>by
   refine Bk fun q hq=>List.getElem?_append_left ?_
   have h1:=h.lt k mk hk q hq
   have h2:=(List.getElem?_eq_some_iff.1 hk).1
   rw [h.xU] at h2
   rw [h.Ib]
   omega
  have Dh:s∈wi->(mX o'.op=true\/m'.testBit j=true)\/∃ mj lb e',(ms++[m])[j]?=some mj/\(es++[e])[s]?=some e'/\Mi Γ (vK g0 all (es++[e]) j mj) o'=some lb/\look lb e'.wr=none:=fun hs=>by
   have Um:=h.pA s hs
   rcases dG jZ with jZ | ⟨h1,_⟩
   .rcases h.wnp s hs m' jZ j o' hj jS with h3 | ⟨mj,lb,e',k1,k2,k3,k4⟩
    .exact .inl h3
    .exact .inr ⟨mj,lb,e',Zj k1,hes k2,by rw [hgo k1];exact k3,k4⟩
   .rw [h.xU] at h1;omega
  rcases hw with ⟨_,rfl⟩ | ⟨rfl,_,hnp,_⟩
  .exact Dh hs
  .rcases List.mem_cons.1 hs with rfl | hs
   .rcases dG jZ with jZ | ⟨_,rfl⟩
    .have:=(List.getElem?_eq_some_iff.1 jZ).1;rw [h.xU] at this;omega
    .rcases hnp j o' hj jS with h3 | ⟨mj,lb,k1,k3,k4⟩
     .exact .inl h3
     .exact .inr ⟨mj,lb,e,Zj k1,by rw [<- h.Ib];simp,by rw [hgo k1];exact k3,k4⟩
   .exact Dh hs
 .have Dh:s∈wi->l<lab0\/(lab0<=l/\m'.testBit ((l-lab0)/8)=true):=fun hs=>by
   have Um:=h.pA s hs
   rcases dG jZ with jZ | ⟨h1,_⟩
   .rcases dG gU with gU | ⟨h1,_⟩
    .exact h.wlb s hs m' jZ e' gU l b hl
    .rw [h.Ib] at h1;omega
   .rw [h.xU] at h1;omega
  rcases hw with ⟨_,rfl⟩ | ⟨rfl,_,_,hlb⟩
  .exact Dh hs
  .rcases List.mem_cons.1 hs with rfl | hs
   .rcases dG jZ with jZ | ⟨_,rfl⟩
    .have:=(List.getElem?_eq_some_iff.1 jZ).1;rw [h.xU] at this;omega
    .rcases dG gU with gU | ⟨_,rfl⟩
     .have:=(List.getElem?_eq_some_iff.1 gU).1;rw [h.Ib] at this;omega
     .exact hlb l b hl
   .exact Dh hs
 .rcases dG hj with hj | ⟨rfl,rfl⟩
  .have Ij:=(List.getElem?_eq_some_iff.1 hj).1
   rw [h.xU] at Ij
   rcases dG gU with gU | ⟨h1,_⟩
   .obtain ⟨b,hb⟩:=h.eff j m' o' e' hj jS gU
    exact ⟨b,by rw [bT b j m' o' hj];exact hb⟩
   .rw [h.Ib] at h1;omega
  .rw [h.xU] at jS gU |-
   rw [ho] at jS;cases jS
   rcases dG gU with gU | ⟨_,rfl⟩
   .have:=(List.getElem?_eq_some_iff.1 gU).1;rw [h.Ib] at this;omega
   .obtain ⟨b,he⟩:=he
    refine ⟨b,?_⟩
    rw [Lc e (fun k hk=>by rw [h.Ib];exact PF k hk) (by rw [h.Ib];exact dF _) ?_]
    .exact he
    .rcases hw with ⟨_,rfl⟩ | ⟨rfl,_⟩
     .exact .inl rfl
     .exact .inr ⟨i,rfl,dF _⟩
 .have hgo:∀ {k mk},k<=i->(∀ q,mk.testBit q=true->q<k)->vK g0 all (es++[e]) k mk=vK g0 all es k mk:=fun {k mk} hk cL=>by
   refine Bk fun q hq=>List.getElem?_append_left ?_
   have h1:=cL q hq
   rw [h.Ib]
   omega
  have Dh:s∈wi->rX o'.op=false\/∃ lb,Mi Γ (vK g0 all (es++[e]) s m') o'=some lb/\∀ l,l≠lb->look l e'.wr=none:=fun hs=>by
   have Um:=h.pA s hs
   rcases dG jZ with jZ | ⟨h1,_⟩
   .rcases dG gU with gU | ⟨h1,_⟩
    .rcases h.wld s hs o' m' e' jS jZ gU with h3 | ⟨lb,h3,h4⟩
     .exact .inl h3
     .exact .inr ⟨lb,by rw [hgo (by omega) (h.lt s m' jZ)];exact h3,h4⟩
    .rw [h.Ib] at h1;omega
   .rw [h.xU] at h1;omega
  rcases hw with ⟨_,rfl⟩ | ⟨rfl,hpo,_⟩
  .exact Dh hs
  .rcases List.mem_cons.1 hs with rfl | hs
   .rw [ho] at jS;cases jS
    rcases dG jZ with jZ | ⟨_,rfl⟩
    .have:=(List.getElem?_eq_some_iff.1 jZ).1;rw [h.xU] at this;omega
    .rcases dG gU with gU | ⟨_,rfl⟩
     .have:=(List.getElem?_eq_some_iff.1 gU).1;rw [h.Ib] at this;omega
     .rcases hpo.2 with h3 | ⟨lb,h3,h4⟩
      .exact .inl h3
      .exact .inr ⟨lb,by rw [hgo (dF _) PF];exact h3,h4⟩
   .exact Dh hs
theorem filter_le {f f':Nat->Bool}:∀ (l:List Nat),(∀ j,f' j=true->f j=true)->(l.filter f').length<=(l.filter f).length
 | [],_=>by simp
 | x::r,h=>by
   have ih:=filter_le r h
   cases hx:f' x with
   | true=>simp [hx,h x hx,ih]
   | false=>
     cases hy:f x with
     | true=>simp [hx,hy];omega
     | false=>simp [hx,hy,ih]
theorem filter_lt {f f':Nat->Bool} {i:Nat}:∀ (l:List Nat),i∈l->(∀ j,f' j=true->f j=true)->f i=true->f' i=false->(l.filter f').length+1<=(l.filter f).length
 | [],h,_,_,_=>by simp at h
 | x::r,h,hm,h1,h2=>by
   by_cases e:x=i
   .subst e
    have:=filter_le r hm
    simp [h1,h2,this]
   .have hr:i∈r:=by
     rcases List.mem_cons.1 h with h | h
     .exact absurd h.symm e
     .exact h
    have ih:=filter_lt r hr hm h1 h2
    cases hx:f' x with
    | true=>simp [hx,hm x hx];omega
    | false=>
      cases hy:f x with
      | true=>simp [hx,hy];omega
      | false=>simp [hx,hy];omega
theorem sH {Γ:Env} {g0:Nat->Option SV} {T0:bB} {lab0 n:Nat} {all:Array Oper}:∀ {r:List Oper} {i:Nat} {es es':List bK} {ms Ui:List Nat} {wi Qp:List Nat} {hs Ce:List Bool},
 Ec Γ g0 T0 lab0 n all r i es ms wi hs=some (es',Ui,Qp,Ce)->(∀ k,r[k]?=all[i+k]?)->xQ Γ g0 T0 lab0 n all i es ms wi->xQ Γ g0 T0 lab0 n all (i+r.length) es' Ui Qp
 | [],i,es,es',ms,Ui,wi,Qp,hs,Ce,h,_,hd=>by
   simp only [Ec,aV,Prod.mk.injEq] at h
   obtain ⟨rfl,rfl,rfl,rfl⟩:=h
   exact hd
 | o::r,i,es,es',ms,Ui,wi,Qp,hs,Ce,h,hr,hd=>by
   have ho:all[i]?=some o:=by have:=hr 0;simpa using this.symm
   have hr':∀ k,r[k]?=all[i+1+k]?:=fun k=>by
    have:=hr (k+1)
    rw [show i+1+k=i+(k+1) from by omega]
    simpa using this
   simp only [Ec] at h
   split at h
   .cases h
   .rename_i m hm
    split at h
    case h_2=>cases h
    rename_i e iC he PL
    have he:=Xn he
    have aAn:∀ d,o.dst=some d->jL d all.toList 0=some i:=by
     intro d ZB
     rw [ZB] at PL
     simpa using PL
    split at h
    .rename_i Ir
     split at h
     case h_2=>cases h
     rename_i hn
     have hw:e.wr=[]:=by
      cases Ul:e.wr with
      | nil=>rfl
      | cons a b=>rw [Ul] at Ir;cases Ir
     have:=sH h hr' (hd.snoc ho hm he aAn (kJ hn) (.inl ⟨hw,rfl⟩))
     rw [show i+(o::r).length=i+1+r.length from by simp;omega]
     exact this
    .split at h
     .rename_i jT
      simp only [iG,Bool.or_eq_true] at jT
      obtain ⟨⟨⟨c1,c2⟩,c3⟩,c4⟩:=jT
      have:=sH h hr' (hd.snoc ho hm he aAn (kJ c1) (.inr ⟨rfl,⟨by simpa using c4.1,by
       rcases c4.2 with h1 | h1
       .exact .inl (by simpa using h1)
       .exact .inr (UA h1)⟩,fun j o' hj jS=>?_,fun l b hl=>?_⟩))
      .rw [show i+(o::r).length=i+1+r.length from by simp;omega]
       exact this
      .have:=Td c2 j o' hj (by simpa using jS)
       simpa using this
      .have:=List.all_eq_true.1 c3 _ (fT hl)
       simp only [Bool.or_eq_true,iG] at this
       rcases this with h1 | ⟨h1,h2⟩
       .left;simpa [Nat.blt_eq] using h1
       .right;exact ⟨kJ h1,h2⟩
     .cases h
def yN (es:List bK) (wi:List Nat) (S:Nat->Bool):List (Nat × SB):=iO es (wi.filter S)
structure Vt (P:Program) (Γ:Env) (w0:World) (M:Nat->Prop) (N:Nat) (df:List Deferred) (g0:Nat->Option SV) (T0:bB) (lab0:Nat) (all:Array Oper) (es:List bK) (wi:List Nat) (Vs:bA) (S:Nat->Bool) (V:bA) (a:Act) (w:World):Prop where
 tmp:cF V (gS all.toList (fun j=>es[j]?) g0 S (fun j => !S j)) a
 size:N<=a.tmps.size
 defers:a.defers=df
 fA:aD w0 M V (TS T0 lab0 all.size (fun j=>es[j]?) (yN es wi S) S) w
 aR:bP Γ V
 top:V.top (lab0+8*all.size)
 fresh:∀ j,j<all.size->S j=false->V.fresh (lab0+8*j)
 le:Vs.le V
 low:∀ l,l<lab0->V.β l=Vs.β l/\V.σ l=Vs.σ l
theorem aGl {ops:List Oper} {E:Nat->Option bK} {g0:Nat->Option SV} {S S' O:Nat->Bool} (h:∀ j,S j=true->S' j=true) (hO:∀ j,O j=true->S' j=false) {t:Nat} {v:SV} (hv:gS ops E g0 S O t=some v):gS ops E g0 S' (fun j => !S' j) t=some v:=by
 unfold gS at *
 cases hd:jL t ops 0 with
 | none=>rw [hd] at hv;exact hv
 | some j=>
   rw [hd] at hv
   simp only at hv |-
   cases hs:S j with
   | false=>
     rw [hs] at hv
     simp only at hv
     cases ho:O j with
     | false=>rw [ho] at hv;cases hv
     | true=>rw [ho] at hv;rw [hO j ho];exact hv
   | true=>rw [hs] at hv;rw [h j hs];exact hv
theorem Pb {T0:bB} {lab0 n:Nat} {E:Nat->Option bK} {wr:List (Nat × SB)} {S S':Nat->Bool} (h:∀ j,S j=true->S' j=true) {l:Nat} {B:SB} (hv:TS T0 lab0 n E wr S l=some B):TS T0 lab0 n E wr S' l=some B:=by
 unfold TS at *
 cases hl:look l wr with
 | some b=>rw [hl] at hv;exact hv
 | none=>
   rw [hl] at hv
   simp only at hv |-
   unfold zR at *
   split at hv
   .cases hs:S ((l-lab0)/8) with
    | false=>rw [hs] at hv;cases hv
    | true=>rw [hs] at hv;rw [h _ hs];exact hv
   .exact hv
theorem Kq {lab0 l n:Nat} (h1:lab0<=l) (h2:l<lab0+8*n):(Nat.ble lab0 l&&Nat.blt l (lab0+8*n))=true:=by
 rw [Nat.ble_eq_true_of_le h1];simpa [Nat.blt_eq] using h2
theorem Ei {lab0 l n:Nat} (h:¬ (lab0<=l/\l<lab0+8*n)):(Nat.ble lab0 l&&Nat.blt l (lab0+8*n))=false:=by
 cases hb:(Nat.ble lab0 l&&Nat.blt l (lab0+8*n)) with
 | false=>rfl
 | true=>
   simp only [iG] at hb
   exact absurd ⟨kJ hb.1,by simpa [Nat.blt_eq] using hb.2⟩ h
theorem Yl {T0:bB} {lab0 n:Nat} {es:List bK} {S S':Nat->Bool} {i:Nat} {e:bK} (hi:i<n) (he:es[i]?=some e) (hS:S i=false) (Mo:∀ j,S' j=(S j||decide (j=i))) (hn:e.new.length<=8) (l:Nat) :
 zR T0 lab0 n (fun j=>es[j]?) S' l=match look l (gC (lab0+8*i) e.new) with
  | some b=>some b
  | none=>zR T0 lab0 n (fun j=>es[j]?) S l:=by
 rw [eW]
 unfold zR
 by_cases h1:lab0<=l/\l<lab0+8*n
 .rw [Kq h1.1 h1.2]
  simp only
  by_cases h3:(l-lab0)/8=i
  .rw [h3,Mo i,hS]
   simp only [Bool.false_or,decide_true,he,mZ]
   have h4:lab0+8*i<=l:=by omega
   rw [if_pos h4,show (l-lab0)%8=l-(lab0+8*i) from by omega]
   cases e.new[l-(lab0+8*i)]? <;> rfl
  .rw [Mo _,show decide ((l-lab0)/8=i)=false from by simpa using h3,Bool.or_false]
   have h5:(if lab0+8*i<=l then e.new[l-(lab0+8*i)]? else none)=none:=by
    split
    .apply List.getElem?_eq_none;omega
    .rfl
   rw [h5]
 .rw [Ei h1]
  have h5:(if lab0+8*i<=l then e.new[l-(lab0+8*i)]? else none)=none:=by
   split
   .apply List.getElem?_eq_none;omega
   .rfl
  rw [h5]
theorem Er {es:List bK} {e:bK} {S S':Nat->Bool} {i:Nat} (he:es[i]?=some e) (hS:S i=false) (Mo:∀ j,S' j=(S j||decide (j=i))) {l:Nat}:∀ {L:List Nat},L.Pairwise (· > ·) ->
 (i∈L->∀ s∈L,S s=true->s<i\/∀ e',es[s]?=some e'->look l e.wr≠none->look l e'.wr=none) ->
 look l (iO es (L.filter S'))=if i∈L then (match look l e.wr with | some b=>some b | none=>look l (iO es (L.filter S))) else look l (iO es (L.filter S))
 | [],_,_=>by simp
 | x::r,hp,h=>by
   obtain ⟨Zi,MR⟩:=List.pairwise_cons.1 hp
   by_cases q:x=i
   .subst q
    have hr:r.filter S'=r.filter S:=by
     refine List.filter_congr fun s hs=>?_
     have:=Zi s hs
     rw [Mo,show decide (s=x)=false from by simp;omega,Bool.or_false]
    have h1:S' x=true:=by rw [Mo];simp
    rw [if_pos dB,List.filter_cons,if_pos h1,hr,List.filter_cons,if_neg (by rw [hS];simp)]
    simp only [iO,he,cB]
    cases look l e.wr <;> rfl
   .have hx:S' x=S x:=by rw [Mo,show decide (x=i)=false from by simpa using q,Bool.or_false]
    have ih:=Er he hS Mo (l:=l) MR (fun hi s hs=>h (eK _ hi) s (eK _ hs))
    have aBw:i∈x::r<->i∈r:=by
     rw [List.mem_cons]
     exact ⟨fun h=>h.resolve_left fun w=>q w.symm,.inr⟩
    simp only [aBw]
    cases hb:S x with
    | false=>
      have f1:(x::r).filter S'=r.filter S':=by rw [List.filter_cons,hx,hb];rfl
      have f2:(x::r).filter S=r.filter S:=by rw [List.filter_cons,hb];rfl
      rw [f1,f2]
      exact ih
    | true=>
      have f1:(x::r).filter S'=x::r.filter S':=by rw [List.filter_cons,hx,hb];rfl
      have f2:(x::r).filter S=x::r.filter S:=by rw [List.filter_cons,hb];rfl
      rw [f1,f2]
      cases hes:es[x]? with
      | none=>simp only [iO,hes];exact ih
      | some ex=>
        simp only [iO,hes,cB]
        cases hk:look l ex.wr with
        | none=>simp only;exact ih
        | some b=>
          simp only
          by_cases hi:i∈r
          .rw [if_pos hi]
           have h2:=Zi i hi
           rcases h (eK _ hi) x dB hb with h3 | h3
           .omega
           .cases hw:look l e.wr with
            | none=>rfl
            | some b'=>
              have:=h3 ex hes (by rw [hw];simp)
              rw [hk] at this;cases this
          .rw [if_neg hi]
theorem Uf {T0:bB} {lab0 n:Nat} {es:List bK} {wi:List Nat} {S S':Nat->Bool} {i:Nat} {e:bK} (hi:i<n) (he:es[i]?=some e) (hS:S i=false) (Mo:∀ j,S' j=(S j||decide (j=i)))
 (hn:e.new.length<=8) (hw:e.wr≠[]->i∈wi) (hso:wi.Pairwise (· > ·)) (hnw:i∈wi->∀ s∈wi,S s=true->s<i\/∀ e',es[s]?=some e'->∀ l,look l e.wr≠none->look l e'.wr=none)
 (hwl:∀ s∈wi,S s=true->∀ e',es[s]?=some e'->∀ l b,look l e'.wr=some b->l<lab0\/(lab0<=l/\S ((l-lab0)/8)=true)) :
 TS T0 lab0 n (fun j=>es[j]?) (yN es wi S') S'=eQ (TS T0 lab0 n (fun j=>es[j]?) (yN es wi S) S) (lab0+8*i) e:=by
 funext l
 have eZ:=Yl (T0:=T0) (lab0:=lab0) hi he hS Mo hn
 have e0:look l (yN es wi S')=match look l e.wr with
   | some b=>some b
   | none=>look l (yN es wi S):=by
  unfold yN
  rw [Er he hS Mo hso (fun hi s hs wQ=>(hnw hi s hs wQ).imp id fun h e' gU hl=>h e' gU l hl)]
  by_cases hm:i∈wi
  .rw [if_pos hm]
  .rw [if_neg hm]
   have:e.wr=[]:=by
    cases hk:e.wr with
    | nil=>rfl
    | cons x y=>exact absurd (hw (by rw [hk];simp)) hm
   rw [this]
   rfl
 unfold eQ bK.fA
 rw [cB]
 show (match look l (yN es wi S') with
  | some b=>some b
  | none=>zR T0 lab0 n (fun j=>es[j]?) S' l)=_
 rw [e0]
 cases hk:look l e.wr with
 | some b=>rfl
 | none=>
   simp only
   cases fK:look l (yN es wi S) with
   | none=>
     simp only
     rw [eZ l]
     cases look l (gC (lab0+8*i) e.new) with
     | some b=>rfl
     | none=>simp only [TS,fK]
   | some b=>
     simp only
     have MT:look l (gC (lab0+8*i) e.new)=none:=by
      rw [eW]
      split
      .rename_i MX
       obtain ⟨s,hs,e',gU,hl⟩:=Ep fK
       rw [List.mem_filter] at hs
       rcases hwl s hs.1 hs.2 e' gU l b hl with h1 | ⟨h1,h2⟩
       .omega
       .apply List.getElem?_eq_none
        have:(l-lab0)/8≠i:=fun q=>by rw [q,hS] at h2;cases h2
        omega
      .rfl
     rw [MT]
     simp only [TS,fK]
section
variable {P:Program} {Γ:Env} {w0:World} {M:Nat->Prop} {N:Nat} {df:List Deferred} {g0:Nat->Option SV} {T0:bB} {lab0:Nat} {all:Array Oper} {es:List bK} {ms:List Nat} {wi:List Nat} {Vs:bA} {Q:Exit->Act->World->Prop}
theorem Vt.put {S S':Nat->Bool} {V V':bA} {a:Act} {w w':World} {i:Nat} {o:Oper} {e:bK} {x:Value} {m:Nat} (hd:xQ Γ g0 T0 lab0 all.size all all.size es ms wi)
 (h:Vt P Γ w0 M N df g0 T0 lab0 all es wi Vs S V a w) (ho:all[i]?=some o) (he:es[i]?=some e) (hm:ms[i]?=some m) (hS:S i=false) (Mo:∀ j,S' j=(S j||decide (j=i)))
 (hN:∀ d,o.dst=some d->d<N) (qV:∀ s,S s=true->∀ m,ms[s]?=some m->∀ k,m.testBit k=true->S k=true)
 (hV:V.ext (lab0+8*i) V') (hx:o.dst.isSome=true->den V' e.val=some x) (hT:aD w0 M V' (eQ (TS T0 lab0 all.size (fun j=>es[j]?) (yN es wi S) S) (lab0+8*i) e) w') :
 Vt P Γ w0 M N df g0 T0 lab0 all es wi Vs S' V' (a.put o.dst x) w':=by
 have hi:i<all.size:=(Array.getElem?_eq_some_iff.1 ho).1
 have CQ:=Uf (T0:=T0) (lab0:=lab0) (n:=all.size) (wi:=wi) hi he hS Mo (hd.new i e he) (hd.wrt i e he) hd.wso (fun hiw s hs wQ=>by
  by_cases cL:s<i
  .exact .inl cL
  .right
   have Mc:=hd.pA s hs
   obtain ⟨Ui,Is⟩:∃ q,ms[s]?=some q:=⟨_,List.getElem?_eq_getElem (by rw [hd.xU];exact Mc)⟩
   by_cases Um:s=i
   .subst Um;rw [hS] at wQ;cases wQ
   .rcases hd.wnp s hs Ui Is i o (by omega) ho with (h3 | h3) | ⟨mj,lb,e',k1,k2,h3,h4⟩
    .rw [hd.wim i hiw o ho] at h3;cases h3
    .have:=qV s wQ Ui Is i h3
     rw [hS] at this;cases this
    .intro e2 he2 l hl
     rw [k2] at he2;cases he2
     rcases hd.wld i hiw o mj e ho k1 he with h5 | ⟨lb',h5,h6⟩
     .rw [GO h3] at h5;cases h5
     .rw [h3] at h5;cases h5
      by_cases NQ:l=lb
      .subst NQ;exact h4
      .exact absurd (h6 l NQ) hl) (fun s hs wQ e' gU l b hl=>by
  have Mc:=hd.pA s hs
  obtain ⟨Ui,Is⟩:∃ q,ms[s]?=some q:=⟨_,List.getElem?_eq_getElem (by rw [hd.xU];exact Mc)⟩
  rcases hd.wlb s hs Ui Is e' gU l b hl with h1 | ⟨h1,h2⟩
  .exact .inl h1
  .exact .inr ⟨h1,qV s wQ Ui Is _ h2⟩)
 refine ⟨fun t v hv=>?_,?_,?_,by rw [CQ];exact hT,fun n l hl=>hV.1.1 _ _ (h.aR n l hl),fun l hl=>?_,fun j hj hSj=>?_,bA.le_trans h.le hV.1,fun l hl=>?_⟩
 .unfold gS at hv
  cases Ic:jL t all.toList 0 with
  | none=>
    rw [Ic] at hv
    have dJ:∀ d,o.dst=some d->(Operand.tmp t) ≠ .tmp d:=by
     intro d xW hq
     cases hq
     have:=hd.dst i o t hi ho xW
     rw [this] at Ic;cases Ic
    rw [Act.eval_put dJ]
    exact nP hV.1 (h.tmp t v (by unfold gS;rw [Ic];exact hv))
  | some j=>
    rw [Ic] at hv
    simp only at hv
    by_cases Ij:j=i
    .subst Ij
     have hSt:S' j=true:=by rw [Mo];simp
     rw [hSt] at hv
     simp only [he,gQ,aV] at hv
     subst hv
     obtain ⟨o',_,jS,xW⟩:=mC Ic
     have:o'=o:=by
      have h1:all[j]?=some o':=by simpa using jS
      rw [ho] at h1;cases h1;rfl
     subst this
     have cL:t<a.tmps.size:=Nat.lt_of_lt_of_le (hN t xW) h.size
     rw [xW] at hx |-
     rw [hx rfl]
     simp [Act.eval,Act.put,Array.getD_eq_getD_getElem?,cL]
    .have hSj:S' j=S j:=by rw [Mo];simp [Ij]
     rw [hSj] at hv
     have dJ:∀ d,o.dst=some d->(Operand.tmp t) ≠ .tmp d:=by
      intro d xW hq
      cases hq
      have:=hd.dst i o t hi ho xW
      rw [this] at Ic;cases Ic;exact Ij rfl
     rw [Act.eval_put dJ]
     exact nP hV.1 (h.tmp t v (by unfold gS;rw [Ic];exact hv))
 .cases xW:o.dst with
  | none=>exact h.size
  | some d=>simpa [Act.put] using h.size
 .cases o.dst <;> exact h.defers
 .have:=hV.2 l (.inr (by omega))
  rw [this.1,this.2]
  exact h.top l hl
 .rw [Mo] at hSj
  simp only [Bool.or_eq_false_iff,decide_eq_false_iff_not] at hSj
  intro l h1 h2
  have:=hV.2 l (by
   rcases Nat.lt_or_ge j i with cL | MX
   .left;omega
   .right;omega)
  rw [this.1,this.2]
  exact h.fresh j hj hSj.1 l h1 h2
 .have:=hV.2 l (.inl (by omega))
  rw [this.1,this.2]
  exact h.low l hl
theorem aVu (aW:cA P Γ) (aY:cH P Γ) (hd:xQ Γ g0 T0 lab0 all.size all all.size es ms wi) (hN:∀ (i:Nat) (o:Oper) (d:Tmp),all[i]?=some o->o.dst=some d->d<N)
 (rK:∀ e∈es,∀ q∈e.bO,q) (xX:∀ d v,g0 d=some v->d<N)
 (hQ:∀ (S:Nat->Bool) V a w,(∀ j,j<all.size->S j=true)->Vt P Γ w0 M N df g0 T0 lab0 all es wi Vs S V a w->Q .normal a w) :
 ∀ (fuel:Nat) (listed:Array Bool) (V:bA) (a:Act) (w:World),listed.size=all.size->((List.range all.size).filter fun j => !listed.getD j false).length<=fuel ->
   (∀ s,listed.getD s false=true->∀ m,ms[s]?=some m->∀ k,m.testBit k=true->listed.getD k false=true) ->
   Vt P Γ w0 M N df g0 T0 lab0 all es wi Vs (fun j=>listed.getD j false) V a w->wpAny P .any all Q fuel listed a w:=by
 have done:∀ (listed:Array Bool),listed.size=all.size->Region.ready .any all listed=[]->∀ j,j<all.size->listed.getD j false=true:=by
  intro listed hl hr j
  induction j using Nat.strongRecOn with
  | ind j ih=>
    intro hj
    cases hb:listed.getD j false with
    | true=>rfl
    | false=>
      exfalso
      obtain ⟨o,ho⟩:∃ o,all[j]?=some o:=⟨_,Array.getElem?_eq_getElem hj⟩
      obtain ⟨m,hm⟩:∃ m,ms[j]?=some m:=⟨_,List.getElem?_eq_getElem (by rw [hd.xU];exact hj)⟩
      have:j∈Region.ready .any all listed:=by
       rw [mem_ready]
       refine ⟨?_,o,ho,fun e he hbd=>?_⟩
       .have cL:j<listed.size:=by omega
        simp [cL] at hb |-
        exact hb
       .have:=(hd.aft j m o hm ho e he hbd).1
        exact ih e.on this (by omega)
      rw [hr] at this
      cases this
 intro fuel
 induction fuel with
 | zero=>
   intro listed V a w hl hc qV hi
   have kB:∀ j,j<all.size->listed.getD j false=true:=by
    intro j hj
    cases hb:listed.getD j false with
    | true=>rfl
    | false=>
      exfalso
      have:j∈(List.range all.size).filter fun j => !listed.getD j false:=by
       rw [List.mem_filter]
       exact ⟨List.mem_range.2 hj,by simp only [hb,Bool.not_false]⟩
      have h0:=List.eq_nil_of_length_eq_zero (Nat.le_zero.1 hc)
      rw [h0] at this
      cases this
   refine ⟨?_,hQ _ V a w kB hi⟩
   cases hr:Region.ready .any all listed with
   | nil=>rfl
   | cons x xs=>
     exfalso
     have hx:x∈Region.ready .any all listed:=by rw [hr];simp
     obtain ⟨h1,o,ho,_⟩:=mem_ready.1 hx
     have cL:=(Array.getElem?_eq_some_iff.1 ho).1
     have h2:=kB x cL
     have hls:x<listed.size:=by omega
     simp [hls] at h1 h2
     rw [h1] at h2;cases h2
 | succ fuel ih=>
   intro listed V a w hl hc qV hi
   refine ⟨fun hr=>hQ _ V a w (done listed hl hr) hi,fun i hir=>?_⟩
   obtain ⟨h1,o,ho,aTo⟩:=mem_ready.1 hir
   have cL:=(Array.getElem?_eq_some_iff.1 ho).1
   have hls:i<listed.size:=by omega
   have hSi:listed.getD i false=false:=by simp [hls] at h1 |-;exact h1
   obtain ⟨m,hm⟩:∃ m,ms[i]?=some m:=⟨_,List.getElem?_eq_getElem (by rw [hd.xU];exact cL)⟩
   obtain ⟨e,he⟩:∃ e,es[i]?=some e:=⟨_,List.getElem?_eq_getElem (by rw [hd.Ib];exact cL)⟩
   have hmS:∀ k,m.testBit k=true->listed.getD k false=true:=by
    intro k hk
    obtain ⟨ed,Ys,hb,fK⟩:=hd.aLe i m o hm ho k hk
    have hon:=aTo ed Ys hb
    rcases fK with rfl | ⟨me,Qy,fK⟩
    .exact hon
    .exact qV ed.on hon me Qy k fK
   have nX:∀ j,(listed.setIfInBounds i true).getD j false=(listed.getD j false||decide (j=i)):=by
    intro j
    by_cases Ij:j=i
    .subst Ij
     have:(listed.setIfInBounds j true).getD j false=true:=by simp [hls]
     rw [this];simp
    .rw [getD_set_ne false (Ne.symm Ij)];simp [Ij]
   have aOj:∀ V' a' w',Vt P Γ w0 M N df g0 T0 lab0 all es wi Vs (fun j=>(listed.setIfInBounds i true).getD j false) V' a' w'->wpAny P .any all Q fuel (listed.setIfInBounds i true) a' w':=by
    intro V' a' w' fP
    refine ih _ V' a' w' (by simpa using hl) ?_ (fun s hs m' jZ k hk=>?_) fP
    .have:=filter_lt (f:=fun j => !listed.getD j false) (f':=fun j => !(listed.setIfInBounds i true).getD j false) (i:=i) (List.range all.size) (List.mem_range.2 cL) (fun j hj=>by
      rw [nX] at hj
      simp only [Bool.not_eq_true',Bool.or_eq_false_iff] at hj
      simp only [hj.1,Bool.not_false]) (by simp only [hSi,Bool.not_false]) (by rw [nX];simp)
     omega
    .rw [nX] at hs |-
     simp only [Bool.or_eq_true,decide_eq_true_eq] at hs |-
     rcases hs with hs | rfl
     .exact .inl (qV s hs m' jZ k hk)
     .rw [hm] at jZ;cases jZ
      exact .inl (hmS k hk)
   obtain ⟨b0,nG⟩:=hd.eff i m o e hm ho he
   have aOi:∀ q∈e.bO,q:=rK e (List.mem_of_getElem? he)
   unfold Cy at nG
   split at nG
   case h_2=>cases nG
   rename_i e1 aOo
   simp only [aV] at nG
   obtain ⟨aTd,Up,vF,hv1⟩:(∀ q∈e1.bO,q)/\e.new=e1.new/\e.wr=e1.wr/\∀ V,den V e.val=den V e1.val:=by subst nG;exact Vz aOi
   have aSv:∀ T:bB,∀ l,eQ T l e=eQ T l e1:=fun T l=>by unfold eQ bK.fA;rw [Up,vF]
   have hwf:∀ j,uJ all i j=true->listed.getD j false=false:=by
    intro j hj
    cases hb:listed.getD j false with
    | false=>rfl
    | true=>
      exfalso
      unfold uJ at hj
      split at hj
      case h_2=>cases hj
      rename_i oj hoj
      obtain ⟨ed,Ys,hq⟩:=List.any_eq_true.1 hj
      simp only [iG] at hq
      have hjl:=(Array.getElem?_eq_some_iff.1 hoj).1
      obtain ⟨mj,hmj⟩:∃ m,ms[j]?=some m:=⟨_,List.getElem?_eq_getElem (by rw [hd.xU];exact hjl)⟩
      have h3:=(hd.aft j mj oj hmj hoj ed (by simpa using Ys) hq.2).2
      rw [cM hq.1] at h3
      have:=qV j hb mj hmj i h3
      rw [hSi] at this;cases this
   have aOm:∀ {t v},vK g0 all es i m t=some v->gS all.toList (fun j=>es[j]?) g0 (fun j=>listed.getD j false) (fun j => !listed.getD j false) t=some v:=fun hv=>aGl hmS hwf hv
   have htm:cF V (vK g0 all es i m) a:=fun t v hv=>hi.tmp t v (aOm hv)
   have aAl:∀ d v,vK g0 all es i m d=some v->d<a.tmps.size:=by
    intro d v hv
    refine Nat.lt_of_lt_of_le ?_ hi.size
    unfold vK gS at hv
    cases Ic:jL d all.toList 0 with
    | none=>rw [Ic] at hv;exact xX d v hv
    | some j=>
      obtain ⟨o',_,jS,xW⟩:=mC Ic
      exact hN j o' d (by simpa using jS) xW
   have zM:∀ {V' x w'},V.ext (lab0+8*i) V'->(o.dst.isSome=true->den V' e1.val=some x)->aD w0 M V' (eQ (TS T0 lab0 all.size (fun j=>es[j]?) (yN es wi (fun j=>listed.getD j false)) (fun j=>listed.getD j false)) (lab0+8*i) e1) w' ->
    wpAny P .any all Q fuel (listed.setIfInBounds i true) (a.put o.dst x) w':=fun hV hx hT=>
    aOj _ _ _ (hi.put hd ho he hm hSi nX (fun d xW=>hN i o d ho xW) qV hV (fun hs=>by rw [hv1];exact hx hs) (by rw [aSv];exact hT))
   unfold wpOp
   simp only [ho]
   have nG:=aOo
   unfold PX at nG
   split at nG
   .rename_i hw
    have hw:=oJ htm aAl hw
    rw [if_neg (by rw [hw];simp)]
    simp only [aV] at nG
    subst nG
    refine zM (V.cN _) (fun _=>rfl) ?_
    rw [jW _ _ rfl rfl]
    exact hi.fA
   .rename_i hw
    have hw:=oJ htm aAl hw
    rw [if_pos hw]
    left
    have sim:∀ {T':bB},(∀ l B,T' l=some B->TS T0 lab0 all.size (fun j=>es[j]?) (yN es wi (fun j=>listed.getD j false)) (fun j=>listed.getD j false) l=some B) ->
     zU Γ (vK g0 all es i m) T' (lab0+8*i) (lab0+8*all.size) none o=some e1 ->
     o.wp P a w (wpAny P .any all Q fuel (listed.setIfInBounds i true)) Q:=fun aO gU=>
     Kt aW aY htm hi.aR aO hi.fA (hi.fresh i cL hSi) hi.top gU aTd _ Q fun V' x w' hV hx hT=>zM hV (fun _=>hx) hT
    split at nG
    .exact sim (fun l B hB=>by cases hB) nG
    .rename_i aOd
     have late:∀ s∈wi,listed.getD s false=true->¬ s<i->∃ lb e',es[s]?=some e'/\Mi Γ (vK g0 all es i m) o=some lb/\look lb e'.wr=none:=by
      intro s hs wQ Um
      have Mc:=hd.pA s hs
      obtain ⟨m',jZ⟩:∃ q,ms[s]?=some q:=⟨_,List.getElem?_eq_getElem (by rw [hd.xU];exact Mc)⟩
      have dJ:s≠i:=fun q=>by subst q;rw [hSi] at wQ;cases wQ
      rcases hd.wnp s hs m' jZ i o (by omega) ho with (h3 | h3) | ⟨mj,lb,e',k1,k2,k3,k4⟩
      .rw [aOd] at h3;cases h3
      .have:=qV s wQ m' jZ i h3
       rw [hSi] at this;cases this
      .rw [hm] at k1;cases k1
       exact ⟨lb,e',k2,k3,k4⟩
     split at nG
     .rename_i lb hlb
      split at nG
      case h_2=>cases nG
      rename_i Vh
      have Vh:=Ha Vh
      refine sim (fun l B hB=>?_) nG
      obtain ⟨rfl,hB⟩:=GV hB
      have aOc:look l (yN es wi (fun j=>listed.getD j false))=look l (iO es ((pA i wi).filter fun s=>m.testBit s)):=by
       unfold yN
       have gen:∀ L:List Nat,(∀ s∈L,s∈wi)->look l (iO es (L.filter fun j=>listed.getD j false))=look l (iO es ((pA i L).filter fun s=>m.testBit s)):=by
        intro L
        induction L with
        | nil=>intro _;rfl
        | cons s r ih=>
          intro hL
          have ih:=ih (fun q hq=>hL q (eK _ hq))
          have hs:=hL s dB
          have Mc:=hd.pA s hs
          obtain ⟨es',PJ⟩:∃ q,es[s]?=some q:=⟨_,List.getElem?_eq_getElem (by rw [hd.Ib];exact Mc)⟩
          have aJs:look l es'.wr=none->look l (iO es (s::r.filter fun j=>listed.getD j false))=look l (iO es (r.filter fun j=>listed.getD j false)):=by
           intro hn
           simp only [iO,PJ,cB,hn]
          by_cases Um:s<i
          .have hb:Nat.blt s i=true:=by simpa [Nat.blt_eq] using Um
           simp only [pA,hb]
           cases Zj:m.testBit s with
           | true=>
             have wQ:=hmS s Zj
             rw [List.filter_cons,if_pos wQ,List.filter_cons,if_pos Zj]
             simp only [iO,PJ,cB,ih]
           | false=>
             rw [List.filter_cons (p:=fun s=>m.testBit s),if_neg (by rw [Zj];simp),<- ih]
             cases wQ:listed.getD s false with
             | false=>rw [List.filter_cons,if_neg (by rw [wQ];simp)]
             | true=>
               rw [List.filter_cons,if_pos wQ]
               rcases Vh s (by rw [mA,List.mem_filter];exact ⟨hs,hb⟩) with h4 | ⟨e',h4,h5⟩
               .rw [Zj] at h4;cases h4
               .rw [PJ] at h4;cases h4;exact aJs h5
          .have hb:Nat.blt s i=false:=by
            cases hb:Nat.blt s i with
            | false=>rfl
            | true=>exact absurd (by simpa [Nat.blt_eq] using hb) Um
           simp only [pA,hb]
           rw [<- ih]
           cases wQ:listed.getD s false with
           | false=>rw [List.filter_cons,if_neg (by rw [wQ];simp)]
           | true=>
             rw [List.filter_cons,if_pos wQ]
             obtain ⟨lb',e',k2,k3,k4⟩:=late s hs wQ Um
             rw [hlb] at k3;cases k3
             rw [PJ] at k2;cases k2
             exact aJs k4
       exact gen wi (fun s hs=>hs)
      have hB2:=Pb (S':=fun j=>listed.getD j false) hmS hB
      unfold TS at hB2 |-
      rw [aOc];exact hB2
     .rename_i MU
      split at nG
      case h_2=>cases nG
      rename_i YY
      refine sim (fun l B hB=>?_) nG
      have hB2:=Pb (S':=fun j=>listed.getD j false) hmS hB
      have Ul:iO es (pA i wi)=yN es wi (fun j=>listed.getD j false):=by
       unfold yN
       rw [mA]
       congr 1
       refine List.filter_congr fun s hs=>?_
       by_cases Um:s<i
       .have hb:Nat.blt s i=true:=by simpa [Nat.blt_eq] using Um
        rw [hb]
        exact (hmS s (FH YY s (by rw [mA,List.mem_filter];exact ⟨hs,hb⟩))).symm
       .have hb:Nat.blt s i=false:=by
         cases hb:Nat.blt s i with
         | false=>rfl
         | true=>exact absurd (by simpa [Nat.blt_eq] using hb) Um
        rw [hb]
        cases wQ:listed.getD s false with
        | false=>rfl
        | true=>
          obtain ⟨lb',e',k2,k3,k4⟩:=late s hs wQ Um
          rw [MU] at k3;cases k3
      rw [<- Ul]
      exact hB2
   .cases nG
end
noncomputable def mO (F0 N lab0 nx:Nat):List Oper->List bK->Nat->St->Option St
 | [],_,_,s=>some s
 | o::r,e::es,i,s=>match s.step F0 N o.dst e (lab0+8*i) nx with
   | some s'=>mO F0 N lab0 nx r es (i+1) s'
   | none=>none
 | _::_,[],_,_=>none
noncomputable def Ed (Γ:Env) (B:bB) (F0 N:Nat) (ops:Array Oper) (s:St):Option St:=
 match Ec Γ s.g.get (s.T B) s.nx ops.size ops ops.toList 0 [] [] [] s.hs with
 | some (es,_,_,hs)=>match mO F0 N s.nx (s.nx+8*ops.size) ops.toList es 0 s with
   | some s'=>some { g:=s'.g,tb:=s'.tb,nx:=s'.nx,ws:=s'.ws,ob:=s'.ob,df:=s'.df,hs:=hs }
   | none=>none
 | none=>none
theorem Kz {F0 N lab0 nx:Nat}:∀ {r:List Oper} {er:List bK} {i:Nat} {s s':St},mO F0 N lab0 nx r er i s=some s'->s'.df=s.df
 | [],er,i,s,s',h=>by simp only [mO,aV] at h;subst h;rfl
 | o::r,[],i,s,s',h=>by simp [mO] at h
 | o::r,e::er,i,s,s',h=>by
   simp only [mO] at h
   split at h
   .rename_i s1 h1;rw [Kz h,St.Sl h1]
   .cases h
structure aCt (B:bB) (F0 N lab0 nx:Nat) (all:Array Oper) (es:List bK) (wi:List Nat) (s0:St) (i:Nat) (s:St):Prop where
 T:s.T B=TS (s0.T B) lab0 all.size (fun j=>es[j]?) (yN es wi (fun j=>decide (j<i))) (fun j=>decide (j<i))
 g:∀ t v,s.g.get t=some v->(∃ j e,jL t all.toList 0=some j/\j<i/\es[j]?=some e/\e.val=v)\/((∀ j,jL t all.toList 0=some j->i<=j)/\s0.g.get t=some v)
 keys:∀ t v,s.g.get t=some v->t<N
 hi:∀ l,nx<=l->s.T B l=none
 ch:∀ l,l<F0->l ∉ s.ws->s.tb.get l=none
 ob0:∀ q∈s0.ob,q∈s.ob
 ob:∀ j e,j<i->es[j]?=some e->∀ q∈e.bO,q∈s.ob
 dN:∀ j o d,j<i->all[j]?=some o->o.dst=some d->d<N
 nxe:(s.nx=s0.nx/\i=0)\/s.nx=nx
theorem Kx {Γ:Env} {B:bB} {F0 N lab0 nx:Nat} {all:Array Oper} {es:List bK} {ms:List Nat} {wi:List Nat} {s0:St} {g0:Nat->Option SV} (hd:xQ Γ g0 (s0.T B) lab0 all.size all all.size es ms wi) (hnx:nx=lab0+8*all.size) :
 ∀ {r:List Oper} {er:List bK} {i:Nat} {s s':St},mO F0 N lab0 nx r er i s=some s'->(∀ k,r[k]?=all[i+k]?)->(∀ k,er[k]?=es[i+k]?)->i+r.length=all.size ->
   aCt B F0 N lab0 nx all es wi s0 i s->aCt B F0 N lab0 nx all es wi s0 all.size s'
 | [],er,i,s,s',h,hr,he,hl,hf=>by
   simp only [mO,aV] at h
   subst h
   have:i=all.size:=by simpa using hl
   rw [<- this];exact hf
 | o::r,[],i,s,s',h,hr,he,hl,hf=>by simp [mO] at h
 | o::r,e::er,i,s,s',h,hr,he,hl,hf=>by
   have ho:all[i]?=some o:=by have:=hr 0;simpa using this.symm
   have hee:es[i]?=some e:=by have:=he 0;simpa using this.symm
   have hi:i<all.size:=(Array.getElem?_eq_some_iff.1 ho).1
   have hr':∀ k,r[k]?=all[i+1+k]?:=fun k=>by
    have:=hr (k+1)
    rw [show i+1+k=i+(k+1) from by omega]
    simpa using this
   have gU:∀ k,er[k]?=es[i+1+k]?:=fun k=>by
    have:=he (k+1)
    rw [show i+1+k=i+(k+1) from by omega]
    simpa using this
   simp only [mO] at h
   split at h
   case h_2=>cases h
   rename_i s1 h1
   obtain ⟨k1,k2,k3,k4,k5,k6,k7,k8,k9⟩:=St.dM B h1
   refine Kx hd hnx h hr' gU (by simp at hl;omega) ?_
   have AJ:∀ j,decide (j<i+1)=(decide (j<i)||decide (j=i)):=by
    intro j
    by_cases h1:j<i
    .simp [h1];omega
    .by_cases h2:j=i
     .simp [h2]
     .simp [h1,h2];omega
   have CQ:=Uf (T0:=s0.T B) (lab0:=lab0) (n:=all.size) (wi:=wi) (S:=fun j=>decide (j<i)) (S':=fun j=>decide (j<i+1)) hi hee (by simp) AJ (hd.new i e hee) (hd.wrt i e hee) hd.wso (fun _ s _ wQ=>.inl (by simpa using wQ)) (fun s hs wQ e' gU l b hlk=>by
    have Mc:=hd.pA s hs
    obtain ⟨Ui,Is⟩:∃ q,ms[s]?=some q:=⟨_,List.getElem?_eq_getElem (by rw [hd.xU];exact Mc)⟩
    rcases hd.wlb s hs Ui Is e' gU l b hlk with h1 | ⟨h1,h2⟩
    .exact .inl h1
    .have:=hd.lt s Ui Is _ h2
     simp only [decide_eq_true_eq] at wQ
     exact .inr ⟨h1,by simp only [decide_eq_true_eq];omega⟩)
   refine ⟨?_,fun t v hv=>?_,fun t v hv=>?_,fun l hl=>?_,fun l hl hw=>?_,fun q hq=>?_,fun j e' hj hje q hq=>?_,fun j o' d hj jS xW=>?_,.inr k2⟩
   .rw [k1,hf.T,CQ]
   .rw [k6] at hv
    by_cases xW:o.dst=some t
    .rw [if_pos xW] at hv
     cases hv
     exact .inl ⟨i,e,hd.dst i o t hi ho xW,by omega,hee,rfl⟩
    .rw [if_neg xW] at hv
     rcases hf.g t v hv with ⟨j,e',h2,h3,h4,h5⟩ | ⟨h2,h3⟩
     .exact .inl ⟨j,e',h2,by omega,h4,h5⟩
     .refine .inr ⟨fun j hj=>?_,h3⟩
      have:=h2 j hj
      have dJ:j≠i:=by
       intro q
       subst q
       obtain ⟨o',_,jS,aTc⟩:=mC hj
       have:o'=o:=by
        have h1:all[j]?=some o':=by simpa using jS
        rw [ho] at h1;cases h1;rfl
       subst this
       exact xW aTc
      omega
   .rw [k6] at hv
    by_cases xW:o.dst=some t
    .exact k7 t xW
    .rw [if_neg xW] at hv;exact hf.keys t v hv
   .rw [k1]
    unfold eQ bK.fA
    rw [cB]
    cases hk:look l e.wr with
    | some b=>have:=k9 l b hk;omega
    | none=>
      have:look l (gC (lab0+8*i) e.new)=none:=by
       rw [eW]
       split
       .apply List.getElem?_eq_none;omega
       .rfl
      simp only [this]
      exact hf.hi l hl
   .exact k5 l hl hw (hf.ch l hl (fun q=>hw (k4 l q)))
   .rw [k3];exact List.mem_append_right _ (hf.ob0 q hq)
   .rw [k3]
    by_cases Ij:j=i
    .subst Ij;rw [hee] at hje;cases hje;exact List.mem_append_left _ hq
    .exact List.mem_append_right _ (hf.ob j e' (by omega) hje q hq)
   .by_cases Ij:j=i
    .subst Ij;rw [ho] at jS;cases jS;exact k7 d xW
    .exact hf.dN j o' d (by omega) jS xW
theorem Lf {P:Program} {Γ:Env} {w0:World} {M:Nat->Prop} {B:bB} {N F0:Nat} {V0:bA} (aW:cA P Γ) (aY:cH P Γ) (iQ:P.follows .mixedOrders=true) {id:Nat} {ops:Array Oper} {Q:Exit->Act->World->Prop}
 {s s':St} {V:bA} {a:Act} {w:World} (h:Ed Γ B F0 N ops s=some s') (ho:∀ q∈s'.ob,q) (hi:Inv P Γ w0 M B N F0 V0 s V a w)
 (hQ:∀ V' a' w',Inv P Γ w0 M B N F0 V0 s' V' a' w'->Q .normal a' w'):(Code.region id ops true).wp P Q a w:=by
 unfold Ed at h
 split at h
 case h_2=>cases h
 rename_i es ms wi vI he
 split at h
 case h_2=>cases h
 rename_i s1 h1
 cases h
 have h:=h1
 have hd:xQ Γ s.g.get (s.T B) s.nx ops.size ops ops.size es ms wi:=by
  have:=sH he (fun k=>by simp) xQ.nil
  simpa using this
 have hF0:aCt B F0 N s.nx (s.nx+8*ops.size) ops es wi s 0 s:=by
  refine ⟨?_,fun t v hv=>.inr ⟨fun j _=>Nat.zero_le _,hv⟩,hi.keys,fun l hl=>hi.hi l (by omega),hi.ch,fun q hq=>hq,fun j e hj=>by omega,fun j o d hj=>by omega,.inl ⟨rfl,rfl⟩⟩
  funext l
  have hw:yN es wi (fun j=>decide (j<0))=[]:=by
   unfold yN
   rw [List.filter_eq_nil_iff.2 (fun s _=>by simp)]
   rfl
  simp only [TS,hw,look,zR]
  by_cases hl:s.nx<=l/\l<s.nx+8*ops.size
  .rw [Kq hl.1 hl.2]
   simp [hi.hi l hl.1]
  .rw [Ei hl]
 have hF:=Kx hd rfl h (fun k=>by simp) (fun k=>by simp) (by simp) hF0
 refine wp_region_any iQ ?_
 refine aVu (M:=M) (w0:=w0) (N:=N) (df:=a.defers) (Vs:=V) aW aY hd (fun i o d fP xW=>hF.dN i o d (Array.getElem?_eq_some_iff.1 fP).1 fP xW) (fun e hee q hq=>?_) hi.keys (fun S V' a' w' kB hr=>?_) ops.size _ V a _ (by simp) ?_ ?_ ?_
 .obtain ⟨j,hj,hje⟩:=List.getElem_of_mem hee
  have hjl:j<ops.size:=by rw [hd.Ib] at hj;exact hj
  exact ho q (hF.ob j e hjl (by rw [List.getElem?_eq_getElem hj,hje]) q hq)
 .refine hQ V' a' w' ⟨fun t v hv=>?_,hF.keys,hr.size,(by obtain ⟨xs,fO,mJ⟩:=hi.defers;exact ⟨xs,by rw [Kz h];exact cS hr.le fO,hr.defers.trans mJ⟩),?_,hr.aR,?_,bA.le_trans hi.le hr.le,fun l hl=>?_,hF.ch,?_,fun l hl=>?_⟩
  .refine hr.tmp t v ?_
   unfold gS
   rcases hF.g t v hv with ⟨j,e,h2,h3,h4,h5⟩ | ⟨h2,h3⟩
   .rw [h2]
    simp only [kB j h3,h4,gQ,h5]
   .cases Ic:jL t ops.toList 0 with
    | none=>exact h3
    | some j=>
      have:=h2 j Ic
      obtain ⟨o',_,jS,_⟩:=mC Ic
      have cL:=(List.getElem?_eq_some_iff.1 jS).1
      simp at cL
      omega
  .refine hr.fA.sub fun l b hl=>?_
   have hl:s1.T B l=some b:=hl
   rw [hF.T] at hl
   have hw:yN es wi (fun j=>decide (j<ops.size))=yN es wi S:=by
    unfold yN
    congr 1
    refine List.filter_congr fun q hq=>?_
    have:=hd.pA q hq
    rw [kB q this]
    simpa using this
   rw [hw] at hl
   refine Pb (fun j hj=>?_) hl
   exact kB j (by simpa using hj)
  .refine hr.top.mono ?_
   rcases hF.nxe with ⟨h1,h2⟩ | h2
   .rw [h1,h2];exact dF _
   .rw [h2];exact dF _
  .have h1:=hr.low l (Nat.lt_of_lt_of_le hl hi.nx)
   rw [h1.1,h1.2]
   exact hi.low l hl
  .rcases hF.nxe with ⟨h1,_⟩ | h2
   .rw [h1];exact hi.nx
   .rw [h2];have:=hi.nx;omega
  .rcases hF.nxe with ⟨h1,h2⟩ | h2
   .exact hF.hi l (by rw [h1] at hl;rw [h2];exact hl)
   .exact hF.hi l (by rw [h2] at hl;exact hl)
 .have:=List.length_filter_le (fun j => !(Array.replicate ops.size false).getD j false) (List.range ops.size)
  simpa using this
 .intro q hq
  exfalso
  simp [Array.getElem?_replicate] at hq
  split at hq <;> simp at hq
 .have hS:∀ j,(Array.replicate ops.size false).getD j false=false:=by
   intro j
   simp [Array.getElem?_replicate]
   split <;> rfl
  refine ⟨fun t v hv=>?_,hi.size,rfl,?_,hi.aR,hi.top.mono (by omega),fun j _ _=>fun l h1 _=>hi.top l (by omega),bA.le_refl V,fun l _=>⟨rfl,rfl⟩⟩
  .unfold gS at hv
   cases Ic:jL t ops.toList 0 with
   | none=>rw [Ic] at hv;exact hi.tmp t v hv
   | some j=>rw [Ic] at hv;simp only [hS j,Bool.not_false] at hv;exact hi.tmp t v hv
  .have hT0:aD w0 M V (s.T B) { w with drawn:=w.drawn+1 }:=hi.fA.aPj rfl rfl rfl rfl
   refine hT0.sub fun l b hl=>?_
   have hw:yN es wi (fun j=>(Array.replicate ops.size false).getD j false)=[]:=by
    unfold yN
    rw [List.filter_eq_nil_iff.2 (fun s _=>by simp only [hS s];simp)]
    rfl
   simp only [TS,hw,look,zR] at hl
   split at hl
   .simp only [hS] at hl;cases hl
   .exact hl
inductive Ex where
 | normal
 | exit (id:Nat)
 | ret
def Ex.to:Ex->Exit
 | .normal=>.normal
 | .exit id=>.exit id
 | .ret=>.ret
noncomputable def Ka (Γ:Env) (B:bB) (F0 N:Nat) (rec:Code->St->Option (St × Ex)) (c:Code) (s:St):Option (St × Ex):=
 match c with
 | .skip=>some (s,.normal)
 | .label _=>some (s,.normal)
 | .region _ ops d=>match d with
   | true=>match Ed Γ B F0 N ops s with
     | some s'=>some (s',.normal)
     | none=>none
   | false=>match Fs Γ B F0 N ops ops.toList s with
     | some s'=>some (s',.normal)
     | none=>none
 | .seq x y=>match rec x s with
   | some (s',.normal)=>rec y s'
   | r=>r
 | .cond c x y=>match ev Γ s.g.get c with
   | some (.bool true true)=>rec x s
   | some (.bool true false)=>rec y s
   | some (.bool false b)=>match s.hs with
     | true::r=>rec x { s with ob:=(b=true)::s.ob,hs:=r }
     | false::r=>rec y { s with ob:=(b=false)::s.ob,hs:=r }
     | []=>none
   | _=>none
 | .block id c=>match rec c s with
   | some (s',.exit Ih)=>match Nat.beq Ih id with
     | true=>some (s',.normal)
     | false=>some (s',.exit Ih)
   | r=>r
 | .loop c=>match rec c s with
   | some (s',.normal)=>rec (.loop c) s'
   | r=>r
 | .exit id=>some (s,.exit id)
 | .ret=>some (s,.ret)
 | .scope c=>rec c s
 | _=>none
noncomputable def exec (Γ:Env) (B:bB) (F0 N:Nat) (n:Nat):Code->St->Option (St × Ex):=
 Nat.rec (fun _ _=>none) (fun _ ih=>Ka Γ B F0 N ih) n
theorem wF {Γ:Env} {B:bB} {F0 N:Nat} (c:Code) (s:St):exec Γ B F0 N 0 c s=none:=rfl
theorem wG {Γ:Env} {B:bB} {F0 N:Nat} (n:Nat) (c:Code) (s:St):exec Γ B F0 N (n+1) c s=Ka Γ B F0 N (exec Γ B F0 N n) c s:=rfl
theorem Ky {F0 N lab0 nx:Nat}:∀ {r:List Oper} {er:List bK} {i:Nat} {s s':St},mO F0 N lab0 nx r er i s=some s'->∀ q∈s.ob,q∈s'.ob
 | [],er,i,s,s',h,q,hq=>by simp only [mO,aV] at h;subst h;exact hq
 | o::r,[],i,s,s',h,q,hq=>by simp [mO] at h
 | o::r,e::er,i,s,s',h,q,hq=>by
   simp only [mO] at h
   split at h
   .rename_i s1 h1
    have:=(St.dM (fun _=>none) h1).2.2.1
    exact Ky h q (by rw [this];exact List.mem_append_right _ hq)
   .cases h
theorem Lg {Γ:Env} {B:bB} {F0 N:Nat} {ops:Array Oper} {s s':St} (h:Ed Γ B F0 N ops s=some s'):∀ q∈s.ob,q∈s'.ob:=by
 unfold Ed at h
 split at h
 .split at h
  .rename_i s1 h1
   cases h
   exact Ky (s':=s1) h1
  .cases h
 .cases h
theorem yH {Γ:Env} {B:bB} {F0 N:Nat}:∀ {n:Nat} {c:Code} {s s':St} {x:Ex},exec Γ B F0 N n c s=some (s',x)->∀ q∈s.ob,q∈s'.ob:=by
 intro n
 induction n with
 | zero=>intro c s s' x h;rw [wF] at h;cases h
 | succ n ih=>
   intro c s s' x h q hq
   rw [wG] at h
   unfold Ka at h
   split at h
   .cases h;exact hq
   .cases h;exact hq
   .split at h
    .split at h
     .rename_i s1 h1;cases h;exact Lg h1 q hq
     .cases h
    .split at h
     .rename_i s1 h1;cases h;exact tL h1 q hq
     .cases h
   .split at h
    .rename_i s1 h1;exact ih h q (ih h1 q hq)
    .exact ih h q hq
   .split at h
    .exact ih h q hq
    .exact ih h q hq
    .split at h
     .exact ih h q (eK _ hq)
     .exact ih h q (eK _ hq)
     .cases h
    .cases h
   .split at h
    .rename_i s1 Ih h1
     split at h <;> (cases h;exact ih h1 q hq)
    .exact ih h q hq
   .split at h
    .rename_i s1 h1;exact ih h q (ih h1 q hq)
    .exact ih h q hq
   .cases h;exact hq
   .cases h;exact hq
   .exact ih h q hq
   .cases h
theorem WU {P:Program} {Γ:Env} {w0:World} {M:Nat->Prop} {B:bB} {N F0:Nat} {V0:bA} (aW:cA P Γ) (aY:cH P Γ) (iQ:P.follows .mixedOrders=true) :
 ∀ (n:Nat),(∀ {c:Code} {s s':St} {x:Ex} {V:bA} {a:Act} {w:World} {Q:Exit->Act->World->Prop},exec Γ B F0 N n c s=some (s',x)->(∀ q∈s'.ob,q)->Inv P Γ w0 M B N F0 V0 s V a w ->
   (∀ V' a' w',Inv P Γ w0 M B N F0 V0 s' V' a' w'->Q x.to a' w')->c.wp P Q a w) /\
 (∀ {c:Code} {s s':St} {x:Ex} {V:bA} {a:Act} {w:World} {Q:Exit->Act->World->Prop},exec Γ B F0 N n (.loop c) s=some (s',x)->(∀ q∈s'.ob,q)->Inv P Γ w0 M B N F0 V0 s V a w ->
  (∀ V' a' w',Inv P Γ w0 M B N F0 V0 s' V' a' w'->Q x.to a' w')->Code.rounds P c Q n a w):=by
 intro n
 induction n with
 | zero=>exact ⟨fun h=>(by rw [wF] at h;cases h),fun h=>(by rw [wF] at h;cases h)⟩
 | succ n ih=>
   obtain ⟨ih,il⟩:=ih
   have loop:∀ {c:Code} {s s':St} {x:Ex} {V:bA} {a:Act} {w:World} {Q:Exit->Act->World->Prop},exec Γ B F0 N (n+1) (.loop c) s=some (s',x)->(∀ q∈s'.ob,q)->Inv P Γ w0 M B N F0 V0 s V a w ->
    (∀ V' a' w',Inv P Γ w0 M B N F0 V0 s' V' a' w'->Q x.to a' w')->Code.rounds P c Q (n+1) a w:=by
    intro c s s' x V a w Q h ho hi hQ
    rw [wG] at h
    simp only [Ka] at h
    rw [rounds_succ]
    split at h
    .rename_i s1 h1
     exact ih h1 (fun q hq=>ho q (yH h q hq)) hi fun V' a' w' fP=>il h ho fP hQ
    .rename_i dJ
     refine ih h ho hi fun V' a' w' fP=>?_
     have:=hQ V' a' w' fP
     cases x with
     | normal=>exact absurd h (fun q=>dJ _ q)
     | exit id=>exact this
     | ret=>exact this
   refine ⟨?_,loop⟩
   intro c s s' x V a w Q h ho hi hQ
   have h0:=h
   rw [wG] at h
   unfold Ka at h
   split at h
   .cases h;exact wp_skip (hQ V a w hi)
   .cases h;exact wp_label (hQ V a w hi)
   .split at h
    .split at h
     .rename_i s1 h1;cases h;exact Lf aW aY iQ h1 ho hi hQ
     .cases h
    .split at h
     .rename_i s1 h1;cases h;exact wp_region_list (tK aW aY h1 ho hi hQ)
     .cases h
   .refine wp_seq ?_
    split at h
    .rename_i s1 h1
     exact ih h1 (fun q hq=>ho q (yH h q hq)) hi fun V' a' w' fP=>ih h ho fP hQ
    .rename_i dJ
     refine ih h ho hi fun V' a' w' fP=>?_
     have:=hQ V' a' w' fP
     cases x with
     | normal=>exact absurd h (fun q=>dJ _ q)
     | exit id=>exact this
     | ret=>exact this
   .split at h
    .rename_i hc
     have hc:=bH hi.tmp hi.aR hc
     simp only [den,aV] at hc
     exact wp_cond_true hc.symm (ih h ho hi hQ)
    .rename_i hc
     have hc:=bH hi.tmp hi.aR hc
     simp only [den,aV] at hc
     exact wp_cond_false hc.symm (ih h ho hi hQ)
    .rename_i b hc
     have hc:=bH hi.tmp hi.aR hc
     simp only [den,aV] at hc
     split at h
     .have hb:b=true:=ho _ (yH h _ dB)
      rw [hb] at hc
      exact wp_cond_true hc.symm (ih h ho ⟨hi.tmp,hi.keys,hi.size,hi.defers,hi.fA,hi.aR,hi.top,hi.le,hi.low,hi.ch,hi.nx,hi.hi⟩ hQ)
     .have hb:b=false:=ho _ (yH h _ dB)
      rw [hb] at hc
      exact wp_cond_false hc.symm (ih h ho ⟨hi.tmp,hi.keys,hi.size,hi.defers,hi.fA,hi.aR,hi.top,hi.le,hi.low,hi.ch,hi.nx,hi.hi⟩ hQ)
     .cases h
    .cases h
   .refine wp_block ?_
    split at h
    .rename_i bid _ _ s1 Ih h1
     split at h
     .rename_i hb
      cases h
      refine ih h1 ho hi fun V' a' w' fP=>?_
      show (if Ih=bid then Q .normal a' w' else Q (.exit Ih) a' w')
      rw [if_pos (cM hb)]
      exact hQ V' a' w' fP
     .rename_i hb
      cases h
      refine ih h1 ho hi fun V' a' w' fP=>?_
      show (if Ih=bid then Q .normal a' w' else Q (.exit Ih) a' w')
      rw [if_neg (beq_false hb)]
      exact hQ V' a' w' fP
    .rename_i dJ
     refine ih h ho hi fun V' a' w' fP=>?_
     have:=hQ V' a' w' fP
     cases x with
     | normal=>exact this
     | exit id=>exact absurd h (fun q=>dJ _ _ q)
     | ret=>exact this
   .exact wp_loop_rounds (n+1) (loop h0 ho hi hQ)
   .cases h;exact wp_exit (hQ V a w hi)
   .cases h;exact wp_ret (hQ V a w hi)
   .refine wp_scope_straight (ih h ho hi fun V' a' w' fP=>?_)
    have:=hQ V' a' w' fP
    cases x <;> exact this
   .cases h
mutual
def yQ (ρ : Nat->Option Nat):SV->Option SV
 | .int s k n=>some (.int s k n)
 | .bool s b=>some (.bool s b)
 | .ptr l s off=>match ρ l with
   | some l=>some (.ptr l s off)
   | none=>none
 | .aG l s off len cap=>match ρ l with
   | some l=>some (.aG l s off len cap)
   | none=>none
 | .agg vs=>match zG ρ vs with
   | some vs=>some (.agg vs)
   | none=>none
 | .eF vs=>match zG ρ vs with
   | some vs=>some (.eF vs)
   | none=>none
 | .fn f xs ys=>match zG ρ xs,zG ρ ys with
   | some xs,some ys=>some (.fn f xs ys)
   | _,_=>none
 | .rC t v=>match yQ ρ v with
   | some v=>some (.rC t v)
   | none=>none
 | .raw v=>some (.raw v)
 | .ai k xs=>some (.ai k xs)
 | .buf l=>match ρ l with
   | some l=>some (.buf l)
   | none=>none
 | .iS l off=>match ρ l with
   | some l=>some (.iS l off)
   | none=>none
 | .lS l lo hi=>match ρ l with
   | some l=>some (.lS l lo hi)
   | none=>none
 | .iA l n=>match ρ l with
   | some l=>some (.iA l n)
   | none=>none
 | .dD l off len lo=>match ρ l with
   | some l=>some (.dD l off len lo)
   | none=>none
 | .Qr l n cap sz j le=>match ρ l,ρ le with
   | some l,some le=>some (.Qr l n cap sz j le)
   | _,_=>none
def zG (ρ : Nat->Option Nat):List SV->Option (List SV)
 | []=>some []
 | v::r=>match yQ ρ v,zG ρ r with
   | some v,some r=>some (v::r)
   | _,_=>none
end
def Ah (ρ : Nat->Option Nat) (V V':bA):Prop:=∀ l l',ρ l=some l'->(∀ p,V.β l=some p->V'.β l'=some p)/\(∀ v,V.σ l=some v->V'.σ l'=some v)
mutual
theorem Am {ρ : Nat->Option Nat} {V V':bA} (h:Ah ρ V V'):∀ {v v':SV} {x:Value},yQ ρ v=some v'->den V v=some x->den V' v'=some x
 | .int ..,v',x,hr,hd=>by simp only [yQ,aV] at hr;subst hr;exact hd
 | .bool ..,v',x,hr,hd=>by simp only [yQ,aV] at hr;subst hr;exact hd
 | .ai ..,v',x,hr,hd=>by simp only [yQ,aV] at hr;subst hr;exact hd
 | .ptr l s off,v',x,hr,hd=>by
   simp only [yQ] at hr
   split at hr
   .rename_i l' hl
    cases hr
    simp only [den,dC] at hd |-
    obtain ⟨p,hp,rfl⟩:=hd
    exact ⟨p,(h l l' hl).1 p hp,rfl⟩
   .cases hr
 | .aG l s off len cap,v',x,hr,hd=>by
   simp only [yQ] at hr
   split at hr
   .rename_i l' hl
    cases hr
    simp only [den,dC] at hd |-
    obtain ⟨p,hp,rfl⟩:=hd
    exact ⟨p,(h l l' hl).1 p hp,rfl⟩
   .cases hr
 | .agg vs,v',x,hr,hd=>by
   simp only [yQ] at hr
   split at hr
   .rename_i Hz hl
    cases hr
    simp only [den,dC] at hd |-
    obtain ⟨p,hp,rfl⟩:=hd
    exact ⟨p,mP h hl hp,rfl⟩
   .cases hr
 | .eF vs,v',x,hr,hd=>by
   simp only [yQ] at hr
   split at hr
   .rename_i Hz hl
    cases hr
    simp only [den,dC] at hd |-
    obtain ⟨p,hp,rfl⟩:=hd
    exact ⟨p,mP h hl hp,rfl⟩
   .cases hr
 | .fn f xs ys,v',x,hr,hd=>by
   simp only [yQ] at hr
   split at hr
   .rename_i hY ys' h1 h2
    cases hr
    simp only [den,dC,gL] at hd |-
    obtain ⟨p,hp,q,hq,rfl⟩:=hd
    exact ⟨p,mP h h1 hp,q,mP h h2 hq,rfl⟩
   .cases hr
 | .rC t v,v',x,hr,hd=>by
   simp only [yQ] at hr
   split at hr
   .rename_i u hl
    cases hr
    simp only [den,dC] at hd |-
    obtain ⟨p,hp,rfl⟩:=hd
    exact ⟨p,Am h hl hp,rfl⟩
   .cases hr
 | .raw v,v',x,hr,hd=>by simp only [yQ,aV] at hr;subst hr;exact hd
 | .Qr l n cap sz j le,v',x,hr,hd=>by
   simp only [yQ] at hr
   split at hr
   .rename_i l1 l2 MW vJ
    cases hr
    simp only [den,gL] at hd |-
    obtain ⟨p,hp,q,hq,e⟩:=hd
    exact ⟨p,(h l l1 MW).1 p hp,q,(h le l2 vJ).1 q hq,e⟩
   .cases hr
 | .buf l,v',x,hr,hd=>by
   simp only [yQ] at hr
   split at hr
   .rename_i l' hl;cases hr;simp only [den] at hd |-;exact (h l l' hl).2 x hd
   .cases hr
 | .iS l off,v',x,hr,hd=>by
   simp only [yQ] at hr
   split at hr
   .rename_i l' hl
    cases hr
    simp only [den] at hd |-
    split at hd
    .rename_i hs;rw [(h l l' hl).2 _ hs];exact hd
    .cases hd
   .cases hr
 | .lS l lo hi,v',x,hr,hd=>by
   simp only [yQ] at hr
   split at hr
   .rename_i l' hl
    cases hr
    simp only [den] at hd |-
    split at hd
    .rename_i hs;rw [(h l l' hl).2 _ hs];exact hd
    .cases hd
   .cases hr
 | .iA l n,v',x,hr,hd=>by
   simp only [yQ] at hr
   split at hr
   .rename_i l' hl
    cases hr
    simp only [den,gL] at hd |-
    obtain ⟨v,hv,hx⟩:=hd
    exact ⟨v,(h l l' hl).2 _ hv,hx⟩
   .cases hr
 | .dD l off len lo,v',x,hr,hd=>by
   simp only [yQ] at hr
   split at hr
   .rename_i l' hl
    cases hr
    simp only [den,dC,gL] at hd |-
    obtain ⟨p,hp,c,hc,rfl⟩:=hd
    refine ⟨p,(h l l' hl).1 p hp,c,?_,rfl⟩
    cases hs:V.σ l with
    | none=>rw [hs] at hc;cases hc
    | some v=>rw [(h l l' hl).2 v hs,<- hs];exact hc
   .cases hr
theorem mP {ρ : Nat->Option Nat} {V V':bA} (h:Ah ρ V V'):∀ {vs Hz:List SV} {xs:List Value},zG ρ vs=some Hz->aI V vs=some xs->aI V' Hz=some xs
 | [],Hz,xs,hr,hd=>by simp only [zG,aV] at hr;subst hr;simpa [aI] using hd
 | v::r,Hz,xs,hr,hd=>by
   simp only [zG] at hr
   split at hr
   .rename_i v' r' h1 h2
    cases hr
    simp only [aI,dC,gL] at hd |-
    obtain ⟨x,hx,ys,hy,rfl⟩:=hd
    exact ⟨x,Am h h1 hx,ys,mP h h2 hy,rfl⟩
   .cases hr
end
def xJ (ρ : Nat->Option Nat):SB->Option SB
 | .own cs ty=>match zG ρ cs with
   | some cs=>some (.own cs ty)
   | none=>none
 | .row sz cs ty=>match zG ρ cs with
   | some cs=>some (.row sz cs ty)
   | none=>none
 | .ints k xs ty=>some (.ints k xs ty)
 | .dL k xs ty=>some (.dL k xs ty)
 | .fM sz n ty=>some (.fM sz n ty)
 | .eH xs ty=>some (.eH xs ty)
 | .eI vs ty=>some (.eI vs ty)
 | .gone=>some .gone
 | _=>none
theorem pS {ρ : Nat->Option Nat} {V V':bA} (h:Ah ρ V V') {w:World} {l l':Nat} {B B':SB} (hl : ρ l=some l') (hr:xJ ρ B=some B') (mV:okB V w l B) :
 okB V' w l' B'/\(∀ n,B'.aT V' l'=some n->B.aT V l=some n)/\(∀ n,B.aT V l=some n->B'.aT V' l'=some n)/\B'.owned=B.owned:=by
 obtain ⟨h1,h2⟩:=h l l' hl
 obtain ⟨cs,hc,hk⟩:=mV
 cases B with
 | own cells ty=>
   simp only [xJ] at hr
   split at hr
   .rename_i cs' nU
    cases hr
    obtain ⟨b,hb,hh⟩:=hk
    have iD:=h1 _ hb
    exact ⟨⟨cs,mP h nU hc,b,iD,hh⟩,fun n hn=>by simpa [SB.aT,hb,iD] using hn,fun n hn=>by simpa [SB.aT,hb,iD] using hn,rfl⟩
   .cases hr
 | row sz cells ty=>
   simp only [xJ] at hr
   split at hr
   .rename_i cs' nU
    cases hr
    obtain ⟨b,cap,cur,hb,hσ,r⟩:=hk
    have iD:=h1 _ hb
    exact ⟨⟨cs,mP h nU hc,b,cap,cur,iD,h2 _ hσ,r⟩,fun n hn=>by simpa [SB.aT,hb,iD] using hn,fun n hn=>by simpa [SB.aT,hb,iD] using hn,rfl⟩
   .cases hr
 | ints k xs ty=>
   cases hr
   obtain ⟨b,hb,hh⟩:=hk
   have iD:=h1 _ hb
   exact ⟨⟨cs,hc,b,iD,hh⟩,fun n hn=>by simpa [SB.aT,hb,iD] using hn,fun n hn=>by simpa [SB.aT,hb,iD] using hn,rfl⟩
 | eI vs ty=>
   cases hr
   obtain ⟨b,hb,hh⟩:=hk
   have iD:=h1 _ hb
   exact ⟨⟨cs,hc,b,iD,hh⟩,fun n hn=>by simpa [SB.aT,hb,iD] using hn,fun n hn=>by simpa [SB.aT,hb,iD] using hn,rfl⟩
 | dL k xs ty=>
   cases hr
   obtain ⟨v,hσ,hh⟩:=hk
   have gD:=h2 _ hσ
   exact ⟨⟨cs,hc,v,gD,hh⟩,fun n hn=>by simpa [SB.aT,hσ,gD] using hn,fun n hn=>by simpa [SB.aT,hσ,gD] using hn,rfl⟩
 | fM sz n ty=>
   cases hr
   obtain ⟨v,us,hσ,hh⟩:=hk
   have gD:=h2 _ hσ
   exact ⟨⟨cs,hc,v,us,gD,hh⟩,fun n hn=>by simpa [SB.aT,hσ,gD] using hn,fun n hn=>by simpa [SB.aT,hσ,gD] using hn,rfl⟩
 | fL cells=>cases hr
 | nA k xs=>cases hr
 | iT k xs=>cases hr
 | qG xs=>cases hr
 | eH xs ty=>
   cases hr
   obtain ⟨v,hσ,hh⟩:=hk
   have gD:=h2 _ hσ
   exact ⟨⟨cs,hc,v,gD,hh⟩,fun n hn=>by simpa [SB.aT,hσ,gD] using hn,fun n hn=>by simpa [SB.aT,hσ,gD] using hn,rfl⟩
 | gone=>
   cases hr
   exact ⟨⟨[],rfl,trivial⟩,fun n hn=>by simp [SB.aT] at hn,fun n hn=>by simp [SB.aT] at hn,rfl⟩
theorem uM {ρ : Nat->Option Nat} {B B':SB} (h:xJ ρ B=some B'):B'.owned=true\/B' = .gone:=by
 cases B <;> simp only [xJ] at h <;> (try split at h) <;> first | (cases h;done) | (cases h;first | exact .inl rfl | exact .inr rfl)
def jF (V:bA) (T:bB) (n:Nat):Prop:=∃ l B,T l=some B/\B.owned=true/\B.aT V l=some n
theorem aD.part {w0 w:World} {M:Nat->Prop} {V:bA} {T T2:bB} (h:aD w0 M V T2 w) (aO:∀ l B,T l=some B->T2 l=some B):aD w (jF V T) V T w:=
 ⟨fun l B hl=>h.ok l B (aO l B hl),fun l B l' B' n dJ hl sP=>h.jI l B l' B' n dJ (aO l B hl) (aO l' B' sP),fun l B _ hl ho hb=>.inr ⟨l,B,hl,ho,hb⟩,gG.refl w _⟩
theorem aD.called {w0 w w':World} {M:Nat->Prop} {V V1 V2:bA} {T T2 Tf T':bB} (h:aD w0 M V T2 w) (aO:∀ l B,T l=some B->T2 l=some B)
 (hf:aD w (jF V T) V1 Tf w') (hV:V.le V2) (src:Nat->Option Nat)
 (pC:∀ l B,T' l=some B->(∃ k,src l=some k/\∃ C,Tf k=some C/\okB V2 w' l B/\(∀ n,B.aT V2 l=some n->C.aT V1 k=some n)/\B.owned=C.owned/\(B.owned=true\/B = .gone\/T2 l=some B))\/(src l=none/\T l=none/\T2 l=some B))
 (aTi:∀ l l' k,src l=some k->src l'=some k->l=l'):aD w0 M V2 T' w':=by
 have eZ:∀ l B n,T2 l=some B->B.aT V2 l=some n->B.aT V l=some n:=fun l B n hl hb=>by rwa [(h.ok l B hl).sC hV] at hb
 have MT:∀ l B n,T l=none->T2 l=some B->B.aT V l=some n->¬ jF V T n:=by
  rintro l B n h1 h2 h3 ⟨l1,B1,h4,h5,h6⟩
  have dJ:l1≠l:=fun e=>by subst e;rw [h1] at h4;cases h4
  exact h.jI l1 B1 l B n dJ (aO l1 B1 h4) h2 h5 h6 h3
 have Vh:∀ l B n,T l=none->T2 l=some B->B.aT V l=some n->∀ k C,Tf k=some C->C.owned=true->C.aT V1 k≠some n:=by
  intro l B n h1 h2 h3 k C hk ho hb
  have cL:=(h.ok l B h2).lt h3
  rcases hf.perm k C n hk ho hb with MX | hm
  .omega
  .exact MT l B n h1 h2 h3 hm
 refine ⟨fun l B hl=>?_,fun l B l' B' n dJ hl sP ho hb iD=>?_,fun l B n hl ho hb=>?_,?_⟩
 .rcases pC l B hl with ⟨k,_,C,_,mV,_⟩ | ⟨_,h1,h2⟩
  .exact mV
  .refine (h.ok l B h2).pI hV hf.frame.size fun n hn=>?_
   exact hf.frame.block n ((h.ok l B h2).lt hn) (MT l B n h1 h2 hn)
 .rcases pC l B hl with ⟨k,hk,C,hC,_,Ie,hoC,fD⟩ | ⟨hk,h1,h2⟩ <;> rcases pC l' B' sP with ⟨k',iH,C',hC',_,Vj,aTf,CS⟩ | ⟨iH,Mp,Yv⟩
  .have yR:k≠k':=fun e=>dJ (aTi l l' k hk (e ▸ iH))
   exact hf.jI k C k' C' n yR hC hC' (hoC ▸ ho) (Ie n hb) (Vj n iD)
  .exact Vh l' B' n Mp Yv (eZ l' B' n Yv iD) k C hC (hoC ▸ ho) (Ie n hb)
  .rcases CS with CS | rfl | aKm
   .exact Vh l B n h1 h2 (eZ l B n h2 hb) k' C' hC' (aTf ▸ CS) (Vj n iD)
   .simp [SB.aT] at iD
   .exact h.jI l B l' B' n dJ h2 aKm ho (eZ l B n h2 hb) (eZ l' B' n aKm iD)
  .exact h.jI l B l' B' n dJ h2 Yv ho (eZ l B n h2 hb) (eZ l' B' n Yv iD)
 .rcases pC l B hl with ⟨k,hk,C,hC,_,Ie,hoC,fD⟩ | ⟨hk,h1,h2⟩
  .rcases hf.perm k C n hC (hoC ▸ ho) (Ie n hb) with MX | ⟨l1,B1,h4,h5,h6⟩
   .have:=h.frame.size;left;omega
   .exact h.perm l1 B1 n (aO l1 B1 h4) h5 h6
  .exact h.perm l B n h2 ho (eZ l B n h2 hb)
 .refine h.frame.trans hf.frame fun n hn ⟨l1,B1,h4,h5,h6⟩=>?_
  rcases h.perm l1 B1 n (aO l1 B1 h4) h5 h6 with MX | hm
  .omega
  .exact hm
def bI (F:Nat) (T:bB):bB:=fun l=>match Nat.blt l F with
 | true=>T l
 | false=>none
theorem jY {F:Nat} {T:bB} {l:Nat} {B:SB} (h:bI F T l=some B):l<F/\T l=some B:=by
 unfold bI at h
 split at h
 .rename_i hb;exact ⟨by simpa [Nat.blt_eq] using hb,h⟩
 .cases h
noncomputable def Aa:List SV->Nat->Tr SV->Option (Tr SV)
 | [],_,t=>some t
 | v::r,i,t=>match Tr.put v 64 t i with
   | some t=>Aa r (i+1) t
   | none=>none
theorem wE:∀ {vs:List SV} {i:Nat} {t t':Tr SV},Aa vs i t=some t'->∀ m,t'.get m=if i<=m/\m<i+vs.length then vs[m-i]? else t.get m
 | [],i,t,t',h,m=>by
   simp only [Aa,aV] at h
   subst h
   rw [if_neg (by simp)]
 | v::r,i,t,t',h,m=>by
   simp only [Aa] at h
   split at h
   .rename_i t1 h1
    rw [wE h m]
    by_cases e:m=i
    .subst e
     rw [if_neg (by omega),Tr.gF _ _ _ _ _ h1,if_pos rfl,if_pos (by simp)]
     simp
    .by_cases e2:i+1<=m/\m<i+1+r.length
     .rw [if_pos e2,if_pos (by simp;omega),show m-i=(m-(i+1))+1 from by omega]
      simp
     .rw [if_neg e2,Tr.gF _ _ _ _ _ h1,if_neg e,if_neg (by simp;omega)]
   .cases h
mutual
def fC:SV->List Nat
 | .ptr l _ _=>[l]
 | .aG l _ _ _ _=>[l]
 | .agg vs=>zZ vs
 | .eF vs=>zZ vs
 | .fn _ xs ys=>zZ xs++zZ ys
 | .rC _ v=>fC v
 | .buf l=>[l]
 | .iS l _=>[l]
 | .lS l _ _=>[l]
 | .iA l _=>[l]
 | .Qr l _ _ _ _ le=>[l,le]
 | .dD l _ _ _=>[l]
 | _=>[]
def zZ:List SV->List Nat
 | []=>[]
 | v::r=>fC v++zZ r
end
def CO:SB->List Nat
 | .own cs _=>zZ cs
 | .row _ cs _=>zZ cs
 | _=>[]
noncomputable def reach (F:Nat) (tb:Tr SB):Nat->List Nat->List Nat->List Nat
 | 0,_,acc=>acc
 | _+1,[],acc=>acc
 | f+1,l::r,acc=>match Nat.blt l F||acc.elem l with
   | true=>reach F tb f r acc
   | false=>match tb.get l with
     | some B=>reach F tb f (CO B++r) (acc++[l])
     | none=>reach F tb f r acc
def Ct (l:Nat):List Nat->Nat->Option Nat
 | [],_=>none
 | k::r,i=>match Nat.beq k l with
   | true=>some i
   | false=>Ct l r (i+1)
theorem tP {l:Nat}:∀ {ls:List Nat} {i j:Nat},Ct l ls i=some j->i<=j/\ls[j-i]?=some l
 | [],i,j,h=>by cases h
 | k::r,i,j,h=>by
   simp only [Ct] at h
   split at h
   .rename_i hb
    cases h
    have:=cM hb
    subst this
    simp
   .obtain ⟨h1,h2⟩:=tP h
    refine ⟨by omega,?_⟩
    rw [show j-i=(j-(i+1))+1 from by omega]
    simpa using h2
def Du:List Nat->Bool
 | []=>true
 | k::r=>match r.elem k with
   | true=>false
   | false=>Du r
theorem uO:∀ {ls:List Nat},Du ls=true->∀ {i j k:Nat},ls[i]?=some k->ls[j]?=some k->i=j
 | [],_,i,j,k,hi,_=>by simp at hi
 | a::r,h,i,j,k,hi,hj=>by
   simp only [Du] at h
   split at h
   .cases h
   .rename_i hn
    have hn:a ∉ r:=by simpa using hn
    cases i with
    | zero=>
      simp only [List.getElem?_cons_zero,aV] at hi
      subst hi
      cases j with
      | zero=>rfl
      | succ j=>simp only [List.getElem?_cons_succ] at hj;exact absurd (List.mem_of_getElem? hj) hn
    | succ i=>
      simp only [List.getElem?_cons_succ] at hi
      cases j with
      | zero=>simp only [List.getElem?_cons_zero,aV] at hj;subst hj;exact absurd (List.mem_of_getElem? hi) hn
      | succ j=>simp only [List.getElem?_cons_succ] at hj;rw [uO h hi hj]
def nm (F lab:Nat) (ls:List Nat) (l:Nat):Option Nat:=match Nat.blt l F with
 | true=>some l
 | false=>match Ct l ls 0 with
   | some i=>some (lab+i)
   | none=>none
noncomputable def rT (ρ : Nat->Option Nat) (tb:Tr SB):List Nat->Option (List SB)
 | []=>some []
 | l::r=>match tb.get l with
   | some B=>match xJ ρ B,rT ρ tb r with
     | some B,some bs=>some (B::bs)
     | _,_=>none
   | none=>none
theorem sG {ρ : Nat->Option Nat} {tb:Tr SB}:∀ {ls:List Nat} {bs:List SB},rT ρ tb ls=some bs->bs.length=ls.length/\∀ (i:Nat) (B:SB),bs[i]?=some B->∃ (l:Nat) (C:SB),ls[i]?=some l/\tb.get l=some C/\xJ ρ C=some B
 | [],bs,h=>by simp only [rT,aV] at h;subst h;simp
 | l::r,bs,h=>by
   simp only [rT] at h
   split at h
   .rename_i C hC
    split at h
    .rename_i B' bs' hB hbs
     cases h
     obtain ⟨h1,h2⟩:=sG hbs
     refine ⟨by simp [h1],fun i B hi=>?_⟩
     cases i with
     | zero=>simp only [List.getElem?_cons_zero,aV] at hi;subst hi;exact ⟨l,C,rfl,hC,hB⟩
     | succ i=>simpa using h2 i B (by simpa using hi)
    .cases h
   .cases h
def nJ:List Nat->List SB->List (Nat × SB)
 | l::ls,b::bs=>(l,b)::nJ ls bs
 | _,_=>[]
theorem mB:∀ {ls:List Nat} {bs:List SB} {l:Nat} {B:SB},look l (nJ ls bs)=some B->∃ i:Nat,ls[i]?=some l/\bs[i]?=some B
 | [],_,l,B,h=>by simp [nJ,look] at h
 | _::_,[],l,B,h=>by simp [nJ,look] at h
 | k::ls,b::bs,l,B,h=>by
   simp only [nJ] at h
   by_cases e:k=l
   .subst e;rw [aK] at h;cases h;exact ⟨0,rfl,rfl⟩
   .rw [aH e] at h
    obtain ⟨i,h1,h2⟩:=mB h
    exact ⟨i+1,by simpa using h1,by simpa using h2⟩
theorem kI:∀ {ls:List Nat} {bs:List SB} {l:Nat},bs.length=ls.length->look l (nJ ls bs)=none->l ∉ ls
 | [],_,l,_,_=>by simp
 | _::_,[],l,hl,_=>by simp at hl
 | k::ls,b::bs,l,hl,h=>by
   simp only [nJ] at h
   by_cases e:k=l
   .subst e;rw [aK] at h;cases h
   .rw [aH e] at h
    have:=kI (by simpa using hl) h
    simp only [List.mem_cons,not_or]
    exact ⟨fun q=>e q.symm,this⟩
def OV (Γ:Env) (g:Nat->Option SV) (T:bB):ResultVar->Option (List Prop × SV)
 | .tmp t=>(g t).map fun v=>([],v)
 | .cell a t=>match g a,Γ.ty t with
   | some (.ptr l true off),some ti=>match T l with
     | some B=>match AV Γ ti.desc,B,Nat.beq off 0 with
       | some _,.ints k xs _,true=>some ([xs.length=ti.size],.ai k xs)
       | _,_,_=>match Qt B true off ti.size with
         | some (ob,r)=>match rP ti.desc with
           | true=>some (ob,.agg r)
           | false=>match r with
             | [v]=>some (ob,v)
             | _=>none
         | none=>none
     | none=>none
   | _,_=>none
def zF (Γ:Env) (g:Nat->Option SV) (T:bB):List ResultVar->Option (List Prop × List SV)
 | []=>some ([],[])
 | r::rs=>match OV Γ g T r,zF Γ g T rs with
   | some (a,v),some (b,vs)=>some (a++b,v::vs)
   | _,_=>none
noncomputable def St.MI (s:St) (ob:List Prop):St:={ s with ob:=ob++s.ob }
def res (vs:List SV):SV:=match vs with
 | [v]=>v
 | _=>.eF vs
noncomputable def finish (F lab:Nat) (s:St) (v:SV):Option bK:=
 match rT some s.tb s.ws with
 | none=>none
 | some bs0=>
   let ls:=reach F s.tb 4096 (fC v++(bs0.map CO).flatten) []
   match yQ (nm F lab ls) v,rT (nm F lab ls) s.tb ls,rT (nm F lab ls) s.tb s.ws,Nat.ble ls.length 8&&(Du ls&&(ls.all (fun l=>Nat.ble F l)&&s.ws.all (fun l=>Nat.blt l F))) with
   | some v,some new,some wr,true=>some { bO:=s.ob,val:=v,new:=new,wr:=nJ s.ws wr }
   | _,_,_,_=>none
noncomputable def jV (Γ:Env) (B:bB) (F0 N:Nat):List SV->St->Option St
 | [],s=>some s
 | v::r,s=>match v with
   | .fn (.func id) args Fz=>match Γ.PY id with
     | some S=>match S (args++Fz) (s.T B) s.nx (s.nx+8) with
       | some e=>match s.step F0 N none e s.nx (s.nx+8) with
         | some s'=>jV Γ B F0 N r s'
         | none=>none
       | none=>none
     | none=>none
   | _=>none
def rdS (dd:Bool) (o:Option St) (df:List SV) (s:St):Option St:=match dd with
 | true=>o
 | false=>match df with
   | []=>some s
   | _=>none
noncomputable def aJ (Γ:Env) (fn:Func) (dd:Bool) (hs:List Bool) (fuel:Nat):Sum:=fun vs T lab F=>
 match fn.body,Nat.ble vs.length fn.ntmps,Aa vs 0 .lf with
 | some c,true,some g=>match exec Γ (bI F T) F fn.ntmps fuel c { g:=g,tb:=.lf,nx:=F,ws:=[],ob:=[],hs:=hs } with
   | some (s,x)=>match x with
     | .exit _=>none
     | _=>match rdS dd (jV Γ (bI F T) F fn.ntmps s.df s) s.df s with
       | some s=>match zF Γ s.g.get (s.T (bI F T)) fn.results.toList with
         | some (ob,rs)=>finish F lab (s.MI ob) (res rs)
         | none=>none
       | none=>none
   | none=>none
 | _,_,_=>none
def My (tmps:Array Value):ResultVar->Sem Value
 | .tmp t=>pure (tmps.getD t undef)
 | .cell b t=>do loadVar t (<- asAddr (tmps.getD b undef))
theorem TK {P:Program} {Γ:Env} {w0 w:World} {M:Nat->Prop} {V:bA} {T:bB} {g:Nat->Option SV} {a:Act} (aW:cA P Γ) (ht:cF V g a) (hT:aD w0 M V T w) {r:ResultVar} {v:SV} {ob:List Prop} (h:OV Γ g T r=some (ob,v)) (ho:∀ q∈ob,q) :
 ∃ x,den V v=some x/\(My a.tmps r).run P w = .ok x w:=by
 cases r with
 | tmp t=>
   simp only [OV,dC,Prod.mk.injEq] at h
   obtain ⟨u,hu,_,rfl⟩:=h
   exact ⟨_,ht t u hu,rfl⟩
 | cell b t=>
   simp only [OV] at h
   split at h
   case h_2=>cases h
   rename_i l off ti hb dX
   have ex:=ht b _ hb
   simp only [den,dC] at ex
   obtain ⟨⟨bk,base⟩,hβ,ex⟩:=ex
   obtain ⟨hu,i,z,hi,fX,_⟩:=aW t ti dX
   have ex':a.tmps.getD b undef = .pointer (some ⟨bk,base+off,none⟩):=ex.symm
   split at h
   case h_2=>cases h
   rename_i B hB
   have mV:=hT.ok l B hB
   split at h
   .rename_i k0 k xs ty ha h0
    cases h
    have h0:=cM h0
    subst h0
    have hlen:xs.length=ti.size:=ho _ (by simp)
    have fZ:rP ti.desc=true:=by
     unfold AV at ha
     split at ha
     .rename_i hd;rw [hd];rfl
     .cases ha
    have hr:Qt (.ints k xs ty) false 0 ti.size=some ([0+ti.size<=xs.length],(List.range ti.size).map fun j=>.int false k (xs.getD (0+j) 0)):=rfl
    obtain ⟨zs,g1,g2,g3⟩:=oD mV hβ hr (by intro q hq;simp only [List.mem_singleton] at hq;subst hq;omega)
    rw [fI (V:=V) ti.size (fun j=>.int false k (xs.getD (0+j) 0)) (fun j=>.int k (xs.getD (0+j) 0)) (fun j _=>rfl),oV xs 0 ti.size (by omega) k] at g1
    cases g1
    have:=(dP hu hi bk (base+0) _ (by rw [g2,fX]) g3).1 fZ
    refine ⟨.agg (((xs.drop 0).take ti.size).map (Value.int k)).toArray,by rw [List.drop_zero,<- hlen,List.take_length];rfl,?_⟩
    simp only [My,ex',asAddr,Sem.run_bind,Sem.run_pure,Result.andThen_ok,this]
   .split at h
    case h_2=>cases h
    rename_i ob' r hr
    split at h
    .rename_i fZ
     cases h
     obtain ⟨xs,h1,h2,h3⟩:=oD mV hβ hr ho
     have:=(dP hu hi bk (base+off) xs (by rw [h2,fX]) h3).1 fZ
     refine ⟨.agg xs.toArray,by simp [den,h1],?_⟩
     simp only [My,ex',asAddr,Sem.run_bind,Sem.run_pure,Result.andThen_ok,this]
    .rename_i fZ
     split at h
     case h_2=>cases h
     rename_i v'
     cases h
     obtain ⟨xs,h1,h2,h3⟩:=oD mV hβ hr ho
     obtain ⟨y,rfl,hy⟩:=pX h1
     have:=(dP hu hi bk (base+off) [y] (by rw [h2,fX]) h3).2 fZ y rfl
     refine ⟨y,hy,?_⟩
     simp only [My,ex',asAddr,Sem.run_bind,Sem.run_pure,Result.andThen_ok,this]
theorem TJ {P:Program} {Γ:Env} {w0 w:World} {M:Nat->Prop} {V:bA} {T:bB} {g:Nat->Option SV} {a:Act} (aW:cA P Γ) (ht:cF V g a) (hT:aD w0 M V T w) {l:List ResultVar} {vs:List SV} {ob:List Prop} (h:zF Γ g T l=some (ob,vs)) (ho:∀ q∈ob,q) :
 ∃ xs,aI V vs=some xs/\(l.mapM (My a.tmps)).run P w = .ok xs w:=by
 induction l generalizing vs ob with
 | nil=>simp only [zF,aV,Prod.mk.injEq] at h;obtain ⟨_,rfl⟩:=h;exact ⟨[],rfl,by simp⟩
 | cons r l ih=>
   simp only [zF] at h
   split at h
   .rename_i oa v ob' us hv Dj
    cases h
    obtain ⟨x,hx,hrx⟩:=TK aW ht hT hv (fun q hq=>ho q (List.mem_append_left _ hq))
    obtain ⟨xs,nE,Un⟩:=ih Dj (fun q hq=>ho q (List.mem_append_right _ hq))
    refine ⟨x::xs,by simp [aI,hx,nE],?_⟩
    rw [List.mapM_cons]
    simp only [Sem.run_bind]
    rw [hrx]
    simp only [Result.andThen_ok,Un,Sem.run_pure]
   .cases h
theorem Bv {P:Program} {Γ:Env} {w0 w:World} {M:Nat->Prop} {V:bA} {T:bB} {g:Nat->Option SV} {a:Act} (aW:cA P Γ) (ht:cF V g a) (hT:aD w0 M V T w) {fn:Func} {vs:List SV} {ob:List Prop} (h:zF Γ g T fn.results.toList=some (ob,vs)) (ho:∀ q∈ob,q) :
 ∃ x,den V (res vs)=some x/\(results fn a.tmps).run P w = .ok x w:=by
 obtain ⟨xs,h1,h2⟩:=TJ (P:=P) aW ht hT h ho
 have h3:(fn.results.mapM (My a.tmps)).run P w = .ok xs.toArray w:=by
  rw [Array.mapM_eq_mapM_toList]
  simp only [Sem.run_map,h2]
  rfl
 have h4:results fn a.tmps=(do let vs <- fn.results.mapM (My a.tmps);pure (if h:vs.size=1 then vs[0] else .tuple vs)):=by
  unfold results
  congr 1
 rw [h4]
 simp only [Sem.run_bind,h3,Result.andThen_ok,Sem.run_pure]
 unfold res
 split
 .rename_i v
  obtain ⟨x,rfl,hx⟩:=pX h1
  exact ⟨x,hx,by simp⟩
 .rename_i dJ
  refine ⟨.tuple xs.toArray,by simp [den,h1],?_⟩
  have hl:=bG h1
  have:xs.toArray.size≠1:=by
   simp only [List.size_toArray,hl]
   intro q
   match vs,q with
   | [v],_=>exact dJ v rfl
  rw [dif_neg this]
theorem Inv.MI {P:Program} {Γ:Env} {w0:World} {M:Nat->Prop} {B:bB} {N F0:Nat} {V0:bA} {s:St} {V:bA} {a:Act} {w:World} (hi:Inv P Γ w0 M B N F0 V0 s V a w) (ob:List Prop):Inv P Γ w0 M B N F0 V0 (s.MI ob) V a w:=
 ⟨hi.tmp,hi.keys,hi.size,hi.defers,hi.fA,hi.aR,hi.top,hi.le,hi.low,hi.ch,hi.nx,hi.hi⟩
theorem Ev {P:Program} {Γ:Env} {w0 w w':World} {M:Nat->Prop} {V V1:bA} {T T2:bB} {N F lab:Nat} {s:St} {a':Act} {v:SV} {e:bK} {x:Value}
 (hT2:aD w0 M V T2 w) (aO:∀ l B,T l=some B->T2 l=some B) (hf:V.fresh lab)
 (hI:Inv P Γ w (jF V (bI F T)) (bI F T) N F V s V1 a' w') (hx:den V1 v=some x) (h:finish F lab s v=some e) :
 e.bO=s.ob/\∃ V2,V.ext lab V2/\den V2 e.val=some x/\aD w0 M V2 (eQ T2 lab e) w':=by
 unfold finish at h
 split at h
 case h_1=>cases h
 rename_i bs0 _
 obtain ⟨ls,hls⟩:∃ ls,ls=reach F s.tb 4096 (fC v++(bs0.map CO).flatten) []:=⟨_,rfl⟩
 simp only [<- hls] at h
 split at h
 case h_2=>cases h
 rename_i v' new wr hv AG Ul jT
 cases h
 simp only [iG] at jT
 obtain ⟨Zn,wP,hc3,hc4⟩:=jT
 have hlen:=kJ Zn
 have PH:∀ (i k:Nat),ls[i]?=some k->F<=k:=fun i k hk=>kJ (List.all_eq_true.1 hc3 k (List.mem_of_getElem? hk))
 have AB:∀ (i k:Nat),s.ws[i]?=some k->k<F:=fun i k hk=>by have:=List.all_eq_true.1 hc4 k (List.mem_of_getElem? hk);simpa [Nat.blt_eq] using this
 obtain ⟨MU,hng⟩:=sG AG
 obtain ⟨hwl,hwg⟩:=sG Ul
 refine ⟨rfl,⟨fun l=>if lab<=l/\l<lab+ls.length then (ls[l-lab]?).bind V1.β else V.β l,fun l=>if lab<=l/\l<lab+ls.length then (ls[l-lab]?).bind V1.σ else V.σ l⟩,?_⟩
 generalize hV2:(⟨fun l=>if lab<=l/\l<lab+ls.length then (ls[l-lab]?).bind V1.β else V.β l,fun l=>if lab<=l/\l<lab+ls.length then (ls[l-lab]?).bind V1.σ else V.σ l⟩:bA)=V2
 have out:∀ l,¬ (lab<=l/\l<lab+ls.length)->V2.β l=V.β l/\V2.σ l=V.σ l:=fun l hl=>by
  subst hV2;exact ⟨if_neg hl,if_neg hl⟩
 have inn:∀ i k,ls[i]?=some k->V2.β (lab+i)=V1.β k/\V2.σ (lab+i)=V1.σ k:=fun i k hk=>by
  have hi:=(List.getElem?_eq_some_iff.1 hk).1
  have hr:lab<=lab+i/\lab+i<lab+ls.length:=⟨by omega,by omega⟩
  subst hV2
  refine ⟨(if_pos hr).trans ?_,(if_pos hr).trans ?_⟩ <;> (rw [show lab+i-lab=i from by omega,hk];rfl)
 have bT:V.ext lab V2:=by
  refine ⟨⟨fun l p hp=>?_,fun l p hp=>?_⟩,fun l hl=>out l (by omega)⟩
  .rw [(out l (fun hr=>by have:=(hf l hr.1 (by omega)).1;rw [this] at hp;cases hp)).1];exact hp
  .rw [(out l (fun hr=>by have:=(hf l hr.1 (by omega)).2;rw [this] at hp;cases hp)).2];exact hp
 have xM:Ah (nm F lab ls) V1 V2:=by
  intro l l' hl
  unfold nm at hl
  split at hl
  .rename_i hb
   cases hl
   have hlF:l<F:=by simpa [Nat.blt_eq] using hb
   have nF:=hI.low l hlF
   rw [nF.1,nF.2]
   exact ⟨fun p hp=>bT.1.1 l p hp,fun p hp=>bT.1.2 l p hp⟩
  .split at hl
   .rename_i i hi
    cases hl
    obtain ⟨_,h2⟩:=tP hi
    have:=inn i l (by simpa using h2)
    rw [this.1,this.2]
    exact ⟨fun p hp=>hp,fun p hp=>hp⟩
   .cases hl
 refine ⟨bT,Am xM hv hx,?_⟩
 have aKg:∀ l B,bI F T l=some B->T2 l=some B:=fun l B hl=>aO l B (jY hl).2
 refine aD.called hT2 aKg hI.fA bT.1 (fun l=>if l∈s.ws then some l else if lab<=l/\l<lab+ls.length then ls[l-lab]? else (bI F T l).map fun _=>l) (fun l B hl=>?_) (fun l l' k hk iH=>?_)
 .unfold eQ bK.fA at hl
  simp only at hl
  rw [cB] at hl
  cases hw:look l (nJ s.ws wr) with
  | some b=>
    rw [hw] at hl
    cases hl
    obtain ⟨i,h1,h2⟩:=mB hw
    obtain ⟨k,C,h3,h4,h5⟩:=hwg i _ h2
    rw [h1] at h3;cases h3
    have aBw:l∈s.ws:=List.mem_of_getElem? h1
    have yU:s.T (bI F T) l=some C:=by simp only [St.T,h4]
    have NP:nm F lab ls l=some l:=by
     unfold nm
     have:Nat.blt l F=true:=by simpa [Nat.blt_eq] using AB i l h1
     rw [this]
    obtain ⟨r1,r2,r3,r4⟩:=pS xM NP h5 (hI.fA.ok l C yU)
    refine .inl ⟨l,if_pos aBw,C,yU,r1,r2,r4,?_⟩
    rcases uM h5 with q | q
    .exact .inl q
    .exact .inr (.inl q)
  | none=>
    rw [hw] at hl
    have PE:=kI hwl hw
    rw [eW] at hl
    by_cases hr:lab<=l/\l<lab+ls.length
    .have cL:l-lab<new.length:=by rw [MU];omega
     rw [if_pos hr.1,List.getElem?_eq_getElem cL] at hl
     cases hl
     obtain ⟨k,C,h3,h4,h5⟩:=hng (l-lab) _ (List.getElem?_eq_getElem cL)
     have yU:s.T (bI F T) k=some C:=by simp only [St.T,h4]
     have NP:nm F lab ls k=some l:=by
      unfold nm
      have hb:Nat.blt k F=false:=by
       cases hb:Nat.blt k F with
       | false=>rfl
       | true=>have:=PH _ _ h3;have:k<F:=by simpa [Nat.blt_eq] using hb
               omega
      rw [hb]
      simp only
      cases NR:Ct k ls 0 with
      | none=>
        exfalso
        have:∀ (ms:List Nat) (i:Nat),Ct k ms i=none->k ∉ ms:=by
         intro ms
         induction ms with
         | nil=>intro i _;simp
         | cons a r ih=>
           intro i hi
           simp only [Ct] at hi
           split at hi
           .cases hi
           .rename_i hb
            have:=beq_false hb
            simp only [List.mem_cons,not_or]
            exact ⟨fun q=>this q.symm,ih _ hi⟩
        exact this ls 0 NR (List.mem_of_getElem? h3)
      | some i=>
        simp only
        obtain ⟨_,h6⟩:=tP NR
        have:=uO wP h3 (by simpa using h6)
        congr 1
        omega
     obtain ⟨r1,r2,r3,r4⟩:=pS xM NP h5 (hI.fA.ok k C yU)
     refine .inl ⟨k,(if_neg PE).trans ((if_pos hr).trans h3),C,yU,r1,r2,r4,?_⟩
     rcases uM h5 with q | q
     .exact .inl q
     .exact .inr (.inl q)
    .have MT:(if lab<=l then new[l-lab]? else none)=none:=by
      split
      .apply List.getElem?_eq_none;rw [MU];omega
      .rfl
     rw [MT] at hl
     simp only at hl
     cases hc:bI F T l with
     | none=>exact .inr ⟨(if_neg PE).trans ((if_neg hr).trans (rfl)),rfl,hl⟩
     | some B0=>
       have hB0:=aKg l B0 hc
       rw [hl] at hB0;cases hB0
       have hlF:=(jY hc).1
       have yU:s.T (bI F T) l=some B:=by simp only [St.T,hI.ch l hlF PE,hc]
       have aTb:=hI.fA.ok l B yU
       have aKc:=hT2.ok l B hl
       refine .inl ⟨l,(if_neg PE).trans ((if_neg hr).trans (rfl)),B,yU,?_,fun n hn=>?_,rfl,.inr (.inr hl)⟩
       .obtain ⟨cs,d1,d2⟩:=aTb
        obtain ⟨cs0,d3,_⟩:=aKc
        have:=SB.iF hI.le d3
        rw [d1] at this;cases this
        refine ⟨cs,SB.iF bT.1 d3,?_⟩
        have e1:=(hI.low l hlF).1
        have e2:=(hI.low l hlF).2
        cases B with
        | own cells ty=>obtain ⟨b,hb,hh⟩:=d2;exact ⟨b,bT.1.1 _ _ (e1 ▸ hb),hh⟩
        | ints k xs ty=>obtain ⟨b,hb,hh⟩:=d2;exact ⟨b,bT.1.1 _ _ (e1 ▸ hb),hh⟩
        | eI vs ty=>obtain ⟨b,hb,hh⟩:=d2;exact ⟨b,bT.1.1 _ _ (e1 ▸ hb),hh⟩
        | fL cells=>obtain ⟨b,o,hb,hh⟩:=d2;exact ⟨b,o,bT.1.1 _ _ (e1 ▸ hb),hh⟩
        | nA k xs=>obtain ⟨b,o,hb,hh⟩:=d2;exact ⟨b,o,bT.1.1 _ _ (e1 ▸ hb),hh⟩
        | dL k xs ty=>obtain ⟨v,hv,hh⟩:=d2;exact ⟨v,bT.1.2 _ _ (e2 ▸ hv),hh⟩
        | fM sz n ty=>obtain ⟨v,us,hv,hh⟩:=d2;exact ⟨v,us,bT.1.2 _ _ (e2 ▸ hv),hh⟩
        | row sz cells ty=>obtain ⟨b,cap,cur,hb,hσ,r⟩:=d2;exact ⟨b,cap,cur,bT.1.1 _ _ (e1 ▸ hb),bT.1.2 _ _ (e2 ▸ hσ),r⟩
        | iT k xs=>obtain ⟨v,hv,hh⟩:=d2;exact ⟨v,bT.1.2 _ _ (e2 ▸ hv),hh⟩
        | eH xs ty=>obtain ⟨v,hv,hh⟩:=d2;exact ⟨v,bT.1.2 _ _ (e2 ▸ hv),hh⟩
        | qG xs=>obtain ⟨v,hv,hh⟩:=d2;exact ⟨v,bT.1.2 _ _ (e2 ▸ hv),hh⟩
        | gone=>trivial
       .have h0:=aKc.sC bT.1
        rw [h0] at hn
        exact SB.aIv hI.le hn
 .have Dh:∀ (l k:Nat),(if l∈s.ws then some l else if lab<=l/\l<lab+ls.length then ls[l-lab]? else (bI F T l).map fun _=>l)=some k ->
   (k=l/\l<F)\/(lab<=l/\ls[l-lab]?=some k/\F<=k):=by
   intro l k hk
   split at hk
   .rename_i hm
    cases hk
    obtain ⟨i,hi,hie⟩:=List.getElem_of_mem hm
    exact .inl ⟨rfl,AB i l (by rw [List.getElem?_eq_getElem hi,hie])⟩
   .split at hk
    .rename_i hr
     exact .inr ⟨hr.1,hk,PH _ _ hk⟩
    .simp only [dC] at hk
     obtain ⟨B,hB,rfl⟩:=hk
     exact .inl ⟨rfl,(jY hB).1⟩
  rcases Dh l k hk with ⟨h1,h2⟩ | ⟨h1,h2,h3⟩ <;> rcases Dh l' k iH with ⟨Mp,Yv⟩ | ⟨Mp,Yv,h3'⟩
  .omega
  .omega
  .omega
  .have:=uO wP h2 Yv
   omega
theorem uL {Γ:Env} {B:bB} {F0 N:Nat}:∀ {l:List SV} {s s':St},jV Γ B F0 N l s=some s'->∀ q∈s.ob,q∈s'.ob
 | [],s,s',h,q,hq=>by simp only [jV,aV] at h;subst h;exact hq
 | v::r,s,s',h,q,hq=>by
   unfold jV at h
   split at h
   .split at h
    .split at h
     .split at h
      .rename_i s1 h1
       have:=(St.dM B h1).2.2.1
       exact uL h q (by rw [this];exact List.mem_append_right _ hq)
      .cases h
     .cases h
    .cases h
   .cases h
theorem Bc {P:Program} {Γ:Env} {w0:World} {M:Nat->Prop} {B:bB} {N F0:Nat} {V0:bA} (aY:cH P Γ) {fn:Func} {R:Ending->World->Prop} {tmps:Array Value} :
 ∀ {l:List SV} {s s':St} {V:bA} {a:Act} {w:World} {xs:List Value},jV Γ B F0 N l s=some s'->(∀ q∈s'.ob,q)->Inv P Γ w0 M B N F0 V0 s V a w->a.tmps=tmps->aI V l=some xs ->
   (∀ V' a' w',Inv P Γ w0 M B N F0 V0 s' V' a' w'->a'.tmps=tmps->∃ v,(results fn tmps).run P w' = .ok v w'/\R (.returned v) w')->Leaves P fn tmps R (xs.map toD) .returning w
 | [],s,s',V,a,w,xs,h,ho,hi,ha,hx,hQ=>by
   simp only [jV,aV] at h
   subst h
   simp only [aI,aV] at hx
   subst hx
   exact hQ V a w hi ha
 | v::r,s,s',V,a,w,xs,h,ho,hi,ha,hx,hQ=>by
   unfold jV at h
   split at h
   case h_2=>cases h
   rename_i id args Fz
   split at h
   case h_2=>cases h
   rename_i S hS
   split at h
   case h_2=>cases h
   rename_i e he
   split at h
   case h_2=>cases h
   rename_i s1 h1
   simp only [aI,dC,gL] at hx
   obtain ⟨x,hx,ys,hy,rfl⟩:=hx
   simp only [den,gL,dC] at hx
   obtain ⟨aS,has,cs,nU,rfl⟩:=hx
   have rK:∀ q∈e.bO,q:=fun q hq=>ho q (uL h q (by rw [(St.dM B h1).2.2.1];exact List.mem_append_left _ hq))
   simp only [List.map_cons,toD]
   refine aY.2.1 id S hS _ _ _ _ _ he rK w0 M V _ w _ (fun _ _ hl=>hl) hi.fA hi.aR hi.top.fresh (hi.top.mono (by omega)) (cI has nU) fn tmps _ R (fun V' w' hV hT=>?_) aS.toArray cs.toArray (by simp)
   have fP:=hi.step (a:=a) (x:=undef) h1 (dF _) (dF _) hV (fun hd=>by cases hd) hT
   exact Bc aY h ho fP ha (cS hV.1 hy) hQ
theorem Wd {Γ:Env} {B:bB} {F0 N:Nat} {s s':St} (h:jV Γ B F0 N [] s=some s'):s'=s:=by
 simp only [jV,aV] at h;exact h.symm
theorem EK {o:Option St} {df:List SV} {s s2:St} (h:rdS false o df s=some s2):df=[]:=by
 unfold rdS at h
 split at h
 .rename_i h0;cases h0
 .split at h
  .rfl
  .cases h
theorem aEv {dd:Bool} {Γ:Env} {B:bB} {F0 N:Nat} {s s2:St} (h:rdS dd (jV Γ B F0 N s.df s) s.df s=some s2):jV Γ B F0 N s.df s=some s2:=by
 cases dd with
 | true=>exact h
 | false=>have:=EK h;unfold rdS at h;rw [this] at h |-;exact h
theorem xB {P:Program} {Γ:Env} (aW:cA P Γ) (aY:cH P Γ) (iQ:P.follows .mixedOrders=true) {fn:Func} {dd:Bool} {hs:List Bool} {fuel:Nat} {vs:List SV} {T T2:bB} {lab F:Nat} {e:bK} {w0:World} {M:Nat->Prop} {V:bA} {w:World} {xs:List Value}
 (h:aJ Γ fn dd hs fuel vs T lab F=some e) (ho:∀ q∈e.bO,q) (aO:∀ l B,T l=some B->T2 l=some B) (hT:aD w0 M V T2 w) (hg:bP Γ V) (hf:V.fresh lab) (hF:V.top F) (hx:aI V vs=some xs)
 {R:Ending->World->Prop} (hR:∀ V' x w',V.ext lab V'->den V' e.val=some x->aD w0 M V' (eQ T2 lab e) w'->R (.returned x) w') :
 ∃ c,fn.body=some c/\c.wp P (fun x a w=>bodyPostD P fn R x a w/\(dd=false->bodyPost P fn R x a w)) { tmps:=xs.toArray++Array.replicate (fn.ntmps-xs.toArray.size) undef,defers:=[] } w:=by
 unfold aJ at h
 split at h
 case h_2=>cases h
 rename_i c g hb hn xX
 split at h
 case h_2=>cases h
 rename_i s x hex
 have hn:=kJ hn
 have hlen:=bG hx
 have Jx:=wE xX
 have nE:xs.length=vs.length:=hlen
 have NS:Inv P Γ w (jF V (bI F T)) (bI F T) fn.ntmps F V { g:=g,tb:=.lf,nx:=F,ws:=[],ob:=[],hs:=hs } V { tmps:=xs.toArray++Array.replicate (fn.ntmps-xs.toArray.size) undef,defers:=[] } w:=by
  refine ⟨fun t v hv=>?_,fun d v hv=>?_,?_,⟨[],rfl,rfl⟩,?_,hg,hF,V.le_refl,fun l _=>⟨rfl,rfl⟩,fun l _ _=>rfl,dF _,fun l hl=>?_⟩
  .have:=Jx t
   simp only at hv
   rw [hv] at this
   split at this
   .rename_i hr
    obtain ⟨y,h1,h2⟩:=dO hx t v (by simpa using this.symm)
    rw [h2]
    have cL:t<xs.length:=by omega
    have qY:xs[t]?=some y:=h1
    simp [Act.eval,Array.getD_eq_getD_getElem?,Array.getElem?_append,cL] at qY |-
    exact qY.symm
   .cases this
  .have:=Jx d
   simp only at hv
   rw [hv] at this
   split at this
   .omega
   .cases this
  .simp
   omega
  .have hp:=aD.part hT (T:=bI F T) (fun l B hl=>aO l B (jY hl).2)
   have:St.T (bI F T) { g:=g,tb:=.lf,nx:=F,ws:=[],ob:=[],hs:=hs }=bI F T:=by funext l;rfl
   rw [this]
   exact hp
  .show (match Tr.get .lf l with | some b=>some b | none=>bI F T l)=none
   simp only [Tr.kF]
   cases hc:bI F T l with
   | none=>rfl
   | some B=>have:=(jY hc).1;simp only at hl;omega
 have fin:∀ s2,rdS dd (jV Γ (bI F T) F fn.ntmps s.df s) s.df s=some s2->(match zF Γ s2.g.get (s2.T (bI F T)) fn.results.toList with
   | some (ob,rs)=>finish F lab (s2.MI ob) (res rs)
   | none=>none)=some e ->
   (∀ q∈s2.ob,q)/\∀ V' a' w',Inv P Γ w (jF V (bI F T)) (bI F T) fn.ntmps F V s2 V' a' w'->∃ v,(results fn a'.tmps).run P w' = .ok v w'/\R (.returned v) w':=by
  intro s2 h2 h3
  split at h3
  case h_2=>cases h3
  rename_i obr rs Un
  have Zl:e.bO=obr++s2.ob:=by
   unfold finish at h3
   split at h3
   .cases h3
   .simp only at h3
    split at h3
    .cases h3;rfl
    .cases h3
  refine ⟨fun q hq=>ho q (Zl ▸ List.mem_append_right _ hq),fun V' a' w' fP=>?_⟩
  obtain ⟨v,hv1,hv2⟩:=Bv (P:=P) (fn:=fn) aW fP.tmp fP.fA Un (fun q hq=>ho q (Zl ▸ List.mem_append_left _ hq))
  obtain ⟨_,V2,k1,k2,k3⟩:=Ev hT aO hf (fP.MI obr) hv1 h3
  exact ⟨v,hv2,hR V2 v w' k1 k2 k3⟩
 have main:∀ s2,x.to = .normal\/x.to = .ret->rdS dd (jV Γ (bI F T) F fn.ntmps s.df s) s.df s=some s2->(match zF Γ s2.g.get (s2.T (bI F T)) fn.results.toList with
   | some (ob,rs)=>finish F lab (s2.MI ob) (res rs)
   | none=>none)=some e->∃ c,fn.body=some c/\c.wp P (fun x a w=>bodyPostD P fn R x a w/\(dd=false->bodyPost P fn R x a w)) { tmps:=xs.toArray++Array.replicate (fn.ntmps-xs.toArray.size) undef,defers:=[] } w:=by
  intro s2 hxn h2 h3
  obtain ⟨rK,PK⟩:=fin s2 h2 h3
  have dY:=aEv h2
  refine ⟨c,hb,(WU aW aY iQ fuel).1 hex (fun q hq=>rK q (uL dY q hq)) NS fun V' a' w' fP=>?_⟩
  obtain ⟨ys,gJ,Di⟩:=fP.defers
  have hl:Leaves P fn a'.tmps R a'.defers .returning w':=by
   rw [Di]
   exact Bc aY dY rK fP rfl gJ fun V3 a3 w3 hi3 ha3=>by
    obtain ⟨v,q1,q2⟩:=PK V3 a3 w3 hi3
    exact ⟨v,ha3 ▸ q1,q2⟩
  have hp:dd=false->a'.defers=[]/\∃ v,(results fn a'.tmps).run P w' = .ok v w'/\R (.returned v) w':=by
   intro hD
   have hdf:s.df=[]:=EK (hD ▸ h2)
   rw [hdf] at gJ dY
   simp only [aI,aV] at gJ
   subst gJ
   have:=Wd dY
   subst this
   exact ⟨Di,PK V' a' w' fP⟩
  rcases hxn with q | q <;> (rw [q];exact ⟨hl,hp⟩)
 cases x with
 | exit id=>simp only at h;cases h
 | normal=>
   simp only at h
   split at h
   .rename_i s2 h2;exact main s2 (.inl rfl) h2 h
   .cases h
 | ret=>
   simp only at h
   split at h
   .rename_i s2 h2;exact main s2 (.inr rfl) h2 h
   .cases h
theorem gB {P:Program} {f:FuncId} {fn:Func} {c:Code} {args:Array Value} {w:World} (sR:P.funcs[f]?=some fn) (hb:fn.body=some c) (dJ:(fn.name == "runtime.NumGoroutine")=false):(callFunc f args).run P w = .ok (.enter f args) w:=by
 unfold callFunc
 have zO:¬ fn.name = "runtime.NumGoroutine" := by simpa using dJ
 simp [sR,hb,zO]
theorem aM {P:Program} {Γ:Env} (aW:cA P Γ) (aY:cH P Γ) (iQ:P.follows .mixedOrders=true) {f:FuncId} {fn:Func} (sR:P.funcs[f]?=some fn) (dJ:(fn.name == "runtime.NumGoroutine")=false) (dd:Bool) (hs:List Bool) (fuel:Nat):aF P Γ f (aJ Γ fn dd hs fuel):=by
 intro vs T lab F e h ho w0 M V T2 w xs aO hT hg hf hF hx o a K Q hK
 obtain ⟨c,hb,hwp⟩:=xB aW aY iQ h ho aO hT hg hf hF hx (R:=fun
   | .returned v,NG=>K (a.put o.dst v) NG
   | .panicked chain,NG=>Q (.panic chain) a NG
   | .outgrown,_=>LetsOut Q) (fun V' x w' h1 h2 h3=>hK V' x w' h1 h2 h3)
 rw [gB sR hb dJ,Oper.upon_enter]
 exact calls_of_wp_defers sR hb (wp_mono hwp fun x a w h=>h.1)
theorem Pt {P:Program} {Γ:Env} (aW:cA P Γ) (aY:cH P Γ) (iQ:P.follows .mixedOrders=true) {f:FuncId} {fn:Func} (sR:P.funcs[f]?=some fn) (dJ:(fn.name == "runtime.NumGoroutine")=false) (hs:List Bool) (fuel:Nat):Av P Γ f (aJ Γ fn false hs fuel):=by
 intro vs T lab F e h ho w0 M V T2 w xs aO hT hg hf hF hx fn0 tmps ds R hK aS cs hac
 obtain ⟨c,hb,hwp⟩:=xB aW aY iQ h ho aO hT hg hf hF hx (R:=fun e' NG=>match e' with
   | .returned _=>Leaves P fn0 tmps R ds .returning NG
   | _=>False) (fun V' x w' h1 _ h3=>hK V' w' h1 h3)
 have nE:xs.toArray=aS++cs:=by apply Array.ext';simp [<- hac]
 refine leaves_cons (by simp) (f:=f) (args:=aS++cs) ?_ ?_
 .show (callFunc f (aS++cs)).run P w=_
  rw [gB sR hb dJ]
 .rw [<- nE]
  refine (callsD_of_wp (u:=.returning) sR hb (wp_mono hwp fun x a w h=>h.2 rfl)).mono fun e' u' w' h=>?_
  obtain ⟨rfl,h⟩:=h
  cases e' with
  | returned v=>exact h
  | panicked chain=>exact h.elim
  | outgrown=>exact h.elim
theorem aF.env {P:Program} {Γ Γ':Env} (h:Γ'.aR=Γ.aR) {f:FuncId} {S:Sum} (hs:aF P Γ f S):aF P Γ' f S:=
 fun vs T lab F e he ho w0 M V T2 w xs aO hT hg=>hs vs T lab F e he ho w0 M V T2 w xs aO hT (fun n l hn=>hg n l (h ▸ hn))
theorem Av.env {P:Program} {Γ Γ':Env} (h:Γ'.aR=Γ.aR) {f:FuncId} {S:Sum} (hs:Av P Γ f S):Av P Γ' f S:=
 fun vs T lab F e he ho w0 M V T2 w xs aO hT hg=>hs vs T lab F e he ho w0 M V T2 w xs aO hT (fun n l hn=>hg n l (h ▸ hn))
noncomputable def Iy (P:Program) (aR:List (Nat × Nat)) (cmp:List Nat) (ex:Nat->Option Sum) (tw:List (Nat × Nat)) (fuel:Nat) (n:Nat):Env:=
 Nat.rec { ty:=tiP P,aR:=aR,sum:=ex,PY:=fun _=>none,cmp:=cmp }
  (fun _ Γ=>{ ty:=tiP P,aR:=aR,cmp:=cmp
              sum:=fun f=>match ex f with
               | some S=>some S
               | none=>match P.funcs[(look f tw).getD f]? with
                 | some fn=>some (aJ Γ fn true [] fuel)
                 | none=>none
              PY:=fun f=>match P.funcs[f]? with
               | some fn=>some (aJ Γ fn false [] fuel)
               | none=>none }) n
theorem oI {P:Program} {aR:List (Nat × Nat)} {cmp:List Nat} {ex:Nat->Option Sum} {tw:List (Nat × Nat)} {fuel n:Nat}:(Iy P aR cmp ex tw fuel n).ty=tiP P/\(Iy P aR cmp ex tw fuel n).aR=aR/\(Iy P aR cmp ex tw fuel n).cmp=cmp:=by
 cases n <;> exact ⟨rfl,rfl,rfl⟩
structure FY (P:Program) (aR:List (Nat × Nat)) (cmp:List Nat) (ex:Nat->Option Sum) (tw:List (Nat × Nat)):Prop where
 mix:P.follows .mixedOrders=true
 names:∀ (f:Nat) (fn:Func),P.funcs[f]?=some fn->(fn.name == "runtime.NumGoroutine")=false
 cmp:∀ t:Nat,cmp.elem t=true->(∀ i,P.info? t=some i->i.comparable=true)/\P.stoodInHeld t=false
 depth:∃ d,P.depth=d+2
 tw:∀ f g:Nat,look f tw=some g->∀ (args:Array Value) (w:World),(callFunc f args).run P w=(callFunc g args).run P w
 ex:∀ f S,ex f=some S->∀ Γ:Env,Γ.aR=aR->aF P Γ f S
theorem XJ {P:Program} {aR:List (Nat × Nat)} {cmp:List Nat} {ex:Nat->Option Sum} {tw:List (Nat × Nat)} (h:FY P aR cmp ex tw) (fuel:Nat):∀ n,cH P (Iy P aR cmp ex tw fuel n):=by
 intro n
 induction n with
 | zero=>exact ⟨fun f S hS=>h.ex f S hS _ rfl,fun f S hS=>(by cases hS),h.cmp,h.depth⟩
 | succ n ih=>
   refine ⟨fun f S hS=>?_,fun f S hS=>?_,h.cmp,h.depth⟩
   .have hS:(match ex f with
     | some S=>some S
     | none=>match P.funcs[(look f tw).getD f]? with
       | some fn=>some (aJ (Iy P aR cmp ex tw fuel n) fn true [] fuel)
       | none=>none)=some S:=hS
    split at hS
    .rename_i S' hx;cases hS;exact h.ex f S hx _ rfl
    .split at hS
     .rename_i fn sR
      cases hS
      have hs:=(aM (cA.prog oI.1) ih h.mix sR (h.names _ fn sR) true [] fuel).env (Γ':=Iy P aR cmp ex tw fuel (n+1)) (by rw [oI.2.1,oI.2.1])
      cases htw:look f tw with
      | none=>rw [htw] at hs;exact hs
      | some g=>
        rw [htw] at hs
        intro vs T lab F e he ho w0 M V T2 w xs aO hT hg hf hF hx o a K Q hK
        rw [h.tw f g htw]
        exact hs vs T lab F e he ho w0 M V T2 w xs aO hT hg hf hF hx o a K Q hK
     .cases hS
   .have hS:(match P.funcs[f]? with
      | some fn=>some (aJ (Iy P aR cmp ex tw fuel n) fn false [] fuel)
      | none=>none)=some S:=hS
    split at hS
    .rename_i fn sR
     cases hS
     exact (Pt (cA.prog oI.1) ih h.mix sR (h.names f fn sR) [] fuel).env (by rw [oI.2.1,oI.2.1])
    .cases hS
theorem cA.env {P:Program} {Γ Γ':Env} (h:Γ'.ty=Γ.ty) (hs:cA P Γ):cA P Γ':=fun t ti ht=>hs t ti (h ▸ ht)
def Jg (a b:Int):Bool:=match a,b with
 | .ofNat m,.ofNat n=>Nat.beq m n
 | .negSucc m,.negSucc n=>Nat.beq m n
 | _,_=>false
theorem Ud {a b:Int} (h:Jg a b=true):a=b:=by
 unfold Jg at h
 split at h
 .rw [cM h]
 .rw [cM h]
 .cases h
def pJ (a b:IntKind):Bool:=decide (a=b)
def Nj (a b:Bool):Bool:=match a,b with
 | true,true=>true
 | false,false=>true
 | _,_=>false
theorem qQ {a b:Bool} (h:Nj a b=true):a=b:=by cases a <;> cases b <;> first | rfl | cases h
mutual
def oY:SV->SV->Bool
 | .int s k n,.int s' k' n'=>Nj s s'&&(pJ k k'&&Jg n n')
 | .bool s b,.bool s' b'=>Nj s s'&&Nj b b'
 | .agg vs,.agg us=>Jf vs us
 | .eF vs,.eF us=>Jf vs us
 | .ptr l s o,.ptr l' s' o'=>Nat.beq l l'&&(Nj s s'&&Nat.beq o o')
 | .aG l s o n c,.aG l' s' o' n' c'=>Nat.beq l l'&&(Nj s s'&&(Nat.beq o o'&&(Nat.beq n n'&&Nat.beq c c')))
 | _,_=>false
def Jf:List SV->List SV->Bool
 | [],[]=>true
 | v::r,u::t=>match oY v u with
   | true=>Jf r t
   | false=>false
 | _,_=>false
end
mutual
theorem YF:∀ {v u:SV},oY v u=true->v=u
 | .int s k n,u,h=>by
   cases u <;> simp only [oY,iG] at h <;> first | (cases h;done) | skip
   obtain ⟨h1,h2,h3⟩:=h
   rw [qQ h1,jG h2,Ud h3]
 | .bool s b,u,h=>by
   cases u <;> simp only [oY,iG] at h <;> first | (cases h;done) | skip
   rw [qQ h.1,qQ h.2]
 | .agg vs,u,h=>by
   cases u <;> simp only [oY] at h <;> first | (cases h;done) | skip
   rw [yJ h]
 | .eF vs,u,h=>by
   cases u <;> simp only [oY] at h <;> first | (cases h;done) | skip
   rw [yJ h]
 | .ptr l s o,u,h=>by
   cases u <;> simp only [oY,iG] at h <;> first | (cases h;done) | skip
   obtain ⟨h1,h2,h3⟩:=h
   rw [cM h1,qQ h2,cM h3]
 | .aG l s o n c,u,h=>by
   cases u <;> simp only [oY,iG] at h <;> first | (cases h;done) | skip
   obtain ⟨h1,h2,h3,h4,h5⟩:=h
   rw [cM h1,qQ h2,cM h3,cM h4,cM h5]
 | .fn ..,u,h=>by simp [oY] at h
 | .rC ..,u,h=>by simp [oY] at h
 | .raw ..,u,h=>by simp [oY] at h
 | .buf ..,u,h=>by simp [oY] at h
 | .iS ..,u,h=>by simp [oY] at h
 | .Qr ..,u,h=>by simp [oY] at h
 | .lS ..,u,h=>by simp [oY] at h
 | .iA ..,u,h=>by simp [oY] at h
 | .ai ..,u,h=>by simp [oY] at h
 | .dD ..,u,h=>by simp [oY] at h
theorem yJ:∀ {vs us:List SV},Jf vs us=true->vs=us
 | [],us,h=>by cases us <;> simp [Jf] at h |-
 | v::r,us,h=>by
   cases us with
   | nil=>simp [Jf] at h
   | cons u t=>
     simp only [Jf] at h
     split at h
     .rename_i h1;rw [YF h1,yJ h]
     .cases h
end
mutual
def fG:SV->Bool
 | .int .. | .bool .. | .raw _ | .ai .. => true
 | .agg vs=>Jn vs
 | .eF vs=>Jn vs
 | _=>false
def Jn:List SV->Bool
 | []=>true
 | v::r=>match fG v with
   | true=>Jn r
   | false=>false
end
mutual
theorem lX {V V':bA}:∀ {v:SV},fG v=true->den V v=den V' v
 | .int ..,_=>rfl
 | .bool ..,_=>rfl
 | .raw _,_=>rfl
 | .agg vs,h=>by simp only [den,Be (V:=V) (V':=V') (vs:=vs) h]
 | .eF vs,h=>by simp only [den,Be (V:=V) (V':=V') (vs:=vs) h]
 | .fn ..,h=>by cases h
 | .rC ..,h=>by cases h
 | .ptr ..,h=>by cases h
 | .aG ..,h=>by cases h
 | .buf ..,h=>by cases h
 | .iS ..,h=>by cases h
 | .Qr ..,h=>by cases h
 | .lS ..,h=>by cases h
 | .iA ..,h=>by cases h
 | .ai ..,_=>rfl
 | .dD ..,h=>by cases h
theorem Be {V V':bA}:∀ {vs:List SV},Jn vs=true->aI V vs=aI V' vs
 | [],_=>rfl
 | v::r,h=>by
   simp only [Jn] at h
   split at h
   .rename_i h1;simp only [aI,lX (V:=V) (V':=V') h1,Be (V:=V) (V':=V') h]
   .cases h
end
def orS (A B:Sum):Sum:=fun vs T lab F=>match A vs T lab F with
 | some e=>some e
 | none=>B vs T lab F
theorem ER {P:Program} {Γ:Env} {f:FuncId} {A B:Sum} (ha:aF P Γ f A) (hb:aF P Γ f B):aF P Γ f (orS A B):=by
 intro vs T lab F e he
 unfold orS at he
 split at he
 .rename_i e' h;cases he;exact ha vs T lab F _ h
 .exact hb vs T lab F e he
theorem qI {P:Program} {f g:FuncId} {fn fg:Func} {c:Code} {twin:String} (hf:P.funcs[f]?=some fn) (hg:P.funcs[g]?=some fg) (hb:fn.body=none) (hc:fg.body=some c)
 (hn:(fn.name == "runtime.NumGoroutine")=false) (hn2:(fg.name == "runtime.NumGoroutine")=false) (he:Extern.findNext fn=some (Extern.Twins.call twin fn.params fn.resultTypes))
 (hi:P.funcs.findIdx? (·.name==twin)=some g) (hp:fg.params=fn.params) (hr:fg.resultTypes=fn.resultTypes) (args:Array Value) (w:World) :
 (callFunc f args).run P w=(callFunc g args).run P w:=by
 rw [gB hg hc hn2]
 have Me:¬ fn.name = "runtime.NumGoroutine" := by simpa using hn
 unfold callFunc
 simp [hf,hb,Me,he,Extern.Twins.call,hi,hg,hp,hr,hc]
def vX (sub:Bool):Sum:=fun vs _ _ _=>match vs with
 | [.int sx .u64 x,.int sy .u64 y,.int sc .u64 c]=>match qX (sx&&(sy&&sc)) (0<=x/\0<=y/\0<=c/\c<=1) with
   | some l=>match sub with
     | false=>some { bO:=l,val:=.eF [.int (sx&&(sy&&sc)) .u64 ((x+y+c)%18446744073709551616),.int (sx&&(sy&&sc)) .u64 ((x+y+c)/18446744073709551616)] }
     | true=>some { bO:=l,val:=.eF [.int (sx&&(sy&&sc)) .u64 ((((x.toNat+18446744073709551616-y.toNat-c.toNat)%18446744073709551616:Nat):Int)),.int (sx&&(sy&&sc)) .u64 ((if x<y+c then 1 else 0))] }
   | none=>none
 | _=>none
def Np:Array Value->Sem Value:=fun args=>do
 let (x,y,b) <- Extern.MathBitsCarry.three "Sub64" args
 pure (Extern.MathBitsCarry.pair ((x+Extern.MathBitsCarry.m64-y-b)%Extern.MathBitsCarry.m64) (if x<y+b then 1 else 0))
theorem Ph {P:Program} (x y b:Nat) (hb:b<=1) (w:World) :
 (Np #[.int .u64 x,.int .u64 y,.int .u64 b]).run P w =
  .ok (.tuple #[.int .u64 (((x+18446744073709551616-y-b)%18446744073709551616:Nat):Int),.int .u64 ((if x<y+b then 1 else 0:Nat):Int)]) w:=by
 have:b=0\/b=1:=by omega
 rcases this with rfl | rfl <;> rfl
theorem Fc {P:Program} {Γ:Env} {f:FuncId} (sub:Bool)
 (dY:∀ (args:Array Value) (w:World),(callFunc f args).run P w=(do pure (.value (<- (match sub with | false=>add64Entry args | true=>Np args))):Sem Next).run P w):aF P Γ f (vX sub):=by
 intro vs T lab F e he ho w0 M V T2 w xs aO hT hg hf hF hx o a K Q hK
 unfold vX at he
 split at he
 case h_2=>cases he
 rename_i sx x sy y sc c
 split at he
 case h_2=>cases he
 rename_i l hl
 simp only [aI,den,mZ,gQ,aV] at hx
 subst hx
 have rK:∀ q∈l,q:=by cases sub <;> (simp only [aV] at he;subst he;exact ho)
 obtain ⟨h1,h2,h3,h4⟩:=gE hl rK
 rw [dY]
 obtain ⟨x',rfl⟩:=pD h1
 obtain ⟨y',rfl⟩:=pD h2
 obtain ⟨c',rfl⟩:=pD h3
 cases sub with
 | false=>
   simp only [aV] at he
   subst he
   have:=run_add64 (P:=P) x' y' c' h1 h2 h3 h4 w
   simp only [Sem.run_bind,this,Result.andThen_ok,Sem.run_pure,Oper.upon_value]
   exact hK V _ w (V.cN lab) (by simp [den,aI]) (by rw [jW _ _ rfl rfl];exact hT)
 | true=>
   simp only [aV] at he
   subst he
   have:=Ph (P:=P) x' y' c' (by omega) w
   simp only [Sem.run_bind,this,Result.andThen_ok,Sem.run_pure,Oper.upon_value]
   refine hK V _ w (V.cN lab) ?_ (by rw [jW _ _ rfl rfl];exact hT)
   have e1:(if (x':Int)<(y':Int)+(c':Int) then (1:Int) else 0)=((if x'<y'+c' then 1 else 0:Nat):Int):=by
    split <;> split <;> first | rfl | omega
   simp only [den,aI,mZ,gQ,qZ,e1]
end Go.Proofs.YtnodfocobmghiaaGreatDoor.Sx
section
namespace Go.Proofs.YtnodfocobmghiaaGreatDoor.Sx
end Go.Proofs.YtnodfocobmghiaaGreatDoor.Sx
end
section
namespace Go.Proofs.YtnodfocobmghiaaGreatDoor.Sx
end Go.Proofs.YtnodfocobmghiaaGreatDoor.Sx
end
namespace Go.Proofs.YtnodfocobmghiaaGreatDoor.Sx
def aE (P:Program) (Γ:Env) (f:FuncId) (vs:List SV) (T:bB) (lab F:Nat) (e:bK):Prop:=
 ∀ (w0:World) (M:Nat->Prop) (V:bA) (T2:bB) (w:World) (xs:List Value),
   (∀ l B,T l=some B->T2 l=some B)->aD w0 M V T2 w->bP Γ V->V.fresh lab->V.top F->aI V vs=some xs ->
   ∀ (o:Oper) (a:Act) K Q,(∀ V' x w',V.ext lab V'->den V' e.val=some x->aD w0 M V' (eQ T2 lab e) w'->K (a.put o.dst x) w') ->
     o.upon P a K Q ((callFunc f xs.toArray).run P w)
theorem aF.call {P:Program} {Γ:Env} {f:FuncId} {S:Sum} (h:aF P Γ f S) {vs:List SV} {T:bB} {lab F:Nat} {e:bK} (he:S vs T lab F=some e) (ho:∀ q∈e.bO,q):aE P Γ f vs T lab F e:=h vs T lab F e he ho
theorem aF.GX {P:Program} {Γ:Env} {f:FuncId} {S:Sum} (h:∀ vs T lab F e,S vs T lab F=some e->(∀ q∈e.bO,q)->aE P Γ f vs T lab F e):aF P Γ f S:=h
inductive Src where
 | lab (l off:Nat)
 | val (v:SV)
 | Yp (v:SV) (cs:List SV)
abbrev Vw:=Nat->Option Src
def seen (vw:Vw) (V:bA):bA:=
 ⟨fun l0=>match vw l0 with
  | some (.lab l off)=>(V.β l).map fun p=>(p.1,p.2+off)
  | _=>none,
  fun l0=>match vw l0 with
   | some (.lab l _)=>V.σ l
   | some (.val v)=>den V v
   | some (.Yp v cs)=>(den V v).bind fun x=>(aI V cs).map fun us=>.tuple (x::us).toArray
   | none=>none⟩
theorem kO {vw:Vw} {V:bA} {l0 l off:Nat} (h:vw l0=some (.lab l off)):(seen vw V).β l0=(V.β l).map (fun p=>(p.1,p.2+off))/\(seen vw V).σ l0=V.σ l:=by
 simp [seen,h]
theorem uK {vw:Vw} {V:bA} {l0:Nat} {v:SV} (h:vw l0=some (.val v)):(seen vw V).σ l0=den V v:=by
 simp [seen,h]
def sS (vw:Vw) (F0 lab l0:Nat):Option Nat:=match Nat.blt l0 F0 with
 | true=>match vw l0 with
   | some (.lab l 0)=>some l
   | _=>none
 | false=>match Nat.blt l0 (F0+8) with
   | true=>some (lab+(l0-F0))
   | false=>none
def Jl (ρ : Nat->Option Nat):List SB->Option (List SB)
 | []=>some []
 | B::r=>match xJ ρ B,Jl ρ r with
   | some B,some r=>some (B::r)
   | _,_=>none
def Jk (ρ : Nat->Option Nat):List (Nat × SB)->Option (List (Nat × SB))
 | []=>some []
 | (l,B)::r=>match ρ l,xJ ρ B,Jk ρ r with
   | some l,some B,some r=>some ((l,B)::r)
   | _,_,_=>none
def Rx (ρ : Nat->Option Nat) (e:bK):Option bK:=match yQ ρ e.val,Jl ρ e.new,Jk ρ e.wr with
 | some v,some n,some w=>some { bO:=e.bO,val:=v,new:=n,wr:=w }
 | _,_,_=>none
theorem Ek {ρ : Nat->Option Nat}:∀ {bs cs:List SB},Jl ρ bs=some cs->cs.length=bs.length/\∀ (i:Nat) (B:SB),cs[i]?=some B->∃ C,bs[i]?=some C/\xJ ρ C=some B
 | [],cs,h=>by simp only [Jl,aV] at h;subst h;simp
 | b::r,cs,h=>by
   simp only [Jl] at h
   split at h
   .rename_i B' r' hB hr
    cases h
    obtain ⟨h1,h2⟩:=Ek hr
    refine ⟨by simp [h1],fun i B hi=>?_⟩
    cases i with
    | zero=>simp only [List.getElem?_cons_zero,aV] at hi;subst hi;exact ⟨b,rfl,hB⟩
    | succ i=>simpa using h2 i B (by simpa using hi)
   .cases h
def xI (ρ : Nat->Option Nat) (l:Nat):List (Nat × SB)->Option Nat
 | []=>none
 | (k,_)::r=>if ρ k=some l then some k else xI ρ l r
theorem yA {ρ : Nat->Option Nat} {l:Nat}:∀ {r:List (Nat × SB)} {k:Nat},xI ρ l r=some k -> ρ k=some l
 | [],k,h=>by cases h
 | (j,B)::r,k,h=>by
   simp only [xI] at h
   split at h
   .rename_i hj;cases h;exact hj
   .exact yA h
theorem Ej {ρ : Nat->Option Nat} {l:Nat}:∀ {r s:List (Nat × SB)},Jk ρ r=some s ->
 (∀ B,look l s=some B->∃ k C,xI ρ l r=some k/\look k r=some C/\xJ ρ C=some B)/\(look l s=none->xI ρ l r=none)
 | [],s,h=>by simp only [Jk,aV] at h;subst h;exact ⟨fun B hB=>(by simp [look] at hB),fun _=>rfl⟩
 | (k,C)::r,s,h=>by
   simp only [Jk] at h
   split at h
   .rename_i l' B' r' h1 h2 h3
    cases h
    obtain ⟨i1,i2⟩:=Ej (l:=l) h3
    by_cases e:l'=l
    .subst e
     refine ⟨fun B hB=>?_,fun hn=>?_⟩
     .rw [aK] at hB
      cases hB
      exact ⟨k,C,by simp [xI,h1],aK _ _ _,h2⟩
     .rw [aK] at hn;cases hn
    .have hk : ρ k≠some l:=by rw [h1];exact fun q=>e (by cases q;rfl)
     refine ⟨fun B hB=>?_,fun hn=>?_⟩
     .rw [aH e] at hB
      obtain ⟨k2,C2,j1,j2,j3⟩:=i1 B hB
      have dJ:k≠k2:=fun q=>hk (q ▸ yA j1)
      exact ⟨k2,C2,by simp [xI,hk,j1],by rw [aH dJ];exact j2,j3⟩
     .rw [aH e] at hn
      simp [xI,hk,i2 hn]
   .cases h
structure GB (vw:Vw) (vs:List SV) (T:bB) (eN:List SV) (T0:List (Nat × SB)) (V:bA) (w:World):Prop where
 val:∀ xs,aI V vs=some xs->aI (seen vw V) eN=some xs
 ok:∀ l0 B0,look l0 T0=some B0->okB (seen vw V) w l0 B0
 jI:∀ l0 B0 l1 B1 n,l0≠l1->look l0 T0=some B0->look l1 T0=some B1->B0.owned=true->B0.aT (seen vw V) l0=some n->B1.aT (seen vw V) l1≠some n
 own:∀ l0 B0 n,look l0 T0=some B0->B0.owned=true->B0.aT (seen vw V) l0=some n->∃ l B,vw l0=some (.lab l 0)/\T l=some B/\B.owned=true/\B.aT V l=some n
def aJd (P:Program) (f:FuncId) (xs:List Value) (T2:bB) (lab:Nat) (e:bK) (w0:World) (M:Nat->Prop) (V:bA) (w:World):Prop:=
 ∀ (o:Oper) (a:Act) K Q,(∀ V' x w',V.ext lab V'->den V' e.val=some x->aD w0 M V' (eQ T2 lab e) w'->K (a.put o.dst x) w')->o.upon P a K Q ((callFunc f xs.toArray).run P w)
theorem LZ {P:Program} {Γ:Env} {f:FuncId} {vs eN:List SV} {T:bB} {T0:List (Nat × SB)} {F0 lab:Nat} {e0 e:bK} {vw:Vw} (hC:aE P Γ f eN (fun l=>look l T0) F0 F0 e0)
 (hvw:∀ l0,F0<=l0->vw l0=none) (Ur:∀ n l,look n Γ.aR=some l->vw l=some (.lab l 0))
 (fD:∀ l0 B0,look l0 T0=some B0->B0.owned=true->l0<F0/\look l0 e0.wr≠none)
 (hlen:e0.new.length<=8) (Ul:∀ l0 B0,look l0 e0.wr=some B0->l0<F0)
 (he:Rx (sS vw F0 lab) e0=some e) {w0:World} {M:Nat->Prop} {V:bA} {T2:bB} {w:World} {xs:List Value}
 (aO:∀ l B,T l=some B->T2 l=some B) (hT:aD w0 M V T2 w) (hg:bP Γ V) (hf:V.fresh lab) (hx:aI V vs=some xs) (fit:GB vw vs T eN T0 V w):aJd P f xs T2 lab e w0 M V w:=by
 intro o a K Q hK
 unfold Rx at he
 split at he
 case h_2=>cases he
 rename_i v' new wr hv AG aSs
 cases he
 obtain ⟨MU,hng⟩:=Ek AG
 obtain ⟨Th,hTh⟩:∃ Th:bB,Th=fun l=>open Classical in if ∃ l0 B0,look l0 T0=some B0/\B0.owned=true/\vw l0=some (.lab l 0) then T l else none:=⟨_,rfl⟩
 have aTq:∀ l B,Th l=some B->T2 l=some B:=fun l B hl=>by
  rw [hTh] at hl
  simp only at hl
  split at hl
  .exact aO l B hl
  .cases hl
 have aAj:∀ l0,F0<=l0->(seen vw V).β l0=none/\(seen vw V).σ l0=none:=fun l0 h=>by simp [seen,hvw l0 h]
 have Fv:aD w (jF V Th) (seen vw V) (fun l=>look l T0) w:=by
  refine ⟨fun l B hl=>fit.ok l B hl,fun l B l' B' n dJ hl sP ho hb=>fit.jI l B l' B' n dJ hl sP ho hb,fun l B n hl ho hb=>.inr ?_,gG.refl w _⟩
  .obtain ⟨l1,B1,h1,h2,h3,h4⟩:=fit.own l B n hl ho hb
   refine ⟨l1,B1,?_,h3,h4⟩
   rw [hTh]
   simp only
   rw [if_pos ⟨l,B,hl,ho,h1⟩]
   exact h2
 refine hC w (jF V Th) (seen vw V) (fun l=>look l T0) w xs (fun _ _ h=>h) Fv (fun n l hl=>?_) (fun l h1 h2=>aAj l h1) (fun l h1=>aAj l h1) (fit.val xs hx) o a K Q (fun V' x w' Mf hx' pC=>?_)
 .rw [(kO (Ur n l hl)).1,hg n l hl];rfl
 obtain ⟨V2,hV2⟩:∃ V2:bA,V2=⟨fun l=>if lab<=l/\l<lab+8 then V'.β (F0+(l-lab)) else V.β l,fun l=>if lab<=l/\l<lab+8 then V'.σ (F0+(l-lab)) else V.σ l⟩:=⟨_,rfl⟩
 have out:∀ l,¬ (lab<=l/\l<lab+8)->V2.β l=V.β l/\V2.σ l=V.σ l:=fun l hl=>by
  subst hV2;exact ⟨if_neg hl,if_neg hl⟩
 have inn:∀ i,i<8->V2.β (lab+i)=V'.β (F0+i)/\V2.σ (lab+i)=V'.σ (F0+i):=fun i hi=>by
  have hr:lab<=lab+i/\lab+i<lab+8:=⟨by omega,by omega⟩
  subst hV2
  refine ⟨(if_pos hr).trans ?_,(if_pos hr).trans ?_⟩ <;> rw [show lab+i-lab=i from by omega]
 have bT:V.ext lab V2:=by
  refine ⟨⟨fun l p hp=>?_,fun l p hp=>?_⟩,fun l hl=>out l (by omega)⟩
  .rw [(out l (fun hr=>by have:=(hf l hr.1 (by omega)).1;rw [this] at hp;cases hp)).1];exact hp
  .rw [(out l (fun hr=>by have:=(hf l hr.1 (by omega)).2;rw [this] at hp;cases hp)).2];exact hp
 have xM:Ah (sS vw F0 lab) V' V2:=by
  intro l l' hl
  unfold sS at hl
  split at hl
  .rename_i hb
   have hlF:l<F0:=by simpa [Nat.blt_eq] using hb
   split at hl
   .rename_i l1 hq
    cases hl
    have h0:=Mf.2 l (.inl hlF)
    have h1:=kO (V:=V) hq
    rw [h0.1,h0.2,h1.1,h1.2]
    refine ⟨fun p hp=>?_,fun v hv=>bT.1.2 _ v hv⟩
    simp only [dC] at hp
    obtain ⟨q,xV,rfl⟩:=hp
    exact bT.1.1 _ _ xV
   .cases hl
  .split at hl
   .rename_i pB nC
    cases hl
    have h1:F0<=l:=by
     apply Nat.le_of_not_lt
     intro q
     have q2:Nat.blt l F0=true:=by simpa [Nat.blt_eq] using q
     simp_all
    have h2:l<F0+8:=by simpa [Nat.blt_eq] using nC
    have:=inn (l-F0) (by omega)
    rw [show F0+(l-F0)=l from by omega] at this
    rw [this.1,this.2]
    exact ⟨fun p hp=>hp,fun p hp=>hp⟩
   .cases hl
 refine hK V2 x w' bT (Am xM hv hx') ?_
 refine aD.called hT aTq pC bT.1 (fun l=>match xI (sS vw F0 lab) l e0.wr with
  | some k=>some k
  | none=>if lab<=l/\l<lab+e0.new.length then some (F0+(l-lab)) else none) (fun l B hl=>?_) (fun l l' k hk iH=>?_)
 .unfold eQ bK.fA at hl
  simp only at hl
  rw [cB] at hl
  obtain ⟨g1,g2⟩:=Ej (l:=l) aSs
  cases hw:look l wr with
  | some b=>
    rw [hw] at hl
    cases hl
    obtain ⟨k,C,h1,h2,h3⟩:=g1 _ hw
    have yU:eQ (fun l=>look l T0) F0 e0 k=some C:=by
     unfold eQ bK.fA
     rw [cB,h2]
    obtain ⟨r1,r2,r3,r4⟩:=pS xM (yA h1) h3 (pC.ok k C yU)
    refine .inl ⟨k,by simp only [h1],C,yU,r1,r2,r4,?_⟩
    rcases uM h3 with q | q
    .exact .inl q
    .exact .inr (.inl q)
  | none=>
    rw [hw] at hl
    have Dk:=g2 hw
    rw [eW] at hl
    by_cases hr:lab<=l/\l<lab+e0.new.length
    .have cL:l-lab<new.length:=by rw [MU];omega
     rw [if_pos hr.1,List.getElem?_eq_getElem cL] at hl
     cases hl
     obtain ⟨C,h3,h4⟩:=hng (l-lab) _ (List.getElem?_eq_getElem cL)
     have yU:eQ (fun l=>look l T0) F0 e0 (F0+(l-lab))=some C:=by
      unfold eQ bK.fA
      rw [cB]
      cases hq:look (F0+(l-lab)) e0.wr with
      | some b=>have:=Ul _ b hq;omega
      | none=>
        simp only
        rw [eW,if_pos (by omega),show F0+(l-lab)-F0=l-lab from by omega,h3]
     have aBv:sS vw F0 lab (F0+(l-lab))=some l:=by
      unfold sS
      have b1:Nat.blt (F0+(l-lab)) F0=false:=by
       cases hb:Nat.blt (F0+(l-lab)) F0 with
       | false=>rfl
       | true=>have:F0+(l-lab)<F0:=by simpa [Nat.blt_eq] using hb
               omega
      have b2:Nat.blt (F0+(l-lab)) (F0+8)=true:=by simp [Nat.blt_eq];omega
      rw [b1,b2]
      simp only
      congr 1
      omega
     obtain ⟨r1,r2,r3,r4⟩:=pS xM aBv h4 (pC.ok _ C yU)
     refine .inl ⟨F0+(l-lab),by simp only [Dk,if_pos hr],C,yU,r1,r2,r4,?_⟩
     rcases uM h4 with q | q
     .exact .inl q
     .exact .inr (.inl q)
    .have MT:(if lab<=l then new[l-lab]? else none)=none:=by
      split
      .apply List.getElem?_eq_none;rw [MU];omega
      .rfl
     rw [MT] at hl
     simp only at hl
     refine .inr ⟨by simp only [Dk,if_neg hr],?_,hl⟩
     rw [hTh]
     simp only
     split
     .rename_i hex
      obtain ⟨l0,B0,h1,h2,h3⟩:=hex
      obtain ⟨cL,hnn⟩:=fD l0 B0 h1 h2
      have aBv:sS vw F0 lab l0=some l:=by
       unfold sS
       have b1:Nat.blt l0 F0=true:=by simpa [Nat.blt_eq] using cL
       simp only [b1,h3]
      exfalso
      have:∀ {r:List (Nat × SB)},look l0 r≠none->xI (sS vw F0 lab) l r≠none:=by
       intro r
       induction r with
       | nil=>intro h;exact (h rfl).elim
       | cons p r ih=>
         obtain ⟨k,C⟩:=p
         intro h
         simp only [xI]
         split
         .simp
         .rename_i dJ
          refine ih ?_
          by_cases e:k=l0
          .subst e;exact (dJ aBv).elim
          .rwa [aH e] at h
      exact this hnn Dk
     .rfl
 .have Dh:∀ (l k:Nat),(match xI (sS vw F0 lab) l e0.wr with
    | some k=>some k
    | none=>if lab<=l/\l<lab+e0.new.length then some (F0+(l-lab)) else none)=some k->sS vw F0 lab k=some l:=by
   intro l k hk
   split at hk
   .rename_i k' iH
    cases hk
    exact yA iH
   .split at hk
    .rename_i hr
     cases hk
     unfold sS
     have b1:Nat.blt (F0+(l-lab)) F0=false:=by
      cases hb:Nat.blt (F0+(l-lab)) F0 with
      | false=>rfl
      | true=>have:F0+(l-lab)<F0:=by simpa [Nat.blt_eq] using hb
              omega
     have b2:Nat.blt (F0+(l-lab)) (F0+8)=true:=by simp [Nat.blt_eq];omega
     rw [b1,b2]
     simp only
     congr 1
     omega
    .cases hk
  have e1:=Dh l k hk
  have e2:=Dh l' k iH
  rw [e1] at e2
  cases e2
  rfl
theorem LY {P:Program} {Γ:Env} {f:FuncId} {vs eN:List SV} {T:bB} {T0:List (Nat × SB)} {F0 lab F:Nat} {e0 e:bK} {vw:Vw} (hC:aE P Γ f eN (fun l=>look l T0) F0 F0 e0)
 (hvw:∀ l0,F0<=l0->vw l0=none) (Ur:∀ n l,look n Γ.aR=some l->vw l=some (.lab l 0))
 (aTk:∀ w0 M V w xs,aD w0 M V T w->aI V vs=some xs->GB vw vs T eN T0 V w)
 (fD:∀ l0 B0,look l0 T0=some B0->B0.owned=true->l0<F0/\look l0 e0.wr≠none)
 (hlen:e0.new.length<=8) (Ul:∀ l0 B0,look l0 e0.wr=some B0->l0<F0)
 (he:Rx (sS vw F0 lab) e0=some e):aE P Γ f vs T lab F e:=by
 intro w0 M V T2 w xs aO hT hg hf _ hx
 exact LZ hC hvw Ur fD hlen Ul he aO hT hg hf hx (aTk _ _ V w xs (aD.part hT aO) hx)
inductive Fr where
 | seq (y:Code)
 | aT (id:Nat)
 | loop (n:Nat) (c:Code)
 | scope
inductive Cf where
 | go (c:Code)
 | at (x:Ex)
def KQ (P:Program):List Fr->(Exit->Act->World->Prop)->Exit->Act->World->Prop
 | [],Q=>Q
 | .seq y::K,Q=>Exit.then (y.wp P (KQ P K Q)) (KQ P K Q)
 | .aT id::K,Q=>Exit.inBlock id (KQ P K Q)
 | .loop n c::K,Q=>Exit.then (Code.rounds P c (KQ P K Q) n) (KQ P K Q)
 | .scope::K,Q=>Exit.noGoto (KQ P K Q)
def AL:Code->Nat
 | .region n _ _=>n
 | .seq x _=>AL x
 | .block _ c=>AL c
 | .loop c=>AL c
 | .scope c=>AL c
 | _=>0
structure qH where
 cf:Cf
 fr:List Fr
 st:St
noncomputable def Dw (Γ:Env) (B:bB) (F0 N:Nat) (stops:List Nat) (lf:Nat) (rec:Cf->List Fr->St->Option qH) (cf:Cf) (K:List Fr) (s:St):Option qH:=
 match cf with
 | .at x=>match K with
   | []=>some ⟨.at x,[],s⟩
   | .seq y::K=>match x with
     | .normal=>rec (.go y) K s
     | x=>rec (.at x) K s
   | .aT id::K=>match x with
     | .exit Ih=>match Nat.beq Ih id with
       | true=>rec (.at .normal) K s
       | false=>rec (.at (.exit Ih)) K s
     | x=>rec (.at x) K s
   | .loop n c::K=>match x with
     | .normal=>match n with
       | m+1=>rec (.go c) (.loop m c::K) s
       | 0=>none
     | x=>rec (.at x) K s
   | .scope::K=>rec (.at x) K s
 | .go c=>match c with
   | .skip=>rec (.at .normal) K s
   | .label _=>rec (.at .normal) K s
   | .region _ ops d=>match d with
     | true=>match Ed Γ B F0 N ops s with
       | some s'=>rec (.at .normal) K s'
       | none=>none
     | false=>match Fs Γ B F0 N ops ops.toList s with
       | some s'=>rec (.at .normal) K s'
       | none=>none
   | .seq x y=>rec (.go x) (.seq y::K) s
   | .cond c x y=>match ev Γ s.g.get c with
     | some (.bool true true)=>rec (.go x) K s
     | some (.bool true false)=>rec (.go y) K s
     | some (.bool false b)=>match s.hs with
       | true::r=>rec (.go x) K { s with ob:=(b=true)::s.ob,hs:=r }
       | false::r=>rec (.go y) K { s with ob:=(b=false)::s.ob,hs:=r }
       | []=>none
     | _=>none
   | .block id c=>rec (.go c) (.aT id::K) s
   | .loop c=>match stops.elem (AL c) with
     | true=>some ⟨.go (.loop c),K,s⟩
     | false=>rec (.go c) (.loop lf c::K) s
   | .exit id=>rec (.at (.exit id)) K s
   | .ret=>rec (.at .ret) K s
   | .scope c=>rec (.go c) (.scope::K) s
   | _=>none
noncomputable def gV (Γ:Env) (B:bB) (F0 N:Nat) (stops:List Nat) (lf n:Nat):Cf->List Fr->St->Option qH:=
 Nat.rec (fun cf K s=>some ⟨cf,K,s⟩) (fun _ ih=>Dw Γ B F0 N stops lf ih) n
def G (P:Program) (Γ:Env) (w0:World) (M:Nat->Prop) (B:bB) (N F0:Nat) (V0:bA) (cf:Cf) (K:List Fr) (s:St) (Q:Exit->Act->World->Prop):Prop:=
 ∀ V a w,Inv P Γ w0 M B N F0 V0 s V a w->match cf with
   | .go c=>c.wp P (KQ P K Q) a w
   | .at x=>KQ P K Q x.to a w
section
variable {P:Program} {Γ:Env} {w0:World} {M:Nat->Prop} {B:bB} {N F0:Nat} {V0:bA}
theorem Inv.hints {s:St} {V:bA} {a:Act} {w:World} (hi:Inv P Γ w0 M B N F0 V0 s V a w) (ob:List Prop) (hs:List Bool):Inv P Γ w0 M B N F0 V0 { s with ob:=ob,hs:=hs } V a w:=
 ⟨hi.tmp,hi.keys,hi.size,hi.defers,hi.fA,hi.aR,hi.top,hi.le,hi.low,hi.ch,hi.nx,hi.hi⟩
theorem yE {stops:List Nat} {lf:Nat}:∀ {n:Nat} {cf:Cf} {K:List Fr} {s:St} {r:qH},gV Γ B F0 N stops lf n cf K s=some r->∀ q∈s.ob,q∈r.st.ob:=by
 intro n
 induction n with
 | zero=>intro cf K s r h q hq;cases h;exact hq
 | succ n ih=>
   intro cf K s r h q hq
   have h:Dw Γ B F0 N stops lf (gV Γ B F0 N stops lf n) cf K s=some r:=h
   unfold Dw at h
   split at h
   .split at h
    .cases h;exact hq
    .split at h <;> exact ih h q hq
    .split at h
     .split at h <;> exact ih h q hq
     .exact ih h q hq
    .split at h
     .split at h
      .exact ih h q hq
      .cases h
     .exact ih h q hq
    .exact ih h q hq
   .split at h
    .exact ih h q hq
    .exact ih h q hq
    .split at h
     .split at h
      .rename_i s1 h1;exact ih h q (Lg h1 q hq)
      .cases h
     .split at h
      .rename_i s1 h1;exact ih h q (tL h1 q hq)
      .cases h
    .exact ih h q hq
    .split at h
     .exact ih h q hq
     .exact ih h q hq
     .split at h
      .exact ih h q (eK _ hq)
      .exact ih h q (eK _ hq)
      .cases h
     .cases h
    .exact ih h q hq
    .split at h
     .cases h;exact hq
     .exact ih h q hq
    .exact ih h q hq
    .exact ih h q hq
    .exact ih h q hq
    .cases h
theorem G.run (aW:cA P Γ) (aY:cH P Γ) (iQ:P.follows .mixedOrders=true) {stops:List Nat} {lf:Nat} {Q:Exit->Act->World->Prop}:∀ {n:Nat} {cf:Cf} {K:List Fr} {s:St} {r:qH},
 gV Γ B F0 N stops lf n cf K s=some r->(∀ q∈r.st.ob,q)->G P Γ w0 M B N F0 V0 r.cf r.fr r.st Q->G P Γ w0 M B N F0 V0 cf K s Q:=by
 intro n
 induction n with
 | zero=>intro cf K s r h ho hr;cases h;exact hr
 | succ n ih=>
   intro cf K s r h ho hr V a w hi
   have h:Dw Γ B F0 N stops lf (gV Γ B F0 N stops lf n) cf K s=some r:=h
   cases cf with
   | «at» x=>
     cases K with
     | nil=>cases h;exact hr V a w hi
     | cons fr K'=>
       cases fr with
       | seq y=>cases x <;> exact ih h ho hr V a w hi
       | aT id=>
         cases x with
         | normal=>exact ih h ho hr V a w hi
         | ret=>exact ih h ho hr V a w hi
         | exit Ih=>
           simp only [Dw] at h
           split at h
           .rename_i hb
            have:=ih h ho hr V a w hi
            show (if Ih=id then KQ P K' Q .normal a w else KQ P K' Q (.exit Ih) a w)
            rw [if_pos (cM hb)]
            exact this
           .rename_i hb
            have:=ih h ho hr V a w hi
            show (if Ih=id then KQ P K' Q .normal a w else KQ P K' Q (.exit Ih) a w)
            rw [if_neg (beq_false hb)]
            exact this
       | loop m c=>
         cases x with
         | normal=>
           cases m with
           | zero=>cases h
           | succ m'=>exact ih h ho hr V a w hi
         | ret=>exact ih h ho hr V a w hi
         | exit Ih=>exact ih h ho hr V a w hi
       | scope=>
         have:=ih h ho hr V a w hi
         cases x <;> exact this
   | go c=>
     simp only [Dw] at h
     split at h
     .exact wp_skip (ih h ho hr V a w hi)
     .exact wp_label (ih h ho hr V a w hi)
     .split at h
      .split at h
       .rename_i s1 h1
        exact Lf aW aY iQ h1 (fun q hq=>ho q (yE h q hq)) hi fun V' a' w' fP=>ih h ho hr V' a' w' fP
       .cases h
      .split at h
       .rename_i s1 h1
        exact wp_region_list (tK aW aY h1 (fun q hq=>ho q (yE h q hq)) hi fun V' a' w' fP=>ih h ho hr V' a' w' fP)
       .cases h
     .exact wp_seq (ih h ho hr V a w hi)
     .split at h
      .rename_i hc
       have hc:=bH hi.tmp hi.aR hc
       simp only [den,aV] at hc
       exact wp_cond_true hc.symm (ih h ho hr V a w hi)
      .rename_i hc
       have hc:=bH hi.tmp hi.aR hc
       simp only [den,aV] at hc
       exact wp_cond_false hc.symm (ih h ho hr V a w hi)
      .rename_i b hc
       have hc:=bH hi.tmp hi.aR hc
       simp only [den,aV] at hc
       split at h
       .have hb:b=true:=ho _ (yE h _ dB)
        rw [hb] at hc
        exact wp_cond_true hc.symm (ih h ho hr V a w (hi.hints _ _))
       .have hb:b=false:=ho _ (yE h _ dB)
        rw [hb] at hc
        exact wp_cond_false hc.symm (ih h ho hr V a w (hi.hints _ _))
       .cases h
      .cases h
     .exact wp_block (ih h ho hr V a w hi)
     .split at h
      .cases h;exact hr V a w hi
      .exact wp_loop_rounds (lf+1) (ih h ho hr V a w hi)
     .exact wp_exit (ih h ho hr V a w hi)
     .exact wp_ret (ih h ho hr V a w hi)
     .exact wp_scope_straight (ih h ho hr V a w hi)
     .cases h
theorem G.loop {L:Code} {K:List Fr} {Q:Exit->Act->World->Prop} (S:Nat->St->Prop) {r0:Nat} {s0:St} (h0:S r0 s0)
 (aGg:∀ r s,S r s->G P Γ w0 M B N F0 V0 (.go L) [] s (Exit.then (fun a w=>∃ r',r'<r/\∃ s',S r' s'/\∃ V,Inv P Γ w0 M B N F0 V0 s' V a w) (KQ P K Q))) :
 G P Γ w0 M B N F0 V0 (.go (.loop L)) K s0 Q:=by
 intro V a w hi
 refine wp_loop_ghost (fun r a w=>∃ s,S r s/\∃ V,Inv P Γ w0 M B N F0 V0 s V a w) r0 ⟨s0,h0,V,hi⟩ ?_
 rintro r a w ⟨s,hs,V,hi⟩
 exact aGg r s hs V a w hi
theorem G.again {K:List Fr} {Q:Exit->Act->World->Prop} {S:Nat->St->Prop} {r:Nat} {s:St}
 (h:∀ V a w,Inv P Γ w0 M B N F0 V0 s V a w->∃ r',r'<r/\∃ s',S r' s'/\∃ V,Inv P Γ w0 M B N F0 V0 s' V a w) :
 G P Γ w0 M B N F0 V0 (.at .normal) [] s (Exit.then (fun a w=>∃ r',r'<r/\∃ s',S r' s'/\∃ V,Inv P Γ w0 M B N F0 V0 s' V a w) (KQ P K Q)):=
 fun V a w hi=>h V a w hi
theorem G.leave {K:List Fr} {Q:Exit->Act->World->Prop} {J:Act->World->Prop} {x:Ex} {s:St} (hx:x ≠ .normal) (h:G P Γ w0 M B N F0 V0 (.at x) K s Q) :
 G P Γ w0 M B N F0 V0 (.at x) [] s (Exit.then J (KQ P K Q)):=by
 intro V a w hi
 have:=h V a w hi
 cases x with
 | normal=>exact (hx rfl).elim
 | exit id=>exact this
 | ret=>exact this
end
def Jm (ρ : Nat->Option Nat):SB->Option SB
 | .iT k xs=>some (.iT k xs)
 | .qG xs=>some (.qG xs)
 | B=>xJ ρ B
theorem El {ρ : Nat->Option Nat} {V V':bA} (h:Ah ρ V V') {w:World} {l l':Nat} {B B':SB} (hl : ρ l=some l') (hr:Jm ρ B=some B') (mV:okB V w l B) :
 okB V' w l' B'/\(∀ n,B'.aT V' l'=some n->B.aT V l=some n)/\(∀ n,B.aT V l=some n->B'.aT V' l'=some n)/\B'.owned=B.owned:=by
 cases B with
 | iT k xs=>
   simp only [Jm,aV] at hr
   subst hr
   obtain ⟨cs,hc,v,hσ,hh⟩:=mV
   have gD:=(h l l' hl).2 _ hσ
   exact ⟨⟨cs,hc,v,gD,hh⟩,fun n hn=>by simpa [SB.aT,hσ,gD] using hn,fun n hn=>by simpa [SB.aT,hσ,gD] using hn,rfl⟩
 | qG xs=>
   simp only [Jm,aV] at hr
   subst hr
   obtain ⟨cs,hc,v,hσ,hh⟩:=mV
   have gD:=(h l l' hl).2 _ hσ
   exact ⟨⟨cs,hc,v,gD,hh⟩,fun n hn=>by simpa [SB.aT,hσ,gD] using hn,fun n hn=>by simpa [SB.aT,hσ,gD] using hn,rfl⟩
 | _=>exact pS h hl hr mV
noncomputable def qJ (ρ : Nat->Option Nat) (tb:Tr SB):List Nat->Option (List SB)
 | []=>some []
 | l::r=>match tb.get l with
   | some B=>match Jm ρ B,qJ ρ tb r with
     | some B,some bs=>some (B::bs)
     | _,_=>none
   | none=>none
theorem qA {ρ : Nat->Option Nat} {tb:Tr SB}:∀ {ls:List Nat} {bs:List SB},qJ ρ tb ls=some bs->bs.length=ls.length/\∀ (i:Nat) (B:SB),bs[i]?=some B->∃ (l:Nat) (C:SB),ls[i]?=some l/\tb.get l=some C/\Jm ρ C=some B
 | [],bs,h=>by simp only [qJ,aV] at h;subst h;simp
 | l::r,bs,h=>by
   simp only [qJ] at h
   split at h
   .rename_i C hC
    split at h
    .rename_i B' bs' hB hbs
     cases h
     obtain ⟨h1,h2⟩:=qA hbs
     refine ⟨by simp [h1],fun i B hi=>?_⟩
     cases i with
     | zero=>simp only [List.getElem?_cons_zero,aV] at hi;subst hi;exact ⟨l,C,rfl,hC,hB⟩
     | succ i=>simpa using h2 i B (by simpa using hi)
    .cases h
   .cases h
noncomputable def Js (ρ : Nat->Option Nat) (g:Tr SV):List Nat->Option (Tr SV)
 | []=>some .lf
 | t::r=>match Js ρ g r,g.get t with
   | some g',some v=>match yQ ρ v with
     | some v=>Tr.put v 64 g' t
     | none=>none
   | _,_=>none
noncomputable def Zy:List (Nat × SB)->Option (Tr SB)
 | []=>some .lf
 | (l,B)::r=>match Zy r with
   | some t=>Tr.put B 64 t l
   | none=>none
noncomputable def Rk (F0:Nat) (pI fC:List Nat) (hs:List Bool) (s:St):Option St:=
 match Js (nm F0 F0 fC) s.g pI,qJ (nm F0 F0 fC) s.tb s.ws,qJ (nm F0 F0 fC) s.tb fC with
 | some g,some wr,some nw=>match Zy (nJ s.ws wr++gC F0 nw),zG (nm F0 F0 fC) s.df with
   | some tb,some df=>match Du fC&&(fC.all (fun l=>Nat.ble F0 l)&&s.ws.all (fun l=>Nat.blt l F0)) with
     | true=>some { g:=g,tb:=tb,nx:=F0+fC.length,ws:=s.ws,ob:=[],df:=df,hs:=hs }
     | false=>none
   | _,_=>none
 | _,_,_=>none
theorem wD {ρ : Nat->Option Nat} {g:Tr SV}:∀ {ks:List Nat} {g':Tr SV},Js ρ g ks=some g'->∀ t v,g'.get t=some v->∃ u,g.get t=some u/\yQ ρ u=some v
 | [],g',h,t,v,hv=>by simp only [Js,aV] at h;subst h;rw [Tr.kF] at hv;cases hv
 | k::r,g',h,t,v,hv=>by
   simp only [Js] at h
   split at h
   case h_2=>cases h
   rename_i g1 u h1 hu
   split at h
   case h_2=>cases h
   rename_i v1 hr
   rw [Tr.gF _ _ _ _ _ h t] at hv
   split at hv
   .rename_i e;subst e;cases hv;exact ⟨u,hu,hr⟩
   .exact wD h1 t v hv
theorem Kr:∀ {r:List (Nat × SB)} {t:Tr SB},Zy r=some t->∀ l,t.get l=look l r
 | [],t,h,l=>by simp only [Zy,aV] at h;subst h;rfl
 | (k,B)::r,t,h,l=>by
   simp only [Zy] at h
   split at h
   case h_2=>cases h
   rename_i t1 h1
   rw [Tr.gF _ _ _ _ _ h l]
   split
   .rename_i e;subst e;rw [aK]
   .rename_i e;rw [aH (fun q=>e q.symm)];exact Kr h1 l
structure oZ (Γ:Env) (B:bB) (F0:Nat) (V0:bA):Prop where
 top:V0.top F0
 aR:bP Γ V0
 cut:∀ l,F0<=l->B l=none
 cells:∀ l b,B l=some b->∃ cs,b.cells V0=some cs
theorem CD {F lab l:Nat} {ls:List Nat} (h:l<F):nm F lab ls l=some l:=by
 unfold nm
 have:Nat.blt l F=true:=by simpa [Nat.blt_eq] using h
 rw [this]
theorem aNd {F lab l i:Nat} {ls:List Nat} (h:F<=l) (hd:Du ls=true) (hi:ls[i]?=some l):nm F lab ls l=some (lab+i):=by
 unfold nm
 have hb:Nat.blt l F=false:=by
  cases hb:Nat.blt l F with
  | false=>rfl
  | true=>have:l<F:=by simpa [Nat.blt_eq] using hb
          omega
 rw [hb]
 simp only
 cases NR:Ct l ls 0 with
 | none=>
   exfalso
   have:∀ (ms:List Nat) (i:Nat),Ct l ms i=none->l ∉ ms:=by
    intro ms
    induction ms with
    | nil=>intro i _;simp
    | cons a r ih=>
      intro i hi
      simp only [Ct] at hi
      split at hi
      .cases hi
      .rename_i hb
       have:=beq_false hb
       simp only [List.mem_cons,not_or]
       exact ⟨fun q=>this q.symm,ih _ hi⟩
   exact this ls 0 NR (List.mem_of_getElem? hi)
 | some j=>
   simp only
   obtain ⟨_,h6⟩:=tP NR
   have:=uO hd hi (by simpa using h6)
   congr 1
   omega
section
variable {P:Program} {Γ:Env} {w0:World} {M:Nat->Prop} {B:bB} {N F0:Nat} {V0:bA}
theorem Inv.norm (hb:oZ Γ B F0 V0) {pI fC:List Nat} {hs:List Bool} {s s':St} (h:Rk F0 pI fC hs s=some s') {V:bA} {a:Act} {w:World} (hi:Inv P Γ w0 M B N F0 V0 s V a w) :
 ∃ V',Inv P Γ w0 M B N F0 V0 s' V' a w:=by
 unfold Rk at h
 split at h
 case h_2=>cases h
 rename_i g wr nw hg Ul hnw
 split at h
 case h_2=>cases h
 rename_i tb df htb hdf
 split at h
 case h_2=>cases h
 rename_i jT
 cases h
 simp only [iG] at jT
 obtain ⟨wP,hc3,hc4⟩:=jT
 have PH:∀ (i k:Nat),fC[i]?=some k->F0<=k:=fun i k hk=>kJ (List.all_eq_true.1 hc3 k (List.mem_of_getElem? hk))
 have AB:∀ k,k∈s.ws->k<F0:=fun k hk=>by have:=List.all_eq_true.1 hc4 k hk;simpa [Nat.blt_eq] using this
 obtain ⟨MU,hng⟩:=qA hnw
 obtain ⟨hwl,hwg⟩:=qA Ul
 have qY:=Kr htb
 obtain ⟨V',Mf⟩:∃ V':bA,V'=⟨fun l=>if l<F0 then V.β l else (fC[l-F0]?).bind V.β,fun l=>if l<F0 then V.σ l else (fC[l-F0]?).bind V.σ⟩:=⟨_,rfl⟩
 have Il:∀ l,l<F0->V'.β l=V.β l/\V'.σ l=V.σ l:=fun l hl=>by subst Mf;exact ⟨if_pos hl,if_pos hl⟩
 have vhi:∀ i,V'.β (F0+i)=(fC[i]?).bind V.β/\V'.σ (F0+i)=(fC[i]?).bind V.σ:=fun i=>by
  subst Mf
  refine ⟨(if_neg (by omega)).trans ?_,(if_neg (by omega)).trans ?_⟩ <;> rw [show F0+i-F0=i from by omega]
 have aQb:∀ l,F0<=l->V'.β l=(fC[l-F0]?).bind V.β/\V'.σ l=(fC[l-F0]?).bind V.σ:=fun l hl=>by
  have:=vhi (l-F0);rwa [show F0+(l-F0)=l from by omega] at this
 have hle:V0.le V':=by
  refine ⟨fun l p hp=>?_,fun l p hp=>?_⟩
  .by_cases hl:l<F0
   .rw [(Il l hl).1,(hi.low l hl).1];exact hp
   .rw [(hb.top l (by omega)).1] at hp;cases hp
  .by_cases hl:l<F0
   .rw [(Il l hl).2,(hi.low l hl).2];exact hp
   .rw [(hb.top l (by omega)).2] at hp;cases hp
 have xM:Ah (nm F0 F0 fC) V V':=by
  intro l l' hl
  by_cases cL:l<F0
  .rw [CD cL] at hl
   cases hl
   rw [(Il l cL).1,(Il l cL).2]
   exact ⟨fun p hp=>hp,fun p hp=>hp⟩
  .unfold nm at hl
   split at hl
   .rename_i Yu
    exact absurd (by simpa [Nat.blt_eq] using Yu) cL
   .split at hl
    .rename_i i NR
     cases hl
     obtain ⟨_,h2⟩:=tP NR
     have h2:fC[i]?=some l:=by simpa using h2
     rw [(vhi i).1,(vhi i).2,h2]
     exact ⟨fun p hp=>hp,fun p hp=>hp⟩
    .cases hl
 have src:∀ l b,St.T B { g:=g,tb:=tb,nx:=F0+fC.length,ws:=s.ws,ob:=[],df:=df,hs:=hs } l=some b ->
  ∃ k C,s.T B k=some C/\nm F0 F0 fC k=some l/\okB V' w l b/\(∀ n,b.aT V' l=some n->C.aT V k=some n)/\b.owned=C.owned:=by
  intro l b hl
  simp only [St.T,qY l] at hl
  rw [cB] at hl
  cases hw:look l (nJ s.ws wr) with
  | some b1=>
    rw [hw] at hl
    cases hl
    obtain ⟨i,h1,h2⟩:=mB hw
    obtain ⟨k,C,h3,h4,h5⟩:=hwg i _ h2
    rw [h1] at h3;cases h3
    have yU:s.T B l=some C:=by simp only [St.T,h4]
    have NP:nm F0 F0 fC l=some l:=CD (AB l (List.mem_of_getElem? h1))
    obtain ⟨r1,r2,r3,r4⟩:=El xM NP h5 (hi.fA.ok l C yU)
    exact ⟨l,C,yU,NP,r1,r2,r4⟩
  | none=>
    rw [hw] at hl
    have Cu:=kI hwl hw
    simp only at hl
    rw [eW] at hl
    by_cases hr:F0<=l
    .rw [if_pos hr] at hl
     cases hn:nw[l-F0]? with
     | some b1=>
       rw [hn] at hl
       cases hl
       obtain ⟨k,C,h3,h4,h5⟩:=hng (l-F0) _ hn
       have yU:s.T B k=some C:=by simp only [St.T,h4]
       have NP:nm F0 F0 fC k=some l:=by
        rw [aNd (PH _ _ h3) wP h3]
        congr 1
        omega
       obtain ⟨r1,r2,r3,r4⟩:=El xM NP h5 (hi.fA.ok k C yU)
       exact ⟨k,C,yU,NP,r1,r2,r4⟩
     | none=>
       rw [hn] at hl
       simp only at hl
       rw [hb.cut l hr] at hl
       cases hl
    .rw [if_neg hr] at hl
     simp only at hl
     have cL:l<F0:=by omega
     have yU:s.T B l=some b:=by simp only [St.T,hi.ch l cL Cu,hl]
     obtain ⟨cs,c1,c2⟩:=hi.fA.ok l b yU
     obtain ⟨cs0,c3⟩:=hb.cells l b hl
     have:=SB.iF hi.le c3
     rw [c1] at this
     cases this
     have e1:=(Il l cL).1
     have e2:=(Il l cL).2
     refine ⟨l,b,yU,CD cL,⟨cs,SB.iF hle c3,?_⟩,fun n hn=>?_,rfl⟩
     .cases b with
      | own cells ty=>obtain ⟨b,hb,hh⟩:=c2;exact ⟨b,e1.trans hb,hh⟩
      | ints k xs ty=>obtain ⟨b,hb,hh⟩:=c2;exact ⟨b,e1.trans hb,hh⟩
      | eI vs ty=>obtain ⟨b,hb,hh⟩:=c2;exact ⟨b,e1.trans hb,hh⟩
      | fL cells=>obtain ⟨b,o,hb,hh⟩:=c2;exact ⟨b,o,e1.trans hb,hh⟩
      | nA k xs=>obtain ⟨b,o,hb,hh⟩:=c2;exact ⟨b,o,e1.trans hb,hh⟩
      | dL k xs ty=>obtain ⟨v,hv,hh⟩:=c2;exact ⟨v,e2.trans hv,hh⟩
      | fM sz n ty=>obtain ⟨v,us,hv,hh⟩:=c2;exact ⟨v,us,e2.trans hv,hh⟩
      | row sz cells ty=>obtain ⟨b,cap,cur,hb,hσ,r⟩:=c2;exact ⟨b,cap,cur,e1.trans hb,e2.trans hσ,r⟩
      | iT k xs=>obtain ⟨v,hv,hh⟩:=c2;exact ⟨v,e2.trans hv,hh⟩
      | eH xs ty=>obtain ⟨v,hv,hh⟩:=c2;exact ⟨v,e2.trans hv,hh⟩
      | qG xs=>obtain ⟨v,hv,hh⟩:=c2;exact ⟨v,e2.trans hv,hh⟩
      | gone=>trivial
     .cases b <;> simp only [SB.aT,e1,e2] at hn |- <;> exact hn
 refine ⟨V',fun t v hv=>?_,fun d v hv=>?_,hi.size,?_,⟨fun l b hl=>?_,fun l b l' b' n dJ hl sP ho Ie Vj=>?_,fun l b n hl ho Ie=>?_,hi.fA.frame⟩,fun n l hl=>hle.1 _ _ (hb.aR n l hl),fun l hl=>?_,hle,fun l hl=>?_,fun l hl hn=>?_,?_,fun l hl=>?_⟩
 .obtain ⟨u,h1,h2⟩:=wD hg t v hv
  exact Am xM h2 (hi.tmp t u h1)
 .obtain ⟨u,h1,_⟩:=wD hg d v hv
  exact hi.keys d u h1
 .obtain ⟨xs,h1,h2⟩:=hi.defers
  exact ⟨xs,mP xM hdf h1,h2⟩
 .obtain ⟨_,_,_,_,h,_⟩:=src l b hl;exact h
 .obtain ⟨k,C,h1,h2,_,h4,h5⟩:=src l b hl
  obtain ⟨k',C',Mp,Yv,_,h4',_⟩:=src l' b' sP
  have yR:k≠k':=fun e=>by subst e;rw [h2] at Yv;cases Yv;exact dJ rfl
  exact hi.fA.jI k C k' C' n yR h1 Mp (h5 ▸ ho) (h4 n Ie) (h4' n Vj)
 .obtain ⟨k,C,h1,h2,_,h4,h5⟩:=src l b hl
  exact hi.fA.perm k C n h1 (h5 ▸ ho) (h4 n Ie)
 .have hl:F0+fC.length<=l:=hl
  have:=aQb l (by omega)
  rw [this.1,this.2,List.getElem?_eq_none (by omega)]
  exact ⟨rfl,rfl⟩
 .rw [(Il l hl).1,(Il l hl).2];exact hi.low l hl
 .show tb.get l=none
  rw [qY l,cB]
  cases hw:look l (nJ s.ws wr) with
  | some b=>
    obtain ⟨i,h1,_⟩:=mB hw
    exact absurd (List.mem_of_getElem? h1) hn
  | none=>
    simp only
    rw [eW,if_neg (by omega)]
 .exact Nat.le_add_right _ _
 .have hl:F0+fC.length<=l:=hl
  have h1:tb.get l=none:=by
   rw [qY l,cB]
   cases hw:look l (nJ s.ws wr) with
   | some b=>
     obtain ⟨i,h1,_⟩:=mB hw
     have:=AB l (List.mem_of_getElem? h1)
     omega
   | none=>
     simp only
     rw [eW,if_pos (by omega)]
     exact List.getElem?_eq_none (by rw [MU];omega)
  show (match tb.get l with | some b=>some b | none=>B l)=none
  rw [h1]
  exact hb.cut l (by omega)
theorem G.norm (hb:oZ Γ B F0 V0) {pI fC:List Nat} {hs:List Bool} {s s':St} (h:Rk F0 pI fC hs s=some s') {cf:Cf} {K:List Fr} {Q:Exit->Act->World->Prop}
 (hG:G P Γ w0 M B N F0 V0 cf K s' Q):G P Γ w0 M B N F0 V0 cf K s Q:=by
 intro V a w hi
 obtain ⟨V',fP⟩:=hi.norm hb h
 exact hG V' a w fP
end
noncomputable def Iz (Γ:Env) (T:bB) (lab F:Nat) (fn:Func) (x:Ex) (s:St):Option bK:=match x with
 | .exit _=>none
 | _=>match jV Γ (bI F T) F fn.ntmps s.df s with
   | some s=>match zF Γ s.g.get (s.T (bI F T)) fn.results.toList with
     | some (ob,rs)=>finish F lab (s.MI ob) (res rs)
     | none=>none
   | none=>none
theorem XK {P:Program} {Γ:Env} (aW:cA P Γ) (aY:cH P Γ) {fn:Func} {T T2:bB} {lab F:Nat} {e e':bK} {w0 w:World} {M:Nat->Prop} {V:bA} {x:Ex} {s:St}
 (aO:∀ l B,T l=some B->T2 l=some B) (hT:aD w0 M V T2 w) (hf:V.fresh lab) (h:Iz Γ T lab F fn x s=some e') (ho:∀ q∈e'.bO,q) (hev:e'.val=e.val) (hen:e'.new=e.new) (hew:e'.wr=e.wr)
 {R:Ending->World->Prop} (hR:∀ V' x w',V.ext lab V'->den V' e.val=some x->aD w0 M V' (eQ T2 lab e) w'->R (.returned x) w') :
 G P Γ w (jF V (bI F T)) (bI F T) fn.ntmps F V (.at x) [] s (bodyPostD P fn R):=by
 intro V' a' w' fP
 have main:∀ y:Ex,y.to = .normal\/y.to = .ret->(match jV Γ (bI F T) F fn.ntmps s.df s with
   | some s=>match zF Γ s.g.get (s.T (bI F T)) fn.results.toList with
     | some (ob,rs)=>finish F lab (s.MI ob) (res rs)
     | none=>none
   | none=>none)=some e'->bodyPostD P fn R y.to a' w':=by
  intro y hy h
  split at h
  case h_2=>cases h
  rename_i s2 h2
  split at h
  case h_2=>cases h
  rename_i obr rs Un
  have Zl:e'.bO=obr++s2.ob:=by
   unfold finish at h
   split at h
   .cases h
   .simp only at h
    split at h
    .cases h;rfl
    .cases h
  obtain ⟨ys,gJ,Di⟩:=fP.defers
  have hl:Leaves P fn a'.tmps R a'.defers .returning w':=by
   rw [Di]
   refine Bc aY h2 (fun q hq=>ho q (Zl ▸ List.mem_append_right _ hq)) fP rfl gJ fun V3 a3 w3 hi3 ha3=>?_
   obtain ⟨v,hv1,hv2⟩:=Bv (P:=P) (fn:=fn) aW hi3.tmp hi3.fA Un (fun q hq=>ho q (Zl ▸ List.mem_append_left _ hq))
   obtain ⟨_,V2,k1,k2,k3⟩:=Ev hT aO hf (hi3.MI obr) hv1 h
   refine ⟨v,ha3 ▸ hv2,hR V2 v w3 k1 (hev ▸ k2) ?_⟩
   have:eQ T2 lab e=eQ T2 lab e':=by
    funext l;simp only [eQ,bK.fA,hen,hew]
   rw [this]
   exact k3
  rcases hy with q | q <;> (rw [q];exact hl)
 cases x with
 | exit id=>cases h
 | normal=>exact main .normal (.inl rfl) h
 | ret=>exact main .ret (.inr rfl) h
theorem iE {P:Program} {Γ:Env} (aW:cA P Γ) (aY:cH P Γ) {f:FuncId} {fn:Func} {c:Code} (sR:P.funcs[f]?=some fn) (dJ:(fn.name == "runtime.NumGoroutine")=false) (hc:fn.body=some c)
 {vs:List SV} {T:bB} {lab F:Nat} {e:bK} (hn:vs.length<=fn.ntmps) {g:Tr SV} (xX:Aa vs 0 .lf=some g) (hs:List Bool)
 (H:∀ (w0:World) (M:Nat->Prop) (V0:bA) (Q:Exit->Act->World->Prop),oZ Γ (bI F T) F V0 ->
  (∀ x s e',Iz Γ T lab F fn x s=some e'->(∀ q∈e'.bO,q)->e'.val=e.val->e'.new=e.new->e'.wr=e.wr->G P Γ w0 M (bI F T) fn.ntmps F V0 (.at x) [] s Q) ->
  G P Γ w0 M (bI F T) fn.ntmps F V0 (.go c) [] { g:=g,tb:=.lf,nx:=F,ws:=[],ob:=[],hs:=hs } Q):aE P Γ f vs T lab F e:=by
 intro w0 M V T2 w xs aO hT hg hf hF hx o a K Q hK
 have hlen:=bG hx
 have Jx:=wE xX
 have nE:xs.length=vs.length:=hlen
 have fB:oZ Γ (bI F T) F V:=by
  refine ⟨hF,hg,fun l hl=>?_,fun l b hl=>?_⟩
  .cases hc:bI F T l with
   | none=>rfl
   | some b=>have:=(jY hc).1;omega
  .obtain ⟨cs,h1,_⟩:=hT.ok l b (aO l b (jY hl).2)
   exact ⟨cs,h1⟩
 have NS:Inv P Γ w (jF V (bI F T)) (bI F T) fn.ntmps F V { g:=g,tb:=.lf,nx:=F,ws:=[],ob:=[],hs:=hs } V { tmps:=xs.toArray++Array.replicate (fn.ntmps-xs.toArray.size) undef,defers:=[] } w:=by
  refine ⟨fun t v hv=>?_,fun d v hv=>?_,?_,⟨[],rfl,rfl⟩,?_,hg,hF,V.le_refl,fun l _=>⟨rfl,rfl⟩,fun l _ _=>rfl,dF _,fun l hl=>?_⟩
  .have:=Jx t
   simp only at hv
   rw [hv] at this
   split at this
   .rename_i hr
    obtain ⟨y,h1,h2⟩:=dO hx t v (by simpa using this.symm)
    rw [h2]
    have cL:t<xs.length:=by omega
    have qY:xs[t]?=some y:=h1
    simp [Act.eval,Array.getD_eq_getD_getElem?,Array.getElem?_append,cL] at qY |-
    exact qY.symm
   .cases this
  .have:=Jx d
   simp only at hv
   rw [hv] at this
   split at this
   .omega
   .cases this
  .simp
   omega
  .have hp:=aD.part hT (T:=bI F T) (fun l B hl=>aO l B (jY hl).2)
   have:St.T (bI F T) { g:=g,tb:=.lf,nx:=F,ws:=[],ob:=[],hs:=hs }=bI F T:=by funext l;rfl
   rw [this]
   exact hp
  .show (match Tr.get .lf l with | some b=>some b | none=>bI F T l)=none
   simp only [Tr.kF]
   exact fB.cut l hl
 rw [gB sR hc dJ,Oper.upon_enter]
 refine calls_of_wp_defers sR hc ?_
 exact H w (jF V (bI F T)) V (bodyPostD P fn _) fB (fun x s e' h ho h1 h2 h3=>XK aW aY aO hT hf h ho h1 h2 h3 (R:=fun
   | .returned v,NG=>K (a.put o.dst v) NG
   | .panicked chain,NG=>Q (.panic chain) a NG
   | .outgrown,_=>LetsOut Q) (fun V' x w' h1 h2 h3=>hK V' x w' h1 h2 h3)) V _ w NS
end Go.Proofs.YtnodfocobmghiaaGreatDoor.Sx
