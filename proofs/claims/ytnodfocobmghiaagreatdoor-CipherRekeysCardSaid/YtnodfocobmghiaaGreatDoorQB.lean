/- The symbolic executor, fourteenth text: one operation, whichever it is; calls. -/
import Derived.Defers
import Derived.LaidEql
import Derived.ChangeKeysEq
import Derived.Laws.BytesString
import Derived.LoopN
import Derived.Scope
import Derived.Laws.Externs
import Derived.Deep.LoopGhost
import Derived.Test.YtnodfocobmghiaaGreatDoorQA
open Go
set_option maxRecDepth 100000
namespace Go.Proofs.YtnodfocobmghiaaGreatDoor.Sx
def bA.top (V:bA) (F:Nat):Prop:=∀ l,F<=l->V.β l=none/\V.σ l=none
def aG (P:Program) (Γ:Env) (f:FuncId) (S:Sum):Prop:=
 ∀ vs T lab F e,S vs T lab F=some e->(∀ q∈e.bO,q)->∀ (w0:World) (M:Nat->Prop) (V:bA) (T2:bB) (w:World) (xs:List Value),
   (∀ l B,T l=some B->T2 l=some B)->aD w0 M V T2 w->bP Γ V->V.fresh lab->V.top F->aI V vs=some xs ->
   ∀ (o:Oper) (a:Act) K Q,(∀ V' x w',V.ext lab V'->den V' e.val=some x->aD w0 M V' (eT T2 lab e) w'->K (a.put o.dst x) w') ->
     o.upon P a K Q ((callFunc f xs.toArray).run P w)
def Av (P:Program) (Γ:Env) (f:FuncId) (S:Sum):Prop:=
 ∀ vs T lab F e,S vs T lab F=some e->(∀ q∈e.bO,q)->∀ (w0:World) (M:Nat->Prop) (V:bA) (T2:bB) (w:World) (xs:List Value),
   (∀ l B,T l=some B->T2 l=some B)->aD w0 M V T2 w->bP Γ V->V.fresh lab->V.top F->aI V vs=some xs ->
   ∀ (fn:Func) (tmps:Array Value) (ds:List Deferred) (R:Ending->World->Prop),(∀ V' w',V.ext lab V'->aD w0 M V' (eT T2 lab e) w'->Leaves P fn tmps R ds .returning w') ->
     ∀ aS cs:Array Value,aS.toList++cs.toList=xs->Leaves P fn tmps R ({ target:=.fn (.func f) cs,args:=aS }::ds) .returning w
def cH (P:Program) (Γ:Env):Prop:=(∀ f S,Γ.sum f=some S->aG P Γ f S)/\(∀ f S,Γ.QF f=some S->Av P Γ f S) /\
 (∀ t,Γ.cmp.elem t=true->(∀ i,P.info? t=some i->i.comparable=true)/\P.stoodInHeld t=false)/\∃ d,P.depth=d+2
def lA (a b:Option bK):Option bK:=match a with
 | some e=>some e
 | none=>b
def Un (a b:IntKind):Bool:=decide (a=b)
def Nw:SB->Bool
 | .own .. | .ints .. | .eK .. | .row .. => true
 | _=>false
def lV:List SV->List SV->Option (Bool × Bool)
 | [],[]=>some (true,true)
 | .int s k a::xs,.int s' k' b::ys=>match Un k k',lV xs ys with
   | true,some (l,r)=>some (s&&(s'&&l),(a==b)&&r)
   | _,_=>none
 | _,_=>none
def Oo (op:BinOp) (s b:Bool):Option bK:=match op with
 | .eql=>some { val:=.bool s b }
 | .neq=>some { val:=.bool s (!b) }
 | _=>none
def OP (T:bB) (l o:Nat):Option ByteArray:=match T l,o with
 | some (.fO (.raw (.string s)::_)),0=>some s
 | _,_=>none
def neS:List UInt8->List UInt8->Bool
 | [],[]=>false
 | x::r,y::q=>match Nat.beq x.toNat y.toNat with
   | true=>neS r q
   | false=>true
 | _,_=>true
theorem FF:∀ {s q:List UInt8},neS s q=true->s≠q
 | [],[],h,_=>by simp [neS] at h
 | [],y::q,_,e=>by cases e
 | x::r,[],_,e=>by cases e
 | x::r,y::q,h,e=>by
   cases e
   simp only [neS,Nat.beq_refl] at h
   exact FF h rfl
def Sd (Γ:Env) (g:Nat->Option SV) (T:bB) (op:BinOp) (t:TypeId) (x y:Operand):Option bK:=
 match ev Γ g x,ev Γ g y with
 | some (.ptr l _ o),some (.ptr l' _ o')=>match Γ.ty t with
   | some ti=>match ti.desc with
     | .pointer el=>match Γ.ty el with
       | some te=>match Nat.beq l l' with
         | true=>match Nat.beq o o' with
           | true=>tC op true
           | false=>match Nat.beq te.size 0 with
             | true=>none
             | false=>tC op false
         | false=>match Nat.beq te.size 0,T l,T l' with
           | false,some B,some B'=>match Nw B&&Nw B' with
             | true=>tC op false
             | false=>none
           | _,_,_=>none
       | none=>none
     | _=>none
   | none=>none
 | some (.sO t1 (.ptr l _ o)),some (.sO t2 (.ptr l' _ o'))=>match Γ.ty t,Γ.ty t1 with
   | some ti,some t1i=>match ti.desc,t1i.desc with
     | .interface _,.pointer el=>match Γ.ty el with
       | some te=>match Nat.beq t1 t2&&(Nat.beq l l'&&(Nat.beq o o'&&Γ.cmp.elem t1)) with
         | true=>tC op true
         | false=>match Nat.beq t1 t2&&(Γ.cmp.elem t1 && !Nat.beq te.size 0),OP T l o,OP T l' o' with
           | true,some s,some s'=>match neS s.data.toList s'.data.toList with
             | true=>tC op false
             | false=>none
           | _,_,_=>none
       | none=>none
     | _,_=>none
   | _,_=>none
 | some (.agg xs),some (.agg ys)=>match Γ.ty t with
   | some ti=>match ti.desc with
     | .array n el=>match Γ.ty el with
       | some te=>match te.desc,Nat.beq te.size 1&&Nat.beq xs.length n,lV xs ys with
         | .int _,true,some (l,r)=>Oo op l r
         | _,_,_=>none
       | none=>none
     | _=>none
   | none=>none
 | _,_=>none
def Gl (op:BinOp) (n:Nat) (xs ys:List Int):Option bK:=match op with
 | .eql=>some { bO:=[xs.length=n/\ys.length=n],val:=.bool false (decide (xs=ys)) }
 | .neq=>some { bO:=[xs.length=n/\ys.length=n],val:=.bool false (!decide (xs=ys)) }
 | _=>none
def Gm (Γ:Env) (g:Nat->Option SV) (op:BinOp) (t:TypeId) (x y:Operand):Option bK:=
 match (ev Γ g x).bind cJ,(ev Γ g y).bind cJ,Γ.ty t with
 | some (k,xs),some (k2,ys),some ti=>match ti.desc with
   | .array n el=>match Γ.ty el with
     | some te=>match te.desc,Nat.beq te.size 1,xA k k2 with
       | .int _,true,true=>Gl op n xs ys
       | _,_,_=>none
     | none=>none
   | _=>none
 | _,_,_=>none
def Gk (Γ:Env) (g:Nat->Option SV) (op:BinOp) (t:TypeId) (x y:Operand):Option bK:=
 match ev Γ g x,ev Γ g y,Γ.ty t with
 | some (.agg [.int _ k1 a,.int _ k2 b]),some (.agg [.int _ k3 c,.int _ k4 d]),some ti=>match ti.desc with
   | .struct fs=>match fs.toList with
     | [f1,f2]=>match Γ.ty f1.type,Γ.ty f2.type with
       | some t1,some t2=>match t1.desc,t2.desc,((!(f1.name == "_") && !(f2.name == "_"))&&(Nat.beq f1.offset 0&&Nat.beq f2.offset 1))&&((xA k1 k3&&xA k2 k4)&&Γ.cmp.elem t) with
         | .int _,.int _,true=>match op with
           | .eql=>some { val:=.bool false (decide (a=c)&&decide (b=d)) }
           | .neq=>some { val:=.bool false (!(decide (a=c)&&decide (b=d))) }
           | _=>none
         | _,_,_=>none
       | _,_=>none
     | _=>none
   | _=>none
 | _,_,_=>none
def Ou (Γ:Env) (g:Nat->Option SV) (t:TypeId) (x y:Operand) (lab:Nat):Option bK:=
 match ev Γ g x,ev Γ g y,Γ.ty t with
 | some (.int true _ 0),some (.int _ _ c),some ti=>match ti.desc with
   | .slice el=>match Γ.ty el with
     | some te=>match Nat.beq te.size 2&&Nat.beq te.zero.length 2 with
       | true=>some { bO:=[0<=c/\(te.bytes:Int)*c<=2^48/\c<2^63],val:=.buf lab,new:=[.eJ [] el] }
       | false=>none
     | none=>none
   | _=>none
 | _,_,_=>none
section YQ
variable {P:Program} {Γ:Env} {V:bA} {w w0:World} {M:Nat->Prop} {T:bB} {g:Nat->Option SV} {a:Act} {o:Oper} {e:bK}
def DS (T:bB) (te:TI) (x y:SV):Option bK:=
 match x,Vo te.desc,Nat.beq te.size 1 with
 | .aH l true 0 len cap,some k,true=>match T l with
   | some (.ints k2 xs ty)=>match xA k k2,Vh T k y with
     | true,some (ob,ys)=>some { bO:=(cap=xs.length/\len+ys.length<=cap)::ob,val:=.aH l true 0 (len+ys.length) cap,wr:=[(l,.ints k (xs.take len++ys++xs.drop (len+ys.length)) ty)] }
     | _,_=>none
   | _=>none
 | _,_,_=>none
theorem LU (aV:cA P Γ) {T':bB} (aO:∀ l B,T' l=some B->T l=some B) (hT:aD w0 M V T w) {lab:Nat} {t ty el:TypeId} {te:TI} (ht:P.underlying t=some (.slice el)) (eF:Γ.ty el=some te)
 {x y:SV} {u v:Value} (hx:den V x=some u) (hy:den V y=some v) (he:DS T' te x y=some e) (ho:∀ q∈e.bO,q):oH P w0 M V T lab e (Builtin.append_ #[t,t] ty #[u,v]) w:=by
 unfold DS at he
 split at he
 case h_2=>cases he
 rename_i l len cap k hk fX
 split at he
 case h_2=>cases he
 rename_i k2 xs ety hB
 split at he
 case h_2=>cases he
 rename_i ob ys yS hq
 simp only [aU] at he
 subst he
 have yS:k=k2:=jI yS
 subst yS
 obtain ⟨pO,hle⟩:=ho _ dB
 obtain ⟨_,i,z,hi,cD,lR,hz,hzero⟩:=aV el te eF
 have gV:i.size=1:=by rw [cD];exact cM fX
 have hh:=tO (hT.sub aO) hy hq (fun q hq=>ho q (eM _ hq))
 simp only [den,dF] at hx
 obtain ⟨p,hβ,rfl⟩:=hx
 obtain ⟨w',hr,pH⟩:=nX (P:=P) (xs:=ys) (off:=len) lab (.aH l true 0 (len+ys.length) cap) ((cap=xs.length/\len+ys.length<=cap)::ob) hT (aO l _ hB) (b:=p.1) (o:=p.2) hβ (by omega)
 have aKs:(⟨p.1,p.2,none⟩:Addr).add len=⟨p.1,p.2+len,none⟩:=by cases len <;> simp [Addr.add]
 refine ⟨V,.slice (some ⟨p.1,p.2+0,none⟩) (len+ys.length) cap,w',?_,V.cN lab,by simp [den,hβ],pH⟩
 rcases hh with ⟨rfl,pJ⟩ | ⟨ad,c,rfl,bY⟩
 .have:ys=[]:=by simpa using pJ
  subst this
  have hf:=run_firstCells_none (P:=P) (w:=w) 1 0 0 0
  have PQ:len<=cap:=by simpa using hle
  simp at hr
  simp [Builtin.append_,run_underlying ht,Builtin.lenOf,run_sizeOf hi,gV,hf,PQ,aKs,hr]
 .have hf:=run_firstCells_some (P:=P) (w:=w) 1 ys.length ad ys.length c (ys.map (Value.int k)) (by simp) bY
  simp [Builtin.append_,run_underlying ht,Builtin.lenOf,run_sizeOf hi,gV,hf,hle,aKs,hr]
def Ht (T:bB) (te:TI) (x:SV):Option bK:=
 match x,te.zero,Nat.beq te.size 1 with
 | .aH l false off len _,[.int _ k z],true=>match T l with
   | some (.ints k2 xs ty)=>match xA k k2 with
     | true=>some { bO:=[off+len<=xs.length],val:=.eH [],wr:=[(l,.ints k (xs.take off++List.replicate len z++xs.drop (off+len)) ty)] }
     | _=>none
   | _=>none
 | _,_,_=>none
theorem Qu (aV:cA P Γ) {T':bB} (aO:∀ l B,T' l=some B->T l=some B) (hT:aD w0 M V T w) {lab:Nat} {t ty el:TypeId} {te:TI} (ht:P.underlying t=some (.slice el)) (eF:Γ.ty el=some te)
 {x:SV} {u:Value} (hx:den V x=some u) (he:Ht T' te x=some e) (ho:∀ q∈e.bO,q):oH P w0 M V T lab e (Builtin.clear_ #[t] ty #[u]) w:=by
 unfold Ht at he
 split at he
 case h_2=>cases he
 rename_i l off len cap sz k z hzz fX
 split at he
 case h_2=>cases he
 rename_i k2 xs ety hB
 split at he
 case h_2=>cases he
 rename_i yS
 simp only [aU] at he
 subst he
 have yS:k=k2:=jI yS
 subst yS
 have hle:=ho _ dB
 obtain ⟨_,i,zv,hi,cD,lR,hz,hzero⟩:=aV el te eF
 have Cb:zv.cells = #[.int k z]:=by
  have:=hzero V
  rw [hzz] at this
  simp only [aI,den,nG,gN,aU] at this
  rw [<- Array.toList_inj,<- this]
 simp only [den,dF] at hx
 obtain ⟨p,hβ,rfl⟩:=hx
 obtain ⟨w',hr,pH⟩:=nX (P:=P) (xs:=List.replicate len z) (off:=off) lab (.eH []) [off+len<=xs.length] hT (aO l _ hB) (b:=p.1) (o:=p.2) hβ (by simpa using hle)
 rw [List.length_replicate] at pH
 cases len with
 | zero=>
   refine ⟨V,.tuple #[],w',?_,V.cN lab,by simp [den,aI],pH⟩
   simp only [List.replicate_zero,List.map_nil,storeCells,Sem.run_pure,Result.ok.injEq,true_and] at hr
   subst hr
   simp [Builtin.clear_,run_underlying ht]
 | succ n=>
   refine ⟨V,.tuple #[],w',?_,V.cN lab,by simp [den,aI],pH⟩
   have hzl:(Builtin.zeroCells zv.cells (n+1)).toList=(List.replicate (n+1) z).map (Value.int k):=by
    rw [Cb,iD]
    simp
   rw [<- hzl] at hr
   simp [Builtin.clear_,run_underlying ht,dX hi hz,hr]
def hdK (k:IntKind):List SV->List Int × List SV
 | .int s k' n::r=>match xA k k' with
   | true=>((n::(hdK k r).1),(hdK k r).2)
   | false=>([],.int s k' n::r)
 | r=>([],r)
def NO (k:IntKind):List SV->List SV × List Int × List SV
 | []=>([],[],[])
 | v::r=>match (hdK k (v::r)).1 with
   | []=>(v::(NO k r).1,(NO k r).2.1,(NO k r).2.2)
   | n::ns=>([],n::ns,(hdK k (v::r)).2)
theorem FP {V:bA} {k:IntKind}:∀ {cs:List SV} {xs:List Value},aI V cs=some xs->∃ qs,aI V (hdK k cs).2=some qs/\xs=(hdK k cs).1.map (Value.int k)++qs
 | [],xs,h=>⟨xs,h,rfl⟩
 | v::r,xs,h=>by
   unfold hdK
   split
   .rename_i s k' n r' e
    cases e
    split
    .rename_i hk
     have hk:k=k':=jI hk
     subst hk
     simp only [aI,den,nG,dF] at h
     obtain ⟨ys,hy,rfl⟩:=h
     obtain ⟨qs,h1,h2⟩:=FP (k:=k) hy
     exact ⟨qs,h1,by rw [h2];rfl⟩
    .exact ⟨xs,h,rfl⟩
   .exact ⟨xs,h,rfl⟩
theorem EO {V:bA} {k:IntKind}:∀ {cs:List SV} {xs:List Value},aI V cs=some xs->∃ ps qs,aI V (NO k cs).1=some ps/\aI V (NO k cs).2.2=some qs/\xs=ps++((NO k cs).2.1.map (Value.int k)++qs)
 | [],xs,h=>by simp only [aI,aU] at h;subst h;exact ⟨[],[],rfl,rfl,rfl⟩
 | v::r,xs,h=>by
   unfold NO
   split
   .simp only [aI,dF,gO] at h
    obtain ⟨x,hx,ys,hy,rfl⟩:=h
    obtain ⟨ps,qs,h1,h2,h3⟩:=EO (k:=k) hy
    exact ⟨x::ps,qs,by simp [aI,hx,h1],h2,by rw [h3];rfl⟩
   .rename_i n ns e
    obtain ⟨qs,h1,h2⟩:=FP (k:=k) h
    rw [e] at h2
    exact ⟨[],qs,rfl,h1,h2⟩
def pQ (k:IntKind) (cs:List SV) (ty:TypeId) (off:Nat) (ys:List Int):Prop × SB:=match NO k cs with
 | (pre,ns,post)=>((pre.length<=off/\off+ys.length<=pre.length+ns.length),match pre,post with
   | [],[]=>.ints k (ns.take off++ys++ns.drop (off+ys.length)) ty
   | pre,post=>.own (pre++(cK k ns.length (ns.take (off-pre.length)++ys++ns.drop (off-pre.length+ys.length))++post)) ty)
theorem Aw {k:IntKind} {cells:List SV} {ty:TypeId} {l off b o:Nat} {ys:List Int} (lab:Nat) (rv:SV) (ob:List Prop)
 (hT:aD w0 M V T w) (hl:T l=some (.own cells ty)) (hβ:V.β l=some (b,o)) (hle:(pQ k cells ty off ys).1) :
 ∃ w',(storeCells ⟨b,o+off,none⟩ (ys.map (Value.int k))).run P w = .ok () w'/\aD w0 M V (eT T lab { bO:=ob,val:=rv,wr:=[(l,(pQ k cells ty off ys).2)] }) w':=by
 obtain ⟨cs,hc,b',hb,hh⟩:=hT.ok l _ hl
 rw [hβ] at hb;cases hb
 obtain ⟨ps,qs,h1,h2,h3⟩:=EO (V:=V) (k:=k) (show aI V cells=some cs from hc)
 unfold pQ at hle |-
 generalize NO k cells=sp at *
 obtain ⟨pre,ns,post⟩:=sp
 simp only at hle h1 h2 h3 |-
 obtain ⟨ha,mP⟩:=hle
 have Zp:=bG h1
 have qZ:cs.length=pre.length+(ns.length+post.length):=by rw [h3];simp [Zp,bG h2]
 refine ⟨_,run_storeCells_at P b (0+off) ty _ 0 _ w hh (by simp;omega) (by intro x hx;simp only [List.mem_map] at hx;obtain ⟨y,_,rfl⟩:=hx;rfl),?_⟩
 obtain ⟨zs,rL⟩:∃ zs,zs=ns.take (off-pre.length)++ys++ns.drop (off-pre.length+ys.length):=⟨_,rfl⟩
 have hzl:zs.length=ns.length:=by rw [rL];simp;omega
 have key:ps++(zs.map (Value.int k)++qs)=cs.take off++ys.map (Value.int k)++cs.drop (off+(ys.map (Value.int k)).length):=by
  rw [h3,rL]
  obtain ⟨d,rfl⟩:∃ d,off=pre.length+d:=⟨off-pre.length,by omega⟩
  have e1:(ps++(ns.map (Value.int k)++qs)).take (pre.length+d)=ps++(ns.map (Value.int k)).take d:=by
   rw [<- Zp,List.take_length_add_append,List.take_append_of_le_length (by simp;omega)]
  have e2:(ps++(ns.map (Value.int k)++qs)).drop (pre.length+d+(ys.map (Value.int k)).length)=(ns.map (Value.int k)).drop (d+ys.length)++qs:=by
   rw [<- Zp,List.length_map,Nat.add_assoc,List.drop_length_add_append,List.drop_append_of_le_length (by simp;omega)]
  rw [e1,e2,Nat.add_sub_cancel_left]
  simp [List.map_take,List.map_drop]
 split
 .have e0:ps=[]:=by cases ps with | nil=>rfl | cons=>simp at Zp
  have e1:qs=[]:=by have:=bG h2;cases qs with | nil=>rfl | cons=>simp at this
  subst e0 e1
  simp only [List.length_nil,Nat.sub_zero] at rL
  rw [<- rL]
  have:=hT.write (B0:=.own cells ty) (B:=.ints k zs ty) hl hβ rfl (by simp [SB.aT,hβ]) hh (cs:=cs.take off++ys.map (Value.int k)++cs.drop (off+(ys.map (Value.int k)).length)) (by rw [<- key];simp [SB.cells]) (.inr (.inl rfl)) lab rv ob
  simpa using this
 .rw [<- rL]
  have sP:aI V (pre++(cK k ns.length zs++post))=some (ps++(zs.map (Value.int k)++qs)):=cI h1 (cI (uV hzl) h2)
  rw [key] at sP
  have:=hT.write (B0:=.own cells ty) (B:=.own (pre++(cK k ns.length zs++post)) ty) hl hβ rfl (by simp [SB.aT,hβ]) hh sP (.inl rfl) lab rv ob
  simpa using this
def Oz (T:bB) (te:TI) (x y:SV):Option bK:=
 match x,Vo te.desc,Nat.beq te.size 1 with
 | .aH l _ off len _,some k,true=>match Vh T k y with
   | some (ob,ys)=>match T l with
     | some (.own cs ty)=>some { bO:=(pQ k cs ty off (ys.take (Nat.min ys.length len))).1::ob,val:=.int false .i64 ((Nat.min ys.length len:Nat):Int),wr:=[(l,(pQ k cs ty off (ys.take (Nat.min ys.length len))).2)] }
     | some (.ints k2 xs ty)=>match xA k k2 with
       | true=>some { bO:=(off+Nat.min ys.length len<=xs.length)::ob,val:=.int false .i64 ((Nat.min ys.length len:Nat):Int),wr:=[(l,.ints k (xs.take off++ys.take (Nat.min ys.length len)++xs.drop (off+Nat.min ys.length len)) ty)] }
       | false=>none
     | _=>none
   | none=>none
 | _,_,_=>none
theorem Ye (aV:cA P Γ) {T':bB} (aO:∀ l B,T' l=some B->T l=some B) (hT:aD w0 M V T w) {lab:Nat} {dT sT ty el:TypeId} {te:TI} (ht:P.underlying dT=some (.slice el)) (eF:Γ.ty el=some te)
 {x y:SV} {u v:Value} (hx:den V x=some u) (hy:den V y=some v) (he:Oz T' te x y=some e) (ho:∀ q∈e.bO,q):oH P w0 M V T lab e (Builtin.copy_ #[dT,sT] ty #[u,v]) w:=by
 unfold Oz at he
 split at he
 case h_2=>cases he
 rename_i l s off len cap k hk fX
 split at he
 case h_2=>cases he
 rename_i ob ys hq
 obtain ⟨_,i,z,hi,cD,lR,hz,hzero⟩:=aV el te eF
 have gV:i.size=1:=by rw [cD];exact cM fX
 simp only [den,dF] at hx
 obtain ⟨p,hβ,rfl⟩:=hx
 have fin:∀ (B:SB) (q:Prop),(∃ w',(storeCells ⟨p.1,p.2+off,none⟩ ((ys.take (Nat.min ys.length len)).map (Value.int k))).run P w = .ok () w'/\aD w0 M V (eT T lab { bO:=q::ob,val:=.int false .i64 ((Nat.min ys.length len:Nat):Int),wr:=[(l,B)] }) w') ->
  Sl w v (ys.map (Value.int k))->oH P w0 M V T lab { bO:=q::ob,val:=.int false .i64 ((Nat.min ys.length len:Nat):Int),wr:=[(l,B)] } (Builtin.copy_ #[dT,sT] ty #[.slice (some ⟨p.1,p.2+off,none⟩) len cap,v]) w:=by
  rintro B q ⟨w',hr,pH⟩ hh
  refine ⟨V,.int .i64 ((Nat.min ys.length len:Nat):Int),w',?_,V.cN lab,rfl,pH⟩
  rcases hh with ⟨rfl,pJ⟩ | ⟨ad,c,rfl,bY⟩
  .have:ys=[]:=by simpa using pJ
   subst this
   have hf:=run_firstCells_none (P:=P) (w:=w) 1 0 0 0
   simp at hr
   simp [Builtin.copy_,run_underlying ht,Builtin.lenOf,run_sizeOf hi,gV,hf,hr,goInt]
  .have hf:=run_firstCells_some (P:=P) (w:=w) 1 (Nat.min ys.length len) ad ys.length c ((ys.take (Nat.min ys.length len)).map (Value.int k))
    (by rw [List.length_map,List.length_take,Nat.mul_one];exact Nat.min_eq_left (Nat.min_le_left _ _))
    (fun j q hj=>by
     rw [List.map_take,List.getElem?_take] at hj
     split at hj
     .exact bY j q hj
     .cases hj)
   have e1:(ys.map (Value.int k)).length=ys.length:=by simp
   rw [e1]
   simp [Builtin.copy_,run_underlying ht,Builtin.lenOf,run_sizeOf hi,gV,goInt] at hf hr |-
   simp [hf,hr]
 split at he
 .rename_i cs ety hB
  simp only [aU] at he
  subst he
  exact fin _ _ (Aw lab _ _ hT (aO l _ hB) hβ (ho _ dB)) (tO (hT.sub aO) hy hq (fun q hq=>ho q (eM _ hq)))
 .rename_i k2 xs ety hB
  split at he
  case h_2=>cases he
  rename_i yS
  simp only [aU] at he
  subst he
  have yS:k=k2:=jI yS
  subst yS
  have hle:off+Nat.min ys.length len<=xs.length:=ho _ dB
  have NB:(ys.take (Nat.min ys.length len)).length=Nat.min ys.length len:=by rw [List.length_take];exact Nat.min_eq_left (Nat.min_le_left _ _)
  have:=nX (P:=P) (xs:=ys.take (Nat.min ys.length len)) (off:=off) lab (.int false .i64 ((Nat.min ys.length len:Nat):Int)) ((off+Nat.min ys.length len<=xs.length)::ob) hT (aO l _ hB) (b:=p.1) (o:=p.2) hβ (by omega)
  rw [NB] at this
  exact fin _ _ this (tO (hT.sub aO) hy hq (fun q hq=>ho q (eM _ hq)))
 .cases he
theorem wR {t t2 ty el:TypeId} {ik:IntKind} {i:TypeInfo} {z z0 v:Value} (ht:P.underlying t=some (.slice el)) (Mu:P.underlying t2=some (.int ik)) (hi:P.info? el=some i) (hz:i.zero=some z) (fX:i.size=1) (Cb:z.cells = #[z0]) (h1:z0.oneCell'=true)
 (k0:IntKind) (m:Nat) (h0:0<m) {n:Nat} {xs:List Value} (fF:w.ownsRow 0 el 1 v n xs) (ZJ:n+m<=maxLen) (hb:(n+m)*i.bytes<=140737488355328) :
 ∃ v' w',(Builtin.append_ #[t,t2] ty #[v,.int k0 m]).run P w = .ok v' w'/\w'.ownsRow 0 el 1 v' (n+m) (xs++List.replicate m z0)/\w.grownBy w' v.ownBlock/\(v'.ownBlock=v.ownBlock\/v'.ownBlock=some w.heap.size) /\
   ∀ k,gR w k v->(∃ q,z0=Value.int k q)->gR w' k v':=by
 have Ol:n+m<=9223372036854775807:=by simp only [maxLen] at ZJ;omega
 have rL:∀ c,Builtin.zeroCells z.cells c=(List.replicate c z0).toArray:=fun c=>by rw [Cb,iD]
 have hw:IntKind.i64.wrap (m:Int)=m:=IntWalk.i64_in _ (by omega)
 have hmm:¬ ((m:Int)<0):=by omega
 have hbm:m*i.bytes<=140737488355328:=Nat.le_trans (Nat.mul_le_mul_right _ (Nat.le_add_left m n)) hb
 have h2:¬ (281474976710656<(m:Int)*(i.bytes:Int)):=by
  have:((m*i.bytes:Nat):Int)<=140737488355328:=by omega
  rw [Int.natCast_mul] at this
  omega
 rcases fF.2 with ⟨rfl,rfl⟩ | ⟨g,cap,cur,rfl,_,hg,NA,OD,nI,dD⟩
 .have nA:xs=[]:=List.eq_nil_of_length_eq_zero (by simpa using fF.1)
  subst nA
  rw [Nat.zero_add] at ZJ hb Ol
  have hr:=pC (P:=P) (ty:=ty) w ht Mu hi hz fX k0 m h0 (by omega) hb
  have ZH:=grownCap_ge w m 0 el
  have ZG:grownCap w m 0 el<=maxLen:=grownCap_le_maxLen w m 0 el (by simp only [maxLen];omega)
  refine ⟨_,_,hr,⟨by simp,.inr ⟨w.heap.size,grownCap w m 0 el,_,by rw [Nat.zero_add],Nat.zero_le _,heap_alloc_new w.drew _,by omega,ZG,?_,?_⟩⟩,⟨rfl,rfl,rfl,by simp,fun k hk _=>heap_alloc_old w.drew _ hk⟩,.inr rfl,fun k _ hq b hb=>?_⟩
  .rw [rL,rL];simp;omega
  .rw [rL,rL];simp
  .cases hb
   obtain ⟨q,rfl⟩:=hq
   refine ⟨_,_,_,heap_alloc_new w.drew _,fun x hx=>?_⟩
   rw [rL,rL] at hx
   simp only [Array.toList_append,List.mem_append] at hx
   rcases hx with hx | hx <;> exact ⟨q,List.eq_of_mem_replicate hx⟩
 .rw [Nat.mul_one] at nI dD
  have aKo:cur.toList.length=cap:=by rw [Array.length_toList];exact nI
  by_cases tG:n+m<=cap
  .have Fg:=run_storeCells_at P g n el (List.replicate m z0) 0 cur w hg (by simp;omega) (fun u hu=>by rw [List.eq_of_mem_replicate hu];exact h1)
   simp only [Nat.add_zero,List.length_replicate] at Fg
   have hr:(Builtin.append_ #[t,t2] ty #[.slice (some ⟨g,0,none⟩) n cap,.int k0 m]).run P w = .ok (.slice (some ⟨g,0,none⟩) (n+m) cap) (w.setRow g (cur.toList.take n++List.replicate m z0++cur.toList.drop (n+m)).toArray):=by
    have dK:m≠0:=by omega
    simp [Builtin.append_,run_underlying ht,run_underlying Mu,sizeOf,typeInfo,zeroValue,hi,hz,fX,asInt,asIntOf,hw,hmm,h2,dK,tG,rL,Addr.add_lit,Fg]
   refine ⟨_,_,hr,⟨by simp [fF.1],.inr ⟨g,cap,_,rfl,Nat.zero_le _,setRow_heap w g cur _ el (0,0) hg,tG,OD,?_,?_⟩⟩,⟨rfl,rfl,rfl,by simp [World.setRow],fun k _ hk=>setRow_other w g k _ (fun e=>hk (by simp [Value.ownBlock,e]))⟩,.inl rfl,fun k hI hq b hb=>?_⟩
   .simp;omega
   .have hl:(cur.toList.take n).length=n:=by rw [List.length_take];omega
    rw [Nat.mul_one,<- dD,List.take_append_of_le_length (by simp;omega)]
    rw [List.take_of_length_le (by simp;omega)]
   .cases hb
    obtain ⟨q,rfl⟩:=hq
    obtain ⟨QG,ty2,p2,sP,jP⟩:=hI g rfl
    rw [hg] at sP
    cases sP
    refine ⟨_,_,_,setRow_heap w g cur _ el (0,0) hg,fun x hx=>?_⟩
    simp only [List.mem_append] at hx
    rcases hx with (hx | hx) | hx
    .exact jP x (List.mem_of_mem_take hx)
    .exact ⟨q,List.eq_of_mem_replicate hx⟩
    .exact jP x (List.mem_of_mem_drop hx)
  .have holds:∀ (j:Nat) (u:Value),xs[j]?=some u->w.drew.cell? ((⟨g,0,none⟩:Addr).add j)=some u:=fun j u hj=>by
    have:w.cell? ((⟨g,0,none⟩:Addr).add j)=some u:=by
     rw [bJ,cell_of_row w g _ _ _ _ hg]
     rw [<- dD,List.getElem?_take] at hj
     split at hj
     .simpa using hj
     .cases hj
    simpa using this
   have Zs:=run_firstCells_some (P:=P) w.drew i.size n ⟨g,0,none⟩ n cap xs (by rw [fX];exact fF.1) holds
   rw [fX] at Zs
   have hn:¬ (n+m<=cap):=tG
   have aCg:¬ (9223372036854775807<((n:Int)+(m:Int))):=by omega
   have h48:Builtin.nextslicecap (n+m) cap*i.bytes<=281474976710656:=growslice_fits (by omega) hb
   have aCh:¬ (281474976710656<Builtin.nextslicecap (n+m) cap*i.bytes):=by omega
   have dK:m≠0:=by omega
   have hr:(Builtin.append_ #[t,t2] ty #[.slice (some ⟨g,0,none⟩) n cap,.int k0 m]).run P w = .ok (.slice (some ⟨w.heap.size,0,none⟩) (n+m) (grownCap w (n+m) cap el))
    (w.drew.alloc (.cells (xs.toArray++Builtin.zeroCells z.cells m++Builtin.zeroCells z.cells (grownCap w (n+m) cap el-(n+m))) el)):=by
    simp [Builtin.append_,run_underlying ht,run_underlying Mu,sizeOf,typeInfo,zeroValue,hi,hz,fX,asInt,asIntOf,hw,hmm,h2,dK,hn,aCg,aCh,Question.forced,Zs,newRow,grownCap]
   have ZH:=grownCap_ge w (n+m) cap el
   have ZG:grownCap w (n+m) cap el<=maxLen:=grownCap_le_maxLen w (n+m) cap el ZJ
   have Fe:=fF.1
   rw [Nat.mul_one] at Fe
   refine ⟨_,_,hr,⟨by simp [Fe],.inr ⟨w.heap.size,_,_,rfl,Nat.zero_le _,heap_alloc_new w.drew _,ZH,ZG,?_,?_⟩⟩,⟨rfl,rfl,rfl,by simp,fun k hk _=>heap_alloc_old w.drew _ hk⟩,.inr rfl,fun k hI hq b hb=>?_⟩
   .rw [rL,rL];simp [Fe];omega
   .rw [rL,rL,Nat.mul_one]
    simp only [Array.toList_append]
    rw [List.take_append_of_le_length (by simp [Fe]),List.take_of_length_le (by simp [Fe])]
   .cases hb
    obtain ⟨q,rfl⟩:=hq
    obtain ⟨QG,ty2,p2,sP,jP⟩:=hI g rfl
    rw [hg] at sP
    cases sP
    refine ⟨_,_,_,heap_alloc_new w.drew _,fun x hx=>?_⟩
    rw [rL,rL] at hx
    simp only [Array.toList_append,List.mem_append] at hx
    rcases hx with (hx | hx) | hx
    .rw [<- dD] at hx
     exact jP x (List.mem_of_mem_take hx)
    .exact ⟨q,List.eq_of_mem_replicate hx⟩
    .exact ⟨q,List.eq_of_mem_replicate hx⟩
def Nf (te:TI):Int:=match te.zero with
 | [.int _ _ z]=>z
 | _=>0
def DP (T:bB) (d:TypeDesc) (te:TI) (el:TypeId) (lab:Nat) (x y:SV):Option bK:=
 match Vo te.desc,Nat.beq te.size 1&&(Nat.blt 0 te.bytes&&zI te),d,y with
 | some k,true,.int _,.int _ _ m=>match Ec T k el x with
   | some (lo,o1,xs)=>some { bO:=(0<m/\((xs.length:Int)+m)*te.bytes<=140737488355328)::o1,val:=.buf lab,new:=[.dC k (xs++List.replicate m.toNat (Nf te)) el],wr:=iA lo }
   | none=>none
 | _,_,_,_=>none
theorem LQ (aV:cA P Γ) {T':bB} (aO:∀ l B,T' l=some B->T l=some B) (hT:aD w0 M V T w) {lab:Nat} (hf:V.fresh lab) {t t2 ty el:TypeId} {d:TypeDesc} {te:TI} (ht:P.underlying t=some (.slice el)) (Mu:P.underlying t2=some d) (eF:Γ.ty el=some te)
 {x y:SV} {u v:Value} (hx:den V x=some u) (hy:den V y=some v) (he:DP T' d te el lab x y=some e) (ho:∀ q∈e.bO,q):oH P w0 M V T lab e (Builtin.append_ #[t,t2] ty #[u,v]) w:=by
 unfold DP at he
 split at he
 case h_2=>cases he
 rename_i k ik sm km m hk jY
 simp only [iJ] at jY
 obtain ⟨fX,OE,hzi⟩:=jY
 split at he
 case h_2=>cases he
 rename_i lo o1 xs h1
 simp only [aU] at he
 subst he
 obtain ⟨_,i,z,hi,cD,lR,hz,hzero⟩:=aV el te eF
 have gV:i.size=1:=by rw [cD];exact cM fX
 have oZ:0<te.bytes:=by simpa [Nat.blt_eq] using OE
 obtain ⟨hm0,hbound⟩:=ho _ dB
 have ho1:∀ q∈o1,q:=fun q hq=>ho q (eM _ hq)
 have Cb:z.cells = #[Value.int k (Nf te)]:=by
  unfold zI at hzi
  split at hzi
  .rename_i s k1 z1 k2 hz1 OB
   have e1:=jI hzi
   subst e1
   have yS:k1=k:=by
    unfold Vo at hk
    rw [OB] at hk
    simpa using hk
   subst yS
   have h3:=hzero V
   have e2:Nf te=z1:=by unfold Nf;rw [hz1]
   rw [hz1] at h3
   simp only [aI,den,nG,gN,aU] at h3
   rw [e2]
   apply Array.ext';rw [<- h3]
  .cases hzi
 obtain ⟨n,rfl⟩:=pI (Int.le_of_lt hm0)
 simp only [den,aU] at hy
 subst hy
 have mP:(xs.length+n)*i.bytes<=140737488355328:=by
  rw [lR]
  have:(((xs.length+n)*te.bytes:Nat):Int)<=140737488355328:=by rw [Int.natCast_mul,Int.natCast_add];exact hbound
  omega
 have AN:xs.length+n<=maxLen:=by
  rw [lR] at mP
  have:=Nat.le_mul_of_pos_right (xs.length+n) oZ
  simp only [maxLen];omega
 obtain ⟨bQ,jN,Il⟩:=Lo (hT.sub aO) hx h1 ho1
 have jJ:∀ l,lo=some l->∃ B,T l=some B/\B.owned=true/\∀ n,u.ownBlock=some n->B.aT V l=some n:=fun l hl=>by
  obtain ⟨B,h1,h2,h3⟩:=Il l hl;exact ⟨B,aO l B h1,h2,h3⟩
 obtain ⟨v',w',hr,rK,sW,fD,hI⟩:=wR (P:=P) (ty:=ty) ht Mu hi hz gV Cb rfl km n (by omega) bQ AN mP
 refine ⟨V.aZ lab v',v',w',hr,bA.cC hf lab (dE _) (by omega) v',by simp [den,bA.aZ],?_⟩
 exact hT.append hf ⟨k,xs++List.replicate n (Nf te),rfl,rfl,rfl,hI k (sM (hT.sub aO) hx h1) ⟨_,rfl⟩⟩ (show SB.cells V (.dC k (xs++List.replicate n (Nf te)) el)=some ((xs++List.replicate n (Nf te)).map (Value.int k)) from rfl) (by simpa using rK) sW fD jN jJ _ _
def txI (s:ByteArray):List Int:=s.data.toList.map fun b=>(b.toNat:Int)
def Oy (T:bB) (te:TI) (x y:SV):Option bK:=
 match x,y,te.desc,Nat.beq te.size 1 with
 | .aH l _ off len _,.raw (.string s),.int .u8,true=>match T l with
   | some (.own cs ty)=>some { bO:=[(pQ .u8 cs ty off ((txI s).take (Nat.min s.size len))).1],val:=.int false .i64 ((Nat.min s.size len:Nat):Int),wr:=[(l,(pQ .u8 cs ty off ((txI s).take (Nat.min s.size len))).2)] }
   | _=>none
 | _,_,_,_=>none
theorem Yd (aV:cA P Γ) {T':bB} (aO:∀ l B,T' l=some B->T l=some B) (hT:aD w0 M V T w) {lab:Nat} {dT sT ty el:TypeId} {te:TI} (ht:P.underlying dT=some (.slice el)) (eF:Γ.ty el=some te)
 {x y:SV} {u v:Value} (hx:den V x=some u) (hy:den V y=some v) (he:Oy T' te x y=some e) (ho:∀ q∈e.bO,q):oH P w0 M V T lab e (Builtin.copy_ #[dT,sT] ty #[u,v]) w:=by
 unfold Oy at he
 split at he
 case h_2=>cases he
 rename_i l s0 off len cap s hk fX
 split at he
 case h_2=>cases he
 rename_i cs ety hB
 simp only [aU] at he
 subst he
 obtain ⟨_,i,z,hi,cD,lR,hz,hzero⟩:=aV el te eF
 have gV:i.size=1:=by rw [cD];exact cM fX
 simp only [den,dF,aU] at hx hy
 obtain ⟨p,hβ,rfl⟩:=hx
 subst hy
 obtain ⟨w',hr,pH⟩:=Aw (P:=P) lab (.int false .i64 ((Nat.min s.size len:Nat):Int)) [(pQ .u8 cs ety off ((txI s).take (Nat.min s.size len))).1] hT (aO l _ hB) (b:=p.1) (o:=p.2) hβ (ho _ dB)
 refine ⟨V,.int .i64 ((Nat.min s.size len:Nat):Int),w',?_,V.cN lab,rfl,pH⟩
 have hf:(Builtin.firstCells 1 (Nat.min s.size len) (.string s)).run P w = .ok (((txI s).take (Nat.min s.size len)).map (Value.int .u8)).toArray w:=by
  simp only [Builtin.firstCells,Sem.run_pure]
  congr 1
  apply Array.ext'
  simp [txI,List.map_take]
  rfl
 simp [Builtin.copy_,run_underlying ht,Builtin.lenOf,run_sizeOf hi,gV,goInt] at hf hr |-
 simp [hf,hr]
def Hs (T:bB) (te:TI) (x:SV):Option bK:=
 match x,te.zero,Nat.beq te.size 1 with
 | .aH l _ off len _,[.int _ k z],true=>match T l with
   | some (.own cs ty)=>some { bO:=[(pQ k cs ty off (List.replicate len z)).1],val:=.eH [],wr:=[(l,(pQ k cs ty off (List.replicate len z)).2)] }
   | _=>none
 | _,_,_=>none
theorem Qt (aV:cA P Γ) {T':bB} (aO:∀ l B,T' l=some B->T l=some B) (hT:aD w0 M V T w) {lab:Nat} {t ty el:TypeId} {te:TI} (ht:P.underlying t=some (.slice el)) (eF:Γ.ty el=some te)
 {x:SV} {u:Value} (hx:den V x=some u) (he:Hs T' te x=some e) (ho:∀ q∈e.bO,q):oH P w0 M V T lab e (Builtin.clear_ #[t] ty #[u]) w:=by
 unfold Hs at he
 split at he
 case h_2=>cases he
 rename_i l s off len cap sz k z hzz fX
 split at he
 case h_2=>cases he
 rename_i cs ety hB
 simp only [aU] at he
 subst he
 obtain ⟨_,i,zv,hi,cD,lR,hz,hzero⟩:=aV el te eF
 have Cb:zv.cells = #[.int k z]:=by
  have:=hzero V
  rw [hzz] at this
  simp only [aI,den,nG,gN,aU] at this
  rw [<- Array.toList_inj,<- this]
 simp only [den,dF] at hx
 obtain ⟨p,hβ,rfl⟩:=hx
 obtain ⟨w',hr,pH⟩:=Aw (P:=P) (ys:=List.replicate len z) (k:=k) (off:=off) lab (.eH []) [(pQ k cs ety off (List.replicate len z)).1] hT (aO l _ hB) (b:=p.1) (o:=p.2) hβ (ho _ (by simp))
 cases len with
 | zero=>
   refine ⟨V,.tuple #[],w',?_,V.cN lab,by simp [den,aI],pH⟩
   simp only [List.replicate_zero,List.map_nil,storeCells,Sem.run_pure,Result.ok.injEq,true_and] at hr
   subst hr
   simp [Builtin.clear_,run_underlying ht]
 | succ n=>
   refine ⟨V,.tuple #[],w',?_,V.cN lab,by simp [den,aI],pH⟩
   have hzl:(Builtin.zeroCells zv.cells (n+1)).toList=(List.replicate (n+1) z).map (Value.int k):=by
    rw [Cb,iD]
    simp
   rw [<- hzl] at hr
   simp [Builtin.clear_,run_underlying ht,dX hi hz,hr]
end YQ
def uY (Γ:Env) (T:bB) (lab:Nat) (b:Builtin) (ts:List TypeId) (vs:List SV):Option bK:=
 match b,ts,vs with
 | .len,t::_,[v]=>match Γ.ty t with
   | some ti=>aCq Γ T ti.desc v
   | none=>none
 | .cap,t::_,[v]=>match Γ.ty t with
   | some ti=>match ti.desc with
     | .slice _=>aCr v
     | _=>none
   | none=>none
 | .append,[t,t2],[x,y]=>match Nat.beq t t2,y with
   | false,.int .. => match Γ.ty t,Γ.ty t2 with
     | some ti,some ti2=>match ti.desc with
       | .slice el=>match Γ.ty el with
         | some te=>lA (Bm ti2.desc te el lab x y) (DP T ti2.desc te el lab x y)
         | none=>none
       | _=>none
     | _,_=>none
   | _,_=>match Γ.ty t,Nat.beq t t2 with
     | some ti,true=>match ti.desc with
       | .slice el=>match Γ.ty el with
         | some te=>lA (DR T te el lab x y) (lA (DS T te x y) (lA (DQ T te el lab x y) (lA (DU T te el lab x y) (DT T te el lab x y))))
         | none=>none
       | _=>none
     | _,_=>none
 | .copy,[t,_],[x,y]=>match Γ.ty t with
   | some ti=>match ti.desc with
     | .slice el=>match Γ.ty el with
       | some te=>lA (Pa T te.size x y) (lA (Oz T te x y) (Oy T te x y))
       | none=>none
     | _=>none
   | none=>none
 | .clear,[t],[x]=>match Γ.ty t with
   | some ti=>match ti.desc with
     | .slice el=>match Γ.ty el with
       | some te=>lA (Ht T te x) (lA (Hu T te x) (Hs T te x))
       | none=>none
     | _=>none
   | none=>none
 | _,_,_=>none
def DN (Γ:Env) (g:Nat->Option SV) (T:bB) (lab F:Nat) (c:Call):Option bK:=
 match OH Γ g c.args.toList with
 | none=>none
 | some vs=>match c.callee with
   | .builtin b=>uY Γ T lab b c.argTypes.toList vs
   | .value f=>match ev Γ g f with
     | some (.fn (.func id) first Fy)=>match Γ.sum id with
       | some S=>S (first++vs++Fy) T lab F
       | none=>none
     | _=>none
   | .invoke _ _=>none
section aWk
variable {P:Program} {Γ:Env} {V:bA} {w w0:World} {M:Nat->Prop} {T:bB} {g:Nat->Option SV} {a:Act} {o:Oper} {e:bK}
def Pc (Γ:Env) (g:Nat->Option SV) (T:bB) (src dst:TypeId) (x:Operand):Option bK:=
 match ev Γ g x,Γ.ty src with
 | some (.aH l s off len cap),some ts=>match ts.desc with
   | .slice el=>match Γ.ty el,T l with
     | some te,some (.own cs _)=>match te.desc,Nat.beq src dst,cR .u8 cs with
       | .int .u8,true,some ns=>some { val:=.aH l s off len cap,wr:=[(l,.nH .u8 ns)] }
       | _,_,_=>none
     | _,_=>none
   | _=>none
 | _,_=>none
theorem Yh (aV:cA P Γ) (ht:cG V g a) (hg:bP Γ V) {T':bB} (aO:∀ l B,T' l=some B->T l=some B) (hT:aD w0 M V T w) {src dst:TypeId} {x:Operand} (bV:o.op = .convert src dst x)
 (he:Pc Γ g T' src dst x=some e) (lab:Nat):kR P w0 M V T lab e o a w:=by
 unfold Pc at he
 split at he
 case h_2=>cases he
 rename_i l s off len cap ts hx Zo
 split at he
 case h_2=>cases he
 rename_i el hd
 split at he
 case h_2=>cases he
 rename_i te cs ty eF hB
 split at he
 case h_2=>cases he
 rename_i ns hu8 hsd ZE
 have hsd:=cM hsd
 subst hsd
 simp only [aU] at he
 subst he
 have ex:=bH ht hg hx
 simp only [den,dF] at ex
 obtain ⟨⟨b,base⟩,hβ,ex⟩:=ex
 have hu:=(aV src ts Zo).1
 rw [hd] at hu
 have Ci:=(aV el te eF).1
 rw [hu8] at Ci
 obtain ⟨us,hc,b',hb,hh⟩:=hT.ok l _ (aO l _ hB)
 rw [hβ] at hb;cases hb
 have Cd:us=ns.map (Value.int .u8):=by
  have h1:=cQ (V:=V) ZE
  rw [show aI V cs=some us from hc] at h1
  exact Option.some.inj h1
 have cL:b<w.heap.size:=(Array.getElem?_eq_some_iff.1 hh).1
 have hfr:∃ w',w'=w.freeze ⟨b,us.length,none⟩ 1:=⟨_,rfl⟩
 obtain ⟨w',MU⟩:=hfr
 have Ac:w'.heap[b]?=some (.cells us.toArray ty (us.length,us.length+1)):=by
  rw [MU]
  simp [World.freeze,Array.getElem?_modify,hh]
 have aTl:∀ n,n≠b->w'.heap[n]?=w.heap[n]?:=fun n hn=>by
  rw [MU]
  simp only [World.freeze]
  rw [if_neg (by decide:¬ (1:Nat)=0)]
  simp only [Array.getElem?_modify]
  rw [if_neg (fun q:b=n=>hn q.symm)]
 have fX:w'.heap.size=w.heap.size:=by rw [MU];simp [World.freeze]
 have eA:(execOp a.eval o).run P w = .ok (.value (a.eval x)) w':=by
  have hsh:w.shape? b=some (ty,us.length):=by simp [World.shape?,hh]
  unfold execOp
  simp [bV,<- ex,convert,run_underlying hu,run_underlying Ci,markStringish,hsh,MU]
 intro K Q hK
 unfold Oper.wp
 rw [eA,Oper.upon_value]
 refine hK V _ w' (V.cN lab) (by rw [<- ex];simp [den,hβ]) ?_
 refine hT.change (B0:=.own cs ty) (B:=.nH .u8 ns) (b:=b) (aO l _ hB) rfl (by simp [SB.aT,hβ]) ⟨us,by rw [Cd];rfl,b,0,hβ,⟨by omega,fun s hs=>?_⟩,fun j v hj=>?_⟩ (by simp [SB.aT,hβ]) (by omega) (fun n _ dK=>aTl n dK) (by rw [MU];simp [World.freeze]) (by rw [MU];simp [World.freeze]) (by rw [MU];simp [World.freeze]) lab _ []
 .rw [Cd] at hs
  simp at hs
 .simp [World.cell?,Ac,hj]
def Hp (Γ:Env) (g:Nat->Option SV) (T:bB) (t:TypeId) (x y:Operand):Option bK:=
 match ev Γ g x,ev Γ g y,Γ.ty t with
 | some (.buf l),some (.int _ _ k),some ti=>match ti.desc,T l with
   | .slice el,some (.dC _ xs _)=>match Γ.ty el with
     | some te=>match Nat.beq te.size 1 with
       | true=>some { bO:=[0<=k/\k<xs.length],val:=.iU l k.toNat }
       | false=>none
     | none=>none
   | _,_=>none
 | _,_,_=>none
theorem Qq (aV:cA P Γ) (ht:cG V g a) (hg:bP Γ V) {T':bB} (aO:∀ l B,T' l=some B->T l=some B) (hT:aD w0 M V T w) {t:TypeId} {x y:Operand} (bV:o.op = .indexAddr t x y)
 (he:Hp Γ g T' t x y=some e) (ho:∀ q∈e.bO,q) (lab:Nat):kR P w0 M V T lab e o a w:=by
 unfold Hp at he
 split at he
 case h_2=>cases he
 rename_i l sk kk k ti hx hy dZ
 split at he
 case h_2=>cases he
 rename_i el k2 xs ty hd hB
 split at he
 case h_2=>cases he
 rename_i te eF
 split at he
 case h_2=>cases he
 rename_i gV
 have gV:=cM gV
 simp only [aU] at he
 subst he
 have hb:0<=k/\k<xs.length:=ho _ (by simp)
 have ex:=bH ht hg hx
 have ey:=bH ht hg hy
 simp only [den,aU] at ex ey
 obtain ⟨us,hc,v,hσ,bQ⟩:=hT.ok l _ (aO l _ hB)
 rw [hσ] at ex
 cases ex
 rcases bQ.1.2 with ⟨hv,h0⟩ | ⟨b,cap,cur,hv,_⟩
 .omega
 obtain ⟨_,i,z,hi,cD,_⟩:=aV el te eF
 have hu:=(aV t ti dZ).1
 rw [hd] at hu
 refine bD (x:=.pointer (some ⟨b,0+k.toNat*te.size,none⟩)) ?_ (by simp [den,hσ,hv,bJ,gV]) rfl rfl hT
 unfold execOp
 simp only [bV,hv,<- ey,Instr.indexAt,asIntOf,Sem.run_bind,Sem.run_pure,run_underlying hu w,Result.andThen_ok,if_pos hb,run_sizeOf hi,cD,bJ]
def Hh (Γ:Env) (g:Nat->Option SV) (T:bB) (t:TypeId) (x y:Operand):Option bK:=
 match ev Γ g x,ev Γ g y,Γ.ty t with
 | some (.iU l off),some (.int _ k n),some ti=>match T l,Nat.beq ti.size 1 with
   | some (.dC k2 xs ty),true=>match decide (k2=k) with
     | true=>some { bO:=[off<xs.length],val:=.raw undef,wr:=[(l,.dC k (xs.set off n) ty)] }
     | false=>none
   | _,_=>none
 | _,_,_=>none
theorem Qi (aV:cA P Γ) (ht:cG V g a) (hg:bP Γ V) {T':bB} (aO:∀ l B,T' l=some B->T l=some B) (hT:aD w0 M V T w) {t:TypeId} {x y:Operand} (bV:o.op = .store t x y)
 (he:Hh Γ g T' t x y=some e) (ho:∀ q∈e.bO,q) (lab:Nat):kR P w0 M V T lab e o a w:=by
 unfold Hh at he
 split at he
 case h_2=>cases he
 rename_i l off sk k n ti hx hy dZ
 split at he
 case h_2=>cases he
 rename_i k2 xs ty hB gV
 split at he
 case h_2=>cases he
 rename_i hk
 have hk:=jI hk
 subst hk
 have gV:=cM gV
 simp only [aU] at he
 subst he
 have hb:off<xs.length:=ho _ (by simp)
 have ex:=bH ht hg hx
 have ey:=bH ht hg hy
 simp only [den,aU] at ey
 obtain ⟨hu,i,z,hi,cD,_⟩:=aV t ti dZ
 obtain ⟨us,hc,v,hσ,bQ⟩:=hT.ok l _ (aO l _ hB)
 have hc':us=xs.map (Value.int k2):=(Option.some.inj hc).symm
 subst hc'
 obtain ⟨bQ,hI⟩:=bQ
 rcases bQ.2 with ⟨hv,h0⟩ | ⟨b,cap,cur,hv,_,hh,hle,pO,nI,dD⟩
 .omega
 subst hv
 simp only [den,hσ,aU] at ex
 have Fg:=(World.ownsRow.stored bQ off (.int k2 n))
 obtain ⟨aTk,AJ⟩:=Fg
 have cL:off<cur.size:=by omega
 have eA:(execOp a.eval o).run P w = .ok .skip (w.setCell ⟨b,off,none⟩ (.int k2 n)):=by
  have gM:w.cell? ⟨b,off,none⟩=some cur[off]:=by simp [World.cell?,hh,cL]
  have hfz:w.frozen? ⟨b,off,none⟩=false:=World.ownsRow.frozenAt bQ off
  have aGm:(store (⟨b,off,none⟩:Addr) (.int k2 n)).run P w = .ok () (w.setCell ⟨b,off,none⟩ (.int k2 n)):=by
   rw [run_store P w _ _ _ rfl,gM]
   simp [hfz]
  have hz1:i.size=1:=by omega
  unfold execOp
  simp [bV,<- ex,<- ey,Instr.storeAt,Instr.sureAddr,storeVar,run_sizeOf hi,hz1,Value.cells,storeCells,bJ,aGm]
 intro K Q hK
 unfold Oper.wp
 rw [eA,Oper.upon_skip]
 refine hK V undef _ (V.cN lab) rfl ?_
 refine hT.change (B0:=.dC k2 xs ty) (B:=.dC k2 (xs.set off n) ty) (b:=b) (aO l _ hB) rfl (by simp [SB.aT,hσ,Value.ownBlock]) ⟨_,rfl,_,hσ,?_⟩ (by simp [SB.aT,hσ,Value.ownBlock]) AJ.size (fun m hm dK=>AJ.block m hm (fun q=>dK (Option.some.inj q))) AJ.os AJ.tape AJ.output lab _ _
 rw [List.length_set,List.map_set]
 refine ⟨aTk,fun b' hb=>?_⟩
 cases hb
 obtain ⟨QG,ty2,p2,sP,jP⟩:=hI b rfl
 rw [hh] at sP
 cases sP
 refine ⟨_,_,_,heap_setCell_same w b off cur _ (.int k2 n) hh,fun q hq=>?_⟩
 rw [Array.toList_setIfInBounds] at hq
 rcases List.mem_or_eq_of_mem_set hq with hq | hq
 .exact jP q hq
 .exact ⟨n,hq⟩
end aWk
section aWj
variable {P:Program} {Γ:Env} {V:bA} {w w0:World} {M:Nat->Prop} {T:bB} {g:Nat->Option SV} {a:Act} {o:Oper} {e:bK}
def BD (ys:List Int):ByteArray:=ys.foldl (fun r n=>r.push (UInt8.ofNat n.toNat)) ByteArray.empty
def Pb (Γ:Env) (g:Nat->Option SV) (T:bB) (src dst:TypeId) (x:Operand):Option bK:=
 match ev Γ g x,Γ.ty src,Γ.ty dst with
 | some v,some ts,some td=>match ts.desc,td.desc with
   | .slice el,.string=>match Γ.ty el,Vh T .u8 v with
     | some te,some (ob,ys)=>match te.desc with
       | .int .u8=>some { bO:=ob,val:=.raw (.string (BD ys)) }
       | _=>none
     | _,_=>none
   | _,_=>none
 | _,_,_=>none
theorem Yg (aV:cA P Γ) (ht:cG V g a) (hg:bP Γ V) {T':bB} (aO:∀ l B,T' l=some B->T l=some B) (hT:aD w0 M V T w) {src dst:TypeId} {x:Operand} (bV:o.op = .convert src dst x)
 (he:Pb Γ g T' src dst x=some e) (ho:∀ q∈e.bO,q) (lab:Nat):kR P w0 M V T lab e o a w:=by
 unfold Pb at he
 split at he
 case h_2=>cases he
 rename_i v ts td hx Zo htd
 split at he
 case h_2=>cases he
 rename_i el OB ND
 split at he
 case h_2=>cases he
 rename_i te ob ys eF hq
 split at he
 case h_2=>cases he
 rename_i hu8
 simp only [aU] at he
 subst he
 have ex:=bH ht hg hx
 have hh:=tO (hT.sub aO) ex hq ho
 have hu:=(aV src ts Zo).1
 rw [OB] at hu
 have hud:=(aV dst td htd).1
 rw [ND] at hud
 have Ci:=(aV el te eF).1
 rw [hu8] at Ci
 refine bD (x:=.string (BD ys)) ?_ rfl rfl rfl hT
 unfold execOp
 simp only [bV,Sem.run_bind]
 rcases hh with ⟨hv,pJ⟩ | ⟨ad,c,hv,bY⟩
 .have:ys=[]:=by simpa using pJ
  subst this
  rw [hv,run_convert_bytes_string w src dst el _ _ _ hu Ci hud]
  simp [Conv.bytesToString,BD]
 .have hf:=run_firstCells_some (P:=P) (w:=w) 1 ys.length ad ys.length c (ys.map (Value.int .u8)) (by simp) bY
  simp only [Builtin.firstCells,Nat.mul_one] at hf
  rw [hv,List.length_map,run_convert_bytes_string w src dst el _ _ _ hu Ci hud,run_bytesToString w ad ys.length c ys hf]
  rfl
def Gj (Γ:Env) (g:Nat->Option SV) (op:BinOp) (x y:Operand):Option bK:=
 match ev Γ g x,ev Γ g y,op with
 | some (.raw (.string s)),some (.raw (.string t)),.eql=>some { val:=.bool false (s.toList==t.toList) }
 | some (.raw (.string s)),some (.raw (.string t)),.neq=>some { val:=.bool false (!(s.toList==t.toList)) }
 | _,_,_=>none
theorem Eu (ht:cG V g a) (hg:bP Γ V) (hT:aD w0 M V T w) {op:BinOp} {t t2:TypeId} {x y:Operand} (bV:o.op = .binOp op t x y t2)
 (he:Gj Γ g op x y=some e) (lab:Nat):kR P w0 M V T lab e o a w:=by
 unfold Gj at he
 split at he
 case h_3=>cases he
 all_goals
  rename_i s s2 hx hy
  simp only [aU] at he
  subst he
  have ex:=bH ht hg hx
  have ey:=bH ht hg hy
  simp only [den,aU] at ex ey
 .refine bD (x:=.bool (s.toList==s2.toList)) ?_ rfl rfl rfl hT
  unfold execOp
  have yC:=cP (P:=P) w .eql t x y (.string s) (.string s2) (fun e=>by cases e.1) (fun _ e=>by cases e)
  simp [bV,<- ex,<- ey,binOp,Op.stringOp,yC]
 .refine bD (x:=.bool (!(s.toList==s2.toList))) ?_ rfl rfl rfl hT
  unfold execOp
  have yC:=cP (P:=P) w .neq t x y (.string s) (.string s2) (fun e=>by cases e.1) (fun _ e=>by cases e)
  simp [bV,<- ex,<- ey,binOp,Op.stringOp,yC]
end aWj
def zU (Γ:Env) (g:Nat->Option SV) (T:bB) (lab F:Nat) (h:Option Bool) (o:Oper):Option bK:=
 match o.op with
 | .move x=>Se Γ g x
 | .assign x=>Se Γ g x
 | .pick c x y=>DK Γ g c x y
 | .alloc t=>Pe Γ t lab
 | .box t x=>lA (aCs Γ g T t x lab) (DO Γ g t x lab)
 | .build t ps=>Pd Γ g T t ps
 | .buildSlice t n ps=>qG Γ g T t n ps lab
 | .load t x=>lA (Ow Γ g T t x) (lA (DL Γ g T t x) (Ov Γ g T t x))
 | .store t x y=>lA (Oq Γ g T t x y) (lA (Hi Γ g T t x y) (lA (Hg Γ g T t x y) (Hh Γ g T t x y)))
 | .nilCheck x=>aCp Γ g x
 | .binOp op t x y _=>match op with
   | .eql=>lA (AZ Γ g h .eql t x y) (lA (Sd Γ g T .eql t x y) (lA (Gm Γ g .eql t x y) (lA (Gk Γ g .eql t x y) (Gj Γ g .eql x y))))
   | .neq=>lA (AZ Γ g h .neq t x y) (lA (Sd Γ g T .neq t x y) (lA (Gm Γ g .neq t x y) (lA (Gk Γ g .neq t x y) (Gj Γ g .neq x y))))
   | _=>AZ Γ g h op t x y
 | .unOp op _ x=>eUn Γ g op x
 | .convert s d x=>lA (DM Γ g s d x) (lA (Pc Γ g T s d x) (Pb Γ g T s d x))
 | .sliceToArrayPointer t x=>aCt Γ g t x
 | .makeInterface t x=>sK Γ g t x
 | .makeFunc f xs cs=>wL Γ g f xs cs
 | .makeSlice t x y=>lA (sJ Γ g t x y lab) (Ou Γ g t x y lab)
 | .slice t x lo hi mx=>lA (Hm Γ g T t x lo hi mx) (lA (Ot Γ g T t x lo hi mx) (lA (Hj Γ g T t x lo hi mx lab) (lA (Hl Γ g T t x lo hi mx lab) (Hk Γ g T t x lo hi mx lab))))
 | .fieldAddr t x n=>Ox Γ g t x n
 | .field t x n=>Hr Γ g t x n
 | .indexAddr t x y=>lA (sL Γ g t x y) (lA (Hp Γ g T t x y) (Ho Γ g t x y))
 | .index t x y=>lA (Hn Γ g t x y) (Hq Γ g t x y)
 | .extract x i=>Bl Γ g x i
 | .call c=>DN Γ g T lab F c
 | _=>none
theorem mH {a b:Nat} (h:Nat.beq a b=false):a≠b:=fun e=>by subst e;rw [Nat.beq_refl] at h;cases h
section Fk
variable {P:Program} {Γ:Env} {V:bA} {w w0:World} {M:Nat->Prop} {T:bB} {g:Nat->Option SV} {a:Act} {o:Oper} {e:bK}
theorem Lf {xs:Array Operand} {vs:List SV} (ht:cG V g a) (hg:bP Γ V) (h:OH Γ g xs.toList=some vs):aI V vs=some (xs.map a.eval).toList:=by
 rw [Array.toList_map];exact Gh ht hg h
theorem qB {v:SV} {xs:List Value} (h:aI V [v]=some xs):∃ x,xs=[x]/\den V v=some x:=by
 simp only [aI,dF,gO] at h
 obtain ⟨x,hx,ys,hy,rfl⟩:=h
 simp only [aU] at hy
 subst hy
 exact ⟨x,rfl,hx⟩
theorem Bn {u v:SV} {xs:List Value} (h:aI V [u,v]=some xs):∃ x y,xs=[x,y]/\den V u=some x/\den V v=some y:=by
 simp only [aI,dF,gO] at h
 obtain ⟨x,hx,ys,⟨y,hy,zs,hz,rfl⟩,rfl⟩:=h
 simp only [aU] at hz
 subst hz
 exact ⟨x,y,rfl,hx,hy⟩
def aVw (b:Builtin) (Cn:Array TypeId) (ty:TypeId) (xs:Array Value):Sem Value:=match b with
 | .len=>Builtin.len_ Cn ty xs
 | .cap=>Builtin.cap_ Cn ty xs
 | .append=>Builtin.append_ Cn ty xs
 | .copy=>Builtin.copy_ Cn ty xs
 | .clear=>Builtin.clear_ Cn ty xs
 | _=>stuck ""
theorem Mg (aV:cA P Γ) {T':bB} (aO:∀ l B,T' l=some B->T l=some B) (hT:aD w0 M V T w) {lab:Nat} (hf:V.fresh lab) {b:Builtin} {Cn:Array TypeId} {ty:TypeId} {vs:List SV} {xs:Array Value}
 (hv:aI V vs=some xs.toList) (he:uY Γ T' lab b Cn.toList vs=some e) (ho:∀ q∈e.bO,q) :
 oH P w0 M V T lab e (aVw b Cn ty xs) w:=by
 obtain ⟨ts,Zo⟩:∃ ts,Cn.toList=ts:=⟨_,rfl⟩
 rw [Zo] at he
 unfold uY at he
 split at he
 .rename_i t r v
  split at he
  case h_2=>cases he
  rename_i ti dZ
  obtain ⟨x,hx,hd⟩:=qB hv
  have nA:xs = #[x]:=by apply Array.ext';simpa using hx
  subst nA
  have yU:Cn[0]?=some t:=by rw [<- Array.getElem?_toList,Zo];rfl
  exact nY (XU (ty:=ty) aV aO hT yU (aV t ti dZ).1 hd he) hT
 .rename_i t r v
  split at he
  case h_2=>cases he
  rename_i ti dZ
  split at he
  case h_2=>cases he
  rename_i el Zt
  obtain ⟨x,hx,hd⟩:=qB hv
  have nA:xs = #[x]:=by apply Array.ext';simpa using hx
  subst nA
  have yU:Cn[0]?=some t:=by rw [<- Array.getElem?_toList,Zo];rfl
  have hu:=(aV t ti dZ).1
  rw [Zt] at hu
  exact nY (XW (ty:=ty) yU hu hd he) hT
 .rename_i t t2 x y
  split at he
  .rename_i s k n htt
   split at he
   case h_2=>cases he
   rename_i ti ti2 dZ aKg
   split at he
   case h_2=>cases he
   rename_i el Zt
   split at he
   case h_2=>cases he
   rename_i te eF
   obtain ⟨p,q,hx,hp,hq⟩:=Bn hv
   have nA:xs = #[p,q]:=by apply Array.ext';simpa using hx
   subst nA
   have No:Cn = #[t,t2]:=by apply Array.ext';simpa using Zo
   subst No
   have hu:=(aV t ti dZ).1
   rw [Zt] at hu
   unfold lA at he
   split at he
   .rename_i h1;cases he;exact Mh (ty:=ty) aV hT hf hu (aV t2 ti2 aKg).1 eF hp hq h1 ho
   .exact LQ (ty:=ty) aV aO hT hf hu (aV t2 ti2 aKg).1 eF hp hq he ho
  .split at he
   case h_2=>cases he
   rename_i ti dZ htt
   have:=cM htt
   subst this
   split at he
   case h_2=>cases he
   rename_i el Zt
   split at he
   case h_2=>cases he
   rename_i te eF
   obtain ⟨p,q,hx,hp,hq⟩:=Bn hv
   have nA:xs = #[p,q]:=by apply Array.ext';simpa using hx
   subst nA
   have No:Cn = #[t,t]:=by apply Array.ext';simpa using Zo
   subst No
   have hu:=(aV t ti dZ).1
   rw [Zt] at hu
   unfold lA at he
   split at he
   .rename_i e' gZ
    cases he
    exact LS (ty:=ty) aV aO hT hf hu eF hp hq gZ ho
   .split at he
    .rename_i e' gZ
     cases he
     exact LU (ty:=ty) aV aO hT hu eF hp hq gZ ho
    .split at he
     .rename_i e' gZ
      cases he
      exact LR (ty:=ty) aV aO hT hf hu eF hp hq gZ ho
     .split at he
      .rename_i e' gZ
       cases he
       exact LW (ty:=ty) aV aO hT hf hu eF hp hq gZ
      .exact LV (ty:=ty) aV aO hT hf hu eF hp hq he ho
 .rename_i t t2 x y
  split at he
  case h_2=>cases he
  rename_i ti dZ
  split at he
  case h_2=>cases he
  rename_i el Zt
  split at he
  case h_2=>cases he
  rename_i te eF
  obtain ⟨p,q,hx,hp,hq⟩:=Bn hv
  have nA:xs = #[p,q]:=by apply Array.ext';simpa using hx
  subst nA
  have No:Cn = #[t,t2]:=by apply Array.ext';simpa using Zo
  subst No
  have hu:=(aV t ti dZ).1
  rw [Zt] at hu
  unfold lA at he
  split at he
  .rename_i e' gZ
   cases he
   exact Yf (ty:=ty) aV aO hT hu eF hp hq gZ
  .split at he
   .rename_i e' gZ
    cases he
    exact Ye (ty:=ty) aV aO hT hu eF hp hq gZ ho
   .exact Yd (ty:=ty) aV aO hT hu eF hp hq he ho
 .rename_i t x
  split at he
  case h_2=>cases he
  rename_i ti dZ
  split at he
  case h_2=>cases he
  rename_i el Zt
  split at he
  case h_2=>cases he
  rename_i te eF
  obtain ⟨p,hx,hp⟩:=qB hv
  have nA:xs = #[p]:=by apply Array.ext';simpa using hx
  subst nA
  have No:Cn = #[t]:=by apply Array.ext';simpa using Zo
  subst No
  have hu:=(aV t ti dZ).1
  rw [Zt] at hu
  unfold lA at he
  split at he
  .rename_i e' gZ
   cases he
   exact Qu (ty:=ty) aV aO hT hu eF hp gZ ho
  .split at he
   .rename_i e' gZ
    cases he
    exact Qv (ty:=ty) aV aO hT hu eF hp gZ
   .exact Qt (ty:=ty) aV aO hT hu eF hp he ho
 .cases he
theorem Ma {lab:Nat} {s:Sem Value} (h:oH P w0 M V T lab e s w) (hr:execOp a.eval o=(do pure (.value (<- s)))):kR P w0 M V T lab e o a w:=by
 obtain ⟨V',x,w',h1,h2,h3,h4⟩:=h
 intro K Q hK
 unfold Oper.wp
 rw [hr]
 simp only [Sem.run_bind,h1,Result.andThen_ok,Sem.run_pure,Oper.upon_value]
 exact hK V' x w' h2 h3 h4
theorem LO (aV:cA P Γ) (aY:cH P Γ) (ht:cG V g a) (hg:bP Γ V) {T':bB} (aO:∀ l B,T' l=some B->T l=some B) (hT:aD w0 M V T w) {lab F:Nat} (hf:V.fresh lab) (hF:V.top F) {c:Call} (bV:o.op = .call c)
 (he:DN Γ g T' lab F c=some e) (ho:∀ q∈e.bO,q):kR P w0 M V T lab e o a w:=by
 unfold DN at he
 split at he
 case h_1=>cases he
 rename_i vs hvs
 have hd:=Lf ht hg hvs
 split at he
 .rename_i b hb
  have hs:=Mg (P:=P) (ty:=o.type) aV aO hT hf hd he ho
  refine Ma hs ?_
  unfold execOp
  simp only [bV,resolve,hb]
  unfold uY at he
  split at he <;> first | (cases he;done) | rfl
 .rename_i f hb
  split at he
  case h_2=>cases he
  rename_i id first Fy hfv
  split at he
  case h_2=>cases he
  rename_i S hS
  have ef:=bH ht hg hfv
  simp only [den,gO,dF] at ef
  obtain ⟨xf,hxf,xc,hxc,ef⟩:=ef
  intro K Q hK
  have jP:=cI (cI hxf hd) hxc
  have:=aY.1 id S hS _ _ _ _ _ he ho w0 M V T w _ aO hT hg hf hF jP o a K Q hK
  unfold Oper.wp
  have eA:(execOp a.eval o).run P w=(callFunc id ((xf++(c.args.map a.eval).toList++xc).toArray)).run P w:=by
   unfold execOp
   simp only [bV,resolve,hb,<- ef,Deferred.ofValue,invoke]
   have:(xf++(c.args.map a.eval).toList++xc).toArray=xf.toArray++c.args.map a.eval++xc.toArray:=by
    apply Array.ext';simp
   rw [this]
   rfl
  rw [eA]
  exact this
 .cases he
theorem Ee {l:Nat} {B:SB} {p:Nat × Nat} (h:Nw B=true) (hβ:V.β l=some p) (nC:okB V w l B):B.owned=true/\B.aT V l=some p.1/\p.2=0/\∃ cs ty,w.heap[p.1]?=some (.cells cs ty (0,0)):=by
 obtain ⟨cs,_,h2⟩:=nC
 cases B with
 | own cells ty=>obtain ⟨b,hb,hh⟩:=h2;rw [hβ] at hb;cases hb;exact ⟨rfl,by simp [SB.aT,hβ],rfl,_,_,hh⟩
 | ints k xs ty=>obtain ⟨b,hb,hh⟩:=h2;rw [hβ] at hb;cases hb;exact ⟨rfl,by simp [SB.aT,hβ],rfl,_,_,hh⟩
 | eK vs ty=>obtain ⟨b,hb,hh⟩:=h2;rw [hβ] at hb;cases hb;exact ⟨rfl,by simp [SB.aT,hβ],rfl,_,_,hh⟩
 | row sz cells ty=>obtain ⟨b,_,_,hb,_,hh,_⟩:=h2;rw [hβ] at hb;cases hb;exact ⟨rfl,by simp [SB.aT,hβ],rfl,_,_,hh⟩
 | _=>cases h
theorem jS (d:Nat) {e:TypeId} {k0:IntKind} (he:P.underlying e=some (.int k0)) (aS bs:Array Value) :
 ∀ (xs ys:List SV) (j:Nat) (l r:Bool),lV xs ys=some (l,r)->aI V xs=some (aS.toList.drop j)->aI V ys=some (bs.toList.drop j)->(Op.eqItems (d+1) e 1 aS bs (List.range' j xs.length)).run P w = .ok r w
 | [],[],j,l,r,h,_,_=>by
   simp only [lV,aU,Prod.mk.injEq] at h
   obtain ⟨rfl,rfl⟩:=h
   simp [Op.eqItems]
 | .int s k a::xs,y::ys,j,l,r,h,hx,hy=>by
   cases y <;> simp only [lV] at h <;> first | (cases h;done) | skip
   rename_i s' k' b
   split at h
   case h_2=>cases h
   rename_i l' r' hk hr
   have:=jI hk
   subst this
   simp only [aU,Prod.mk.injEq] at h
   obtain ⟨rfl,rfl⟩:=h
   simp only [aI,den,nG,dF] at hx hy
   obtain ⟨as',nA,hxa⟩:=hx
   obtain ⟨bs',pJ,hyb⟩:=hy
   have ga:aS[j]?=some (.int k a):=by
    have:(aS.toList.drop j)[0]?=some (.int k a):=by rw [<- hxa];rfl
    simpa using this
   have gb:bs[j]?=some (.int k b):=by
    have:(bs.toList.drop j)[0]?=some (.int k b):=by rw [<- hyb];rfl
    simpa using this
   have da:as'=aS.toList.drop (j+1):=by
    have:=congrArg (List.drop 1) hxa
    simpa using this
   have db:bs'=bs.toList.drop (j+1):=by
    have:=congrArg (List.drop 1) hyb
    simpa using this
   have gA:rQ (.int k0)=false:=rfl
   have ih:=jS d he aS bs xs ys (j+1) l' r' hr (da ▸ nA) (db ▸ pJ)
   have pa:(part e aS (j*1)).run P w = .ok (.int k a) w:=by
    simp only [Nat.mul_one,part,Sem.run_bind,eL he,gA,Result.andThen_ok,Bool.false_eq_true,if_false,ga,Sem.run_pure]
   have pb:(part e bs (j*1)).run P w = .ok (.int k b) w:=by
    simp only [Nat.mul_one,part,Sem.run_bind,eL he,gA,Result.andThen_ok,Bool.false_eq_true,if_false,gb,Sem.run_pure]
   simp only [List.length_cons,List.range'_succ,Op.eqItems,Sem.run_bind,pa,pb,Result.andThen_ok,run_equalIn_int w d e k k0 a b he]
   cases hab:(a==b) with
   | true=>simp [ih]
   | false=>simp
 | [],_::_,_,_,_,h,_,_=>by simp [lV] at h
 | x::_,[],_,_,_,h,_,_=>by cases x <;> simp [lV] at h
 | .bool .. :: _,_::_,_,_,_,h,_,_=>by simp [lV] at h
 | .ptr .. :: _,_::_,_,_,_,h,_,_=>by simp [lV] at h
 | .aH .. :: _,_::_,_,_,_,h,_,_=>by simp [lV] at h
 | .agg .. :: _,_::_,_,_,_,h,_,_=>by simp [lV] at h
 | .eH .. :: _,_::_,_,_,_,h,_,_=>by simp [lV] at h
 | .fn .. :: _,_::_,_,_,_,h,_,_=>by simp [lV] at h
 | .sO .. :: _,_::_,_,_,_,h,_,_=>by simp [lV] at h
 | .raw .. :: _,_::_,_,_,_,h,_,_=>by simp [lV] at h
 | .buf .. :: _,_::_,_,_,_,h,_,_=>by simp [lV] at h
 | .iU .. :: _,_::_,_,_,_,h,_,_=>by simp [lV] at h
 | .lW .. :: _,_::_,_,_,_,h,_,_=>by simp [lV] at h
 | .gY .. :: _,_::_,_,_,_,h,_,_=>by simp [lV] at h
 | .ai .. :: _,_::_,_,_,_,h,_,_=>by simp [lV] at h
 | .dG .. :: _,_::_,_,_,_,h,_,_=>by simp [lV] at h
theorem Lk (aV:cA P Γ) (aY:cH P Γ) (ht:cG V g a) (hg:bP Γ V) {T':bB} (aO:∀ l B,T' l=some B->T l=some B) (hT:aD w0 M V T w) {op:BinOp} {t t2:TypeId} {x y:Operand} (bV:o.op = .binOp op t x y t2)
 (he:Sd Γ g T' op t x y=some e) (lab:Nat):kR P w0 M V T lab e o a w:=by
 have fin:∀ {u v:Value} {b:Bool},a.eval x=u->a.eval y=v->(Op.equal t u v).run P w = .ok b w->(binOp .eql t u v=(do pure (.bool (<- Op.equal t u v)))/\binOp .neq t u v=(do pure (.bool (!(<- Op.equal t u v))))) ->
  ¬ (u = .nilIface/\v = .nilIface)->(∀ cs,u ≠ .agg cs)->tC op b=some e->kR P w0 M V T lab e o a w:=by
  intro u v b hu hv hr hb Uz NW he
  have yC:=cP (P:=P) w op t x y u v Uz NW
  have hx:∃ z,((do eqGuard op t x y u v;binOp op t u v):Sem Value).run P w = .ok z w/\den V e.val=some z/\e.new=[]/\e.wr=[]:=by
   cases op <;> simp only [tC] at he <;> first | (cases he;done) | skip
   .simp only [lit,aU] at he;subst he
    exact ⟨.bool b,by rw [Sem.run_bind,yC,Result.andThen_ok,hb.1,Sem.run_bind,hr];rfl,rfl,rfl,rfl⟩
   .simp only [lit,aU] at he;subst he
    exact ⟨.bool (!b),by rw [Sem.run_bind,yC,Result.andThen_ok,hb.2,Sem.run_bind,hr];rfl,rfl,rfl,rfl⟩
  obtain ⟨z,h1,h2,h3,h4⟩:=hx
  refine bD (x:=z) ?_ h2 h3 h4 hT
  unfold execOp
  simp only [bV,hu,hv]
  rw [Sem.run_bind,h1]
  rfl
 unfold Sd at he
 split at he
 .rename_i l s1 off l' s2 fC hx hy
  have ex:=bH ht hg hx
  have ey:=bH ht hg hy
  simp only [den,dF] at ex ey
  obtain ⟨p,hp,ex⟩:=ex
  obtain ⟨q,hq,ey⟩:=ey
  split at he
  case h_2=>cases he
  rename_i ti dZ
  split at he
  case h_2=>cases he
  rename_i el hd
  split at he
  case h_2=>cases he
  rename_i te eF
  have hu:=(aV t ti dZ).1
  rw [hd] at hu
  obtain ⟨_,i,z,hi,fX,_⟩:=aV el te eF
  have aTx:∀ (n0:Nat) (b:Bool),(i.size≠0->(sameAddr ⟨p.1,p.2+off,none⟩ ⟨q.1,q.2+fC,none⟩).run P w = .ok b w)->(i.size=0->((⟨p.1,p.2+off,none⟩:Addr)==⟨q.1,q.2+fC,none⟩)=true/\b=true) ->
   (Op.equalIn (n0+1) t (.pointer (some ⟨p.1,p.2+off,none⟩)) (.pointer (some ⟨q.1,q.2+fC,none⟩))).run P w = .ok b w:=by
   intro n0 b h1 h2
   simp only [Op.equalIn,Sem.run_bind,run_underlying hu w,Result.andThen_ok,run_sizeOf hi]
   by_cases h0:i.size=0
   .rw [if_neg (by simp [h0])]
    obtain ⟨h3,rfl⟩:=h2 h0
    rw [if_pos h3];rfl
   .rw [if_pos (by simpa using h0)]
    exact h1 h0
  have heq:∀ (b:Bool),(i.size≠0->(sameAddr ⟨p.1,p.2+off,none⟩ ⟨q.1,q.2+fC,none⟩).run P w = .ok b w)->(i.size=0->((⟨p.1,p.2+off,none⟩:Addr)==⟨q.1,q.2+fC,none⟩)=true/\b=true) ->
   (Op.equal t (.pointer (some ⟨p.1,p.2+off,none⟩)) (.pointer (some ⟨q.1,q.2+fC,none⟩))).run P w = .ok b w:=fun b=>aTx 9999 b
  split at he
  .rename_i NX
   have:=cM NX
   subst this
   rw [hp] at hq;cases hq
   split at he
   .rename_i hoo
    have:=cM hoo
    subst this
    exact fin ex.symm ey.symm (heq true (fun _=>run_sameAddr_same w _) (fun _=>⟨by simp,rfl⟩)) ⟨rfl,rfl⟩ (by simp) (by simp) he
   .rename_i hoo
    have dK:=mH hoo
    split at he
    .cases he
    .rename_i hz
     have hz:=mH hz
     refine fin ex.symm ey.symm (heq false (fun _=>?_) (fun h=>absurd (fX ▸ h) hz)) ⟨rfl,rfl⟩ (by simp) (by simp) he
     simp [sameAddr]
  .rename_i NX
   have dK:=mH NX
   split at he
   case h_2=>cases he
   rename_i B B' hz hB hB'
   have hz:=mH hz
   split at he
   case h_2=>cases he
   rename_i hw
   simp only [iJ] at hw
   obtain ⟨o1,b1,z1,cs1,ty1,h1⟩:=Ee hw.1 hp (hT.ok l B (aO l B hB))
   obtain ⟨o2,b2,z2,cs2,ty2,h2⟩:=Ee hw.2 hq (hT.ok l' B' (aO l' B' hB'))
   have Rl:p.1≠q.1:=fun e=>hT.jK l B l' B' p.1 dK (aO l B hB) (aO l' B' hB') o1 b1 (e ▸ b2)
   refine fin ex.symm ey.symm (heq false (fun _=>?_) (fun h=>absurd (fX ▸ h) hz)) ⟨rfl,rfl⟩ (by simp) (by simp) he
   exact run_sameAddr_other w (by simp) h1 h2
 .rename_i t1 l s1 off t2' l' s2 fC hx hy
  have ex:=bH ht hg hx
  have ey:=bH ht hg hy
  simp only [den,dF] at ex ey
  obtain ⟨_,⟨p,hp,rfl⟩,ex⟩:=ex
  obtain ⟨_,⟨q,hq,rfl⟩,ey⟩:=ey
  split at he
  case h_2=>cases he
  rename_i ti t1i dZ ht1
  split at he
  case h_2=>cases he
  rename_i ms el hd OB
  split at he
  case h_2=>cases he
  rename_i te eF
  have hu:=(aV t ti dZ).1
  rw [hd] at hu
  obtain ⟨YX,i1,z1,Va,_⟩:=aV t1 t1i ht1
  rw [OB] at YX
  obtain ⟨_,i2,z2,Rk,aTi,_⟩:=aV el te eF
  split at he
  .rename_i hc
   simp only [iJ] at hc
   obtain ⟨c1,c2,c3,c4⟩:=hc
   have:=cM c1
   subst this
   have:=cM c2
   subst this
   have:=cM c3
   subst this
   rw [hp] at hq;cases hq
   have aCf:=(aY.2.2.1 t1 c4).1 i1 Va
   exact fin ex.symm ey.symm (run_equalIn_iface_ptr_same w 9998 _ hu YX Va aCf Rk) ⟨rfl,rfl⟩ (by simp) (by simp) he
  .split at he
   case h_2=>cases he
   rename_i s s' hc hs Ce
   split at he
   case h_2=>cases he
   rename_i dK
   simp only [iJ,Bool.not_eq_true'] at hc
   obtain ⟨c1,c4,c5⟩:=hc
   have:=cM c1
   subst this
   have aCf:=(aY.2.2.1 t1 c4).1 i1 Va
   have look:∀ {l o:Nat} {s:ByteArray} {p:Nat × Nat},OP T' l o=some s->V.β l=some p->o=0/\wZ w p.1/\w.cell? ⟨p.1,p.2,none⟩=some (.string s):=by
    intro l o s p h hp
    unfold OP at h
    split at h
    case h_2=>cases h
    rename_i s0 r hB
    cases h
    obtain ⟨cs,nI,b,o,hb,h0,hh⟩:=hT.ok l _ (aO l _ hB)
    rw [hp] at hb;cases hb
    simp only [SB.cells,aI,den,gO,dF] at nI
    obtain ⟨v,hv,w',_,rfl⟩:=nI
    cases hv
    refine ⟨rfl,h0.2 s rfl,?_⟩
    have:=hh 0 (.string s) rfl
    simpa using this
   obtain ⟨rfl,⟨ca,ta,ha⟩,kF⟩:=look hs hp
   obtain ⟨rfl,⟨cb,tb,hb⟩,hcb⟩:=look Ce hq
   have hab:(⟨p.1,p.2+0,none⟩:Addr)≠⟨q.1,q.2+0,none⟩:=fun e=>by
    simp only [Nat.add_zero] at e
    rw [e] at kF
    have:=kF.symm.trans hcb
    simp only [aU,Value.string.injEq] at this
    exact FF dK (by rw [this])
   exact fin ex.symm ey.symm (run_equalIn_iface_ptr_other w 9998 hu YX Va aCf Rk (by rw [aTi];exact mH c5) hab ha hb) ⟨rfl,rfl⟩ (by simp) (by simp) he
 .rename_i xs ys hx hy
  have ex:=bH ht hg hx
  have ey:=bH ht hg hy
  simp only [den,dF] at ex ey
  obtain ⟨aS,has,ex⟩:=ex
  obtain ⟨bs,hbs,ey⟩:=ey
  split at he
  case h_2=>cases he
  rename_i ti dZ
  split at he
  case h_2=>cases he
  rename_i n el hd
  split at he
  case h_2=>cases he
  rename_i te eF
  split at he
  case h_2=>cases he
  rename_i k0 l r hdk jY heq
  simp only [iJ] at jY
  have h1:=cM jY.1
  have h2:=cM jY.2
  have hu:=(aV t ti dZ).1
  rw [hd] at hu
  obtain ⟨Ci,i,z,hi,fX,_⟩:=aV el te eF
  rw [hdk] at Ci
  have gM:P.cellsOf el=1:=by simp [Program.cellsOf,hi,fX,h1]
  have hr:(Op.equal t (.agg aS.toArray) (.agg bs.toArray)).run P w = .ok r w:=by
   have:=run_equalIn_array (P:=P) w 9999 aS.toArray bs.toArray hu hi
   refine Eq.trans this ?_
   rw [gM,<- h2,List.range_eq_range']
   exact jS 9998 Ci aS.toArray bs.toArray xs ys 0 l r heq (by simpa using has) (by simpa using hbs)
  have yC:∀ op:BinOp,(eqGuard op t x y (.agg aS.toArray) (.agg bs.toArray)).run P w = .ok () w:=fun op=>by
   refine run_eqGuard_agg w op t x y _ _ ?_
   obtain ⟨d,AO⟩:=aY.2.2.2
   rw [AO]
   simp [Program.eqGuardType,hu,Ci]
  refine bD (x:=match op with | .eql=>.bool r | _=>.bool (!r)) ?_ ?_ ?_ ?_ hT
  .unfold execOp
   simp only [bV,<- ex,<- ey]
   cases op <;> simp only [Oo] at he <;> first | (cases he;done) | skip
   .rw [Sem.run_bind,Sem.run_bind,yC,Result.andThen_ok]
    show (((do pure (.bool (<- Op.equal t (.agg aS.toArray) (.agg bs.toArray)))):Sem Value).run P w).andThen _=_
    rw [Sem.run_bind,hr];rfl
   .rw [Sem.run_bind,Sem.run_bind,yC,Result.andThen_ok]
    show (((do pure (.bool (!(<- Op.equal t (.agg aS.toArray) (.agg bs.toArray))))):Sem Value).run P w).andThen _=_
    rw [Sem.run_bind,hr];rfl
  all_goals (cases op <;> simp only [Oo] at he <;> first | (cases he;done) | (cases he;rfl))
 .cases he
theorem Lh (k:IntKind):∀ (xs ys:List Int),xs.length=ys.length->∃ l,lV (xs.map (SV.int false k)) (ys.map (SV.int false k))=some (l,decide (xs=ys))
 | [],[],_=>⟨true,rfl⟩
 | [],_::_,h=>by simp at h
 | _::_,[],h=>by simp at h
 | x::xs,y::ys,h=>by
   obtain ⟨l,hl⟩:=Lh k xs ys (by simpa using h)
   refine ⟨false&&(false&&l),?_⟩
   simp only [List.map_cons,lV,Un,decide_true,hl]
   by_cases e:x=y
   .subst e;simp
   .simp [e]
theorem Ew (aV:cA P Γ) (aY:cH P Γ) (ht:cG V g a) (hg:bP Γ V) (hT:aD w0 M V T w) {op:BinOp} {t t2:TypeId} {x y:Operand} (bV:o.op = .binOp op t x y t2)
 (he:Gm Γ g op t x y=some e) (ho:∀ q∈e.bO,q) (lab:Nat):kR P w0 M V T lab e o a w:=by
 unfold Gm at he
 split at he
 case h_2=>cases he
 rename_i k xs k2 ys ti hx hy dZ
 split at he
 case h_2=>cases he
 rename_i n el hd
 split at he
 case h_2=>cases he
 rename_i te eF
 split at he
 case h_2=>cases he
 rename_i k0 hdk gV yS
 have gV:=cM gV
 have yS:k=k2:=jI yS
 subst yS
 simp only [gO] at hx hy
 obtain ⟨vx,hx,NY⟩:=hx
 obtain ⟨vy,hy,hiy⟩:=hy
 have ex:=(bH ht hg hx).symm.trans (Er NY)
 have ey:=(bH ht hg hy).symm.trans (Er hiy)
 simp only [aU] at ex ey
 have hu:=(aV t ti dZ).1
 rw [hd] at hu
 obtain ⟨Ci,i,z,hi,fX,_⟩:=aV el te eF
 rw [hdk] at Ci
 have gM:P.cellsOf el=1:=by simp [Program.cellsOf,hi,fX,gV]
 have hlen:xs.length=n/\ys.length=n:=by
  cases op <;> simp only [Gl] at he <;> first | (cases he;done) | (cases he;exact ho _ (by simp))
 obtain ⟨l,hl⟩:=Lh k xs ys (by omega)
 have dm:∀ zs:List Int,aI V (zs.map (SV.int false k))=some (zs.map (Value.int k)):=fun zs=>by
  induction zs with
  | nil=>rfl
  | cons z zs ih=>simp [aI,den,ih]
 have hr:(Op.equal t (.agg (xs.map (Value.int k)).toArray) (.agg (ys.map (Value.int k)).toArray)).run P w = .ok (decide (xs=ys)) w:=by
  have:=run_equalIn_array (P:=P) w 9999 (xs.map (Value.int k)).toArray (ys.map (Value.int k)).toArray hu hi
  refine Eq.trans this ?_
  rw [gM,<- hlen.1,List.range_eq_range']
  have:=jS (P:=P) (w:=w) (V:=V) 9998 Ci (xs.map (Value.int k)).toArray (ys.map (Value.int k)).toArray (xs.map (SV.int false k)) (ys.map (SV.int false k)) 0 l _ hl (by simpa using dm xs) (by simpa using dm ys)
  simpa using this
 have yC:∀ op:BinOp,(eqGuard op t x y (.agg (xs.map (Value.int k)).toArray) (.agg (ys.map (Value.int k)).toArray)).run P w = .ok () w:=fun op=>by
  refine run_eqGuard_agg w op t x y _ _ ?_
  obtain ⟨d,AO⟩:=aY.2.2.2
  rw [AO]
  simp [Program.eqGuardType,hu,Ci]
 refine bD (x:=match op with | .eql=>.bool (decide (xs=ys)) | _=>.bool (!decide (xs=ys))) ?_ ?_ ?_ ?_ hT
 .unfold execOp
  simp only [bV,ex,ey]
  cases op <;> simp only [Gl] at he <;> first | (cases he;done) | skip
  .rw [Sem.run_bind,Sem.run_bind,yC,Result.andThen_ok]
   show (((do pure (.bool (<- Op.equal t (.agg (xs.map (Value.int k)).toArray) (.agg (ys.map (Value.int k)).toArray)))):Sem Value).run P w).andThen _=_
   rw [Sem.run_bind,hr];rfl
  .rw [Sem.run_bind,Sem.run_bind,yC,Result.andThen_ok]
   show (((do pure (.bool (!(<- Op.equal t (.agg (xs.map (Value.int k)).toArray) (.agg (ys.map (Value.int k)).toArray))))):Sem Value).run P w).andThen _=_
   rw [Sem.run_bind,hr];rfl
 all_goals (cases op <;> simp only [Gl] at he <;> first | (cases he;done) | (cases he;rfl))
theorem Ev (aV:cA P Γ) (aY:cH P Γ) (ht:cG V g a) (hg:bP Γ V) (hT:aD w0 M V T w) {op:BinOp} {t t2:TypeId} {x y:Operand} (bV:o.op = .binOp op t x y t2)
 (he:Gk Γ g op t x y=some e) (lab:Nat):kR P w0 M V T lab e o a w:=by
 unfold Gk at he
 split at he
 case h_2=>cases he
 rename_i s1 k1 x1 s2 k2 x2 s3 k3 y1 s4 k4 y2 ti hx hy dZ
 split at he
 case h_2=>cases he
 rename_i fs hd
 split at he
 case h_2=>cases he
 rename_i f1 f2 hfs
 split at he
 case h_2=>cases he
 rename_i t1 t2 ht1 Mu
 split at he
 case h_2=>cases he
 rename_i d1 d2 OB ND jY
 simp only [iJ,Bool.not_eq_true',beq_eq_false_iff_ne,ne_eq] at jY
 obtain ⟨⟨⟨n1,n2⟩,o1,o2⟩,⟨hk1,fL⟩,hc⟩:=jY
 have o1:=cM o1
 have o2:=cM o2
 have hk1:k1=k3:=jI hk1
 have fL:k2=k4:=jI fL
 subst hk1 fL
 have ex:=bH ht hg hx
 have ey:=bH ht hg hy
 simp only [den,aI,nG,gN,aU] at ex ey
 have hu:=(aV t ti dZ).1
 rw [hd] at hu
 have YX:=(aV _ t1 ht1).1
 rw [OB] at YX
 have hu2:=(aV _ t2 Mu).1
 rw [ND] at hu2
 have Zs:P.fieldsOf t=fs:=by simp [Program.fieldsOf,hu]
 have gA:∀ k,rQ (.int k)=false:=fun _=>rfl
 have p1:∀ u v:Value,(part f1.type #[u,v] f1.offset).run P w = .ok u w:=fun u v=>by
  simp [o1,part,Sem.run_bind,eL YX,gA,Result.andThen_ok]
 have p2:∀ u v:Value,(part f2.type #[u,v] f2.offset).run P w = .ok v w:=fun u v=>by
  simp [o2,part,Sem.run_bind,eL hu2,gA,Result.andThen_ok]
 have hr:(Op.equal t (.agg #[.int k1 x1,.int k2 x2]) (.agg #[.int k1 y1,.int k2 y2])).run P w = .ok (decide (x1=y1)&&decide (x2=y2)) w:=by
  refine Eq.trans (run_equalIn_struct w 9999 t _ _ (by rw [Zs];exact hu) (aY.2.2.1 t hc).2) ?_
  rw [Zs,hfs]
  simp only [Op.eqFields,ne_eq,n1,n2,not_false_eq_true,if_true,Sem.run_bind,p1,Result.andThen_ok,run_equalIn_int w 9998 f1.type k1 d1 x1 y1 YX]
  have q2:∀ u v:Int,(Op.equalIn 9999 f2.type (.int k2 u) (.int k2 v)).run P w = .ok (u==v) w:=fun u v=>run_equalIn_int w 9998 f2.type k2 d2 u v hu2
  by_cases h1:x1=y1 <;> by_cases h2:x2=y2 <;> simp [h1,h2,Sem.run_bind,p2,Result.andThen_ok] <;> (try (rw [q2];simp [h2]))
 have hfa:fs = #[f1,f2]:=by apply Array.ext';simpa using hfs
 have yC:∀ op:BinOp,(eqGuard op t x y (.agg #[.int k1 x1,.int k2 x2]) (.agg #[.int k1 y1,.int k2 y2])).run P w = .ok () w:=fun op=>by
  refine run_eqGuard_agg w op t x y _ _ ?_
  obtain ⟨d,AO⟩:=aY.2.2.2
  rw [AO]
  simp [Program.eqGuardType,hu,YX,hu2,hfa]
 refine bD (x:=match op with | .eql=>.bool (decide (x1=y1)&&decide (x2=y2)) | _=>.bool (!(decide (x1=y1)&&decide (x2=y2)))) ?_ ?_ ?_ ?_ hT
 .unfold execOp
  simp only [bV,<- ex,<- ey]
  split at he
  .rw [Sem.run_bind,Sem.run_bind,yC,Result.andThen_ok]
   show (((do pure (.bool (<- Op.equal t (.agg #[.int k1 x1,.int k2 x2]) (.agg #[.int k1 y1,.int k2 y2])))):Sem Value).run P w).andThen _=_
   rw [Sem.run_bind,hr];rfl
  .rw [Sem.run_bind,Sem.run_bind,yC,Result.andThen_ok]
   show (((do pure (.bool (!(<- Op.equal t (.agg #[.int k1 x1,.int k2 x2]) (.agg #[.int k1 y1,.int k2 y2]))))):Sem Value).run P w).andThen _=_
   rw [Sem.run_bind,hr];rfl
  .cases he
 all_goals (split at he <;> first | (cases he;done) | (cases he;rfl))
theorem Xz (aV:cA P Γ) (ht:cG V g a) (hg:bP Γ V) (hT:aD w0 M V T w) {t:TypeId} {x y:Operand} (bV:o.op = .makeSlice t x y) {lab:Nat} (hf:V.fresh lab) (he:Ou Γ g t x y lab=some e) (ho:∀ q∈e.bO,q):kR P w0 M V T lab e o a w:=by
 unfold Ou at he
 split at he
 case h_2=>cases he
 rename_i kx sy ky c ti hx hy dZ
 split at he
 case h_2=>cases he
 rename_i el hd
 split at he
 case h_2=>cases he
 rename_i te eF
 split at he
 case h_2=>cases he
 rename_i jY
 simp only [iJ] at jY
 have vM:=cM jY.1
 have hz2:=cM jY.2
 simp only [aU] at he
 subst he
 obtain ⟨h1,h2,h3⟩:=ho _ dB
 have ex:=bH ht hg hx
 have ey:=bH ht hg hy
 simp only [den,aU] at ex ey
 have hu:=(aV t ti dZ).1
 rw [hd] at hu
 obtain ⟨_,i,z,hi,cD,OE,hz,hzero⟩:=aV el te eF
 have Rk:i.size=2:=cD.trans vM
 have rL:z.cells.size=2:=by
  have h1:=bG (hzero V)
  rw [<- hz2,<- h1];simp
 rw [<- OE] at h2
 have en:IntKind.i64.wrap 0=0:=qW (by omega) (by omega)
 have ec:IntKind.i64.wrap c=c:=qW (by omega) (by omega)
 have dZ:(typeInfo el).run P w = .ok i w:=by simp [typeInfo,hi]
 have Kd:(c<0||(i.bytes:Int)*c>2^48||(0:Int)<0||(0:Int)>c)=false:=by simp;omega
 obtain ⟨cur,aKo,eA⟩:∃ cur:Array Value,cur.size=c.toNat*2/\(Instr.makeSlice t (.int kx 0) (.int ky c)).run P w = .ok (.slice (some ⟨w.heap.size,0,none⟩) 0 c.toNat) (w.alloc (.cells cur el)):=by
  unfold Instr.makeSlice
  simp only [Sem.run_bind,run_underlying hu w,Result.andThen_ok,asInt,asIntOf,Sem.run_pure,dZ,en,ec,Kd,Bool.false_eq_true,if_false,run_askRoom,run_sizeOf hi,Rk]
  by_cases yT:c.toNat*2=0
  .exact ⟨#[],by simp;omega,by simp [show c.toNat=0 by omega,newRow,show Array.range 0 = #[] from rfl]⟩
  .refine ⟨(Array.range (c.toNat*2)).map fun j=>z.cells[j%z.cells.size]!,by simp,?_⟩
   simp only [if_neg yT,Sem.run_bind,dX hi hz,Result.andThen_ok,Sem.run_pure,newRow,run_newObj,World.alloc_eq,Int.toNat_zero]
 intro K Q hK
 unfold Oper.wp
 have hr:(execOp a.eval o).run P w = .ok (.value (.slice (some ⟨w.heap.size,0,none⟩) 0 c.toNat)) (w.alloc (.cells cur el)):=by
  unfold execOp
  simp only [bV,<- ex,<- ey,Sem.run_bind,eA,Result.andThen_ok,Sem.run_pure]
 rw [hr,Oper.upon_value]
 have hs:(V.aZ lab (.slice (some ⟨w.heap.size,0,none⟩) 0 c.toNat)).σ lab=some (.slice (some ⟨w.heap.size,0,none⟩) 0 c.toNat):=by simp [bA.aZ]
 have nC:okB (V.aZ lab (.slice (some ⟨w.heap.size,0,none⟩) 0 c.toNat)) (w.alloc (.cells cur el)) lab (.eJ [] el):=
  ⟨[],rfl,_,hs,rfl,.inr ⟨w.heap.size,c.toNat,cur,rfl,Nat.zero_le _,heap_alloc_new w _,Nat.zero_le _,by simp only [maxLen];omega,aKo,by simp⟩⟩
 refine hK _ (.slice (some ⟨w.heap.size,0,none⟩) 0 c.toNat) _ (bA.cC hf lab (dE _) (by omega) (.slice (some ⟨w.heap.size,0,none⟩) 0 c.toNat)) (by simp only [den];exact hs) ?_
 exact hT.qV (lo:=none) (v:=.slice none 0 0) (v':=.slice (some ⟨w.heap.size,0,none⟩) 0 c.toNat) hf nC (fun n hb=>by simpa [SB.aT,hs] using hb) (World.grownBy_alloc w _ _) (.inr rfl) (fun _=>rfl) (fun l hl=>by cases hl) _ _
theorem Ky (aV:cA P Γ) (aY:cH P Γ) (ht:cG V g a) (hg:bP Γ V) {T':bB} (aO:∀ l B,T' l=some B->T l=some B) (hT:aD w0 M V T w) {lab F:Nat} (hf:V.fresh lab) (hF:V.top F) {h:Option Bool}
 (he:zU Γ g T' lab F h o=some e) (ho:∀ q∈e.bO,q):kR P w0 M V T lab e o a w:=by
 unfold zU at he
 split at he
 .rename_i bV;exact Ll ht hg hT (.inl bV) he lab
 .rename_i bV;exact Ll ht hg hT (.inr bV) he lab
 .rename_i bV;exact LL ht hg hT bV he lab
 .rename_i bV;exact Yj aV hT bV hf he
 .rename_i bV
  unfold lA at he
  split at he
  .rename_i h1;cases he;exact XX ht hg aO hT bV hf h1
  .exact LP ht hg hT bV hf he
 .rename_i bV;exact Yi aV ht hg aO hT bV he ho lab
 .rename_i bV;exact By aV ht hg aO hT bV hf he
 .rename_i bV
  unfold lA at he
  split at he
  .rename_i h1;cases he;exact Yb aV ht hg aO hT bV h1 ho lab
  .split at he
   .rename_i h1;cases he;exact LM aV ht hg aO hT bV h1 ho lab
   .exact Ya aV ht hg aO hT bV he ho lab
 .rename_i bV
  unfold lA at he
  split at he
  .rename_i h1;cases he;exact Xx aV ht hg aO hT bV h1 ho lab
  .split at he
   .rename_i h1;cases he;exact Qj aV ht hg aO hT bV h1 ho lab
   .split at he
    .rename_i h1;cases he;exact Qh aV ht hg aO hT bV h1 lab
    .exact Qi aV ht hg aO hT bV he ho lab
 .rename_i bV;exact XT ht hg hT bV he lab
 .rename_i bV
  split at he
  .unfold lA at he
   split at he
   .rename_i e' gZ;cases he;exact Hv aV ht hg hT bV gZ ho lab
   .split at he
    .rename_i h1;cases he;exact Lk aV aY ht hg aO hT bV h1 lab
    .split at he
     .rename_i h1;cases he;exact Ew aV aY ht hg hT bV h1 ho lab
     .split at he
      .rename_i h1;cases he;exact Ev aV aY ht hg hT bV h1 lab
      .exact Eu ht hg hT bV he lab
  .unfold lA at he
   split at he
   .rename_i e' gZ;cases he;exact Hv aV ht hg hT bV gZ ho lab
   .split at he
    .rename_i h1;cases he;exact Lk aV aY ht hg aO hT bV h1 lab
    .split at he
     .rename_i h1;cases he;exact Ew aV aY ht hg hT bV h1 ho lab
     .split at he
      .rename_i h1;cases he;exact Ev aV aY ht hg hT bV h1 lab
      .exact Eu ht hg hT bV he lab
  .exact Hv aV ht hg hT bV he ho lab
 .rename_i bV;exact aHz ht hg hT bV he lab
 .rename_i bV
  unfold lA at he
  split at he
  .rename_i h1;cases he;exact LN aV ht hg hT bV h1 lab
  .split at he
   .rename_i h1;cases he;exact Yh aV ht hg aO hT bV h1 lab
   .exact Yg aV ht hg aO hT bV he ho lab
 .rename_i bV;exact XY aV ht hg hT bV he ho lab
 .rename_i bV;exact Db aV ht hg hT bV he lab
 .rename_i bV;exact Ia ht hg hT bV he lab
 .rename_i bV
  unfold lA at he
  split at he
  .rename_i h1;cases he;exact Da aV ht hg hT bV hf h1 ho
  .exact Xz aV ht hg hT bV hf he ho
 .rename_i bV
  unfold lA at he
  split at he
  .rename_i h1;cases he;exact Qn aV ht hg aO hT bV h1 lab
  .split at he
   .rename_i h1;cases he;exact Xy aV ht hg aO hT bV h1 ho lab
   .split at he
    .rename_i h1;cases he;exact Qk aV ht hg aO hT bV hf h1 ho
    .split at he
     .rename_i h1;cases he;exact Qm aV ht hg aO hT bV hf h1 ho
     .exact Ql aV ht hg aO hT bV hf he ho
 .rename_i bV;exact Yc aV ht hg hT bV he lab
 .rename_i bV;exact Qs aV ht hg hT bV he lab
 .rename_i bV
  unfold lA at he
  split at he
  .rename_i h1;cases he;exact Dc aV ht hg hT bV h1 ho lab
  .split at he
   .rename_i h1;cases he;exact Qq aV ht hg aO hT bV h1 ho lab
   .exact Qp aV ht hg hT bV he ho lab
 .rename_i bV
  unfold lA at he
  split at he
  .rename_i h1;cases he;exact Qo aV ht hg hT bV h1 lab
  .exact Qr aV ht hg hT bV he ho lab
 .rename_i bV;exact Mf ht hg hT bV he lab
 .rename_i bV;exact LO aV aY ht hg aO hT hf hF bV he ho
 .cases he
end Fk
inductive Tr (α:Type) where
 | lf
 | nd (l:Tr α) (v:Option α) (r:Tr α)
noncomputable def Tr.get {α:Type} (t:Tr α):Nat->Option α:=Tr.rec (motive:=fun _=>Nat->Option α) (fun _=>none)
 (fun _ v _ ihl ihr n=>Bool.rec (Bool.rec (ihr (n/2-1)) (ihl (n/2)) (Nat.beq (n%2) 1)) v (Nat.beq n 0)) t
noncomputable def Tr.new {α:Type} (v:α) (f:Nat):Nat->Tr α:=Nat.rec (motive:=fun _=>Nat->Tr α) (fun _=>.nd .lf (some v) .lf)
 (fun _ ih n=>Bool.rec (Bool.rec (.nd .lf none (ih (n/2-1))) (.nd (ih (n/2)) none .lf) (Nat.beq (n%2) 1)) (.nd .lf (some v) .lf) (Nat.beq n 0)) f
noncomputable def Tr.put {α:Type} (v:α) (f:Nat) (t:Tr α):Nat->Option (Tr α):=Tr.rec (motive:=fun _=>Nat->Option (Tr α)) (fun n=>Bool.rec none (some (Tr.new v f n)) (Nat.ble (n+1) (2^f)))
 (fun l u r ihl ihr n=>Bool.rec (Bool.rec (Option.rec none (fun r'=>some (.nd l u r')) (ihr (n/2-1))) (Option.rec none (fun l'=>some (.nd l' u r)) (ihl (n/2))) (Nat.beq (n%2) 1)) (some (.nd l (some v) r)) (Nat.beq n 0)) t
theorem Tr.kK {α:Type} (n:Nat):(Tr.lf:Tr α).get n=none:=rfl
theorem Tr.nF {α:Type} (l r:Tr α) (v:Option α) (n:Nat):(Tr.nd l v r).get n=if n=0 then v else if n%2=1 then l.get (n/2) else r.get (n/2-1):=by
 show Bool.rec (motive:=fun _=>Option α) (Bool.rec (motive:=fun _=>Option α) (r.get (n/2-1)) (l.get (n/2)) (Nat.beq (n%2) 1)) v (Nat.beq n 0)=_
 by_cases h0:n=0
 .subst h0;rfl
 .rw [if_neg h0]
  have e0:Nat.beq n 0=false:=by
   cases hb:Nat.beq n 0 with
   | false=>rfl
   | true=>exact absurd (cM hb) h0
  rw [e0]
  by_cases h1:n%2=1
  .rw [if_pos h1,h1];rfl
  .rw [if_neg h1]
   have e1:Nat.beq (n%2) 1=false:=by
    cases hb:Nat.beq (n%2) 1 with
    | false=>rfl
    | true=>exact absurd (cM hb) h1
   rw [e1]
theorem beq_false {a b:Nat} (h:Nat.beq a b=false):a≠b:=fun e=>by subst e;rw [Nat.beq_refl] at h;cases h
theorem Tr.Hb {α:Type} (v:α):∀ (f n m:Nat),n<2^f->(Tr.new v f n).get m=if m=n then some v else none
 | 0,n,m,h=>by
   have h0:n=0:=by simpa using h
   subst h0
   show (Tr.nd .lf (some v) .lf).get m=_
   rw [Tr.nF,Tr.kK,Tr.kK]
   split
   .rfl
   .split <;> rfl
 | f+1,n,m,h=>by
   have h2:n/2<2^f:=by rw [Nat.pow_succ] at h;omega
   show Tr.get (Bool.rec (motive:=fun _=>Tr α) (Bool.rec (motive:=fun _=>Tr α) (.nd .lf none (Tr.new v f (n/2-1))) (.nd (Tr.new v f (n/2)) none .lf) (Nat.beq (n%2) 1)) (.nd .lf (some v) .lf) (Nat.beq n 0)) m=_
   cases h0:Nat.beq n 0 with
   | true=>
     have:=cM h0
     subst this
     show (Tr.nd .lf (some v) .lf).get m=_
     rw [Tr.nF,Tr.kK,Tr.kK]
     split
     .rfl
     .split <;> rfl
   | false=>
     have Ml:=beq_false h0
     cases h1:Nat.beq (n%2) 1 with
     | true=>
       have Uz:=cM h1
       show (Tr.nd (Tr.new v f (n/2)) none .lf).get m=_
       rw [Tr.nF,Tr.kK,Tr.Hb v f _ _ h2]
       by_cases e:m=n
       .subst e;rw [if_neg Ml,if_pos Uz,if_pos rfl,if_pos rfl]
       .rw [if_neg e]
        split
        .rfl
        .split
         .rw [if_neg (by omega)]
         .rfl
     | false=>
       have Uz:=beq_false h1
       show (Tr.nd .lf none (Tr.new v f (n/2-1))).get m=_
       rw [Tr.nF,Tr.kK,Tr.Hb v f _ _ (by omega)]
       by_cases e:m=n
       .subst e;rw [if_neg Ml,if_neg Uz,if_pos rfl,if_pos rfl]
       .rw [if_neg e]
        split
        .rfl
        .split
         .rfl
         .rw [if_neg (by omega)]
theorem Tr.gG {α:Type} (v:α) (f:Nat) (t:Tr α):∀ (n:Nat) (t':Tr α),Tr.put v f t n=some t'->∀ m,t'.get m=if m=n then some v else t.get m:=by
 induction t with
 | lf=>
   intro n t' h m
   have h:Bool.rec (motive:=fun _=>Option (Tr α)) none (some (Tr.new v f n)) (Nat.ble (n+1) (2^f))=some t':=h
   cases hb:Nat.ble (n+1) (2^f) with
   | false=>rw [hb] at h;cases h
   | true=>
     rw [hb] at h
     cases h
     have:=kO hb
     rw [Tr.Hb v f n m (by omega),Tr.kK]
 | nd l u r ihl ihr=>
   intro n t' h m
   have h:Bool.rec (motive:=fun _=>Option (Tr α)) (Bool.rec (motive:=fun _=>Option (Tr α)) (Option.rec (motive:=fun _=>Option (Tr α)) none (fun r'=>some (.nd l u r')) (Tr.put v f r (n/2-1))) (Option.rec (motive:=fun _=>Option (Tr α)) none (fun l'=>some (.nd l' u r)) (Tr.put v f l (n/2))) (Nat.beq (n%2) 1)) (some (.nd l (some v) r)) (Nat.beq n 0)=some t':=h
   cases h0:Nat.beq n 0 with
   | true=>
     rw [h0] at h
     cases h
     have:=cM h0
     subst this
     rw [Tr.nF,Tr.nF]
     by_cases e:m=0
     .subst e;rfl
     .rw [if_neg e,if_neg e,if_neg e]
   | false=>
     have Ml:=beq_false h0
     rw [h0] at h
     cases h1:Nat.beq (n%2) 1 with
     | true=>
       have Uz:=cM h1
       rw [h1] at h
       cases hp:Tr.put v f l (n/2) with
       | none=>rw [hp] at h;cases h
       | some l'=>
         rw [hp] at h
         cases h
         have ih:=ihl (n/2) l' hp
         rw [Tr.nF,Tr.nF]
         by_cases e:m=n
         .subst e;rw [if_neg Ml,if_pos Uz,ih,if_pos rfl,if_pos rfl]
         .rw [if_neg e]
          split
          .rfl
          .split
           .rw [ih,if_neg (by omega)]
           .rfl
     | false=>
       have Uz:=beq_false h1
       rw [h1] at h
       cases hp:Tr.put v f r (n/2-1) with
       | none=>rw [hp] at h;cases h
       | some r'=>
         rw [hp] at h
         cases h
         have ih:=ihr (n/2-1) r' hp
         rw [Tr.nF,Tr.nF]
         by_cases e:m=n
         .subst e;rw [if_neg Ml,if_neg Uz,ih,if_pos rfl,if_pos rfl]
         .rw [if_neg e]
          split
          .rfl
          .split
           .rfl
           .rw [ih,if_neg (by omega)]
structure St where
 g:Tr SV
 tb:Tr SB
 nx:Nat
 ws:List Nat
 ob:List Prop
 df:List SV:=[]
 hs:List Bool:=[]
noncomputable def St.T (B:bB) (s:St):bB:=fun l=>match s.tb.get l with
 | some b=>some b
 | none=>B l
noncomputable def AG (F0:Nat):List (Nat × SB)->Tr SB->List Nat->Option (Tr SB × List Nat)
 | [],t,ws=>some (t,ws)
 | (l,b)::r,t,ws=>match AG F0 r t ws with
   | none=>none
   | some (t,ws)=>match Tr.put b 64 t l with
     | none=>none
     | some t=>some (t,match Nat.blt l F0,ws.elem l with
       | true,false=>l::ws
       | _,_=>ws)
theorem Kx {F0:Nat}:∀ {r:List (Nat × SB)} {t t':Tr SB} {ws ws':List Nat},AG F0 r t ws=some (t',ws') ->
 (∀ l,t'.get l=match look l r with | some b=>some b | none=>t.get l)/\(∀ l,l∈ws->l∈ws')/\(∀ l b,look l r=some b->l<F0->l∈ws')
 | [],t,t',ws,ws',h=>by
   simp only [AG,aU,Prod.mk.injEq] at h
   obtain ⟨rfl,rfl⟩:=h
   exact ⟨fun l=>rfl,fun l hl=>hl,fun l b hl=>by cases hl⟩
 | (k,c)::r,t,t',ws,ws',h=>by
   simp only [AG] at h
   split at h
   .cases h
   .rename_i t1 ws1 h1
    obtain ⟨i1,i2,i3⟩:=Kx h1
    split at h
    .cases h
    .rename_i t2 h2
     simp only [aU,Prod.mk.injEq] at h
     obtain ⟨rfl,hws⟩:=h
     have hg:=Tr.gG c 64 t1 k t2 h2
     have aO:∀ l,l∈ws1->l∈ws':=by
      intro l hl
      rw [<- hws]
      split
      .exact eM _ hl
      .exact hl
     have hk:k<F0->k∈ws':=by
      intro cL
      rw [<- hws]
      split
      .exact dB
      .rename_i MY
       have hb:Nat.blt k F0=true:=by simpa [Nat.blt_eq] using cL
       cases he:ws1.elem k with
       | true=>simpa using he
       | false=>exact (MY hb he).elim
     refine ⟨fun l=>?_,fun l hl=>aO l (i2 l hl),fun l b hl cL=>?_⟩
     .rw [hg l]
      by_cases e:k=l
      .subst e;rw [aJ,if_pos rfl]
      .rw [aF e,if_neg (fun x=>e x.symm)];exact i1 l
     .by_cases e:k=l
      .subst e;exact hk cL
      .rw [aF e] at hl
       exact aO l (i3 l b hl cL)
noncomputable def St.step (F0 N:Nat) (s:St) (dst:Option Tmp) (e:bK) (lab nx:Nat):Option St:=
 match AG F0 (e.fB lab) s.tb s.ws,Nat.ble e.new.length 8&&e.wr.all (fun p=>Nat.blt p.1 nx) with
 | some (tb,ws),true=>match dst with
   | none=>some { g:=s.g,tb:=tb,nx:=nx,ws:=ws,ob:=e.bO++s.ob,df:=s.df,hs:=s.hs }
   | some d=>match Tr.put e.val 64 s.g d,Nat.blt d N with
     | some g,true=>some { g:=g,tb:=tb,nx:=nx,ws:=ws,ob:=e.bO++s.ob,df:=s.df,hs:=s.hs }
     | _,_=>none
 | _,_=>none
def yD (ops:Array Oper) (g:Nat->Option SV) (o:Oper):Option Bool:=
 match o.guard with
 | none=>some true
 | some (j,want)=>match (ops[j]?).bind (·.dst) with
   | none=>none
   | some d=>match g d with
     | some (.bool true b)=>some (b==want)
     | some (.raw v)=>match v with
       | .bool _=>none
       | _=>some false
     | _=>none
theorem St.Sv {F0 N:Nat} {s s':St} {dst:Option Tmp} {e:bK} {lab nx:Nat} (h:s.step F0 N dst e lab nx=some s'):s'.df=s.df:=by
 unfold St.step at h
 split at h
 .split at h
  .cases h;rfl
  .split at h
   .cases h;rfl
   .cases h
 .cases h
def toD:Value->Deferred
 | .func f xs ys=>{ target:=.fn f ys,args:=xs }
 | _=>{ target:=.nil,args := #[] }
structure Inv (P:Program) (Γ:Env) (w0:World) (M:Nat->Prop) (B:bB) (N F0:Nat) (V0:bA) (s:St) (V:bA) (a:Act) (w:World):Prop where
 tmp:cG V s.g.get a
 keys:∀ d v,s.g.get d=some v->d<N
 size:N<=a.tmps.size
 defers:∃ xs,aI V s.df=some xs/\a.defers=xs.map toD
 fB:aD w0 M V (s.T B) w
 aR:bP Γ V
 top:V.top s.nx
 le:V0.le V
 low:∀ l,l<F0->V.β l=V0.β l/\V.σ l=V0.σ l
 ch:∀ l,l<F0->l ∉ s.ws->s.tb.get l=none
 nx:F0<=s.nx
 hi:∀ l,s.nx<=l->s.T B l=none
theorem bA.top.fresh {V:bA} {F:Nat} (h:V.top F):V.fresh F:=fun l h1 _=>h l h1
theorem bA.top.mono {V:bA} {F F':Nat} (h:V.top F) (hl:F<=F'):V.top F':=fun l h1=>h l (Nat.le_trans hl h1)
theorem oQ {ops:Array Oper} {V:bA} {g:Nat->Option SV} {a:Act} (ht:cG V g a) (hs:∀ d v,g d=some v->d<a.tmps.size) {o:Oper} {b:Bool} (h:yD ops g o=some b):Region.wanted o (yielded ops a.tmps)=b:=by
 unfold yD at h
 unfold Region.wanted
 split at h
 .rename_i hg;simp only [aU] at h;subst h;rw [hg]
 .rename_i j want hg
  rw [hg]
  split at h
  .cases h
  .rename_i d hd
   split at h
   .rename_i c hc
    simp only [aU] at h
    subst h
    have hv:=ht d _ hc
    have cL:=hs d _ hc
    simp only [den,aU,Act.eval] at hv
    have rD:a.tmps[d]?=some (.bool c):=by
     rw [Array.getElem?_eq_getElem cL]
     rw [Array.getD_eq_getD_getElem?,Array.getElem?_eq_getElem cL,Option.getD_some] at hv
     rw [hv]
    simp only [yielded,hd,nG,rD]
    cases c <;> cases want <;> rfl
   .rename_i v hc
    split at h
    .cases h
    .rename_i hnb
     simp only [aU] at h
     subst h
     have hv:=ht d _ hc
     have cL:=hs d _ hc
     simp only [den,aU,Act.eval] at hv
     have rD:a.tmps[d]?=some v:=by
      rw [Array.getElem?_eq_getElem cL]
      rw [Array.getD_eq_getD_getElem?,Array.getElem?_eq_getElem cL,Option.getD_some] at hv
      rw [hv]
     have hy:yielded ops a.tmps j=none:=by
      simp only [yielded,hd,nG,rD]
      split
      .rename_i b' hq;cases hq;exact absurd rfl (hnb b')
      .rfl
     show (yielded ops a.tmps j==some want)=false
     rw [hy]
     rfl
   .cases h
theorem St.dP {F0 N:Nat} {s s':St} {dst:Option Tmp} {e:bK} {lab nx:Nat} (B:bB) (h:s.step F0 N dst e lab nx=some s') :
 s'.T B=eT (s.T B) lab e/\s'.nx=nx/\s'.ob=e.bO++s.ob/\(∀ l,l∈s.ws->l∈s'.ws)/\(∀ l,l<F0->l ∉ s'.ws->s.tb.get l=none->s'.tb.get l=none) /\
  (∀ m,s'.g.get m=if dst=some m then some e.val else s.g.get m)/\(∀ d,dst=some d->d<N)/\e.new.length<=8/\(∀ l b,look l e.wr=some b->l<nx):=by
 unfold St.step at h
 split at h
 case h_2=>cases h
 rename_i tb ws hp jY
 obtain ⟨i1,i2,i3⟩:=Kx hp
 simp only [iJ] at jY
 have aKq:=kO jY.1
 have aKp:∀ l b,look l e.wr=some b->l<nx:=fun l b hl=>by
  have:=List.all_eq_true.1 jY.2 _ (fU hl)
  simpa [Nat.blt_eq] using this
 have hT:∀ g nx ob df hs,(St.mk g tb nx ws ob df hs).T B=eT (s.T B) lab e:=by
  intro g nx ob df hs
  funext l
  simp only [St.T,eT,i1 l]
  cases look l (e.fB lab) <;> rfl
 have hch:∀ l,l<F0->l ∉ ws->s.tb.get l=none->tb.get l=none:=by
  intro l hl hn h0
  rw [i1 l]
  cases hk:look l (e.fB lab) with
  | none=>exact h0
  | some b=>exact (hn (i3 l b hk hl)).elim
 split at h
 .simp only [aU] at h
  subst h
  exact ⟨hT _ _ _ _ _,rfl,rfl,i2,hch,fun m=>by simp,(fun d hd=>by cases hd),aKq,aKp⟩
 .rename_i d
  split at h
  .rename_i g hg cL
   simp only [aU] at h
   subst h
   refine ⟨hT _ _ _ _ _,rfl,rfl,i2,hch,fun m=>?_,fun d' ZI=>?_,aKq,aKp⟩
   .rw [Tr.gG _ _ _ _ _ hg m]
    by_cases e:m=d
    .subst e;simp
    .rw [if_neg e,if_neg (by simp;exact fun x=>e x.symm)]
   .cases ZI;simpa [Nat.blt_eq] using cL
  .cases h
theorem Inv.step {P:Program} {Γ:Env} {w0 w w':World} {M:Nat->Prop} {B:bB} {N F0:Nat} {V0 V V':bA} {s s':St} {a:Act} {dst:Option Tmp} {e:bK} {x:Value} {lab nx:Nat}
 (h:Inv P Γ w0 M B N F0 V0 s V a w) (hs:s.step F0 N dst e lab nx=some s') (hle:s.nx<=lab) (hn:lab+8<=nx) (hV:V.ext lab V') (hx:dst.isSome=true->den V' e.val=some x)
 (hT:aD w0 M V' (eT (s.T B) lab e) w'):Inv P Γ w0 M B N F0 V0 s' V' (a.put dst x) w':=by
 obtain ⟨h1,h2,h3,h4,h5,h6,h7,h8,h9⟩:=St.dP B hs
 refine ⟨fun t v hv=>?_,fun d v hv=>?_,?_,?_,by rw [h1];exact hT,fun n l hl=>hV.1.1 _ _ (h.aR n l hl),fun l hl=>?_,bA.le_trans h.le hV.1,fun l hl=>?_,fun l hl hw=>?_,?_,fun l hl=>?_⟩
 .rw [h6] at hv
  by_cases hd:dst=some t
  .subst hd
   simp only [if_true,aU] at hv
   subst hv
   have cL:t<a.tmps.size:=Nat.lt_of_lt_of_le (h7 t rfl) h.size
   rw [hx rfl]
   simp [Act.eval,Act.put,Array.getD_eq_getD_getElem?,cL]
  .rw [if_neg hd] at hv
   rw [nV hV.1 (h.tmp t v hv)]
   rw [Act.eval_put (fun d ZI hq=>hd (by cases hq;exact ZI))]
 .rw [h6] at hv
  by_cases hd:dst=some d
  .exact h7 d hd
  .rw [if_neg hd] at hv;exact h.keys d v hv
 .cases dst with
  | none=>exact h.size
  | some d=>simpa [Act.put] using h.size
 .obtain ⟨xs,fP,mO⟩:=h.defers
  refine ⟨xs,by rw [St.Sv hs];exact cS hV.1 fP,?_⟩
  cases dst <;> exact mO
 .rw [h2] at hl
  have:=hV.2 l (.inr (by omega))
  rw [this.1,this.2]
  exact h.top l (by omega)
 .have:=hV.2 l (.inl (by have:=h.nx;omega))
  rw [this.1,this.2]
  exact h.low l hl
 .exact h5 l hl hw (h.ch l hl (fun q=>hw (h4 l q)))
 .rw [h2];have:=h.nx;omega
 .rw [h2] at hl
  rw [h1]
  unfold eT bK.fB
  rw [cB]
  cases hk:look l e.wr with
  | some b=>have:=h9 l b hk;omega
  | none=>
    have:look l (fZ lab e.new)=none:=by
     rw [eZ]
     split
     .apply List.getElem?_eq_none;omega
     .rfl
    simp only [this]
    exact h.hi l (by omega)
def Pf (Γ:Env) (g:Nat->Option SV) (c:Call):Option SV:=match OH Γ g c.args.toList,c.callee with
 | some vs,.value f=>match ev Γ g f with
   | some (.fn f first Fy)=>some (.fn f (first++vs) Fy)
   | _=>none
 | _,_=>none
theorem Yp {P:Program} {Γ:Env} {V:bA} {g:Nat->Option SV} {a:Act} {w:World} (ht:cG V g a) (hg:bP Γ V) {c:Call} {o:Oper} (bV:o.op = .defer c) {v:SV} (h:Pf Γ g c=some v) :
 ∃ x,den V v=some x/\(execOp a.eval o).run P w = .ok (.defer (toD x)) w:=by
 unfold Pf at h
 split at h
 case h_2=>cases h
 rename_i vs f hvs hc
 split at h
 case h_2=>cases h
 rename_i f' first Fy hf
 cases h
 have hd:=Lf ht hg hvs
 have ef:=bH ht hg hf
 simp only [den,gO,dF] at ef
 obtain ⟨xf,hxf,xc,hxc,ef⟩:=ef
 refine ⟨.func f' (xf++(c.args.map a.eval).toList).toArray xc.toArray,by simp only [den,cI hxf hd,hxc,nG,gN],?_⟩
 unfold execOp
 simp only [bV,resolve,hc,<- ef,Deferred.ofValue,Sem.run_bind,Sem.run_pure,Result.andThen_ok,toD]
 have:(xf++(c.args.map a.eval).toList).toArray=xf.toArray++c.args.map a.eval:=by
  apply Array.ext';simp
 rw [this]
noncomputable def AS (ops:Array Oper) (o:Oper) (s:St):Option St:=match o.guard with
 | none=>some s
 | some (j,_)=>match (ops[j]?).bind (·.dst) with
   | none=>some s
   | some d=>match s.g.get d with
     | some (.bool false b)=>match s.hs with
       | true::r=>match Tr.put (.bool true true) 64 s.g d with
         | some g=>some { s with g:=g,ob:=(b=true)::s.ob,hs:=r }
         | none=>none
       | false::r=>match Tr.put (.bool true false) 64 s.g d with
         | some g=>some { s with g:=g,ob:=(b=false)::s.ob,hs:=r }
         | none=>none
       | []=>none
     | _=>some s
theorem WV {ops:Array Oper} {o:Oper} {s s':St} (h:AS ops o s=some s'):∀ q∈s.ob,q∈s'.ob:=by
 intro q hq
 unfold AS at h
 split at h
 .cases h;exact hq
 split at h
 .cases h;exact hq
 split at h
 .split at h
  .split at h
   .cases h;exact eM _ hq
   .cases h
  .split at h
   .cases h;exact eM _ hq
   .cases h
  .cases h
 .cases h;exact hq
theorem Inv.known {P:Program} {Γ:Env} {w0:World} {M:Nat->Prop} {B:bB} {N F0:Nat} {V0:bA} {s:St} {V:bA} {a:Act} {w:World} (hi:Inv P Γ w0 M B N F0 V0 s V a w) {d:Nat} {b c:Bool} {g:Tr SV} {ob:List Prop} {hs:List Bool}
 (hd:s.g.get d=some (.bool false b)) (hp:Tr.put (.bool true c) 64 s.g d=some g) (hb:b=c):Inv P Γ w0 M B N F0 V0 { s with g:=g,ob:=ob,hs:=hs } V a w:=by
 refine ⟨fun m v hv=>?_,fun m v hv=>?_,hi.size,hi.defers,hi.fB,hi.aR,hi.top,hi.le,hi.low,hi.ch,hi.nx,hi.hi⟩
 .have hv:g.get m=some v:=hv
  rw [Tr.gG _ _ _ _ _ hp m] at hv
  split at hv
  .rename_i e
   cases hv
   have:=hi.tmp d _ hd
   rw [e]
   rw [hb] at this
   exact this
  .exact hi.tmp m v hv
 .have hv:g.get m=some v:=hv
  rw [Tr.gG _ _ _ _ _ hp m] at hv
  split at hv
  .rename_i e;rw [e];exact hi.keys d _ hd
  .exact hi.keys m v hv
theorem WU {P:Program} {Γ:Env} {w0:World} {M:Nat->Prop} {B:bB} {N F0:Nat} {V0:bA} {s s':St} {V:bA} {a:Act} {w:World} {ops:Array Oper} {o:Oper} (hi:Inv P Γ w0 M B N F0 V0 s V a w)
 (h:AS ops o s=some s') (ho:∀ q∈s'.ob,q):Inv P Γ w0 M B N F0 V0 s' V a w:=by
 unfold AS at h
 split at h
 .cases h;exact hi
 split at h
 .cases h;exact hi
 split at h
 .rename_i hd
  split at h
  .split at h
   .rename_i g hp;cases h;exact hi.known hd hp (ho _ dB)
   .cases h
  .split at h
   .rename_i g hp;cases h;exact hi.known hd hp (ho _ dB)
   .cases h
  .cases h
 .cases h;exact hi
noncomputable def Rq (Γ:Env) (B:bB) (F0 N:Nat) (ops:Array Oper) (o:Oper) (s:St):Option St:=match yD ops s.g.get o with
 | some true=>match o.op with
   | .defer c=>match Pf Γ s.g.get c with
     | some v=>match s.step F0 N o.dst { val:=.raw undef } s.nx (s.nx+8) with
       | some s'=>some { s' with df:=v::s'.df }
       | none=>none
     | none=>none
   | _=>match zU Γ s.g.get (s.T B) s.nx (s.nx+8) none o with
     | some e=>s.step F0 N o.dst e s.nx (s.nx+8)
     | none=>none
 | some false=>s.step F0 N o.dst { val:=.raw undef } s.nx (s.nx+8)
 | none=>none
theorem Ko {Γ:Env} {B:bB} {F0 N:Nat} {ops:Array Oper} {o:Oper} {s s':St} (h:Rq Γ B F0 N ops o s=some s'):∀ q∈s.ob,q∈s'.ob:=by
 intro q hq
 unfold Rq at h
 split at h
 .split at h
  .split at h
   .split at h
    .rename_i s1 h1
     cases h
     show q∈s1.ob
     rw [(St.dP B h1).2.2.1];exact List.mem_append_right _ hq
    .cases h
   .cases h
  .split at h
   .rw [(St.dP B h).2.2.1];exact List.mem_append_right _ hq
   .cases h
 .rw [(St.dP B h).2.2.1];exact List.mem_append_right _ hq
 .cases h
noncomputable def Fp (Γ:Env) (B:bB) (F0 N:Nat) (ops:Array Oper):List Oper->St->Option St
 | [],s=>some s
 | o::r,s=>match AS ops o s with
   | some s1=>match Rq Γ B F0 N ops o s1 with
     | some s2=>Fp Γ B F0 N ops r s2
     | none=>none
   | none=>none
theorem tN {Γ:Env} {B:bB} {F0 N:Nat} {ops:Array Oper}:∀ {l:List Oper} {s s':St},Fp Γ B F0 N ops l s=some s'->∀ q∈s.ob,q∈s'.ob
 | [],s,s',h,q,hq=>by simp only [Fp,aU] at h;subst h;exact hq
 | o::r,s,s',h,q,hq=>by
   unfold Fp at h
   split at h
   .rename_i s1 h1
    split at h
    .rename_i s2 h2
     exact tN h q (Ko h2 q (WV h1 q hq))
    .cases h
   .cases h
theorem tM {P:Program} {Γ:Env} {w0:World} {M:Nat->Prop} {B:bB} {N F0:Nat} {V0:bA} (aV:cA P Γ) (aY:cH P Γ) {ops:Array Oper} {Q:Exit->Act->World->Prop} :
 ∀ {l:List Oper} {s s':St} {V:bA} {a:Act} {w:World},Fp Γ B F0 N ops l s=some s'->(∀ q∈s'.ob,q)->Inv P Γ w0 M B N F0 V0 s V a w ->
   (∀ V' a' w',Inv P Γ w0 M B N F0 V0 s' V' a' w'->Q .normal a' w')->wpList P ops Q l a w
 | [],s,s',V,a,w,h,ho,hi,hQ=>by
   simp only [Fp,aU] at h
   subst h
   exact wpList_nil (hQ V a w hi)
 | o::r,s0,s',V,a,w,h,ho,NZ,hQ=>by
   unfold Fp at h
   split at h
   case h_2=>cases h
   rename_i s aTv
   split at h
   case h_2=>cases h
   rename_i s2 Fg
   have hi:=WU NZ aTv (fun q hq=>ho q (tN h q (Ko Fg q hq)))
   unfold Rq at Fg
   split at Fg
   .rename_i hw
    have hw:=oQ hi.tmp (fun d v hd=>Nat.lt_of_lt_of_le (hi.keys d v hd) hi.size) hw
    split at Fg
    .rename_i c bV
     split at Fg
     case h_2=>cases Fg
     rename_i v hv
     split at Fg
     case h_2=>cases Fg
     rename_i s1 h1
     cases Fg
     refine wpList_step fun K hK=>?_
     rw [if_pos hw]
     obtain ⟨x,hx,hr⟩:=Yp (P:=P) (w:=w) hi.tmp hi.aR bV hv
     unfold Oper.wp
     rw [hr,Oper.upon_defer]
     have h2:=hi.step (a:=a) (w':=w) (x:=undef) h1 (dE _) (dE _) (V.cN _) (fun _=>rfl) (by rw [kB _ _ rfl rfl];exact hi.fB)
     refine hK _ _ (tM aV aY h ho ⟨?_,h2.keys,?_,?_,h2.fB,h2.aR,h2.top,h2.le,h2.low,h2.ch,h2.nx,h2.hi⟩ hQ)
     .intro t v' MV
      have:=h2.tmp t v' MV
      rw [this]
      cases o.dst <;> rfl
     .have:=h2.size;cases ho:o.dst <;> (rw [ho] at this;exact this)
     .obtain ⟨xs,fP,mO⟩:=h2.defers
      refine ⟨x::xs,by simp only [aI,hx,fP,nG,gN],?_⟩
      simp only [List.map_cons,<- mO]
      cases o.dst <;> rfl
    .split at Fg
     case h_2=>cases Fg
     rename_i e he
     have h1:=Fg
     have rM:∀ q∈e.bO,q:=fun q hq=>ho q (tN h q (by rw [(St.dP B h1).2.2.1];exact List.mem_append_left _ hq))
     refine wpList_step fun K hK=>?_
     rw [if_pos hw]
     refine Ky aV aY hi.tmp hi.aR (T':=s.T B) (fun _ _ h=>h) hi.fB hi.top.fresh (hi.top.mono (by omega)) he rM K Q fun V' x w' hV hx hT=>hK _ _ ?_
     exact tM aV aY h ho (hi.step h1 (dE _) (dE _) hV (fun _=>hx) hT) hQ
   .rename_i hw
    have hw:=oQ hi.tmp (fun d v hd=>Nat.lt_of_lt_of_le (hi.keys d v hd) hi.size) hw
    have h1:=Fg
    refine wpList_step fun K hK=>?_
    rw [if_neg (by rw [hw];simp)]
    refine hK _ _ (tM aV aY h ho (hi.step h1 (dE _) (dE _) (V.cN _) (fun _=>rfl) ?_) hQ)
    rw [kB _ _ rfl rfl]
    exact hi.fB
   .cases Fg
def nE:Op->Bool
 | .binOp .eql t .. | .binOp .neq t .. => Nat.blt t 6||(Nat.beq t 26||Nat.beq t 100)
 | .move _ | .assign _ | .pick .. | .alloc _ | .box .. | .build .. | .buildSlice .. | .nilCheck _ | .binOp .. | .unOp .. | .sliceToArrayPointer .. | .makeInterface .. | .makeFunc .. | .makeSlice .. | .fieldAddr .. | .field .. | .indexAddr .. | .index .. | .extract .. => true
 | .convert s d _ => !Nat.beq s d
 | .call c=>match c.callee,c.args.toList with
   | .value (.func f),[]=>Nat.beq f 30
   | _,_=>false
 | _=>false
def lZ (ms:List Nat):List Edge->Option Nat
 | []=>some 0
 | e::r=>match Region.binds .any e with
   | true=>match ms[e.on]?,lZ ms r with
     | some m,some k=>some ((m ||| (1 <<< e.on)) ||| k)
     | _,_=>none
   | false=>lZ ms r
theorem vD (i k:Nat):(1 <<< i).testBit k=decide (k=i):=by
 rw [Nat.one_shiftLeft,Nat.testBit_two_pow]
 simp [eq_comm]
theorem jR {ms:List Nat}:∀ {es:List Edge} {m:Nat},lZ ms es=some m->∀ k,m.testBit k=true ->
 ∃ e∈es,Region.binds .any e=true/\(k=e.on\/∃ me,ms[e.on]?=some me/\me.testBit k=true)
 | [],m,h,k,hk=>by simp only [lZ,aU] at h;subst h;simp at hk
 | e::r,m,h,k,hk=>by
   simp only [lZ] at h
   split at h
   .rename_i hb
    split at h
    .rename_i me mr Rj hmr
     simp only [aU] at h
     subst h
     simp only [Nat.testBit_or,Bool.or_eq_true,vD,decide_eq_true_eq] at hk
     rcases hk with (hk | hk) | hk
     .exact ⟨e,by simp,hb,.inr ⟨me,Rj,hk⟩⟩
     .exact ⟨e,by simp,hb,.inl hk⟩
     .obtain ⟨e',gZ,h1,h2⟩:=jR hmr k hk
      exact ⟨e',by simp [gZ],h1,h2⟩
    .cases h
   .obtain ⟨e',gZ,h1,h2⟩:=jR h k hk
    exact ⟨e',by simp [gZ],h1,h2⟩
theorem qX {ms:List Nat}:∀ {es:List Edge} {m:Nat},lZ ms es=some m->∀ e∈es,Region.binds .any e=true->e.on<ms.length/\m.testBit e.on=true
 | [],m,h,e,he,_=>by cases he
 | e0::r,m,h,e,he,hb=>by
   simp only [lZ] at h
   split at h
   .split at h
    .rename_i me mr Rj hmr
     simp only [aU] at h
     subst h
     rcases List.mem_cons.1 he with rfl | he
     .refine ⟨(List.getElem?_eq_some_iff.1 Rj).1,?_⟩
      simp [Nat.testBit_or]
     .obtain ⟨h1,h2⟩:=qX hmr e he hb
      exact ⟨h1,by simp [Nat.testBit_or,h2]⟩
    .cases h
   .rename_i hnb
    rcases List.mem_cons.1 he with rfl | he
    .rw [hb] at hnb;cases hnb
    .exact qX h e he hb
theorem oT {ms:List Nat}:∀ {es:List Edge} {m:Nat},lZ ms es=some m->∀ e∈es,Region.binds .any e=true->∀ {me:Nat},ms[e.on]?=some me->∀ q,me.testBit q=true->m.testBit q=true
 | [],m,h,e,he,_,_,_,_,_=>by cases he
 | e0::r,m,h,e,he,hb,me,Rj,q,hq=>by
   simp only [lZ] at h
   split at h
   .split at h
    .rename_i me' mr aKk hmr
     simp only [aU] at h
     subst h
     rcases List.mem_cons.1 he with rfl | he
     .rw [Rj] at aKk;cases aKk
      simp [Nat.testBit_or,hq]
     .simp [Nat.testBit_or,oT hmr e he hb Rj q hq]
    .cases h
   .rename_i hnb
    rcases List.mem_cons.1 he with rfl | he
    .rw [hb] at hnb;cases hnb
    .exact oT h e he hb Rj q hq
def jO (t:Nat):List Oper->Nat->Option Nat
 | [],_=>none
 | o::r,i=>match o.dst with
   | some d=>match Nat.beq d t with
     | true=>some i
     | false=>jO t r (i+1)
   | none=>jO t r (i+1)
theorem mF {t:Nat}:∀ {l:List Oper} {i j:Nat},jO t l i=some j->∃ o,i<=j/\l[j-i]?=some o/\o.dst=some t
 | [],i,j,h=>by cases h
 | o::r,i,j,h=>by
   simp only [jO] at h
   have Is:jO t r (i+1)=some j->∃ o',i<=j/\(o::r)[j-i]?=some o'/\o'.dst=some t:=by
    intro h
    obtain ⟨o',h1,h2,h3⟩:=mF h
    refine ⟨o',by omega,?_,h3⟩
    rw [show j-i=(j-(i+1))+1 from by omega]
    simpa using h2
   split at h
   .rename_i d hd
    split at h
    .rename_i hb
     have:=cM hb
     subst this
     cases h
     exact ⟨o,dE _,by simp,hd⟩
    .exact Is h
   .exact Is h
def gS (ops:List Oper) (E:Nat->Option bK) (g0:Nat->Option SV) (S O:Nat->Bool) (t:Nat):Option SV:=
 match jO t ops 0 with
 | none=>g0 t
 | some j=>match S j with
   | true=>(E j).map (·.val)
   | false=>match O j with
     | true=>g0 t
     | false=>none
def uM (all:Array Oper) (i j:Nat):Bool:=match all[j]? with
 | some o=>o.after.toList.any fun e=>Nat.beq e.on i&&Region.binds .any e
 | none=>false
def zR (T0:bB) (lab0 n:Nat) (E:Nat->Option bK) (S:Nat->Bool):bB:=fun l=>
 match Nat.ble lab0 l&&Nat.blt l (lab0+8*n) with
 | true=>match S ((l-lab0)/8) with
   | true=>(E ((l-lab0)/8)).bind fun e=>e.new[(l-lab0)%8]?
   | false=>none
 | false=>T0 l
def TS (T0:bB) (lab0 n:Nat) (E:Nat->Option bK) (wr:List (Nat × SB)) (S:Nat->Bool):bB:=fun l=>
 match look l wr with
 | some b=>some b
 | none=>zR T0 lab0 n E S l
def rY:Op->Bool
 | .load .. => true
 | .slice .. => true
 | .convert s d _=>Nat.beq s d
 | .call c=>match c.callee with
   | .builtin .len=>true
   | .builtin .cap=>true
   | _=>false
 | _=>false
def aBy:SV->Nat
 | .buf l=>l
 | .dG l _ _ _=>l
 | .gY l _=>l
 | _=>1000000000
def aSv:SV->Nat
 | .iU l _=>l
 | v=>aBy v
def Mq (Γ:Env) (g:Nat->Option SV) (o:Oper):Option Nat:=match o.op with
 | .load _ x=>match ev Γ g x with
   | some (.ptr l _ _)=>some l
   | some (.iU l _)=>some l
   | _=>none
 | .slice _ x _ _ _=>(ev Γ g x).map aSv
 | .convert s d x=>match Nat.beq s d,ev Γ g x with
   | true,some (.aH l _ _ _ _)=>some l
   | _,_=>none
 | .call c=>match c.callee,c.args.toList with
   | .builtin .len,[x]=>(ev Γ g x).map aBy
   | .builtin .cap,[x]=>(ev Γ g x).map aBy
   | _,_=>none
 | _=>none
theorem GX {Γ:Env} {g:Nat->Option SV} {o:Oper} {l:Nat} (h:Mq Γ g o=some l):rY o.op=true:=by
 unfold Mq at h
 split at h
 .rename_i bV;rw [bV];rfl
 .rename_i bV;rw [bV];rfl
 .rename_i bV
  rw [bV]
  split at h
  .rename_i hb _;exact hb
  .cases h
 .rename_i c bV
  rw [bV]
  split at h
  .rename_i hc _;simp only [rY,hc]
  .rename_i hc _;simp only [rY,hc]
  .cases h
 .cases h
def aBq (l:Nat) (T:bB):bB:=fun k=>match Nat.beq k l with
 | true=>T k
 | false=>none
theorem HD {l k:Nat} {T:bB} {B:SB} (h:aBq l T k=some B):k=l/\T l=some B:=by
 unfold aBq at h
 split at h
 .rename_i hb
  have:=cM hb
  subst this
  exact ⟨rfl,h⟩
 .cases h
def Cw (l m:Nat) (es:List bK):List Nat->Bool
 | []=>true
 | s::r=>match m.testBit s with
   | true=>Cw l m es r
   | false=>match es[s]? with
     | some e=>match look l e.wr with
       | none=>Cw l m es r
       | some _=>false
     | none=>false
theorem Hc {l m:Nat} {es:List bK}:∀ {L:List Nat},Cw l m es L=true->∀ s∈L,m.testBit s=true\/∃ e,es[s]?=some e/\look l e.wr=none
 | [],_,s,hs=>by cases hs
 | k::r,h,s,hs=>by
   simp only [Cw] at h
   split at h
   .rename_i hk
    rcases List.mem_cons.1 hs with rfl | hs
    .exact .inl hk
    .exact Hc h s hs
   .split at h
    case h_2=>cases h
    rename_i e he
    split at h
    .rename_i hl
     rcases List.mem_cons.1 hs with rfl | hs
     .exact .inr ⟨e,he,hl⟩
     .exact Hc h s hs
    .cases h
theorem xG {l m:Nat} {es:List bK} {e:bK}:∀ {L:List Nat},(∀ s∈L,s<es.length)->Cw l m (es++[e]) L=Cw l m es L
 | [],_=>rfl
 | s::r,h=>by
   have ih:=xG (l:=l) (m:=m) (es:=es) (e:=e) (L:=r) (fun s hs=>h s (eM _ hs))
   simp only [Cw,ih,List.getElem?_append_left (h s dB)]
def vO (g0:Nat->Option SV) (all:Array Oper) (es:List bK) (j m:Nat):Nat->Option SV:=
 gS all.toList (fun j=>es[j]?) g0 (fun k=>m.testBit k) (uM all j)
def Vi (Γ:Env) (g0:Nat->Option SV) (all:Array Oper) (es:List bK) (ms:List Nat) (wr:List (Nat × SB)) (m:Nat):List Oper->Nat->Nat->Bool
 | _,_,0=>true
 | [],_,_=>true
 | o::r,j,k+1=>match nE o.op||m.testBit j with
   | true=>Vi Γ g0 all es ms wr m r (j+1) k
   | false=>match ms[j]? with
     | some mj=>match Mq Γ (vO g0 all es j mj) o with
       | some l=>match look l wr with
         | none=>Vi Γ g0 all es ms wr m r (j+1) k
         | some _=>false
       | none=>false
     | none=>false
theorem Tp {Γ:Env} {g0:Nat->Option SV} {all:Array Oper} {es:List bK} {ms:List Nat} {wr:List (Nat × SB)} {m:Nat}:∀ {l:List Oper} {j k:Nat},Vi Γ g0 all es ms wr m l j k=true->∀ (i:Nat) (o:Oper),i<k->l[i]?=some o ->
 (nE o.op=true\/m.testBit (j+i)=true)\/∃ mj lb,ms[j+i]?=some mj/\Mq Γ (vO g0 all es (j+i) mj) o=some lb/\look lb wr=none
 | _,_,0,_,i,o,hi,_=>by omega
 | [],_,k+1,_,i,o,_,ho=>by simp at ho
 | o'::r,j,k+1,h,i,o,hi,ho=>by
   have Is:Vi Γ g0 all es ms wr m r (j+1) k=true->∀ i',i=i'+1->(nE o.op=true\/m.testBit (j+i)=true)\/∃ mj lb,ms[j+i]?=some mj/\Mq Γ (vO g0 all es (j+i) mj) o=some lb/\look lb wr=none:=by
    rintro h i' rfl
    simp only [List.getElem?_cons_succ] at ho
    have:=Tp h i' o (by omega) ho
    rw [show j+(i'+1)=j+1+i' from by omega]
    exact this
   simp only [Vi] at h
   cases i with
   | zero=>
     simp only [List.getElem?_cons_zero,aU] at ho
     subst ho
     split at h
     .rename_i hb
      left
      simpa using hb
     .split at h
      case h_2=>cases h
      rename_i mj hmj
      split at h
      case h_2=>cases h
      rename_i lb hlb
      split at h
      .rename_i hl
       exact .inr ⟨mj,lb,hmj,hlb,hl⟩
      .cases h
   | succ i=>
     split at h
     .exact Is h i rfl
     .split at h
      case h_2=>cases h
      split at h
      case h_2=>cases h
      split at h
      .exact Is h i rfl
      .cases h
def iQ (es:List bK):List Nat->List (Nat × SB)
 | []=>[]
 | s::r=>match es[s]? with
   | some e=>e.wr++iQ es r
   | none=>iQ es r
theorem En {es:List bK} {l:Nat} {b:SB}:∀ {L:List Nat},look l (iQ es L)=some b->∃ s∈L,∃ e,es[s]?=some e/\look l e.wr=some b
 | [],h=>by simp [iQ,look] at h
 | s::r,h=>by
   simp only [iQ] at h
   have Is:look l (iQ es r)=some b->∃ s'∈s::r,∃ e,es[s']?=some e/\look l e.wr=some b:=fun h=>by
    obtain ⟨s',h1,h2⟩:=En h
    exact ⟨s',eM _ h1,h2⟩
   split at h
   .rename_i e he
    rw [cB] at h
    cases hk:look l e.wr with
    | some b'=>rw [hk] at h;cases h;exact ⟨s,dB,e,he,hk⟩
    | none=>rw [hk] at h;exact Is h
   .exact Is h
theorem qD {es:List bK} {e:bK}:∀ {L:List Nat},(∀ s∈L,s<es.length)->iQ (es++[e]) L=iQ es L
 | [],_=>rfl
 | s::r,h=>by
   have ih:=qD (es:=es) (e:=e) (L:=r) (fun s hs=>h s (eM _ hs))
   simp only [iQ,ih,List.getElem?_append_left (h s dB)]
def inM (m:Nat):List Nat->Bool
 | []=>true
 | s::r=>match m.testBit s with
   | true=>inM m r
   | false=>false
theorem FN {m:Nat}:∀ {L:List Nat},inM m L=true->∀ s∈L,m.testBit s=true
 | [],_,s,hs=>by cases hs
 | k::r,h,s,hs=>by
   simp only [inM] at h
   split at h
   .rename_i hk
    rcases List.mem_cons.1 hs with rfl | hs
    .exact hk
    .exact FN h s hs
   .cases h
def isNil {α:Type}:List α->Bool
 | []=>true
 | _=>false
def pG (i:Nat):List Nat->List Nat
 | []=>[]
 | s::r=>match Nat.blt s i with
   | true=>s::pG i r
   | false=>pG i r
theorem mD (i:Nat):∀ L:List Nat,pG i L=L.filter fun s=>Nat.blt s i
 | []=>rfl
 | s::r=>by
   simp only [pG,List.filter_cons,mD i r]
   cases Nat.blt s i <;> rfl
def Gf:List Oper->Nat->Bool
 | [],_=>false
 | o::r,i=>match o.guard with
   | some (j,_)=>match Nat.beq j i with
     | true=>true
     | false=>Gf r i
   | none=>Gf r i
def rT (b:Bool) (all:Array Oper) (i:Nat) (e:bK):bK:=match e.val with
 | .bool false c=>match Gf all.toList i with
   | true=>{ e with val:=.bool true b,bO:=(c=b)::e.bO }
   | false=>e
 | _=>e
def nxH (all:Array Oper) (i:Nat) (e:bK) (hs:List Bool):List Bool:=match e.val with
 | .bool false _=>match Gf all.toList i with
   | true=>hs.tail
   | false=>hs
 | _=>hs
theorem Wh {b:Bool} {all:Array Oper} {i:Nat} {e:bK} (ho:∀ q∈(rT b all i e).bO,q):(∀ q∈e.bO,q)/\(rT b all i e).new=e.new/\(rT b all i e).wr=e.wr/\∀ V,den V (rT b all i e).val=den V e.val:=by
 unfold rT at ho |-
 split
 .rename_i c hc
  rw [hc] at ho
  simp only at ho
  split
  .rename_i hg
   rw [hg] at ho
   refine ⟨fun q hq=>ho q (eM _ hq),rfl,rfl,fun V=>?_⟩
   have:c=b:=ho _ dB
   subst this
   rw [hc];rfl
  .rename_i hg
   rw [hg] at ho
   exact ⟨ho,rfl,rfl,fun _=>rfl⟩
 .rename_i dK
  refine ⟨?_,rfl,rfl,fun _=>rfl⟩
  split at ho
  .rename_i c hc;exact (dK c hc).elim
  .exact ho
def aBp (Γ:Env) (g:Nat->Option SV) (o:Oper) (wr:List (Nat × SB)):Bool:=match Mq Γ g o with
 | some lb=>wr.all fun p=>Nat.beq p.1 lb
 | none=>false
theorem UG {Γ:Env} {g:Nat->Option SV} {o:Oper} {wr:List (Nat × SB)} (h:aBp Γ g o wr=true):∃ lb,Mq Γ g o=some lb/\∀ l,l≠lb->look l wr=none:=by
 unfold aBp at h
 split at h
 case h_2=>cases h
 rename_i lb hlb
 refine ⟨lb,hlb,fun l hl=>?_⟩
 cases hk:look l wr with
 | none=>rfl
 | some b=>
   have:=List.all_eq_true.1 h _ (fU hk)
   exact absurd (cM this) hl
def QE (Γ:Env) (g0:Nat->Option SV) (T0:bB) (lab0 n:Nat) (all:Array Oper) (o:Oper) (i m:Nat) (es:List bK) (wi:List Nat):Option bK:=
 match yD all (vO g0 all es i m) o with
 | some false=>some { val:=.raw undef }
 | some true=>match nE o.op with
   | true=>zU Γ (vO g0 all es i m) (fun _=>none) (lab0+8*i) (lab0+8*n) none o
   | false=>match Mq Γ (vO g0 all es i m) o with
     | some l=>match Cw l m es (pG i wi) with
       | true=>zU Γ (vO g0 all es i m) (aBq l (TS T0 lab0 n (fun j=>es[j]?) (iQ es ((pG i wi).filter fun s=>m.testBit s)) (fun j=>m.testBit j))) (lab0+8*i) (lab0+8*n) none o
       | false=>none
     | none=>match inM m (pG i wi) with
       | true=>zU Γ (vO g0 all es i m) (TS T0 lab0 n (fun j=>es[j]?) (iQ es (pG i wi)) (fun j=>m.testBit j)) (lab0+8*i) (lab0+8*n) none o
       | false=>none
 | none=>none
def Cx (b:Bool) (Γ:Env) (g0:Nat->Option SV) (T0:bB) (lab0 n:Nat) (all:Array Oper) (o:Oper) (i m:Nat) (es:List bK) (wi:List Nat):Option bK:=
 match QE Γ g0 T0 lab0 n all o i m es wi with
 | some e=>some (rT b all i e)
 | none=>none
def aCo (Γ:Env) (g0:Nat->Option SV) (T0:bB) (lab0 n:Nat) (all:Array Oper) (o:Oper) (i m:Nat) (es:List bK) (wi:List Nat) (hs:List Bool):Option (bK × List Bool):=
 match QE Γ g0 T0 lab0 n all o i m es wi with
 | some e=>some (rT (hs.headD true) all i e,nxH all i e hs)
 | none=>none
theorem Xw {Γ:Env} {g0:Nat->Option SV} {T0:bB} {lab0 n:Nat} {all:Array Oper} {o:Oper} {i m:Nat} {es:List bK} {wi:List Nat} {hs Ce:List Bool} {e:bK} (h:aCo Γ g0 T0 lab0 n all o i m es wi hs=some (e,Ce)):∃ b,Cx b Γ g0 T0 lab0 n all o i m es wi=some e:=by
 unfold aCo at h
 split at h
 case h_2=>cases h
 rename_i e0 h0
 cases h
 exact ⟨hs.headD true,by unfold Cx;rw [h0]⟩
def Ea (Γ:Env) (g0:Nat->Option SV) (T0:bB) (lab0 n:Nat) (all:Array Oper):List Oper->Nat->List bK->List Nat->List Nat->List Bool->Option (List bK × List Nat × List Nat × List Bool)
 | [],_,es,ms,wi,hs=>some (es,ms,wi,hs)
 | o::r,i,es,ms,wi,hs=>match lZ ms o.after.toList with
   | none=>none
   | some m=>match aCo Γ g0 T0 lab0 n all o i m es wi hs,(match o.dst with | some d=>jO d all.toList 0==some i | none=>true) with
     | some (e,Ce),true=>match isNil e.wr with
       | true=>match Nat.ble e.new.length 8 with
         | true=>Ea Γ g0 T0 lab0 n all r (i+1) (es++[e]) (ms++[m]) wi Ce
         | false=>none
       | false=>match Nat.ble e.new.length 8&&Vi Γ g0 all es ms e.wr m all.toList 0 i&&e.wr.all (fun p=>Nat.blt p.1 lab0||(Nat.ble lab0 p.1&&m.testBit ((p.1-lab0)/8)))&&(!nE o.op&&(!rY o.op||aBp Γ (vO g0 all es i m) o e.wr)) with
         | true=>Ea Γ g0 T0 lab0 n all r (i+1) (es++[e]) (ms++[m]) (i::wi) Ce
         | false=>none
     | _,_=>none
structure xV (Γ:Env) (g0:Nat->Option SV) (T0:bB) (lab0 n:Nat) (all:Array Oper) (i:Nat) (es:List bK) (ms:List Nat) (wi:List Nat):Prop where
 Ie:es.length=i
 xZ:ms.length=i
 lt:∀ (j m:Nat),ms[j]?=some m->∀ k,m.testBit k=true->k<j
 cl:∀ (j m:Nat),ms[j]?=some m->∀ k mk,m.testBit k=true->ms[k]?=some mk->∀ q,mk.testBit q=true->m.testBit q=true
 aft:∀ (j m:Nat) (o:Oper),ms[j]?=some m->all[j]?=some o->∀ e∈o.after,Region.binds .any e=true->e.on<j/\m.testBit e.on=true
 aLi:∀ (j m:Nat) (o:Oper),ms[j]?=some m->all[j]?=some o->∀ k,m.testBit k=true->∃ e∈o.after,Region.binds .any e=true/\(k=e.on\/∃ me,ms[e.on]?=some me/\me.testBit k=true)
 dst:∀ (j:Nat) (o:Oper) (d:Tmp),j<i->all[j]?=some o->o.dst=some d->jO d all.toList 0=some j
 new:∀ (j:Nat) (e:bK),es[j]?=some e->e.new.length<=8
 wrt:∀ (j:Nat) (e:bK),es[j]?=some e->e.wr≠[]->j∈wi
 pG:∀ s∈wi,s<i
 wso:wi.Pairwise (· > ·)
 wim:∀ s∈wi,∀ (o:Oper),all[s]?=some o->nE o.op=false
 wnp:∀ s∈wi,∀ (m:Nat),ms[s]?=some m->∀ (j:Nat) (o:Oper),j<s->all[j]?=some o->(nE o.op=true\/m.testBit j=true)\/∃ mj lb e,ms[j]?=some mj/\es[s]?=some e/\Mq Γ (vO g0 all es j mj) o=some lb/\look lb e.wr=none
 wlb:∀ s∈wi,∀ (m:Nat),ms[s]?=some m->∀ (e:bK),es[s]?=some e->∀ l b,look l e.wr=some b->l<lab0\/(lab0<=l/\m.testBit ((l-lab0)/8)=true)
 eff:∀ (j m:Nat) (o:Oper) (e:bK),ms[j]?=some m->all[j]?=some o->es[j]?=some e->∃ b,Cx b Γ g0 T0 lab0 n all o j m es wi=some e
 wld:∀ s∈wi,∀ (o:Oper) (m:Nat) (e:bK),all[s]?=some o->ms[s]?=some m->es[s]?=some e->rY o.op=false\/∃ lb,Mq Γ (vO g0 all es s m) o=some lb/\∀ l,l≠lb->look l e.wr=none
theorem Bj {ops:List Oper} {E E':Nat->Option bK} {g0:Nat->Option SV} {S O:Nat->Bool} (h:∀ j,S j=true->E j=E' j):gS ops E g0 S O=gS ops E' g0 S O:=by
 funext t
 unfold gS
 cases jO t ops 0 with
 | none=>rfl
 | some j=>
   cases hs:S j with
   | false=>simp [hs]
   | true=>simp [hs,h j hs]
theorem Ra {T0:bB} {lab0 n:Nat} {E E':Nat->Option bK} {S:Nat->Bool} (h:∀ j,S j=true->E j=E' j):zR T0 lab0 n E S=zR T0 lab0 n E' S:=by
 funext l
 unfold zR
 split
 .cases hs:S ((l-lab0)/8) with
  | false=>rfl
  | true=>simp only [h _ hs]
 .rfl
theorem MJ {T0:bB} {lab0 n:Nat} {E E':Nat->Option bK} {wr:List (Nat × SB)} {S:Nat->Bool} (h:∀ j,S j=true->E j=E' j):TS T0 lab0 n E wr S=TS T0 lab0 n E' wr S:=by
 funext l
 unfold TS
 rw [Ra h]
theorem Lj {b:Bool} {Γ:Env} {g0:Nat->Option SV} {T0:bB} {lab0 n:Nat} {all:Array Oper} {o:Oper} {j m:Nat} {es:List bK} {wi Rc:List Nat} (e:bK) (hm:∀ k,m.testBit k=true->k<es.length) (hj:j<=es.length)
 (hw:Rc=wi\/(∃ s,Rc=s::wi/\j<=s)):Cx b Γ g0 T0 lab0 n all o j m (es++[e]) Rc=Cx b Γ g0 T0 lab0 n all o j m es wi:=by
 have hE:∀ k,m.testBit k=true->(es++[e])[k]?=es[k]?:=fun k hk=>List.getElem?_append_left (hm k hk)
 have hg:vO g0 all (es++[e]) j m=vO g0 all es j m:=Bj (ops:=all.toList) (E:=fun k=>(es++[e])[k]?) (E':=fun k=>es[k]?) (g0:=g0) (S:=fun k=>m.testBit k) (O:=uM all j) hE
 have MT:pG j Rc=pG j wi:=by
  rcases hw with rfl | ⟨s,rfl,hs⟩
  .rfl
  .have:Nat.blt s j=false:=by
    cases hb:Nat.blt s j with
    | false=>rfl
    | true=>simp [Nat.blt_eq] at hb;omega
   simp [pG,this]
 have cL:∀ s∈pG j wi,s<es.length:=fun s hs=>by
  rw [mD,List.mem_filter] at hs
  have:s<j:=by simpa [Nat.blt_eq] using hs.2
  omega
 have Uw:iQ (es++[e]) (pG j wi)=iQ es (pG j wi):=qD cL
 have aTe:iQ (es++[e]) ((pG j wi).filter fun s=>m.testBit s)=iQ es ((pG j wi).filter fun s=>m.testBit s):=qD fun s hs=>cL s (List.mem_filter.1 hs).1
 have hfw:∀ l,Cw l m (es++[e]) (pG j wi)=Cw l m es (pG j wi):=fun l=>xG cL
 have hT:=fun wr=>MJ (T0:=T0) (lab0:=lab0) (n:=n) (E:=fun k=>(es++[e])[k]?) (E':=fun k=>es[k]?) (wr:=wr) (S:=fun k=>m.testBit k) hE
 unfold Cx QE
 simp only [hg,MT,Uw,aTe,hT,hfw]
theorem dI {α:Type} {l:List α} {x y:α} {j:Nat} (h:(l++[x])[j]?=some y):l[j]?=some y\/(j=l.length/\x=y):=by
 by_cases hj:j<l.length
 .rw [List.getElem?_append_left hj] at h;exact .inl h
 .have:j=l.length:=by
   have:=(List.getElem?_eq_some_iff.1 h).1
   simp at this;omega
  subst this
  simp at h
  exact .inr ⟨rfl,h⟩
theorem xV.nil {Γ:Env} {g0:Nat->Option SV} {T0:bB} {lab0 n:Nat} {all:Array Oper}:xV Γ g0 T0 lab0 n all 0 [] [] []:=
 ⟨rfl,rfl,(fun j m h=>by simp at h),(fun j m h=>by simp at h),(fun j m o h=>by simp at h),(fun j m o h=>by simp at h),(fun j o d h=>by omega),(fun j e h=>by simp at h),(fun j e h=>by simp at h),
  (fun s h=>by cases h),List.Pairwise.nil,(fun s h=>by cases h),(fun s h=>by cases h),(fun s h=>by cases h),(fun j m o e h=>by simp at h),(fun s h=>by cases h)⟩
theorem xV.snoc {Γ:Env} {g0:Nat->Option SV} {T0:bB} {lab0 n:Nat} {all:Array Oper} {i:Nat} {es:List bK} {ms:List Nat} {wi Rc:List Nat} (h:xV Γ g0 T0 lab0 n all i es ms wi) {o:Oper} {m:Nat} {e:bK}
 (ho:all[i]?=some o) (hm:lZ ms o.after.toList=some m) (he:∃ b,Cx b Γ g0 T0 lab0 n all o i m es wi=some e) (hd:∀ d,o.dst=some d->jO d all.toList 0=some i) (hn:e.new.length<=8)
 (hw:(e.wr=[]/\Rc=wi)\/(Rc=i::wi/\(nE o.op=false/\(rY o.op=false\/∃ lb,Mq Γ (vO g0 all es i m) o=some lb/\∀ l,l≠lb->look l e.wr=none))/\(∀ (j:Nat) (o:Oper),j<i->all[j]?=some o->(nE o.op=true\/m.testBit j=true)\/∃ mj lb,ms[j]?=some mj/\Mq Γ (vO g0 all es j mj) o=some lb/\look lb e.wr=none)/\∀ l b,look l e.wr=some b->l<lab0\/(lab0<=l/\m.testBit ((l-lab0)/8)=true))) :
 xV Γ g0 T0 lab0 n all (i+1) (es++[e]) (ms++[m]) Rc:=by
 have PM:∀ k,m.testBit k=true->k<i:=by
  intro k hk
  obtain ⟨ed,Zb,hb,hk⟩:=jR hm k hk
  have h1:=(qX hm ed Zb hb).1
  rw [h.xZ] at h1
  rcases hk with rfl | ⟨me,Rj,hk⟩
  .exact h1
  .have:=h.lt _ _ Rj k hk;omega
 have bR:∀ (b:Bool) (j m':Nat) (o':Oper),ms[j]?=some m'->Cx b Γ g0 T0 lab0 n all o' j m' (es++[e]) Rc=Cx b Γ g0 T0 lab0 n all o' j m' es wi:=by
  intro b j m' o' hj
  have hjl:=(List.getElem?_eq_some_iff.1 hj).1
  rw [h.xZ] at hjl
  refine Lj e (fun k hk=>?_) (by rw [h.Ie];omega) ?_
  .have:=h.lt j m' hj k hk;rw [h.Ie];omega
  .rcases hw with ⟨_,rfl⟩ | ⟨rfl,_⟩
   .exact .inl rfl
   .exact .inr ⟨i,rfl,by omega⟩
 have My:∀ {j m':Nat},ms[j]?=some m'->(ms++[m])[j]?=some m':=fun {j m'} hj=>by
  rw [List.getElem?_append_left (List.getElem?_eq_some_iff.1 hj).1];exact hj
 refine ⟨by simp [h.Ie],by simp [h.xZ],fun j m' hj k hk=>?_,fun j m' hj k mk hk Fi q hq=>?_,fun j m' o' hj jX ed Zb hb=>?_,fun j m' o' hj jX k hk=>?_,fun j o' d hj jX ZI=>?_,fun j e' gZ=>?_,fun j e' gZ dK=>?_,fun s hs=>?_,?_,fun s hs o' jX=>?_,fun s hs m' kE j o' hj jX=>?_,fun s hs m' kE e' gZ l b hl=>?_,fun j m' o' e' hj jX gZ=>?_,fun s hs o' m' e' jX kE gZ=>?_⟩
 .rcases dI hj with hj | ⟨rfl,rfl⟩
  .exact h.lt j m' hj k hk
  .rw [h.xZ];exact PM k hk
 .have Vp:ms[k]?=some mk\/k=i:=by
   rcases dI Fi with h1 | ⟨h1,_⟩
   .exact .inl h1
   .right;rw [h1,h.xZ]
  rcases dI hj with hj | ⟨rfl,rfl⟩
  .have hki:=h.lt j m' hj k hk
   have Im:=(List.getElem?_eq_some_iff.1 hj).1
   rw [h.xZ] at Im
   rcases Vp with Vp | rfl
   .exact h.cl j m' hj k mk hk Vp q hq
   .omega
  .have hki:=PM k hk
   rcases Vp with Vp | rfl
   .obtain ⟨ed,Zb,hb,fL⟩:=jR hm k hk
    have key:∀ k mk,m.testBit k=true->ms[k]?=some mk->mk.testBit q=true->m.testBit q=true:=by
     intro k mk hk Fi hq
     obtain ⟨ed,Zb,hb,fL⟩:=jR hm k hk
     rcases fL with rfl | ⟨me,Rj,fL⟩
     .exact oT hm ed Zb hb Fi q hq
     .exact oT hm ed Zb hb Rj q (h.cl _ me Rj k mk fL Fi q hq)
    exact key k mk hk Vp hq
   .omega
 .rcases dI hj with hj | ⟨rfl,rfl⟩
  .exact h.aft j m' o' hj jX ed Zb hb
  .rw [h.xZ] at jX
   rw [ho] at jX;cases jX
   obtain ⟨h1,h2⟩:=qX hm ed (by simpa using Zb) hb
   exact ⟨h1,h2⟩
 .rcases dI hj with hj | ⟨rfl,rfl⟩
  .obtain ⟨ed,h1,h2,h3⟩:=h.aLi j m' o' hj jX k hk
   refine ⟨ed,h1,h2,?_⟩
   rcases h3 with h3 | ⟨me,h3,h4⟩
   .exact .inl h3
   .exact .inr ⟨me,My h3,h4⟩
  .rw [h.xZ] at jX
   rw [ho] at jX;cases jX
   obtain ⟨ed,h1,h2,h3⟩:=jR hm k hk
   refine ⟨ed,by simpa using h1,h2,?_⟩
   rcases h3 with h3 | ⟨me,h3,h4⟩
   .exact .inl h3
   .exact .inr ⟨me,My h3,h4⟩
 .by_cases Im:j=i
  .subst Im;rw [ho] at jX;cases jX;exact hd d ZI
  .exact h.dst j o' d (by omega) jX ZI
 .rcases dI gZ with gZ | ⟨_,rfl⟩
  .exact h.new j e' gZ
  .exact hn
 .rcases dI gZ with gZ | ⟨rfl,rfl⟩
  .have:=h.wrt j e' gZ dK
   rcases hw with ⟨_,rfl⟩ | ⟨rfl,_⟩
   .exact this
   .exact eM _ this
  .rcases hw with ⟨hw,_⟩ | ⟨rfl,_⟩
   .exact absurd hw dK
   .rw [h.Ie];exact dB
 .rcases hw with ⟨_,rfl⟩ | ⟨rfl,_⟩
  .have:=h.pG s hs;omega
  .rcases List.mem_cons.1 hs with rfl | hs
   .omega
   .have:=h.pG s hs;omega
 .rcases hw with ⟨_,rfl⟩ | ⟨rfl,_⟩
  .exact h.wso
  .exact List.pairwise_cons.2 ⟨fun s hs=>h.pG s hs,h.wso⟩
 .rcases hw with ⟨_,rfl⟩ | ⟨rfl,hpo,_⟩
  .exact h.wim s hs o' jX
  .rcases List.mem_cons.1 hs with rfl | hs
   .rw [ho] at jX;cases jX;exact hpo.1
   .exact h.wim s hs o' jX
 .have hes:∀ {k e'},es[k]?=some e'->(es++[e])[k]?=some e':=fun {k e'} hk=>by
   rw [List.getElem?_append_left (List.getElem?_eq_some_iff.1 hk).1];exact hk
  have hgo:∀ {k mk},ms[k]?=some mk->vO g0 all (es++[e]) k mk=vO g0 all es k mk:=fun {k mk} hk=>by
   refine Bj fun q hq=>List.getElem?_append_left ?_
   have h1:=h.lt k mk hk q hq
   have h2:=(List.getElem?_eq_some_iff.1 hk).1
   rw [h.xZ] at h2
   rw [h.Ie]
   omega
  have Dg:s∈wi->(nE o'.op=true\/m'.testBit j=true)\/∃ mj lb e',(ms++[m])[j]?=some mj/\(es++[e])[s]?=some e'/\Mq Γ (vO g0 all (es++[e]) j mj) o'=some lb/\look lb e'.wr=none:=fun hs=>by
   have Ux:=h.pG s hs
   rcases dI kE with kE | ⟨h1,_⟩
   .rcases h.wnp s hs m' kE j o' hj jX with h3 | ⟨mj,lb,e',k1,k2,k3,k4⟩
    .exact .inl h3
    .exact .inr ⟨mj,lb,e',My k1,hes k2,by rw [hgo k1];exact k3,k4⟩
   .rw [h.xZ] at h1;omega
  rcases hw with ⟨_,rfl⟩ | ⟨rfl,_,hnp,_⟩
  .exact Dg hs
  .rcases List.mem_cons.1 hs with rfl | hs
   .rcases dI kE with kE | ⟨_,rfl⟩
    .have:=(List.getElem?_eq_some_iff.1 kE).1;rw [h.xZ] at this;omega
    .rcases hnp j o' hj jX with h3 | ⟨mj,lb,k1,k3,k4⟩
     .exact .inl h3
     .exact .inr ⟨mj,lb,e,My k1,by rw [<- h.Ie];simp,by rw [hgo k1];exact k3,k4⟩
   .exact Dg hs
 .have Dg:s∈wi->l<lab0\/(lab0<=l/\m'.testBit ((l-lab0)/8)=true):=fun hs=>by
   have Ux:=h.pG s hs
   rcases dI kE with kE | ⟨h1,_⟩
   .rcases dI gZ with gZ | ⟨h1,_⟩
    .exact h.wlb s hs m' kE e' gZ l b hl
    .rw [h.Ie] at h1;omega
   .rw [h.xZ] at h1;omega
  rcases hw with ⟨_,rfl⟩ | ⟨rfl,_,_,hlb⟩
  .exact Dg hs
  .rcases List.mem_cons.1 hs with rfl | hs
   .rcases dI kE with kE | ⟨_,rfl⟩
    .have:=(List.getElem?_eq_some_iff.1 kE).1;rw [h.xZ] at this;omega
    .rcases dI gZ with gZ | ⟨_,rfl⟩
     .have:=(List.getElem?_eq_some_iff.1 gZ).1;rw [h.Ie] at this;omega
     .exact hlb l b hl
   .exact Dg hs
 .rcases dI hj with hj | ⟨rfl,rfl⟩
  .have Im:=(List.getElem?_eq_some_iff.1 hj).1
   rw [h.xZ] at Im
   rcases dI gZ with gZ | ⟨h1,_⟩
   .obtain ⟨b,hb⟩:=h.eff j m' o' e' hj jX gZ
    exact ⟨b,by rw [bR b j m' o' hj];exact hb⟩
   .rw [h.Ie] at h1;omega
  .rw [h.xZ] at jX gZ |-
   rw [ho] at jX;cases jX
   rcases dI gZ with gZ | ⟨_,rfl⟩
   .have:=(List.getElem?_eq_some_iff.1 gZ).1;rw [h.Ie] at this;omega
   .obtain ⟨b,he⟩:=he
    refine ⟨b,?_⟩
    rw [Lj e (fun k hk=>by rw [h.Ie];exact PM k hk) (by rw [h.Ie];exact dE _) ?_]
    .exact he
    .rcases hw with ⟨_,rfl⟩ | ⟨rfl,_⟩
     .exact .inl rfl
     .exact .inr ⟨i,rfl,dE _⟩
 .have hgo:∀ {k mk},k<=i->(∀ q,mk.testBit q=true->q<k)->vO g0 all (es++[e]) k mk=vO g0 all es k mk:=fun {k mk} hk cL=>by
   refine Bj fun q hq=>List.getElem?_append_left ?_
   have h1:=cL q hq
   rw [h.Ie]
   omega
  have Dg:s∈wi->rY o'.op=false\/∃ lb,Mq Γ (vO g0 all (es++[e]) s m') o'=some lb/\∀ l,l≠lb->look l e'.wr=none:=fun hs=>by
   have Ux:=h.pG s hs
   rcases dI kE with kE | ⟨h1,_⟩
   .rcases dI gZ with gZ | ⟨h1,_⟩
    .rcases h.wld s hs o' m' e' jX kE gZ with h3 | ⟨lb,h3,h4⟩
     .exact .inl h3
     .exact .inr ⟨lb,by rw [hgo (by omega) (h.lt s m' kE)];exact h3,h4⟩
    .rw [h.Ie] at h1;omega
   .rw [h.xZ] at h1;omega
  rcases hw with ⟨_,rfl⟩ | ⟨rfl,hpo,_⟩
  .exact Dg hs
  .rcases List.mem_cons.1 hs with rfl | hs
   .rw [ho] at jX;cases jX
    rcases dI kE with kE | ⟨_,rfl⟩
    .have:=(List.getElem?_eq_some_iff.1 kE).1;rw [h.xZ] at this;omega
    .rcases dI gZ with gZ | ⟨_,rfl⟩
     .have:=(List.getElem?_eq_some_iff.1 gZ).1;rw [h.Ie] at this;omega
     .rcases hpo.2 with h3 | ⟨lb,h3,h4⟩
      .exact .inl h3
      .exact .inr ⟨lb,by rw [hgo (dE _) PM];exact h3,h4⟩
   .exact Dg hs
theorem filter_le {f f':Nat->Bool}:∀ (l:List Nat),(∀ j,f' j=true->f j=true)->(l.filter f').length<=(l.filter f).length
 | [],_=>by simp
 | x::r,h=>by
   have ih:=filter_le r h
   cases hx:f' x with
   | true=>simp [hx,h x hx,ih]
   | false=>
     cases hy:f x with
     | true=>simp [hx,hy];omega
     | false=>simp [hx,hy,ih]
theorem filter_lt {f f':Nat->Bool} {i:Nat}:∀ (l:List Nat),i∈l->(∀ j,f' j=true->f j=true)->f i=true->f' i=false->(l.filter f').length+1<=(l.filter f).length
 | [],h,_,_,_=>by simp at h
 | x::r,h,hm,h1,h2=>by
   by_cases e:x=i
   .subst e
    have:=filter_le r hm
    simp [h1,h2,this]
   .have hr:i∈r:=by
     rcases List.mem_cons.1 h with h | h
     .exact absurd h.symm e
     .exact h
    have ih:=filter_lt r hr hm h1 h2
    cases hx:f' x with
    | true=>simp [hx,hm x hx];omega
    | false=>
      cases hy:f x with
      | true=>simp [hx,hy];omega
      | false=>simp [hx,hy];omega
theorem sI {Γ:Env} {g0:Nat->Option SV} {T0:bB} {lab0 n:Nat} {all:Array Oper}:∀ {r:List Oper} {i:Nat} {es es':List bK} {ms Ut:List Nat} {wi Rc:List Nat} {hs Ce:List Bool},
 Ea Γ g0 T0 lab0 n all r i es ms wi hs=some (es',Ut,Rc,Ce)->(∀ k,r[k]?=all[i+k]?)->xV Γ g0 T0 lab0 n all i es ms wi->xV Γ g0 T0 lab0 n all (i+r.length) es' Ut Rc
 | [],i,es,es',ms,Ut,wi,Rc,hs,Ce,h,_,hd=>by
   simp only [Ea,aU,Prod.mk.injEq] at h
   obtain ⟨rfl,rfl,rfl,rfl⟩:=h
   exact hd
 | o::r,i,es,es',ms,Ut,wi,Rc,hs,Ce,h,hr,hd=>by
   have ho:all[i]?=some o:=by have:=hr 0;simpa using this.symm
   have hr':∀ k,r[k]?=all[i+1+k]?:=fun k=>by
    have:=hr (k+1)
    rw [show i+1+k=i+(k+1) from by omega]
    simpa using this
   simp only [Ea] at h
   split at h
   .cases h
   .rename_i m hm
    split at h
    case h_2=>cases h
    rename_i e gV he PT
    have he:=Xw he
    have aAt:∀ d,o.dst=some d->jO d all.toList 0=some i:=by
     intro d ZI
     rw [ZI] at PT
     simpa using PT
    split at h
    .rename_i Iv
     split at h
     case h_2=>cases h
     rename_i hn
     have hw:e.wr=[]:=by
      cases Uw:e.wr with
      | nil=>rfl
      | cons a b=>rw [Uw] at Iv;cases Iv
     have:=sI h hr' (hd.snoc ho hm he aAt (kO hn) (.inl ⟨hw,rfl⟩))
     rw [show i+(o::r).length=i+1+r.length from by simp;omega]
     exact this
    .split at h
     .rename_i jY
      simp only [iJ,Bool.or_eq_true] at jY
      obtain ⟨⟨⟨c1,c2⟩,c3⟩,c4⟩:=jY
      have:=sI h hr' (hd.snoc ho hm he aAt (kO c1) (.inr ⟨rfl,⟨by simpa using c4.1,by
       rcases c4.2 with h1 | h1
       .exact .inl (by simpa using h1)
       .exact .inr (UG h1)⟩,fun j o' hj jX=>?_,fun l b hl=>?_⟩))
      .rw [show i+(o::r).length=i+1+r.length from by simp;omega]
       exact this
      .have:=Tp c2 j o' hj (by simpa using jX)
       simpa using this
      .have:=List.all_eq_true.1 c3 _ (fU hl)
       simp only [Bool.or_eq_true,iJ] at this
       rcases this with h1 | ⟨h1,h2⟩
       .left;simpa [Nat.blt_eq] using h1
       .right;exact ⟨kO h1,h2⟩
     .cases h
def yO (es:List bK) (wi:List Nat) (S:Nat->Bool):List (Nat × SB):=iQ es (wi.filter S)
structure Wc (P:Program) (Γ:Env) (w0:World) (M:Nat->Prop) (N:Nat) (df:List Deferred) (g0:Nat->Option SV) (T0:bB) (lab0:Nat) (all:Array Oper) (es:List bK) (wi:List Nat) (Vs:bA) (S:Nat->Bool) (V:bA) (a:Act) (w:World):Prop where
 tmp:cG V (gS all.toList (fun j=>es[j]?) g0 S (fun j => !S j)) a
 size:N<=a.tmps.size
 defers:a.defers=df
 fB:aD w0 M V (TS T0 lab0 all.size (fun j=>es[j]?) (yO es wi S) S) w
 aR:bP Γ V
 top:V.top (lab0+8*all.size)
 fresh:∀ j,j<all.size->S j=false->V.fresh (lab0+8*j)
 le:Vs.le V
 low:∀ l,l<lab0->V.β l=Vs.β l/\V.σ l=Vs.σ l
theorem aGt {ops:List Oper} {E:Nat->Option bK} {g0:Nat->Option SV} {S S' O:Nat->Bool} (h:∀ j,S j=true->S' j=true) (hO:∀ j,O j=true->S' j=false) {t:Nat} {v:SV} (hv:gS ops E g0 S O t=some v):gS ops E g0 S' (fun j => !S' j) t=some v:=by
 unfold gS at *
 cases hd:jO t ops 0 with
 | none=>rw [hd] at hv;exact hv
 | some j=>
   rw [hd] at hv
   simp only at hv |-
   cases hs:S j with
   | false=>
     rw [hs] at hv
     simp only at hv
     cases ho:O j with
     | false=>rw [ho] at hv;cases hv
     | true=>rw [ho] at hv;rw [hO j ho];exact hv
   | true=>rw [hs] at hv;rw [h j hs];exact hv
theorem Po {T0:bB} {lab0 n:Nat} {E:Nat->Option bK} {wr:List (Nat × SB)} {S S':Nat->Bool} (h:∀ j,S j=true->S' j=true) {l:Nat} {B:SB} (hv:TS T0 lab0 n E wr S l=some B):TS T0 lab0 n E wr S' l=some B:=by
 unfold TS at *
 cases hl:look l wr with
 | some b=>rw [hl] at hv;exact hv
 | none=>
   rw [hl] at hv
   simp only at hv |-
   unfold zR at *
   split at hv
   .cases hs:S ((l-lab0)/8) with
    | false=>rw [hs] at hv;cases hv
    | true=>rw [hs] at hv;rw [h _ hs];exact hv
   .exact hv
theorem Kv {lab0 l n:Nat} (h1:lab0<=l) (h2:l<lab0+8*n):(Nat.ble lab0 l&&Nat.blt l (lab0+8*n))=true:=by
 rw [Nat.ble_eq_true_of_le h1];simpa [Nat.blt_eq] using h2
theorem Eg {lab0 l n:Nat} (h:¬ (lab0<=l/\l<lab0+8*n)):(Nat.ble lab0 l&&Nat.blt l (lab0+8*n))=false:=by
 cases hb:(Nat.ble lab0 l&&Nat.blt l (lab0+8*n)) with
 | false=>rfl
 | true=>
   simp only [iJ] at hb
   exact absurd ⟨kO hb.1,by simpa [Nat.blt_eq] using hb.2⟩ h
theorem Yu {T0:bB} {lab0 n:Nat} {es:List bK} {S S':Nat->Bool} {i:Nat} {e:bK} (hi:i<n) (he:es[i]?=some e) (hS:S i=false) (Mz:∀ j,S' j=(S j||decide (j=i))) (hn:e.new.length<=8) (l:Nat) :
 zR T0 lab0 n (fun j=>es[j]?) S' l=match look l (fZ (lab0+8*i) e.new) with
  | some b=>some b
  | none=>zR T0 lab0 n (fun j=>es[j]?) S l:=by
 rw [eZ]
 unfold zR
 by_cases h1:lab0<=l/\l<lab0+8*n
 .rw [Kv h1.1 h1.2]
  simp only
  by_cases h3:(l-lab0)/8=i
  .rw [h3,Mz i,hS]
   simp only [Bool.false_or,decide_true,he,nG]
   have h4:lab0+8*i<=l:=by omega
   rw [if_pos h4,show (l-lab0)%8=l-(lab0+8*i) from by omega]
   cases e.new[l-(lab0+8*i)]? <;> rfl
  .rw [Mz _,show decide ((l-lab0)/8=i)=false from by simpa using h3,Bool.or_false]
   have h5:(if lab0+8*i<=l then e.new[l-(lab0+8*i)]? else none)=none:=by
    split
    .apply List.getElem?_eq_none;omega
    .rfl
   rw [h5]
 .rw [Eg h1]
  have h5:(if lab0+8*i<=l then e.new[l-(lab0+8*i)]? else none)=none:=by
   split
   .apply List.getElem?_eq_none;omega
   .rfl
  rw [h5]
theorem Eo {es:List bK} {e:bK} {S S':Nat->Bool} {i:Nat} (he:es[i]?=some e) (hS:S i=false) (Mz:∀ j,S' j=(S j||decide (j=i))) {l:Nat}:∀ {L:List Nat},L.Pairwise (· > ·) ->
 (i∈L->∀ s∈L,S s=true->s<i\/∀ e',es[s]?=some e'->look l e.wr≠none->look l e'.wr=none) ->
 look l (iQ es (L.filter S'))=if i∈L then (match look l e.wr with | some b=>some b | none=>look l (iQ es (L.filter S))) else look l (iQ es (L.filter S))
 | [],_,_=>by simp
 | x::r,hp,h=>by
   obtain ⟨Zq,MX⟩:=List.pairwise_cons.1 hp
   by_cases q:x=i
   .subst q
    have hr:r.filter S'=r.filter S:=by
     refine List.filter_congr fun s hs=>?_
     have:=Zq s hs
     rw [Mz,show decide (s=x)=false from by simp;omega,Bool.or_false]
    have h1:S' x=true:=by rw [Mz];simp
    rw [if_pos dB,List.filter_cons,if_pos h1,hr,List.filter_cons,if_neg (by rw [hS];simp)]
    simp only [iQ,he,cB]
    cases look l e.wr <;> rfl
   .have hx:S' x=S x:=by rw [Mz,show decide (x=i)=false from by simpa using q,Bool.or_false]
    have ih:=Eo he hS Mz (l:=l) MX (fun hi s hs=>h (eM _ hi) s (eM _ hs))
    have aCe:i∈x::r<->i∈r:=by
     rw [List.mem_cons]
     exact ⟨fun h=>h.resolve_left fun w=>q w.symm,.inr⟩
    simp only [aCe]
    cases hb:S x with
    | false=>
      have f1:(x::r).filter S'=r.filter S':=by rw [List.filter_cons,hx,hb];rfl
      have f2:(x::r).filter S=r.filter S:=by rw [List.filter_cons,hb];rfl
      rw [f1,f2]
      exact ih
    | true=>
      have f1:(x::r).filter S'=x::r.filter S':=by rw [List.filter_cons,hx,hb];rfl
      have f2:(x::r).filter S=x::r.filter S:=by rw [List.filter_cons,hb];rfl
      rw [f1,f2]
      cases hes:es[x]? with
      | none=>simp only [iQ,hes];exact ih
      | some ex=>
        simp only [iQ,hes,cB]
        cases hk:look l ex.wr with
        | none=>simp only;exact ih
        | some b=>
          simp only
          by_cases hi:i∈r
          .rw [if_pos hi]
           have h2:=Zq i hi
           rcases h (eM _ hi) x dB hb with h3 | h3
           .omega
           .cases hw:look l e.wr with
            | none=>rfl
            | some b'=>
              have:=h3 ex hes (by rw [hw];simp)
              rw [hk] at this;cases this
          .rw [if_neg hi]
theorem Uq {T0:bB} {lab0 n:Nat} {es:List bK} {wi:List Nat} {S S':Nat->Bool} {i:Nat} {e:bK} (hi:i<n) (he:es[i]?=some e) (hS:S i=false) (Mz:∀ j,S' j=(S j||decide (j=i)))
 (hn:e.new.length<=8) (hw:e.wr≠[]->i∈wi) (hso:wi.Pairwise (· > ·)) (hnw:i∈wi->∀ s∈wi,S s=true->s<i\/∀ e',es[s]?=some e'->∀ l,look l e.wr≠none->look l e'.wr=none)
 (MT:∀ s∈wi,S s=true->∀ e',es[s]?=some e'->∀ l b,look l e'.wr=some b->l<lab0\/(lab0<=l/\S ((l-lab0)/8)=true)) :
 TS T0 lab0 n (fun j=>es[j]?) (yO es wi S') S'=eT (TS T0 lab0 n (fun j=>es[j]?) (yO es wi S) S) (lab0+8*i) e:=by
 funext l
 have fD:=Yu (T0:=T0) (lab0:=lab0) hi he hS Mz hn
 have e0:look l (yO es wi S')=match look l e.wr with
   | some b=>some b
   | none=>look l (yO es wi S):=by
  unfold yO
  rw [Eo he hS Mz hso (fun hi s hs wT=>(hnw hi s hs wT).imp id fun h e' gZ hl=>h e' gZ l hl)]
  by_cases hm:i∈wi
  .rw [if_pos hm]
  .rw [if_neg hm]
   have:e.wr=[]:=by
    cases hk:e.wr with
    | nil=>rfl
    | cons x y=>exact absurd (hw (by rw [hk];simp)) hm
   rw [this]
   rfl
 unfold eT bK.fB
 rw [cB]
 show (match look l (yO es wi S') with
  | some b=>some b
  | none=>zR T0 lab0 n (fun j=>es[j]?) S' l)=_
 rw [e0]
 cases hk:look l e.wr with
 | some b=>rfl
 | none=>
   simp only
   cases fL:look l (yO es wi S) with
   | none=>
     simp only
     rw [fD l]
     cases look l (fZ (lab0+8*i) e.new) with
     | some b=>rfl
     | none=>simp only [TS,fL]
   | some b=>
     simp only
     have MY:look l (fZ (lab0+8*i) e.new)=none:=by
      rw [eZ]
      split
      .rename_i NC
       obtain ⟨s,hs,e',gZ,hl⟩:=En fL
       rw [List.mem_filter] at hs
       rcases MT s hs.1 hs.2 e' gZ l b hl with h1 | ⟨h1,h2⟩
       .omega
       .apply List.getElem?_eq_none
        have:(l-lab0)/8≠i:=fun q=>by rw [q,hS] at h2;cases h2
        omega
      .rfl
     rw [MY]
     simp only [TS,fL]
section
variable {P:Program} {Γ:Env} {w0:World} {M:Nat->Prop} {N:Nat} {df:List Deferred} {g0:Nat->Option SV} {T0:bB} {lab0:Nat} {all:Array Oper} {es:List bK} {ms:List Nat} {wi:List Nat} {Vs:bA} {Q:Exit->Act->World->Prop}
theorem Wc.put {S S':Nat->Bool} {V V':bA} {a:Act} {w w':World} {i:Nat} {o:Oper} {e:bK} {x:Value} {m:Nat} (hd:xV Γ g0 T0 lab0 all.size all all.size es ms wi)
 (h:Wc P Γ w0 M N df g0 T0 lab0 all es wi Vs S V a w) (ho:all[i]?=some o) (he:es[i]?=some e) (hm:ms[i]?=some m) (hS:S i=false) (Mz:∀ j,S' j=(S j||decide (j=i)))
 (hN:∀ d,o.dst=some d->d<N) (qZ:∀ s,S s=true->∀ m,ms[s]?=some m->∀ k,m.testBit k=true->S k=true)
 (hV:V.ext (lab0+8*i) V') (hx:o.dst.isSome=true->den V' e.val=some x) (hT:aD w0 M V' (eT (TS T0 lab0 all.size (fun j=>es[j]?) (yO es wi S) S) (lab0+8*i) e) w') :
 Wc P Γ w0 M N df g0 T0 lab0 all es wi Vs S' V' (a.put o.dst x) w':=by
 have hi:i<all.size:=(Array.getElem?_eq_some_iff.1 ho).1
 have CV:=Uq (T0:=T0) (lab0:=lab0) (n:=all.size) (wi:=wi) hi he hS Mz (hd.new i e he) (hd.wrt i e he) hd.wso (fun hiw s hs wT=>by
  by_cases cL:s<i
  .exact .inl cL
  .right
   have Fh:=hd.pG s hs
   obtain ⟨Ut,Iw⟩:∃ q,ms[s]?=some q:=⟨_,List.getElem?_eq_getElem (by rw [hd.xZ];exact Fh)⟩
   by_cases Ux:s=i
   .subst Ux;rw [hS] at wT;cases wT
   .rcases hd.wnp s hs Ut Iw i o (by omega) ho with (h3 | h3) | ⟨mj,lb,e',k1,k2,h3,h4⟩
    .rw [hd.wim i hiw o ho] at h3;cases h3
    .have:=qZ s wT Ut Iw i h3
     rw [hS] at this;cases this
    .intro e2 he2 l hl
     rw [k2] at he2;cases he2
     rcases hd.wld i hiw o mj e ho k1 he with h5 | ⟨lb',h5,h6⟩
     .rw [GX h3] at h5;cases h5
     .rw [h3] at h5;cases h5
      by_cases NX:l=lb
      .subst NX;exact h4
      .exact absurd (h6 l NX) hl) (fun s hs wT e' gZ l b hl=>by
  have Fh:=hd.pG s hs
  obtain ⟨Ut,Iw⟩:∃ q,ms[s]?=some q:=⟨_,List.getElem?_eq_getElem (by rw [hd.xZ];exact Fh)⟩
  rcases hd.wlb s hs Ut Iw e' gZ l b hl with h1 | ⟨h1,h2⟩
  .exact .inl h1
  .exact .inr ⟨h1,qZ s wT Ut Iw _ h2⟩)
 refine ⟨fun t v hv=>?_,?_,?_,by rw [CV];exact hT,fun n l hl=>hV.1.1 _ _ (h.aR n l hl),fun l hl=>?_,fun j hj hSj=>?_,bA.le_trans h.le hV.1,fun l hl=>?_⟩
 .unfold gS at hv
  cases Ig:jO t all.toList 0 with
  | none=>
    rw [Ig] at hv
    have dK:∀ d,o.dst=some d->(Operand.tmp t) ≠ .tmp d:=by
     intro d yB hq
     cases hq
     have:=hd.dst i o t hi ho yB
     rw [this] at Ig;cases Ig
    rw [Act.eval_put dK]
    exact nV hV.1 (h.tmp t v (by unfold gS;rw [Ig];exact hv))
  | some j=>
    rw [Ig] at hv
    simp only at hv
    by_cases Im:j=i
    .subst Im
     have hSt:S' j=true:=by rw [Mz];simp
     rw [hSt] at hv
     simp only [he,gN,aU] at hv
     subst hv
     obtain ⟨o',_,jX,yB⟩:=mF Ig
     have:o'=o:=by
      have h1:all[j]?=some o':=by simpa using jX
      rw [ho] at h1;cases h1;rfl
     subst this
     have cL:t<a.tmps.size:=Nat.lt_of_lt_of_le (hN t yB) h.size
     rw [yB] at hx |-
     rw [hx rfl]
     simp [Act.eval,Act.put,Array.getD_eq_getD_getElem?,cL]
    .have hSj:S' j=S j:=by rw [Mz];simp [Im]
     rw [hSj] at hv
     have dK:∀ d,o.dst=some d->(Operand.tmp t) ≠ .tmp d:=by
      intro d yB hq
      cases hq
      have:=hd.dst i o t hi ho yB
      rw [this] at Ig;cases Ig;exact Im rfl
     rw [Act.eval_put dK]
     exact nV hV.1 (h.tmp t v (by unfold gS;rw [Ig];exact hv))
 .cases yB:o.dst with
  | none=>exact h.size
  | some d=>simpa [Act.put] using h.size
 .cases o.dst <;> exact h.defers
 .have:=hV.2 l (.inr (by omega))
  rw [this.1,this.2]
  exact h.top l hl
 .rw [Mz] at hSj
  simp only [Bool.or_eq_false_iff,decide_eq_false_iff_not] at hSj
  intro l h1 h2
  have:=hV.2 l (by
   rcases Nat.lt_or_ge j i with cL | NC
   .left;omega
   .right;omega)
  rw [this.1,this.2]
  exact h.fresh j hj hSj.1 l h1 h2
 .have:=hV.2 l (.inl (by omega))
  rw [this.1,this.2]
  exact h.low l hl
theorem aWa (aV:cA P Γ) (aY:cH P Γ) (hd:xV Γ g0 T0 lab0 all.size all all.size es ms wi) (hN:∀ (i:Nat) (o:Oper) (d:Tmp),all[i]?=some o->o.dst=some d->d<N)
 (rM:∀ e∈es,∀ q∈e.bO,q) (yC:∀ d v,g0 d=some v->d<N)
 (hQ:∀ (S:Nat->Bool) V a w,(∀ j,j<all.size->S j=true)->Wc P Γ w0 M N df g0 T0 lab0 all es wi Vs S V a w->Q .normal a w) :
 ∀ (fuel:Nat) (listed:Array Bool) (V:bA) (a:Act) (w:World),listed.size=all.size->((List.range all.size).filter fun j => !listed.getD j false).length<=fuel ->
   (∀ s,listed.getD s false=true->∀ m,ms[s]?=some m->∀ k,m.testBit k=true->listed.getD k false=true) ->
   Wc P Γ w0 M N df g0 T0 lab0 all es wi Vs (fun j=>listed.getD j false) V a w->wpAny P .any all Q fuel listed a w:=by
 have done:∀ (listed:Array Bool),listed.size=all.size->Region.ready .any all listed=[]->∀ j,j<all.size->listed.getD j false=true:=by
  intro listed hl hr j
  induction j using Nat.strongRecOn with
  | ind j ih=>
    intro hj
    cases hb:listed.getD j false with
    | true=>rfl
    | false=>
      exfalso
      obtain ⟨o,ho⟩:∃ o,all[j]?=some o:=⟨_,Array.getElem?_eq_getElem hj⟩
      obtain ⟨m,hm⟩:∃ m,ms[j]?=some m:=⟨_,List.getElem?_eq_getElem (by rw [hd.xZ];exact hj)⟩
      have:j∈Region.ready .any all listed:=by
       rw [mem_ready]
       refine ⟨?_,o,ho,fun e he hbd=>?_⟩
       .have cL:j<listed.size:=by omega
        simp [cL] at hb |-
        exact hb
       .have:=(hd.aft j m o hm ho e he hbd).1
        exact ih e.on this (by omega)
      rw [hr] at this
      cases this
 intro fuel
 induction fuel with
 | zero=>
   intro listed V a w hl hc qZ hi
   have jP:∀ j,j<all.size->listed.getD j false=true:=by
    intro j hj
    cases hb:listed.getD j false with
    | true=>rfl
    | false=>
      exfalso
      have:j∈(List.range all.size).filter fun j => !listed.getD j false:=by
       rw [List.mem_filter]
       exact ⟨List.mem_range.2 hj,by simp only [hb,Bool.not_false]⟩
      have h0:=List.eq_nil_of_length_eq_zero (Nat.le_zero.1 hc)
      rw [h0] at this
      cases this
   refine ⟨?_,hQ _ V a w jP hi⟩
   cases hr:Region.ready .any all listed with
   | nil=>rfl
   | cons x xs=>
     exfalso
     have hx:x∈Region.ready .any all listed:=by rw [hr];simp
     obtain ⟨h1,o,ho,_⟩:=mem_ready.1 hx
     have cL:=(Array.getElem?_eq_some_iff.1 ho).1
     have h2:=jP x cL
     have hls:x<listed.size:=by omega
     simp [hls] at h1 h2
     rw [h1] at h2;cases h2
 | succ fuel ih=>
   intro listed V a w hl hc qZ hi
   refine ⟨fun hr=>hQ _ V a w (done listed hl hr) hi,fun i hir=>?_⟩
   obtain ⟨h1,o,ho,aUa⟩:=mem_ready.1 hir
   have cL:=(Array.getElem?_eq_some_iff.1 ho).1
   have hls:i<listed.size:=by omega
   have hSi:listed.getD i false=false:=by simp [hls] at h1 |-;exact h1
   obtain ⟨m,hm⟩:∃ m,ms[i]?=some m:=⟨_,List.getElem?_eq_getElem (by rw [hd.xZ];exact cL)⟩
   obtain ⟨e,he⟩:∃ e,es[i]?=some e:=⟨_,List.getElem?_eq_getElem (by rw [hd.Ie];exact cL)⟩
   have hmS:∀ k,m.testBit k=true->listed.getD k false=true:=by
    intro k hk
    obtain ⟨ed,Zb,hb,fL⟩:=hd.aLi i m o hm ho k hk
    have hon:=aUa ed Zb hb
    rcases fL with rfl | ⟨me,Rj,fL⟩
    .exact hon
    .exact qZ ed.on hon me Rj k fL
   have oE:∀ j,(listed.setIfInBounds i true).getD j false=(listed.getD j false||decide (j=i)):=by
    intro j
    by_cases Im:j=i
    .subst Im
     have:(listed.setIfInBounds j true).getD j false=true:=by simp [hls]
     rw [this];simp
    .rw [getD_set_ne false (Ne.symm Im)];simp [Im]
   have aOp:∀ V' a' w',Wc P Γ w0 M N df g0 T0 lab0 all es wi Vs (fun j=>(listed.setIfInBounds i true).getD j false) V' a' w'->wpAny P .any all Q fuel (listed.setIfInBounds i true) a' w':=by
    intro V' a' w' fQ
    refine ih _ V' a' w' (by simpa using hl) ?_ (fun s hs m' kE k hk=>?_) fQ
    .have:=filter_lt (f:=fun j => !listed.getD j false) (f':=fun j => !(listed.setIfInBounds i true).getD j false) (i:=i) (List.range all.size) (List.mem_range.2 cL) (fun j hj=>by
      rw [oE] at hj
      simp only [Bool.not_eq_true',Bool.or_eq_false_iff] at hj
      simp only [hj.1,Bool.not_false]) (by simp only [hSi,Bool.not_false]) (by rw [oE];simp)
     omega
    .rw [oE] at hs |-
     simp only [Bool.or_eq_true,decide_eq_true_eq] at hs |-
     rcases hs with hs | rfl
     .exact .inl (qZ s hs m' kE k hk)
     .rw [hm] at kE;cases kE
      exact .inl (hmS k hk)
   obtain ⟨b0,nK⟩:=hd.eff i m o e hm ho he
   have aOo:∀ q∈e.bO,q:=rM e (List.mem_of_getElem? he)
   unfold Cx at nK
   split at nK
   case h_2=>cases nK
   rename_i e1 aOu
   simp only [aU] at nK
   obtain ⟨aTp,Uz,vJ,hv1⟩:(∀ q∈e1.bO,q)/\e.new=e1.new/\e.wr=e1.wr/\∀ V,den V e.val=den V e1.val:=by subst nK;exact Wh aOo
   have aTg:∀ T:bB,∀ l,eT T l e=eT T l e1:=fun T l=>by unfold eT bK.fB;rw [Uz,vJ]
   have hwf:∀ j,uM all i j=true->listed.getD j false=false:=by
    intro j hj
    cases hb:listed.getD j false with
    | false=>rfl
    | true=>
      exfalso
      unfold uM at hj
      split at hj
      case h_2=>cases hj
      rename_i oj hoj
      obtain ⟨ed,Zb,hq⟩:=List.any_eq_true.1 hj
      simp only [iJ] at hq
      have hjl:=(Array.getElem?_eq_some_iff.1 hoj).1
      obtain ⟨mj,hmj⟩:∃ m,ms[j]?=some m:=⟨_,List.getElem?_eq_getElem (by rw [hd.xZ];exact hjl)⟩
      have h3:=(hd.aft j mj oj hmj hoj ed (by simpa using Zb) hq.2).2
      rw [cM hq.1] at h3
      have:=qZ j hb mj hmj i h3
      rw [hSi] at this;cases this
   have aOs:∀ {t v},vO g0 all es i m t=some v->gS all.toList (fun j=>es[j]?) g0 (fun j=>listed.getD j false) (fun j => !listed.getD j false) t=some v:=fun hv=>aGt hmS hwf hv
   have htm:cG V (vO g0 all es i m) a:=fun t v hv=>hi.tmp t v (aOs hv)
   have aAr:∀ d v,vO g0 all es i m d=some v->d<a.tmps.size:=by
    intro d v hv
    refine Nat.lt_of_lt_of_le ?_ hi.size
    unfold vO gS at hv
    cases Ig:jO d all.toList 0 with
    | none=>rw [Ig] at hv;exact yC d v hv
    | some j=>
      obtain ⟨o',_,jX,yB⟩:=mF Ig
      exact hN j o' d (by simpa using jX) yB
   have zN:∀ {V' x w'},V.ext (lab0+8*i) V'->(o.dst.isSome=true->den V' e1.val=some x)->aD w0 M V' (eT (TS T0 lab0 all.size (fun j=>es[j]?) (yO es wi (fun j=>listed.getD j false)) (fun j=>listed.getD j false)) (lab0+8*i) e1) w' ->
    wpAny P .any all Q fuel (listed.setIfInBounds i true) (a.put o.dst x) w':=fun hV hx hT=>
    aOp _ _ _ (hi.put hd ho he hm hSi oE (fun d yB=>hN i o d ho yB) qZ hV (fun hs=>by rw [hv1];exact hx hs) (by rw [aTg];exact hT))
   unfold wpOp
   simp only [ho]
   have nK:=aOu
   unfold QE at nK
   split at nK
   .rename_i hw
    have hw:=oQ htm aAr hw
    rw [if_neg (by rw [hw];simp)]
    simp only [aU] at nK
    subst nK
    refine zN (V.cN _) (fun _=>rfl) ?_
    rw [kB _ _ rfl rfl]
    exact hi.fB
   .rename_i hw
    have hw:=oQ htm aAr hw
    rw [if_pos hw]
    left
    have sim:∀ {T':bB},(∀ l B,T' l=some B->TS T0 lab0 all.size (fun j=>es[j]?) (yO es wi (fun j=>listed.getD j false)) (fun j=>listed.getD j false) l=some B) ->
     zU Γ (vO g0 all es i m) T' (lab0+8*i) (lab0+8*all.size) none o=some e1 ->
     o.wp P a w (wpAny P .any all Q fuel (listed.setIfInBounds i true)) Q:=fun aO gZ=>
     Ky aV aY htm hi.aR aO hi.fB (hi.fresh i cL hSi) hi.top gZ aTp _ Q fun V' x w' hV hx hT=>zN hV (fun _=>hx) hT
    split at nK
    .exact sim (fun l B hB=>by cases hB) nK
    .rename_i aOj
     have late:∀ s∈wi,listed.getD s false=true->¬ s<i->∃ lb e',es[s]?=some e'/\Mq Γ (vO g0 all es i m) o=some lb/\look lb e'.wr=none:=by
      intro s hs wT Ux
      have Fh:=hd.pG s hs
      obtain ⟨m',kE⟩:∃ q,ms[s]?=some q:=⟨_,List.getElem?_eq_getElem (by rw [hd.xZ];exact Fh)⟩
      have dK:s≠i:=fun q=>by subst q;rw [hSi] at wT;cases wT
      rcases hd.wnp s hs m' kE i o (by omega) ho with (h3 | h3) | ⟨mj,lb,e',k1,k2,k3,k4⟩
      .rw [aOj] at h3;cases h3
      .have:=qZ s wT m' kE i h3
       rw [hSi] at this;cases this
      .rw [hm] at k1;cases k1
       exact ⟨lb,e',k2,k3,k4⟩
     split at nK
     .rename_i lb hlb
      split at nK
      case h_2=>cases nK
      rename_i Vq
      have Vq:=Hc Vq
      refine sim (fun l B hB=>?_) nK
      obtain ⟨rfl,hB⟩:=HD hB
      have aOi:look l (yO es wi (fun j=>listed.getD j false))=look l (iQ es ((pG i wi).filter fun s=>m.testBit s)):=by
       unfold yO
       have gen:∀ L:List Nat,(∀ s∈L,s∈wi)->look l (iQ es (L.filter fun j=>listed.getD j false))=look l (iQ es ((pG i L).filter fun s=>m.testBit s)):=by
        intro L
        induction L with
        | nil=>intro _;rfl
        | cons s r ih=>
          intro hL
          have ih:=ih (fun q hq=>hL q (eM _ hq))
          have hs:=hL s dB
          have Fh:=hd.pG s hs
          obtain ⟨es',PR⟩:∃ q,es[s]?=some q:=⟨_,List.getElem?_eq_getElem (by rw [hd.Ie];exact Fh)⟩
          have aJz:look l es'.wr=none->look l (iQ es (s::r.filter fun j=>listed.getD j false))=look l (iQ es (r.filter fun j=>listed.getD j false)):=by
           intro hn
           simp only [iQ,PR,cB,hn]
          by_cases Ux:s<i
          .have hb:Nat.blt s i=true:=by simpa [Nat.blt_eq] using Ux
           simp only [pG,hb]
           cases My:m.testBit s with
           | true=>
             have wT:=hmS s My
             rw [List.filter_cons,if_pos wT,List.filter_cons,if_pos My]
             simp only [iQ,PR,cB,ih]
           | false=>
             rw [List.filter_cons (p:=fun s=>m.testBit s),if_neg (by rw [My];simp),<- ih]
             cases wT:listed.getD s false with
             | false=>rw [List.filter_cons,if_neg (by rw [wT];simp)]
             | true=>
               rw [List.filter_cons,if_pos wT]
               rcases Vq s (by rw [mD,List.mem_filter];exact ⟨hs,hb⟩) with h4 | ⟨e',h4,h5⟩
               .rw [My] at h4;cases h4
               .rw [PR] at h4;cases h4;exact aJz h5
          .have hb:Nat.blt s i=false:=by
            cases hb:Nat.blt s i with
            | false=>rfl
            | true=>exact absurd (by simpa [Nat.blt_eq] using hb) Ux
           simp only [pG,hb]
           rw [<- ih]
           cases wT:listed.getD s false with
           | false=>rw [List.filter_cons,if_neg (by rw [wT];simp)]
           | true=>
             rw [List.filter_cons,if_pos wT]
             obtain ⟨lb',e',k2,k3,k4⟩:=late s hs wT Ux
             rw [hlb] at k3;cases k3
             rw [PR] at k2;cases k2
             exact aJz k4
       exact gen wi (fun s hs=>hs)
      have hB2:=Po (S':=fun j=>listed.getD j false) hmS hB
      unfold TS at hB2 |-
      rw [aOi];exact hB2
     .rename_i MZ
      split at nK
      case h_2=>cases nK
      rename_i ZF
      refine sim (fun l B hB=>?_) nK
      have hB2:=Po (S':=fun j=>listed.getD j false) hmS hB
      have Uw:iQ es (pG i wi)=yO es wi (fun j=>listed.getD j false):=by
       unfold yO
       rw [mD]
       congr 1
       refine List.filter_congr fun s hs=>?_
       by_cases Ux:s<i
       .have hb:Nat.blt s i=true:=by simpa [Nat.blt_eq] using Ux
        rw [hb]
        exact (hmS s (FN ZF s (by rw [mD,List.mem_filter];exact ⟨hs,hb⟩))).symm
       .have hb:Nat.blt s i=false:=by
         cases hb:Nat.blt s i with
         | false=>rfl
         | true=>exact absurd (by simpa [Nat.blt_eq] using hb) Ux
        rw [hb]
        cases wT:listed.getD s false with
        | false=>rfl
        | true=>
          obtain ⟨lb',e',k2,k3,k4⟩:=late s hs wT Ux
          rw [MZ] at k3;cases k3
      rw [<- Uw]
      exact hB2
   .cases nK
end
noncomputable def mS (F0 N lab0 nx:Nat):List Oper->List bK->Nat->St->Option St
 | [],_,_,s=>some s
 | o::r,e::es,i,s=>match s.step F0 N o.dst e (lab0+8*i) nx with
   | some s'=>mS F0 N lab0 nx r es (i+1) s'
   | none=>none
 | _::_,[],_,_=>none
noncomputable def Eb (Γ:Env) (B:bB) (F0 N:Nat) (ops:Array Oper) (s:St):Option St:=
 match Ea Γ s.g.get (s.T B) s.nx ops.size ops ops.toList 0 [] [] [] s.hs with
 | some (es,_,_,hs)=>match mS F0 N s.nx (s.nx+8*ops.size) ops.toList es 0 s with
   | some s'=>some { g:=s'.g,tb:=s'.tb,nx:=s'.nx,ws:=s'.ws,ob:=s'.ob,df:=s'.df,hs:=hs }
   | none=>none
 | none=>none
theorem Le {F0 N lab0 nx:Nat}:∀ {r:List Oper} {er:List bK} {i:Nat} {s s':St},mS F0 N lab0 nx r er i s=some s'->s'.df=s.df
 | [],er,i,s,s',h=>by simp only [mS,aU] at h;subst h;rfl
 | o::r,[],i,s,s',h=>by simp [mS] at h
 | o::r,e::er,i,s,s',h=>by
   simp only [mS] at h
   split at h
   .rename_i s1 h1;rw [Le h,St.Sv h1]
   .cases h
structure aDb (B:bB) (F0 N lab0 nx:Nat) (all:Array Oper) (es:List bK) (wi:List Nat) (s0:St) (i:Nat) (s:St):Prop where
 T:s.T B=TS (s0.T B) lab0 all.size (fun j=>es[j]?) (yO es wi (fun j=>decide (j<i))) (fun j=>decide (j<i))
 g:∀ t v,s.g.get t=some v->(∃ j e,jO t all.toList 0=some j/\j<i/\es[j]?=some e/\e.val=v)\/((∀ j,jO t all.toList 0=some j->i<=j)/\s0.g.get t=some v)
 keys:∀ t v,s.g.get t=some v->t<N
 hi:∀ l,nx<=l->s.T B l=none
 ch:∀ l,l<F0->l ∉ s.ws->s.tb.get l=none
 ob0:∀ q∈s0.ob,q∈s.ob
 ob:∀ j e,j<i->es[j]?=some e->∀ q∈e.bO,q∈s.ob
 dN:∀ j o d,j<i->all[j]?=some o->o.dst=some d->d<N
 nxe:(s.nx=s0.nx/\i=0)\/s.nx=nx
theorem Lc {Γ:Env} {B:bB} {F0 N lab0 nx:Nat} {all:Array Oper} {es:List bK} {ms:List Nat} {wi:List Nat} {s0:St} {g0:Nat->Option SV} (hd:xV Γ g0 (s0.T B) lab0 all.size all all.size es ms wi) (hnx:nx=lab0+8*all.size) :
 ∀ {r:List Oper} {er:List bK} {i:Nat} {s s':St},mS F0 N lab0 nx r er i s=some s'->(∀ k,r[k]?=all[i+k]?)->(∀ k,er[k]?=es[i+k]?)->i+r.length=all.size ->
   aDb B F0 N lab0 nx all es wi s0 i s->aDb B F0 N lab0 nx all es wi s0 all.size s'
 | [],er,i,s,s',h,hr,he,hl,hf=>by
   simp only [mS,aU] at h
   subst h
   have:i=all.size:=by simpa using hl
   rw [<- this];exact hf
 | o::r,[],i,s,s',h,hr,he,hl,hf=>by simp [mS] at h
 | o::r,e::er,i,s,s',h,hr,he,hl,hf=>by
   have ho:all[i]?=some o:=by have:=hr 0;simpa using this.symm
   have hee:es[i]?=some e:=by have:=he 0;simpa using this.symm
   have hi:i<all.size:=(Array.getElem?_eq_some_iff.1 ho).1
   have hr':∀ k,r[k]?=all[i+1+k]?:=fun k=>by
    have:=hr (k+1)
    rw [show i+1+k=i+(k+1) from by omega]
    simpa using this
   have gZ:∀ k,er[k]?=es[i+1+k]?:=fun k=>by
    have:=he (k+1)
    rw [show i+1+k=i+(k+1) from by omega]
    simpa using this
   simp only [mS] at h
   split at h
   case h_2=>cases h
   rename_i s1 h1
   obtain ⟨k1,k2,k3,k4,k5,k6,k7,k8,k9⟩:=St.dP B h1
   refine Lc hd hnx h hr' gZ (by simp at hl;omega) ?_
   have AP:∀ j,decide (j<i+1)=(decide (j<i)||decide (j=i)):=by
    intro j
    by_cases h1:j<i
    .simp [h1];omega
    .by_cases h2:j=i
     .simp [h2]
     .simp [h1,h2];omega
   have CV:=Uq (T0:=s0.T B) (lab0:=lab0) (n:=all.size) (wi:=wi) (S:=fun j=>decide (j<i)) (S':=fun j=>decide (j<i+1)) hi hee (by simp) AP (hd.new i e hee) (hd.wrt i e hee) hd.wso (fun _ s _ wT=>.inl (by simpa using wT)) (fun s hs wT e' gZ l b hlk=>by
    have Fh:=hd.pG s hs
    obtain ⟨Ut,Iw⟩:∃ q,ms[s]?=some q:=⟨_,List.getElem?_eq_getElem (by rw [hd.xZ];exact Fh)⟩
    rcases hd.wlb s hs Ut Iw e' gZ l b hlk with h1 | ⟨h1,h2⟩
    .exact .inl h1
    .have:=hd.lt s Ut Iw _ h2
     simp only [decide_eq_true_eq] at wT
     exact .inr ⟨h1,by simp only [decide_eq_true_eq];omega⟩)
   refine ⟨?_,fun t v hv=>?_,fun t v hv=>?_,fun l hl=>?_,fun l hl hw=>?_,fun q hq=>?_,fun j e' hj hje q hq=>?_,fun j o' d hj jX yB=>?_,.inr k2⟩
   .rw [k1,hf.T,CV]
   .rw [k6] at hv
    by_cases yB:o.dst=some t
    .rw [if_pos yB] at hv
     cases hv
     exact .inl ⟨i,e,hd.dst i o t hi ho yB,by omega,hee,rfl⟩
    .rw [if_neg yB] at hv
     rcases hf.g t v hv with ⟨j,e',h2,h3,h4,h5⟩ | ⟨h2,h3⟩
     .exact .inl ⟨j,e',h2,by omega,h4,h5⟩
     .refine .inr ⟨fun j hj=>?_,h3⟩
      have:=h2 j hj
      have dK:j≠i:=by
       intro q
       subst q
       obtain ⟨o',_,jX,aTo⟩:=mF hj
       have:o'=o:=by
        have h1:all[j]?=some o':=by simpa using jX
        rw [ho] at h1;cases h1;rfl
       subst this
       exact yB aTo
      omega
   .rw [k6] at hv
    by_cases yB:o.dst=some t
    .exact k7 t yB
    .rw [if_neg yB] at hv;exact hf.keys t v hv
   .rw [k1]
    unfold eT bK.fB
    rw [cB]
    cases hk:look l e.wr with
    | some b=>have:=k9 l b hk;omega
    | none=>
      have:look l (fZ (lab0+8*i) e.new)=none:=by
       rw [eZ]
       split
       .apply List.getElem?_eq_none;omega
       .rfl
      simp only [this]
      exact hf.hi l hl
   .exact k5 l hl hw (hf.ch l hl (fun q=>hw (k4 l q)))
   .rw [k3];exact List.mem_append_right _ (hf.ob0 q hq)
   .rw [k3]
    by_cases Im:j=i
    .subst Im;rw [hee] at hje;cases hje;exact List.mem_append_left _ hq
    .exact List.mem_append_right _ (hf.ob j e' (by omega) hje q hq)
   .by_cases Im:j=i
    .subst Im;rw [ho] at jX;cases jX;exact k7 d yB
    .exact hf.dN j o' d (by omega) jX yB
theorem Lm {P:Program} {Γ:Env} {w0:World} {M:Nat->Prop} {B:bB} {N F0:Nat} {V0:bA} (aV:cA P Γ) (aY:cH P Γ) (iS:P.follows .mixedOrders=true) {id:Nat} {ops:Array Oper} {Q:Exit->Act->World->Prop}
 {s s':St} {V:bA} {a:Act} {w:World} (h:Eb Γ B F0 N ops s=some s') (ho:∀ q∈s'.ob,q) (hi:Inv P Γ w0 M B N F0 V0 s V a w)
 (hQ:∀ V' a' w',Inv P Γ w0 M B N F0 V0 s' V' a' w'->Q .normal a' w'):(Code.region id ops true).wp P Q a w:=by
 unfold Eb at h
 split at h
 case h_2=>cases h
 rename_i es ms wi vM he
 split at h
 case h_2=>cases h
 rename_i s1 h1
 cases h
 have h:=h1
 have hd:xV Γ s.g.get (s.T B) s.nx ops.size ops ops.size es ms wi:=by
  have:=sI he (fun k=>by simp) xV.nil
  simpa using this
 have hF0:aDb B F0 N s.nx (s.nx+8*ops.size) ops es wi s 0 s:=by
  refine ⟨?_,fun t v hv=>.inr ⟨fun j _=>Nat.zero_le _,hv⟩,hi.keys,fun l hl=>hi.hi l (by omega),hi.ch,fun q hq=>hq,fun j e hj=>by omega,fun j o d hj=>by omega,.inl ⟨rfl,rfl⟩⟩
  funext l
  have hw:yO es wi (fun j=>decide (j<0))=[]:=by
   unfold yO
   rw [List.filter_eq_nil_iff.2 (fun s _=>by simp)]
   rfl
  simp only [TS,hw,look,zR]
  by_cases hl:s.nx<=l/\l<s.nx+8*ops.size
  .rw [Kv hl.1 hl.2]
   simp [hi.hi l hl.1]
  .rw [Eg hl]
 have hF:=Lc hd rfl h (fun k=>by simp) (fun k=>by simp) (by simp) hF0
 refine wp_region_any iS ?_
 refine aWa (M:=M) (w0:=w0) (N:=N) (df:=a.defers) (Vs:=V) aV aY hd (fun i o d fQ yB=>hF.dN i o d (Array.getElem?_eq_some_iff.1 fQ).1 fQ yB) (fun e hee q hq=>?_) hi.keys (fun S V' a' w' jP hr=>?_) ops.size _ V a _ (by simp) ?_ ?_ ?_
 .obtain ⟨j,hj,hje⟩:=List.getElem_of_mem hee
  have hjl:j<ops.size:=by rw [hd.Ie] at hj;exact hj
  exact ho q (hF.ob j e hjl (by rw [List.getElem?_eq_getElem hj,hje]) q hq)
 .refine hQ V' a' w' ⟨fun t v hv=>?_,hF.keys,hr.size,(by obtain ⟨xs,fP,mO⟩:=hi.defers;exact ⟨xs,by rw [Le h];exact cS hr.le fP,hr.defers.trans mO⟩),?_,hr.aR,?_,bA.le_trans hi.le hr.le,fun l hl=>?_,hF.ch,?_,fun l hl=>?_⟩
  .refine hr.tmp t v ?_
   unfold gS
   rcases hF.g t v hv with ⟨j,e,h2,h3,h4,h5⟩ | ⟨h2,h3⟩
   .rw [h2]
    simp only [jP j h3,h4,gN,h5]
   .cases Ig:jO t ops.toList 0 with
    | none=>exact h3
    | some j=>
      have:=h2 j Ig
      obtain ⟨o',_,jX,_⟩:=mF Ig
      have cL:=(List.getElem?_eq_some_iff.1 jX).1
      simp at cL
      omega
  .refine hr.fB.sub fun l b hl=>?_
   have hl:s1.T B l=some b:=hl
   rw [hF.T] at hl
   have hw:yO es wi (fun j=>decide (j<ops.size))=yO es wi S:=by
    unfold yO
    congr 1
    refine List.filter_congr fun q hq=>?_
    have:=hd.pG q hq
    rw [jP q this]
    simpa using this
   rw [hw] at hl
   refine Po (fun j hj=>?_) hl
   exact jP j (by simpa using hj)
  .refine hr.top.mono ?_
   rcases hF.nxe with ⟨h1,h2⟩ | h2
   .rw [h1,h2];exact dE _
   .rw [h2];exact dE _
  .have h1:=hr.low l (Nat.lt_of_lt_of_le hl hi.nx)
   rw [h1.1,h1.2]
   exact hi.low l hl
  .rcases hF.nxe with ⟨h1,_⟩ | h2
   .rw [h1];exact hi.nx
   .rw [h2];have:=hi.nx;omega
  .rcases hF.nxe with ⟨h1,h2⟩ | h2
   .exact hF.hi l (by rw [h1] at hl;rw [h2];exact hl)
   .exact hF.hi l (by rw [h2] at hl;exact hl)
 .have:=List.length_filter_le (fun j => !(Array.replicate ops.size false).getD j false) (List.range ops.size)
  simpa using this
 .intro q hq
  exfalso
  simp [Array.getElem?_replicate] at hq
  split at hq <;> simp at hq
 .have hS:∀ j,(Array.replicate ops.size false).getD j false=false:=by
   intro j
   simp [Array.getElem?_replicate]
   split <;> rfl
  refine ⟨fun t v hv=>?_,hi.size,rfl,?_,hi.aR,hi.top.mono (by omega),fun j _ _=>fun l h1 _=>hi.top l (by omega),bA.le_refl V,fun l _=>⟨rfl,rfl⟩⟩
  .unfold gS at hv
   cases Ig:jO t ops.toList 0 with
   | none=>rw [Ig] at hv;exact hi.tmp t v hv
   | some j=>rw [Ig] at hv;simp only [hS j,Bool.not_false] at hv;exact hi.tmp t v hv
  .have hT0:aD w0 M V (s.T B) { w with drawn:=w.drawn+1 }:=hi.fB.aPp rfl rfl rfl rfl
   refine hT0.sub fun l b hl=>?_
   have hw:yO es wi (fun j=>(Array.replicate ops.size false).getD j false)=[]:=by
    unfold yO
    rw [List.filter_eq_nil_iff.2 (fun s _=>by simp only [hS s];simp)]
    rfl
   simp only [TS,hw,look,zR] at hl
   split at hl
   .simp only [hS] at hl;cases hl
   .exact hl
inductive Ex where
 | normal
 | exit (id:Nat)
 | ret
def Ex.to:Ex->Exit
 | .normal=>.normal
 | .exit id=>.exit id
 | .ret=>.ret
noncomputable def Kf (Γ:Env) (B:bB) (F0 N:Nat) (rec:Code->St->Option (St × Ex)) (c:Code) (s:St):Option (St × Ex):=
 match c with
 | .skip=>some (s,.normal)
 | .label _=>some (s,.normal)
 | .region _ ops d=>match d with
   | true=>match Eb Γ B F0 N ops s with
     | some s'=>some (s',.normal)
     | none=>none
   | false=>match Fp Γ B F0 N ops ops.toList s with
     | some s'=>some (s',.normal)
     | none=>none
 | .seq x y=>match rec x s with
   | some (s',.normal)=>rec y s'
   | r=>r
 | .cond c x y=>match ev Γ s.g.get c with
   | some (.bool true true)=>rec x s
   | some (.bool true false)=>rec y s
   | some (.bool false b)=>match s.hs with
     | true::r=>rec x { s with ob:=(b=true)::s.ob,hs:=r }
     | false::r=>rec y { s with ob:=(b=false)::s.ob,hs:=r }
     | []=>none
   | _=>none
 | .block id c=>match rec c s with
   | some (s',.exit Ik)=>match Nat.beq Ik id with
     | true=>some (s',.normal)
     | false=>some (s',.exit Ik)
   | r=>r
 | .loop c=>match rec c s with
   | some (s',.normal)=>rec (.loop c) s'
   | r=>r
 | .exit id=>some (s,.exit id)
 | .ret=>some (s,.ret)
 | .scope c=>rec c s
 | _=>none
noncomputable def exec (Γ:Env) (B:bB) (F0 N:Nat) (n:Nat):Code->St->Option (St × Ex):=
 Nat.rec (fun _ _=>none) (fun _ ih=>Kf Γ B F0 N ih) n
theorem wJ {Γ:Env} {B:bB} {F0 N:Nat} (c:Code) (s:St):exec Γ B F0 N 0 c s=none:=rfl
theorem wK {Γ:Env} {B:bB} {F0 N:Nat} (n:Nat) (c:Code) (s:St):exec Γ B F0 N (n+1) c s=Kf Γ B F0 N (exec Γ B F0 N n) c s:=rfl
theorem Ld {F0 N lab0 nx:Nat}:∀ {r:List Oper} {er:List bK} {i:Nat} {s s':St},mS F0 N lab0 nx r er i s=some s'->∀ q∈s.ob,q∈s'.ob
 | [],er,i,s,s',h,q,hq=>by simp only [mS,aU] at h;subst h;exact hq
 | o::r,[],i,s,s',h,q,hq=>by simp [mS] at h
 | o::r,e::er,i,s,s',h,q,hq=>by
   simp only [mS] at h
   split at h
   .rename_i s1 h1
    have:=(St.dP (fun _=>none) h1).2.2.1
    exact Ld h q (by rw [this];exact List.mem_append_right _ hq)
   .cases h
theorem Ln {Γ:Env} {B:bB} {F0 N:Nat} {ops:Array Oper} {s s':St} (h:Eb Γ B F0 N ops s=some s'):∀ q∈s.ob,q∈s'.ob:=by
 unfold Eb at h
 split at h
 .split at h
  .rename_i s1 h1
   cases h
   exact Ld (s':=s1) h1
  .cases h
 .cases h
theorem yK {Γ:Env} {B:bB} {F0 N:Nat}:∀ {n:Nat} {c:Code} {s s':St} {x:Ex},exec Γ B F0 N n c s=some (s',x)->∀ q∈s.ob,q∈s'.ob:=by
 intro n
 induction n with
 | zero=>intro c s s' x h;rw [wJ] at h;cases h
 | succ n ih=>
   intro c s s' x h q hq
   rw [wK] at h
   unfold Kf at h
   split at h
   .cases h;exact hq
   .cases h;exact hq
   .split at h
    .split at h
     .rename_i s1 h1;cases h;exact Ln h1 q hq
     .cases h
    .split at h
     .rename_i s1 h1;cases h;exact tN h1 q hq
     .cases h
   .split at h
    .rename_i s1 h1;exact ih h q (ih h1 q hq)
    .exact ih h q hq
   .split at h
    .exact ih h q hq
    .exact ih h q hq
    .split at h
     .exact ih h q (eM _ hq)
     .exact ih h q (eM _ hq)
     .cases h
    .cases h
   .split at h
    .rename_i s1 Ik h1
     split at h <;> (cases h;exact ih h1 q hq)
    .exact ih h q hq
   .split at h
    .rename_i s1 h1;exact ih h q (ih h1 q hq)
    .exact ih h q hq
   .cases h;exact hq
   .cases h;exact hq
   .exact ih h q hq
   .cases h
theorem XB {P:Program} {Γ:Env} {w0:World} {M:Nat->Prop} {B:bB} {N F0:Nat} {V0:bA} (aV:cA P Γ) (aY:cH P Γ) (iS:P.follows .mixedOrders=true) :
 ∀ (n:Nat),(∀ {c:Code} {s s':St} {x:Ex} {V:bA} {a:Act} {w:World} {Q:Exit->Act->World->Prop},exec Γ B F0 N n c s=some (s',x)->(∀ q∈s'.ob,q)->Inv P Γ w0 M B N F0 V0 s V a w ->
   (∀ V' a' w',Inv P Γ w0 M B N F0 V0 s' V' a' w'->Q x.to a' w')->c.wp P Q a w) /\
 (∀ {c:Code} {s s':St} {x:Ex} {V:bA} {a:Act} {w:World} {Q:Exit->Act->World->Prop},exec Γ B F0 N n (.loop c) s=some (s',x)->(∀ q∈s'.ob,q)->Inv P Γ w0 M B N F0 V0 s V a w ->
  (∀ V' a' w',Inv P Γ w0 M B N F0 V0 s' V' a' w'->Q x.to a' w')->Code.rounds P c Q n a w):=by
 intro n
 induction n with
 | zero=>exact ⟨fun h=>(by rw [wJ] at h;cases h),fun h=>(by rw [wJ] at h;cases h)⟩
 | succ n ih=>
   obtain ⟨ih,il⟩:=ih
   have loop:∀ {c:Code} {s s':St} {x:Ex} {V:bA} {a:Act} {w:World} {Q:Exit->Act->World->Prop},exec Γ B F0 N (n+1) (.loop c) s=some (s',x)->(∀ q∈s'.ob,q)->Inv P Γ w0 M B N F0 V0 s V a w ->
    (∀ V' a' w',Inv P Γ w0 M B N F0 V0 s' V' a' w'->Q x.to a' w')->Code.rounds P c Q (n+1) a w:=by
    intro c s s' x V a w Q h ho hi hQ
    rw [wK] at h
    simp only [Kf] at h
    rw [rounds_succ]
    split at h
    .rename_i s1 h1
     exact ih h1 (fun q hq=>ho q (yK h q hq)) hi fun V' a' w' fQ=>il h ho fQ hQ
    .rename_i dK
     refine ih h ho hi fun V' a' w' fQ=>?_
     have:=hQ V' a' w' fQ
     cases x with
     | normal=>exact absurd h (fun q=>dK _ q)
     | exit id=>exact this
     | ret=>exact this
   refine ⟨?_,loop⟩
   intro c s s' x V a w Q h ho hi hQ
   have h0:=h
   rw [wK] at h
   unfold Kf at h
   split at h
   .cases h;exact wp_skip (hQ V a w hi)
   .cases h;exact wp_label (hQ V a w hi)
   .split at h
    .split at h
     .rename_i s1 h1;cases h;exact Lm aV aY iS h1 ho hi hQ
     .cases h
    .split at h
     .rename_i s1 h1;cases h;exact wp_region_list (tM aV aY h1 ho hi hQ)
     .cases h
   .refine wp_seq ?_
    split at h
    .rename_i s1 h1
     exact ih h1 (fun q hq=>ho q (yK h q hq)) hi fun V' a' w' fQ=>ih h ho fQ hQ
    .rename_i dK
     refine ih h ho hi fun V' a' w' fQ=>?_
     have:=hQ V' a' w' fQ
     cases x with
     | normal=>exact absurd h (fun q=>dK _ q)
     | exit id=>exact this
     | ret=>exact this
   .split at h
    .rename_i hc
     have hc:=bH hi.tmp hi.aR hc
     simp only [den,aU] at hc
     exact wp_cond_true hc.symm (ih h ho hi hQ)
    .rename_i hc
     have hc:=bH hi.tmp hi.aR hc
     simp only [den,aU] at hc
     exact wp_cond_false hc.symm (ih h ho hi hQ)
    .rename_i b hc
     have hc:=bH hi.tmp hi.aR hc
     simp only [den,aU] at hc
     split at h
     .have hb:b=true:=ho _ (yK h _ dB)
      rw [hb] at hc
      exact wp_cond_true hc.symm (ih h ho ⟨hi.tmp,hi.keys,hi.size,hi.defers,hi.fB,hi.aR,hi.top,hi.le,hi.low,hi.ch,hi.nx,hi.hi⟩ hQ)
     .have hb:b=false:=ho _ (yK h _ dB)
      rw [hb] at hc
      exact wp_cond_false hc.symm (ih h ho ⟨hi.tmp,hi.keys,hi.size,hi.defers,hi.fB,hi.aR,hi.top,hi.le,hi.low,hi.ch,hi.nx,hi.hi⟩ hQ)
     .cases h
    .cases h
   .refine wp_block ?_
    split at h
    .rename_i bid _ _ s1 Ik h1
     split at h
     .rename_i hb
      cases h
      refine ih h1 ho hi fun V' a' w' fQ=>?_
      show (if Ik=bid then Q .normal a' w' else Q (.exit Ik) a' w')
      rw [if_pos (cM hb)]
      exact hQ V' a' w' fQ
     .rename_i hb
      cases h
      refine ih h1 ho hi fun V' a' w' fQ=>?_
      show (if Ik=bid then Q .normal a' w' else Q (.exit Ik) a' w')
      rw [if_neg (beq_false hb)]
      exact hQ V' a' w' fQ
    .rename_i dK
     refine ih h ho hi fun V' a' w' fQ=>?_
     have:=hQ V' a' w' fQ
     cases x with
     | normal=>exact this
     | exit id=>exact absurd h (fun q=>dK _ _ q)
     | ret=>exact this
   .exact wp_loop_rounds (n+1) (loop h0 ho hi hQ)
   .cases h;exact wp_exit (hQ V a w hi)
   .cases h;exact wp_ret (hQ V a w hi)
   .refine wp_scope_straight (ih h ho hi fun V' a' w' fQ=>?_)
    have:=hQ V' a' w' fQ
    cases x <;> exact this
   .cases h
mutual
def yR (ρ : Nat->Option Nat):SV->Option SV
 | .int s k n=>some (.int s k n)
 | .bool s b=>some (.bool s b)
 | .ptr l s off=>match ρ l with
   | some l=>some (.ptr l s off)
   | none=>none
 | .aH l s off len cap=>match ρ l with
   | some l=>some (.aH l s off len cap)
   | none=>none
 | .agg vs=>match zH ρ vs with
   | some vs=>some (.agg vs)
   | none=>none
 | .eH vs=>match zH ρ vs with
   | some vs=>some (.eH vs)
   | none=>none
 | .fn f xs ys=>match zH ρ xs,zH ρ ys with
   | some xs,some ys=>some (.fn f xs ys)
   | _,_=>none
 | .sO t v=>match yR ρ v with
   | some v=>some (.sO t v)
   | none=>none
 | .raw v=>some (.raw v)
 | .ai k xs=>some (.ai k xs)
 | .buf l=>match ρ l with
   | some l=>some (.buf l)
   | none=>none
 | .iU l off=>match ρ l with
   | some l=>some (.iU l off)
   | none=>none
 | .lW l lo hi=>match ρ l with
   | some l=>some (.lW l lo hi)
   | none=>none
 | .gY l n=>match ρ l with
   | some l=>some (.gY l n)
   | none=>none
 | .dG l off len lo=>match ρ l with
   | some l=>some (.dG l off len lo)
   | none=>none
 | .Re l n cap sz j le=>match ρ l,ρ le with
   | some l,some le=>some (.Re l n cap sz j le)
   | _,_=>none
def zH (ρ : Nat->Option Nat):List SV->Option (List SV)
 | []=>some []
 | v::r=>match yR ρ v,zH ρ r with
   | some v,some r=>some (v::r)
   | _,_=>none
end
def Ah (ρ : Nat->Option Nat) (V V':bA):Prop:=∀ l l',ρ l=some l'->(∀ p,V.β l=some p->V'.β l'=some p)/\(∀ v,V.σ l=some v->V'.σ l'=some v)
mutual
theorem Am {ρ : Nat->Option Nat} {V V':bA} (h:Ah ρ V V'):∀ {v v':SV} {x:Value},yR ρ v=some v'->den V v=some x->den V' v'=some x
 | .int ..,v',x,hr,hd=>by simp only [yR,aU] at hr;subst hr;exact hd
 | .bool ..,v',x,hr,hd=>by simp only [yR,aU] at hr;subst hr;exact hd
 | .ai ..,v',x,hr,hd=>by simp only [yR,aU] at hr;subst hr;exact hd
 | .ptr l s off,v',x,hr,hd=>by
   simp only [yR] at hr
   split at hr
   .rename_i l' hl
    cases hr
    simp only [den,dF] at hd |-
    obtain ⟨p,hp,rfl⟩:=hd
    exact ⟨p,(h l l' hl).1 p hp,rfl⟩
   .cases hr
 | .aH l s off len cap,v',x,hr,hd=>by
   simp only [yR] at hr
   split at hr
   .rename_i l' hl
    cases hr
    simp only [den,dF] at hd |-
    obtain ⟨p,hp,rfl⟩:=hd
    exact ⟨p,(h l l' hl).1 p hp,rfl⟩
   .cases hr
 | .agg vs,v',x,hr,hd=>by
   simp only [yR] at hr
   split at hr
   .rename_i Ib hl
    cases hr
    simp only [den,dF] at hd |-
    obtain ⟨p,hp,rfl⟩:=hd
    exact ⟨p,mT h hl hp,rfl⟩
   .cases hr
 | .eH vs,v',x,hr,hd=>by
   simp only [yR] at hr
   split at hr
   .rename_i Ib hl
    cases hr
    simp only [den,dF] at hd |-
    obtain ⟨p,hp,rfl⟩:=hd
    exact ⟨p,mT h hl hp,rfl⟩
   .cases hr
 | .fn f xs ys,v',x,hr,hd=>by
   simp only [yR] at hr
   split at hr
   .rename_i iF ys' h1 h2
    cases hr
    simp only [den,dF,gO] at hd |-
    obtain ⟨p,hp,q,hq,rfl⟩:=hd
    exact ⟨p,mT h h1 hp,q,mT h h2 hq,rfl⟩
   .cases hr
 | .sO t v,v',x,hr,hd=>by
   simp only [yR] at hr
   split at hr
   .rename_i u hl
    cases hr
    simp only [den,dF] at hd |-
    obtain ⟨p,hp,rfl⟩:=hd
    exact ⟨p,Am h hl hp,rfl⟩
   .cases hr
 | .raw v,v',x,hr,hd=>by simp only [yR,aU] at hr;subst hr;exact hd
 | .Re l n cap sz j le,v',x,hr,hd=>by
   simp only [yR] at hr
   split at hr
   .rename_i l1 l2 NB vN
    cases hr
    simp only [den,gO] at hd |-
    obtain ⟨p,hp,q,hq,e⟩:=hd
    exact ⟨p,(h l l1 NB).1 p hp,q,(h le l2 vN).1 q hq,e⟩
   .cases hr
 | .buf l,v',x,hr,hd=>by
   simp only [yR] at hr
   split at hr
   .rename_i l' hl;cases hr;simp only [den] at hd |-;exact (h l l' hl).2 x hd
   .cases hr
 | .iU l off,v',x,hr,hd=>by
   simp only [yR] at hr
   split at hr
   .rename_i l' hl
    cases hr
    simp only [den] at hd |-
    split at hd
    .rename_i hs;rw [(h l l' hl).2 _ hs];exact hd
    .cases hd
   .cases hr
 | .lW l lo hi,v',x,hr,hd=>by
   simp only [yR] at hr
   split at hr
   .rename_i l' hl
    cases hr
    simp only [den] at hd |-
    split at hd
    .rename_i hs;rw [(h l l' hl).2 _ hs];exact hd
    .cases hd
   .cases hr
 | .gY l n,v',x,hr,hd=>by
   simp only [yR] at hr
   split at hr
   .rename_i l' hl
    cases hr
    simp only [den,gO] at hd |-
    obtain ⟨v,hv,hx⟩:=hd
    exact ⟨v,(h l l' hl).2 _ hv,hx⟩
   .cases hr
 | .dG l off len lo,v',x,hr,hd=>by
   simp only [yR] at hr
   split at hr
   .rename_i l' hl
    cases hr
    simp only [den,dF,gO] at hd |-
    obtain ⟨p,hp,c,hc,rfl⟩:=hd
    refine ⟨p,(h l l' hl).1 p hp,c,?_,rfl⟩
    cases hs:V.σ l with
    | none=>rw [hs] at hc;cases hc
    | some v=>rw [(h l l' hl).2 v hs,<- hs];exact hc
   .cases hr
theorem mT {ρ : Nat->Option Nat} {V V':bA} (h:Ah ρ V V'):∀ {vs Ib:List SV} {xs:List Value},zH ρ vs=some Ib->aI V vs=some xs->aI V' Ib=some xs
 | [],Ib,xs,hr,hd=>by simp only [zH,aU] at hr;subst hr;simpa [aI] using hd
 | v::r,Ib,xs,hr,hd=>by
   simp only [zH] at hr
   split at hr
   .rename_i v' r' h1 h2
    cases hr
    simp only [aI,dF,gO] at hd |-
    obtain ⟨x,hx,ys,hy,rfl⟩:=hd
    exact ⟨x,Am h h1 hx,ys,mT h h2 hy,rfl⟩
   .cases hr
end
def xN (ρ : Nat->Option Nat):SB->Option SB
 | .own cs ty=>match zH ρ cs with
   | some cs=>some (.own cs ty)
   | none=>none
 | .row sz cs ty=>match zH ρ cs with
   | some cs=>some (.row sz cs ty)
   | none=>none
 | .ints k xs ty=>some (.ints k xs ty)
 | .dC k xs ty=>some (.dC k xs ty)
 | .fM sz n ty=>some (.fM sz n ty)
 | .eJ xs ty=>some (.eJ xs ty)
 | .eK vs ty=>some (.eK vs ty)
 | .gone=>some .gone
 | _=>none
theorem pZ {ρ : Nat->Option Nat} {V V':bA} (h:Ah ρ V V') {w:World} {l l':Nat} {B B':SB} (hl : ρ l=some l') (hr:xN ρ B=some B') (nC:okB V w l B) :
 okB V' w l' B'/\(∀ n,B'.aT V' l'=some n->B.aT V l=some n)/\(∀ n,B.aT V l=some n->B'.aT V' l'=some n)/\B'.owned=B.owned:=by
 obtain ⟨h1,h2⟩:=h l l' hl
 obtain ⟨cs,hc,hk⟩:=nC
 cases B with
 | own cells ty=>
   simp only [xN] at hr
   split at hr
   .rename_i cs' nI
    cases hr
    obtain ⟨b,hb,hh⟩:=hk
    have iG:=h1 _ hb
    exact ⟨⟨cs,mT h nI hc,b,iG,hh⟩,fun n hn=>by simpa [SB.aT,hb,iG] using hn,fun n hn=>by simpa [SB.aT,hb,iG] using hn,rfl⟩
   .cases hr
 | row sz cells ty=>
   simp only [xN] at hr
   split at hr
   .rename_i cs' nI
    cases hr
    obtain ⟨b,cap,cur,hb,hσ,r⟩:=hk
    have iG:=h1 _ hb
    exact ⟨⟨cs,mT h nI hc,b,cap,cur,iG,h2 _ hσ,r⟩,fun n hn=>by simpa [SB.aT,hb,iG] using hn,fun n hn=>by simpa [SB.aT,hb,iG] using hn,rfl⟩
   .cases hr
 | ints k xs ty=>
   cases hr
   obtain ⟨b,hb,hh⟩:=hk
   have iG:=h1 _ hb
   exact ⟨⟨cs,hc,b,iG,hh⟩,fun n hn=>by simpa [SB.aT,hb,iG] using hn,fun n hn=>by simpa [SB.aT,hb,iG] using hn,rfl⟩
 | eK vs ty=>
   cases hr
   obtain ⟨b,hb,hh⟩:=hk
   have iG:=h1 _ hb
   exact ⟨⟨cs,hc,b,iG,hh⟩,fun n hn=>by simpa [SB.aT,hb,iG] using hn,fun n hn=>by simpa [SB.aT,hb,iG] using hn,rfl⟩
 | dC k xs ty=>
   cases hr
   obtain ⟨v,hσ,hh⟩:=hk
   have gE:=h2 _ hσ
   exact ⟨⟨cs,hc,v,gE,hh⟩,fun n hn=>by simpa [SB.aT,hσ,gE] using hn,fun n hn=>by simpa [SB.aT,hσ,gE] using hn,rfl⟩
 | fM sz n ty=>
   cases hr
   obtain ⟨v,us,hσ,hh⟩:=hk
   have gE:=h2 _ hσ
   exact ⟨⟨cs,hc,v,us,gE,hh⟩,fun n hn=>by simpa [SB.aT,hσ,gE] using hn,fun n hn=>by simpa [SB.aT,hσ,gE] using hn,rfl⟩
 | fO cells=>cases hr
 | nH k xs=>cases hr
 | iV k xs=>cases hr
 | qK xs=>cases hr
 | eJ xs ty=>
   cases hr
   obtain ⟨v,hσ,hh⟩:=hk
   have gE:=h2 _ hσ
   exact ⟨⟨cs,hc,v,gE,hh⟩,fun n hn=>by simpa [SB.aT,hσ,gE] using hn,fun n hn=>by simpa [SB.aT,hσ,gE] using hn,rfl⟩
 | gone=>
   cases hr
   exact ⟨⟨[],rfl,trivial⟩,fun n hn=>by simp [SB.aT] at hn,fun n hn=>by simp [SB.aT] at hn,rfl⟩
theorem uP {ρ : Nat->Option Nat} {B B':SB} (h:xN ρ B=some B'):B'.owned=true\/B' = .gone:=by
 cases B <;> simp only [xN] at h <;> (try split at h) <;> first | (cases h;done) | (cases h;first | exact .inl rfl | exact .inr rfl)
def jH (V:bA) (T:bB) (n:Nat):Prop:=∃ l B,T l=some B/\B.owned=true/\B.aT V l=some n
theorem aD.part {w0 w:World} {M:Nat->Prop} {V:bA} {T T2:bB} (h:aD w0 M V T2 w) (aO:∀ l B,T l=some B->T2 l=some B):aD w (jH V T) V T w:=
 ⟨fun l B hl=>h.ok l B (aO l B hl),fun l B l' B' n dK hl sV=>h.jK l B l' B' n dK (aO l B hl) (aO l' B' sV),fun l B _ hl ho hb=>.inr ⟨l,B,hl,ho,hb⟩,gI.refl w _⟩
theorem aD.called {w0 w w':World} {M:Nat->Prop} {V V1 V2:bA} {T T2 Tf T':bB} (h:aD w0 M V T2 w) (aO:∀ l B,T l=some B->T2 l=some B)
 (hf:aD w (jH V T) V1 Tf w') (hV:V.le V2) (src:Nat->Option Nat)
 (pH:∀ l B,T' l=some B->(∃ k,src l=some k/\∃ C,Tf k=some C/\okB V2 w' l B/\(∀ n,B.aT V2 l=some n->C.aT V1 k=some n)/\B.owned=C.owned/\(B.owned=true\/B = .gone\/T2 l=some B))\/(src l=none/\T l=none/\T2 l=some B))
 (aTu:∀ l l' k,src l=some k->src l'=some k->l=l'):aD w0 M V2 T' w':=by
 have fD:∀ l B n,T2 l=some B->B.aT V2 l=some n->B.aT V l=some n:=fun l B n hl hb=>by rwa [(h.ok l B hl).sD hV] at hb
 have MY:∀ l B n,T l=none->T2 l=some B->B.aT V l=some n->¬ jH V T n:=by
  rintro l B n h1 h2 h3 ⟨l1,B1,h4,h5,h6⟩
  have dK:l1≠l:=fun e=>by subst e;rw [h1] at h4;cases h4
  exact h.jK l1 B1 l B n dK (aO l1 B1 h4) h2 h5 h6 h3
 have Vq:∀ l B n,T l=none->T2 l=some B->B.aT V l=some n->∀ k C,Tf k=some C->C.owned=true->C.aT V1 k≠some n:=by
  intro l B n h1 h2 h3 k C hk ho hb
  have cL:=(h.ok l B h2).lt h3
  rcases hf.perm k C n hk ho hb with NC | hm
  .omega
  .exact MY l B n h1 h2 h3 hm
 refine ⟨fun l B hl=>?_,fun l B l' B' n dK hl sV ho hb iG=>?_,fun l B n hl ho hb=>?_,?_⟩
 .rcases pH l B hl with ⟨k,_,C,_,nC,_⟩ | ⟨_,h1,h2⟩
  .exact nC
  .refine (h.ok l B h2).pN hV hf.frame.size fun n hn=>?_
   exact hf.frame.block n ((h.ok l B h2).lt hn) (MY l B n h1 h2 hn)
 .rcases pH l B hl with ⟨k,hk,C,hC,_,Ih,hoC,fF⟩ | ⟨hk,h1,h2⟩ <;> rcases pH l' B' sV with ⟨k',gL,C',hC',_,Vt,aTr,CX⟩ | ⟨gL,Na,Ze⟩
  .have yS:k≠k':=fun e=>dK (aTu l l' k hk (e ▸ gL))
   exact hf.jK k C k' C' n yS hC hC' (hoC ▸ ho) (Ih n hb) (Vt n iG)
  .exact Vq l' B' n Na Ze (fD l' B' n Ze iG) k C hC (hoC ▸ ho) (Ih n hb)
  .rcases CX with CX | rfl | aKt
   .exact Vq l B n h1 h2 (fD l B n h2 hb) k' C' hC' (aTr ▸ CX) (Vt n iG)
   .simp [SB.aT] at iG
   .exact h.jK l B l' B' n dK h2 aKt ho (fD l B n h2 hb) (fD l' B' n aKt iG)
  .exact h.jK l B l' B' n dK h2 Ze ho (fD l B n h2 hb) (fD l' B' n Ze iG)
 .rcases pH l B hl with ⟨k,hk,C,hC,_,Ih,hoC,fF⟩ | ⟨hk,h1,h2⟩
  .rcases hf.perm k C n hC (hoC ▸ ho) (Ih n hb) with NC | ⟨l1,B1,h4,h5,h6⟩
   .have:=h.frame.size;left;omega
   .exact h.perm l1 B1 n (aO l1 B1 h4) h5 h6
  .exact h.perm l B n h2 ho (fD l B n h2 hb)
 .refine h.frame.trans hf.frame fun n hn ⟨l1,B1,h4,h5,h6⟩=>?_
  rcases h.perm l1 B1 n (aO l1 B1 h4) h5 h6 with NC | hm
  .omega
  .exact hm
def bI (F:Nat) (T:bB):bB:=fun l=>match Nat.blt l F with
 | true=>T l
 | false=>none
theorem kD {F:Nat} {T:bB} {l:Nat} {B:SB} (h:bI F T l=some B):l<F/\T l=some B:=by
 unfold bI at h
 split at h
 .rename_i hb;exact ⟨by simpa [Nat.blt_eq] using hb,h⟩
 .cases h
noncomputable def Aa:List SV->Nat->Tr SV->Option (Tr SV)
 | [],_,t=>some t
 | v::r,i,t=>match Tr.put v 64 t i with
   | some t=>Aa r (i+1) t
   | none=>none
theorem wI:∀ {vs:List SV} {i:Nat} {t t':Tr SV},Aa vs i t=some t'->∀ m,t'.get m=if i<=m/\m<i+vs.length then vs[m-i]? else t.get m
 | [],i,t,t',h,m=>by
   simp only [Aa,aU] at h
   subst h
   rw [if_neg (by simp)]
 | v::r,i,t,t',h,m=>by
   simp only [Aa] at h
   split at h
   .rename_i t1 h1
    rw [wI h m]
    by_cases e:m=i
    .subst e
     rw [if_neg (by omega),Tr.gG _ _ _ _ _ h1,if_pos rfl,if_pos (by simp)]
     simp
    .by_cases e2:i+1<=m/\m<i+1+r.length
     .rw [if_pos e2,if_pos (by simp;omega),show m-i=(m-(i+1))+1 from by omega]
      simp
     .rw [if_neg e2,Tr.gG _ _ _ _ _ h1,if_neg e,if_neg (by simp;omega)]
   .cases h
mutual
def fE:SV->List Nat
 | .ptr l _ _=>[l]
 | .aH l _ _ _ _=>[l]
 | .agg vs=>zZ vs
 | .eH vs=>zZ vs
 | .fn _ xs ys=>zZ xs++zZ ys
 | .sO _ v=>fE v
 | .buf l=>[l]
 | .iU l _=>[l]
 | .lW l _ _=>[l]
 | .gY l _=>[l]
 | .Re l _ _ _ _ le=>[l,le]
 | .dG l _ _ _=>[l]
 | _=>[]
def zZ:List SV->List Nat
 | []=>[]
 | v::r=>fE v++zZ r
end
def CT:SB->List Nat
 | .own cs _=>zZ cs
 | .row _ cs _=>zZ cs
 | _=>[]
noncomputable def reach (F:Nat) (tb:Tr SB):Nat->List Nat->List Nat->List Nat
 | 0,_,acc=>acc
 | _+1,[],acc=>acc
 | f+1,l::r,acc=>match Nat.blt l F||acc.elem l with
   | true=>reach F tb f r acc
   | false=>match tb.get l with
     | some B=>reach F tb f (CT B++r) (acc++[l])
     | none=>reach F tb f r acc
def Cs (l:Nat):List Nat->Nat->Option Nat
 | [],_=>none
 | k::r,i=>match Nat.beq k l with
   | true=>some i
   | false=>Cs l r (i+1)
theorem tR {l:Nat}:∀ {ls:List Nat} {i j:Nat},Cs l ls i=some j->i<=j/\ls[j-i]?=some l
 | [],i,j,h=>by cases h
 | k::r,i,j,h=>by
   simp only [Cs] at h
   split at h
   .rename_i hb
    cases h
    have:=cM hb
    subst this
    simp
   .obtain ⟨h1,h2⟩:=tR h
    refine ⟨by omega,?_⟩
    rw [show j-i=(j-(i+1))+1 from by omega]
    simpa using h2
def Dr:List Nat->Bool
 | []=>true
 | k::r=>match r.elem k with
   | true=>false
   | false=>Dr r
theorem uR:∀ {ls:List Nat},Dr ls=true->∀ {i j k:Nat},ls[i]?=some k->ls[j]?=some k->i=j
 | [],_,i,j,k,hi,_=>by simp at hi
 | a::r,h,i,j,k,hi,hj=>by
   simp only [Dr] at h
   split at h
   .cases h
   .rename_i hn
    have hn:a ∉ r:=by simpa using hn
    cases i with
    | zero=>
      simp only [List.getElem?_cons_zero,aU] at hi
      subst hi
      cases j with
      | zero=>rfl
      | succ j=>simp only [List.getElem?_cons_succ] at hj;exact absurd (List.mem_of_getElem? hj) hn
    | succ i=>
      simp only [List.getElem?_cons_succ] at hi
      cases j with
      | zero=>simp only [List.getElem?_cons_zero,aU] at hj;subst hj;exact absurd (List.mem_of_getElem? hi) hn
      | succ j=>simp only [List.getElem?_cons_succ] at hj;rw [uR h hi hj]
def nm (F lab:Nat) (ls:List Nat) (l:Nat):Option Nat:=match Nat.blt l F with
 | true=>some l
 | false=>match Cs l ls 0 with
   | some i=>some (lab+i)
   | none=>none
noncomputable def rU (ρ : Nat->Option Nat) (tb:Tr SB):List Nat->Option (List SB)
 | []=>some []
 | l::r=>match tb.get l with
   | some B=>match xN ρ B,rU ρ tb r with
     | some B,some bs=>some (B::bs)
     | _,_=>none
   | none=>none
theorem sH {ρ : Nat->Option Nat} {tb:Tr SB}:∀ {ls:List Nat} {bs:List SB},rU ρ tb ls=some bs->bs.length=ls.length/\∀ (i:Nat) (B:SB),bs[i]?=some B->∃ (l:Nat) (C:SB),ls[i]?=some l/\tb.get l=some C/\xN ρ C=some B
 | [],bs,h=>by simp only [rU,aU] at h;subst h;simp
 | l::r,bs,h=>by
   simp only [rU] at h
   split at h
   .rename_i C hC
    split at h
    .rename_i B' bs' hB hbs
     cases h
     obtain ⟨h1,h2⟩:=sH hbs
     refine ⟨by simp [h1],fun i B hi=>?_⟩
     cases i with
     | zero=>simp only [List.getElem?_cons_zero,aU] at hi;subst hi;exact ⟨l,C,rfl,hC,hB⟩
     | succ i=>simpa using h2 i B (by simpa using hi)
    .cases h
   .cases h
def nN:List Nat->List SB->List (Nat × SB)
 | l::ls,b::bs=>(l,b)::nN ls bs
 | _,_=>[]
theorem mE:∀ {ls:List Nat} {bs:List SB} {l:Nat} {B:SB},look l (nN ls bs)=some B->∃ i:Nat,ls[i]?=some l/\bs[i]?=some B
 | [],_,l,B,h=>by simp [nN,look] at h
 | _::_,[],l,B,h=>by simp [nN,look] at h
 | k::ls,b::bs,l,B,h=>by
   simp only [nN] at h
   by_cases e:k=l
   .subst e;rw [aJ] at h;cases h;exact ⟨0,rfl,rfl⟩
   .rw [aF e] at h
    obtain ⟨i,h1,h2⟩:=mE h
    exact ⟨i+1,by simpa using h1,by simpa using h2⟩
theorem kN:∀ {ls:List Nat} {bs:List SB} {l:Nat},bs.length=ls.length->look l (nN ls bs)=none->l ∉ ls
 | [],_,l,_,_=>by simp
 | _::_,[],l,hl,_=>by simp at hl
 | k::ls,b::bs,l,hl,h=>by
   simp only [nN] at h
   by_cases e:k=l
   .subst e;rw [aJ] at h;cases h
   .rw [aF e] at h
    have:=kN (by simpa using hl) h
    simp only [List.mem_cons,not_or]
    exact ⟨fun q=>e q.symm,this⟩
def PB (Γ:Env) (g:Nat->Option SV) (T:bB):ResultVar->Option (List Prop × SV)
 | .tmp t=>(g t).map fun v=>([],v)
 | .cell a t=>match g a,Γ.ty t with
   | some (.ptr l true off),some ti=>match T l with
     | some B=>match BB Γ ti.desc,B,Nat.beq off 0 with
       | some _,.ints k xs _,true=>some ([xs.length=ti.size],.ai k xs)
       | _,_,_=>match Rf B true off ti.size with
         | some (ob,r)=>match rQ ti.desc with
           | true=>some (ob,.agg r)
           | false=>match r with
             | [v]=>some (ob,v)
             | _=>none
         | none=>none
     | none=>none
   | _,_=>none
def zG (Γ:Env) (g:Nat->Option SV) (T:bB):List ResultVar->Option (List Prop × List SV)
 | []=>some ([],[])
 | r::rs=>match PB Γ g T r,zG Γ g T rs with
   | some (a,v),some (b,vs)=>some (a++b,v::vs)
   | _,_=>none
noncomputable def St.MM (s:St) (ob:List Prop):St:={ s with ob:=ob++s.ob }
def res (vs:List SV):SV:=match vs with
 | [v]=>v
 | _=>.eH vs
noncomputable def finish (F lab:Nat) (s:St) (v:SV):Option bK:=
 match rU some s.tb s.ws with
 | none=>none
 | some bs0=>
   let ls:=reach F s.tb 4096 (fE v++(bs0.map CT).flatten) []
   match yR (nm F lab ls) v,rU (nm F lab ls) s.tb ls,rU (nm F lab ls) s.tb s.ws,Nat.ble ls.length 8&&(Dr ls&&(ls.all (fun l=>Nat.ble F l)&&s.ws.all (fun l=>Nat.blt l F))) with
   | some v,some new,some wr,true=>some { bO:=s.ob,val:=v,new:=new,wr:=nN s.ws wr }
   | _,_,_,_=>none
noncomputable def kA (Γ:Env) (B:bB) (F0 N:Nat):List SV->St->Option St
 | [],s=>some s
 | v::r,s=>match v with
   | .fn (.func id) args Fy=>match Γ.QF id with
     | some S=>match S (args++Fy) (s.T B) s.nx (s.nx+8) with
       | some e=>match s.step F0 N none e s.nx (s.nx+8) with
         | some s'=>kA Γ B F0 N r s'
         | none=>none
       | none=>none
     | none=>none
   | _=>none
def rdS (dd:Bool) (o:Option St) (df:List SV) (s:St):Option St:=match dd with
 | true=>o
 | false=>match df with
   | []=>some s
   | _=>none
noncomputable def aK (Γ:Env) (fn:Func) (dd:Bool) (hs:List Bool) (fuel:Nat):Sum:=fun vs T lab F=>
 match fn.body,Nat.ble vs.length fn.ntmps,Aa vs 0 .lf with
 | some c,true,some g=>match exec Γ (bI F T) F fn.ntmps fuel c { g:=g,tb:=.lf,nx:=F,ws:=[],ob:=[],hs:=hs } with
   | some (s,x)=>match x with
     | .exit _=>none
     | _=>match rdS dd (kA Γ (bI F T) F fn.ntmps s.df s) s.df s with
       | some s=>match zG Γ s.g.get (s.T (bI F T)) fn.results.toList with
         | some (ob,rs)=>finish F lab (s.MM ob) (res rs)
         | none=>none
       | none=>none
   | none=>none
 | _,_,_=>none
def Nj (tmps:Array Value):ResultVar->Sem Value
 | .tmp t=>pure (tmps.getD t undef)
 | .cell b t=>do loadVar t (<- asAddr (tmps.getD b undef))
theorem TR {P:Program} {Γ:Env} {w0 w:World} {M:Nat->Prop} {V:bA} {T:bB} {g:Nat->Option SV} {a:Act} (aV:cA P Γ) (ht:cG V g a) (hT:aD w0 M V T w) {r:ResultVar} {v:SV} {ob:List Prop} (h:PB Γ g T r=some (ob,v)) (ho:∀ q∈ob,q) :
 ∃ x,den V v=some x/\(Nj a.tmps r).run P w = .ok x w:=by
 cases r with
 | tmp t=>
   simp only [PB,dF,Prod.mk.injEq] at h
   obtain ⟨u,hu,_,rfl⟩:=h
   exact ⟨_,ht t u hu,rfl⟩
 | cell b t=>
   simp only [PB] at h
   split at h
   case h_2=>cases h
   rename_i l off ti hb dZ
   have ex:=ht b _ hb
   simp only [den,dF] at ex
   obtain ⟨⟨bk,base⟩,hβ,ex⟩:=ex
   obtain ⟨hu,i,z,hi,fX,_⟩:=aV t ti dZ
   have ex':a.tmps.getD b undef = .pointer (some ⟨bk,base+off,none⟩):=ex.symm
   split at h
   case h_2=>cases h
   rename_i B hB
   have nC:=hT.ok l B hB
   split at h
   .rename_i k0 k xs ty ha h0
    cases h
    have h0:=cM h0
    subst h0
    have hlen:xs.length=ti.size:=ho _ (by simp)
    have gA:rQ ti.desc=true:=by
     unfold BB at ha
     split at ha
     .rename_i hd;rw [hd];rfl
     .cases ha
    have hr:Rf (.ints k xs ty) false 0 ti.size=some ([0+ti.size<=xs.length],(List.range ti.size).map fun j=>.int false k (xs.getD (0+j) 0)):=rfl
    obtain ⟨zs,g1,g2,g3⟩:=oJ nC hβ hr (by intro q hq;simp only [List.mem_singleton] at hq;subst hq;omega)
    rw [fJ (V:=V) ti.size (fun j=>.int false k (xs.getD (0+j) 0)) (fun j=>.int k (xs.getD (0+j) 0)) (fun j _=>rfl),pB xs 0 ti.size (by omega) k] at g1
    cases g1
    have:=(dR hu hi bk (base+0) _ (by rw [g2,fX]) g3).1 gA
    refine ⟨.agg (((xs.drop 0).take ti.size).map (Value.int k)).toArray,by rw [List.drop_zero,<- hlen,List.take_length];rfl,?_⟩
    simp only [Nj,ex',asAddr,Sem.run_bind,Sem.run_pure,Result.andThen_ok,this]
   .split at h
    case h_2=>cases h
    rename_i ob' r hr
    split at h
    .rename_i gA
     cases h
     obtain ⟨xs,h1,h2,h3⟩:=oJ nC hβ hr ho
     have:=(dR hu hi bk (base+off) xs (by rw [h2,fX]) h3).1 gA
     refine ⟨.agg xs.toArray,by simp [den,h1],?_⟩
     simp only [Nj,ex',asAddr,Sem.run_bind,Sem.run_pure,Result.andThen_ok,this]
    .rename_i gA
     split at h
     case h_2=>cases h
     rename_i v'
     cases h
     obtain ⟨xs,h1,h2,h3⟩:=oJ nC hβ hr ho
     obtain ⟨y,rfl,hy⟩:=qB h1
     have:=(dR hu hi bk (base+off) [y] (by rw [h2,fX]) h3).2 gA y rfl
     refine ⟨y,hy,?_⟩
     simp only [Nj,ex',asAddr,Sem.run_bind,Sem.run_pure,Result.andThen_ok,this]
theorem TQ {P:Program} {Γ:Env} {w0 w:World} {M:Nat->Prop} {V:bA} {T:bB} {g:Nat->Option SV} {a:Act} (aV:cA P Γ) (ht:cG V g a) (hT:aD w0 M V T w) {l:List ResultVar} {vs:List SV} {ob:List Prop} (h:zG Γ g T l=some (ob,vs)) (ho:∀ q∈ob,q) :
 ∃ xs,aI V vs=some xs/\(l.mapM (Nj a.tmps)).run P w = .ok xs w:=by
 induction l generalizing vs ob with
 | nil=>simp only [zG,aU,Prod.mk.injEq] at h;obtain ⟨_,rfl⟩:=h;exact ⟨[],rfl,by simp⟩
 | cons r l ih=>
   simp only [zG] at h
   split at h
   .rename_i oa v ob' us hv Cd
    cases h
    obtain ⟨x,hx,hrx⟩:=TR aV ht hT hv (fun q hq=>ho q (List.mem_append_left _ hq))
    obtain ⟨xs,nA,Uy⟩:=ih Cd (fun q hq=>ho q (List.mem_append_right _ hq))
    refine ⟨x::xs,by simp [aI,hx,nA],?_⟩
    rw [List.mapM_cons]
    simp only [Sem.run_bind]
    rw [hrx]
    simp only [Result.andThen_ok,Uy,Sem.run_pure]
   .cases h
theorem Bs {P:Program} {Γ:Env} {w0 w:World} {M:Nat->Prop} {V:bA} {T:bB} {g:Nat->Option SV} {a:Act} (aV:cA P Γ) (ht:cG V g a) (hT:aD w0 M V T w) {fn:Func} {vs:List SV} {ob:List Prop} (h:zG Γ g T fn.results.toList=some (ob,vs)) (ho:∀ q∈ob,q) :
 ∃ x,den V (res vs)=some x/\(results fn a.tmps).run P w = .ok x w:=by
 obtain ⟨xs,h1,h2⟩:=TQ (P:=P) aV ht hT h ho
 have h3:(fn.results.mapM (Nj a.tmps)).run P w = .ok xs.toArray w:=by
  rw [Array.mapM_eq_mapM_toList]
  simp only [Sem.run_map,h2]
  rfl
 have h4:results fn a.tmps=(do let vs <- fn.results.mapM (Nj a.tmps);pure (if h:vs.size=1 then vs[0] else .tuple vs)):=by
  unfold results
  congr 1
 rw [h4]
 simp only [Sem.run_bind,h3,Result.andThen_ok,Sem.run_pure]
 unfold res
 split
 .rename_i v
  obtain ⟨x,rfl,hx⟩:=qB h1
  exact ⟨x,hx,by simp⟩
 .rename_i dK
  refine ⟨.tuple xs.toArray,by simp [den,h1],?_⟩
  have hl:=bG h1
  have:xs.toArray.size≠1:=by
   simp only [List.size_toArray,hl]
   intro q
   match vs,q with
   | [v],_=>exact dK v rfl
  rw [dif_neg this]
theorem Inv.MM {P:Program} {Γ:Env} {w0:World} {M:Nat->Prop} {B:bB} {N F0:Nat} {V0:bA} {s:St} {V:bA} {a:Act} {w:World} (hi:Inv P Γ w0 M B N F0 V0 s V a w) (ob:List Prop):Inv P Γ w0 M B N F0 V0 (s.MM ob) V a w:=
 ⟨hi.tmp,hi.keys,hi.size,hi.defers,hi.fB,hi.aR,hi.top,hi.le,hi.low,hi.ch,hi.nx,hi.hi⟩
theorem Et {P:Program} {Γ:Env} {w0 w w':World} {M:Nat->Prop} {V V1:bA} {T T2:bB} {N F lab:Nat} {s:St} {a':Act} {v:SV} {e:bK} {x:Value}
 (hT2:aD w0 M V T2 w) (aO:∀ l B,T l=some B->T2 l=some B) (hf:V.fresh lab)
 (hI:Inv P Γ w (jH V (bI F T)) (bI F T) N F V s V1 a' w') (hx:den V1 v=some x) (h:finish F lab s v=some e) :
 e.bO=s.ob/\∃ V2,V.ext lab V2/\den V2 e.val=some x/\aD w0 M V2 (eT T2 lab e) w':=by
 unfold finish at h
 split at h
 case h_1=>cases h
 rename_i bs0 _
 obtain ⟨ls,hls⟩:∃ ls,ls=reach F s.tb 4096 (fE v++(bs0.map CT).flatten) []:=⟨_,rfl⟩
 simp only [<- hls] at h
 split at h
 case h_2=>cases h
 rename_i v' new wr hv AM Uw jY
 cases h
 simp only [iJ] at jY
 obtain ⟨Zd,sP,hc3,hc4⟩:=jY
 have hlen:=kO Zd
 have PO:∀ (i k:Nat),ls[i]?=some k->F<=k:=fun i k hk=>kO (List.all_eq_true.1 hc3 k (List.mem_of_getElem? hk))
 have AI:∀ (i k:Nat),s.ws[i]?=some k->k<F:=fun i k hk=>by have:=List.all_eq_true.1 hc4 k (List.mem_of_getElem? hk);simpa [Nat.blt_eq] using this
 obtain ⟨MZ,hng⟩:=sH AM
 obtain ⟨MT,hwg⟩:=sH Uw
 refine ⟨rfl,⟨fun l=>if lab<=l/\l<lab+ls.length then (ls[l-lab]?).bind V1.β else V.β l,fun l=>if lab<=l/\l<lab+ls.length then (ls[l-lab]?).bind V1.σ else V.σ l⟩,?_⟩
 generalize hV2:(⟨fun l=>if lab<=l/\l<lab+ls.length then (ls[l-lab]?).bind V1.β else V.β l,fun l=>if lab<=l/\l<lab+ls.length then (ls[l-lab]?).bind V1.σ else V.σ l⟩:bA)=V2
 have out:∀ l,¬ (lab<=l/\l<lab+ls.length)->V2.β l=V.β l/\V2.σ l=V.σ l:=fun l hl=>by
  subst hV2;exact ⟨if_neg hl,if_neg hl⟩
 have inn:∀ i k,ls[i]?=some k->V2.β (lab+i)=V1.β k/\V2.σ (lab+i)=V1.σ k:=fun i k hk=>by
  have hi:=(List.getElem?_eq_some_iff.1 hk).1
  have hr:lab<=lab+i/\lab+i<lab+ls.length:=⟨by omega,by omega⟩
  subst hV2
  refine ⟨(if_pos hr).trans ?_,(if_pos hr).trans ?_⟩ <;> (rw [show lab+i-lab=i from by omega,hk];rfl)
 have bR:V.ext lab V2:=by
  refine ⟨⟨fun l p hp=>?_,fun l p hp=>?_⟩,fun l hl=>out l (by omega)⟩
  .rw [(out l (fun hr=>by have:=(hf l hr.1 (by omega)).1;rw [this] at hp;cases hp)).1];exact hp
  .rw [(out l (fun hr=>by have:=(hf l hr.1 (by omega)).2;rw [this] at hp;cases hp)).2];exact hp
 have xQ:Ah (nm F lab ls) V1 V2:=by
  intro l l' hl
  unfold nm at hl
  split at hl
  .rename_i hb
   cases hl
   have hlF:l<F:=by simpa [Nat.blt_eq] using hb
   have nJ:=hI.low l hlF
   rw [nJ.1,nJ.2]
   exact ⟨fun p hp=>bR.1.1 l p hp,fun p hp=>bR.1.2 l p hp⟩
  .split at hl
   .rename_i i hi
    cases hl
    obtain ⟨_,h2⟩:=tR hi
    have:=inn i l (by simpa using h2)
    rw [this.1,this.2]
    exact ⟨fun p hp=>hp,fun p hp=>hp⟩
   .cases hl
 refine ⟨bR,Am xQ hv hx,?_⟩
 have aKn:∀ l B,bI F T l=some B->T2 l=some B:=fun l B hl=>aO l B (kD hl).2
 refine aD.called hT2 aKn hI.fB bR.1 (fun l=>if l∈s.ws then some l else if lab<=l/\l<lab+ls.length then ls[l-lab]? else (bI F T l).map fun _=>l) (fun l B hl=>?_) (fun l l' k hk gL=>?_)
 .unfold eT bK.fB at hl
  simp only at hl
  rw [cB] at hl
  cases hw:look l (nN s.ws wr) with
  | some b=>
    rw [hw] at hl
    cases hl
    obtain ⟨i,h1,h2⟩:=mE hw
    obtain ⟨k,C,h3,h4,h5⟩:=hwg i _ h2
    rw [h1] at h3;cases h3
    have aCe:l∈s.ws:=List.mem_of_getElem? h1
    have yV:s.T (bI F T) l=some C:=by simp only [St.T,h4]
    have NV:nm F lab ls l=some l:=by
     unfold nm
     have:Nat.blt l F=true:=by simpa [Nat.blt_eq] using AI i l h1
     rw [this]
    obtain ⟨r1,r2,r3,r4⟩:=pZ xQ NV h5 (hI.fB.ok l C yV)
    refine .inl ⟨l,if_pos aCe,C,yV,r1,r2,r4,?_⟩
    rcases uP h5 with q | q
    .exact .inl q
    .exact .inr (.inl q)
  | none=>
    rw [hw] at hl
    have PL:=kN MT hw
    rw [eZ] at hl
    by_cases hr:lab<=l/\l<lab+ls.length
    .have cL:l-lab<new.length:=by rw [MZ];omega
     rw [if_pos hr.1,List.getElem?_eq_getElem cL] at hl
     cases hl
     obtain ⟨k,C,h3,h4,h5⟩:=hng (l-lab) _ (List.getElem?_eq_getElem cL)
     have yV:s.T (bI F T) k=some C:=by simp only [St.T,h4]
     have NV:nm F lab ls k=some l:=by
      unfold nm
      have hb:Nat.blt k F=false:=by
       cases hb:Nat.blt k F with
       | false=>rfl
       | true=>have:=PO _ _ h3;have:k<F:=by simpa [Nat.blt_eq] using hb
               omega
      rw [hb]
      simp only
      cases NY:Cs k ls 0 with
      | none=>
        exfalso
        have:∀ (ms:List Nat) (i:Nat),Cs k ms i=none->k ∉ ms:=by
         intro ms
         induction ms with
         | nil=>intro i _;simp
         | cons a r ih=>
           intro i hi
           simp only [Cs] at hi
           split at hi
           .cases hi
           .rename_i hb
            have:=beq_false hb
            simp only [List.mem_cons,not_or]
            exact ⟨fun q=>this q.symm,ih _ hi⟩
        exact this ls 0 NY (List.mem_of_getElem? h3)
      | some i=>
        simp only
        obtain ⟨_,h6⟩:=tR NY
        have:=uR sP h3 (by simpa using h6)
        congr 1
        omega
     obtain ⟨r1,r2,r3,r4⟩:=pZ xQ NV h5 (hI.fB.ok k C yV)
     refine .inl ⟨k,(if_neg PL).trans ((if_pos hr).trans h3),C,yV,r1,r2,r4,?_⟩
     rcases uP h5 with q | q
     .exact .inl q
     .exact .inr (.inl q)
    .have MY:(if lab<=l then new[l-lab]? else none)=none:=by
      split
      .apply List.getElem?_eq_none;rw [MZ];omega
      .rfl
     rw [MY] at hl
     simp only at hl
     cases hc:bI F T l with
     | none=>exact .inr ⟨(if_neg PL).trans ((if_neg hr).trans (rfl)),rfl,hl⟩
     | some B0=>
       have hB0:=aKn l B0 hc
       rw [hl] at hB0;cases hB0
       have hlF:=(kD hc).1
       have yV:s.T (bI F T) l=some B:=by simp only [St.T,hI.ch l hlF PL,hc]
       have aTn:=hI.fB.ok l B yV
       have aKj:=hT2.ok l B hl
       refine .inl ⟨l,(if_neg PL).trans ((if_neg hr).trans (rfl)),B,yV,?_,fun n hn=>?_,rfl,.inr (.inr hl)⟩
       .obtain ⟨cs,d1,d2⟩:=aTn
        obtain ⟨cs0,d3,_⟩:=aKj
        have:=SB.iI hI.le d3
        rw [d1] at this;cases this
        refine ⟨cs,SB.iI bR.1 d3,?_⟩
        have e1:=(hI.low l hlF).1
        have e2:=(hI.low l hlF).2
        cases B with
        | own cells ty=>obtain ⟨b,hb,hh⟩:=d2;exact ⟨b,bR.1.1 _ _ (e1 ▸ hb),hh⟩
        | ints k xs ty=>obtain ⟨b,hb,hh⟩:=d2;exact ⟨b,bR.1.1 _ _ (e1 ▸ hb),hh⟩
        | eK vs ty=>obtain ⟨b,hb,hh⟩:=d2;exact ⟨b,bR.1.1 _ _ (e1 ▸ hb),hh⟩
        | fO cells=>obtain ⟨b,o,hb,hh⟩:=d2;exact ⟨b,o,bR.1.1 _ _ (e1 ▸ hb),hh⟩
        | nH k xs=>obtain ⟨b,o,hb,hh⟩:=d2;exact ⟨b,o,bR.1.1 _ _ (e1 ▸ hb),hh⟩
        | dC k xs ty=>obtain ⟨v,hv,hh⟩:=d2;exact ⟨v,bR.1.2 _ _ (e2 ▸ hv),hh⟩
        | fM sz n ty=>obtain ⟨v,us,hv,hh⟩:=d2;exact ⟨v,us,bR.1.2 _ _ (e2 ▸ hv),hh⟩
        | row sz cells ty=>obtain ⟨b,cap,cur,hb,hσ,r⟩:=d2;exact ⟨b,cap,cur,bR.1.1 _ _ (e1 ▸ hb),bR.1.2 _ _ (e2 ▸ hσ),r⟩
        | iV k xs=>obtain ⟨v,hv,hh⟩:=d2;exact ⟨v,bR.1.2 _ _ (e2 ▸ hv),hh⟩
        | eJ xs ty=>obtain ⟨v,hv,hh⟩:=d2;exact ⟨v,bR.1.2 _ _ (e2 ▸ hv),hh⟩
        | qK xs=>obtain ⟨v,hv,hh⟩:=d2;exact ⟨v,bR.1.2 _ _ (e2 ▸ hv),hh⟩
        | gone=>trivial
       .have h0:=aKj.sD bR.1
        rw [h0] at hn
        exact SB.aIz hI.le hn
 .have Dg:∀ (l k:Nat),(if l∈s.ws then some l else if lab<=l/\l<lab+ls.length then ls[l-lab]? else (bI F T l).map fun _=>l)=some k ->
   (k=l/\l<F)\/(lab<=l/\ls[l-lab]?=some k/\F<=k):=by
   intro l k hk
   split at hk
   .rename_i hm
    cases hk
    obtain ⟨i,hi,hie⟩:=List.getElem_of_mem hm
    exact .inl ⟨rfl,AI i l (by rw [List.getElem?_eq_getElem hi,hie])⟩
   .split at hk
    .rename_i hr
     exact .inr ⟨hr.1,hk,PO _ _ hk⟩
    .simp only [dF] at hk
     obtain ⟨B,hB,rfl⟩:=hk
     exact .inl ⟨rfl,(kD hB).1⟩
  rcases Dg l k hk with ⟨h1,h2⟩ | ⟨h1,h2,h3⟩ <;> rcases Dg l' k gL with ⟨Na,Ze⟩ | ⟨Na,Ze,h3'⟩
  .omega
  .omega
  .omega
  .have:=uR sP h2 Ze
   omega
theorem uO {Γ:Env} {B:bB} {F0 N:Nat}:∀ {l:List SV} {s s':St},kA Γ B F0 N l s=some s'->∀ q∈s.ob,q∈s'.ob
 | [],s,s',h,q,hq=>by simp only [kA,aU] at h;subst h;exact hq
 | v::r,s,s',h,q,hq=>by
   unfold kA at h
   split at h
   .split at h
    .split at h
     .split at h
      .rename_i s1 h1
       have:=(St.dP B h1).2.2.1
       exact uO h q (by rw [this];exact List.mem_append_right _ hq)
      .cases h
     .cases h
    .cases h
   .cases h
theorem Bc {P:Program} {Γ:Env} {w0:World} {M:Nat->Prop} {B:bB} {N F0:Nat} {V0:bA} (aY:cH P Γ) {fn:Func} {R:Ending->World->Prop} {tmps:Array Value} :
 ∀ {l:List SV} {s s':St} {V:bA} {a:Act} {w:World} {xs:List Value},kA Γ B F0 N l s=some s'->(∀ q∈s'.ob,q)->Inv P Γ w0 M B N F0 V0 s V a w->a.tmps=tmps->aI V l=some xs ->
   (∀ V' a' w',Inv P Γ w0 M B N F0 V0 s' V' a' w'->a'.tmps=tmps->∃ v,(results fn tmps).run P w' = .ok v w'/\R (.returned v) w')->Leaves P fn tmps R (xs.map toD) .returning w
 | [],s,s',V,a,w,xs,h,ho,hi,ha,hx,hQ=>by
   simp only [kA,aU] at h
   subst h
   simp only [aI,aU] at hx
   subst hx
   exact hQ V a w hi ha
 | v::r,s,s',V,a,w,xs,h,ho,hi,ha,hx,hQ=>by
   unfold kA at h
   split at h
   case h_2=>cases h
   rename_i id args Fy
   split at h
   case h_2=>cases h
   rename_i S hS
   split at h
   case h_2=>cases h
   rename_i e he
   split at h
   case h_2=>cases h
   rename_i s1 h1
   simp only [aI,dF,gO] at hx
   obtain ⟨x,hx,ys,hy,rfl⟩:=hx
   simp only [den,gO,dF] at hx
   obtain ⟨aS,has,cs,nI,rfl⟩:=hx
   have rM:∀ q∈e.bO,q:=fun q hq=>ho q (uO h q (by rw [(St.dP B h1).2.2.1];exact List.mem_append_left _ hq))
   simp only [List.map_cons,toD]
   refine aY.2.1 id S hS _ _ _ _ _ he rM w0 M V _ w _ (fun _ _ hl=>hl) hi.fB hi.aR hi.top.fresh (hi.top.mono (by omega)) (cI has nI) fn tmps _ R (fun V' w' hV hT=>?_) aS.toArray cs.toArray (by simp)
   have fQ:=hi.step (a:=a) (x:=undef) h1 (dE _) (dE _) hV (fun hd=>by cases hd) hT
   exact Bc aY h ho fQ ha (cS hV.1 hy) hQ
theorem Wm {Γ:Env} {B:bB} {F0 N:Nat} {s s':St} (h:kA Γ B F0 N [] s=some s'):s'=s:=by
 simp only [kA,aU] at h;exact h.symm
theorem ER {o:Option St} {df:List SV} {s s2:St} (h:rdS false o df s=some s2):df=[]:=by
 unfold rdS at h
 split at h
 .rename_i h0;cases h0
 .split at h
  .rfl
  .cases h
theorem aFc {dd:Bool} {Γ:Env} {B:bB} {F0 N:Nat} {s s2:St} (h:rdS dd (kA Γ B F0 N s.df s) s.df s=some s2):kA Γ B F0 N s.df s=some s2:=by
 cases dd with
 | true=>exact h
 | false=>have:=ER h;unfold rdS at h;rw [this] at h |-;exact h
theorem xF {P:Program} {Γ:Env} (aV:cA P Γ) (aY:cH P Γ) (iS:P.follows .mixedOrders=true) {fn:Func} {dd:Bool} {hs:List Bool} {fuel:Nat} {vs:List SV} {T T2:bB} {lab F:Nat} {e:bK} {w0:World} {M:Nat->Prop} {V:bA} {w:World} {xs:List Value}
 (h:aK Γ fn dd hs fuel vs T lab F=some e) (ho:∀ q∈e.bO,q) (aO:∀ l B,T l=some B->T2 l=some B) (hT:aD w0 M V T2 w) (hg:bP Γ V) (hf:V.fresh lab) (hF:V.top F) (hx:aI V vs=some xs)
 {R:Ending->World->Prop} (hR:∀ V' x w',V.ext lab V'->den V' e.val=some x->aD w0 M V' (eT T2 lab e) w'->R (.returned x) w') :
 ∃ c,fn.body=some c/\c.wp P (fun x a w=>bodyPostD P fn R x a w/\(dd=false->bodyPost P fn R x a w)) { tmps:=xs.toArray++Array.replicate (fn.ntmps-xs.toArray.size) undef,defers:=[] } w:=by
 unfold aK at h
 split at h
 case h_2=>cases h
 rename_i c g hb hn yC
 split at h
 case h_2=>cases h
 rename_i s x hex
 have hn:=kO hn
 have hlen:=bG hx
 have Kc:=wI yC
 have nA:xs.length=vs.length:=hlen
 have NZ:Inv P Γ w (jH V (bI F T)) (bI F T) fn.ntmps F V { g:=g,tb:=.lf,nx:=F,ws:=[],ob:=[],hs:=hs } V { tmps:=xs.toArray++Array.replicate (fn.ntmps-xs.toArray.size) undef,defers:=[] } w:=by
  refine ⟨fun t v hv=>?_,fun d v hv=>?_,?_,⟨[],rfl,rfl⟩,?_,hg,hF,V.le_refl,fun l _=>⟨rfl,rfl⟩,fun l _ _=>rfl,dE _,fun l hl=>?_⟩
  .have:=Kc t
   simp only at hv
   rw [hv] at this
   split at this
   .rename_i hr
    obtain ⟨y,h1,h2⟩:=dQ hx t v (by simpa using this.symm)
    rw [h2]
    have cL:t<xs.length:=by omega
    have rD:xs[t]?=some y:=h1
    simp [Act.eval,Array.getD_eq_getD_getElem?,Array.getElem?_append,cL] at rD |-
    exact rD.symm
   .cases this
  .have:=Kc d
   simp only at hv
   rw [hv] at this
   split at this
   .omega
   .cases this
  .simp
   omega
  .have hp:=aD.part hT (T:=bI F T) (fun l B hl=>aO l B (kD hl).2)
   have:St.T (bI F T) { g:=g,tb:=.lf,nx:=F,ws:=[],ob:=[],hs:=hs }=bI F T:=by funext l;rfl
   rw [this]
   exact hp
  .show (match Tr.get .lf l with | some b=>some b | none=>bI F T l)=none
   simp only [Tr.kK]
   cases hc:bI F T l with
   | none=>rfl
   | some B=>have:=(kD hc).1;simp only at hl;omega
 have fin:∀ s2,rdS dd (kA Γ (bI F T) F fn.ntmps s.df s) s.df s=some s2->(match zG Γ s2.g.get (s2.T (bI F T)) fn.results.toList with
   | some (ob,rs)=>finish F lab (s2.MM ob) (res rs)
   | none=>none)=some e ->
   (∀ q∈s2.ob,q)/\∀ V' a' w',Inv P Γ w (jH V (bI F T)) (bI F T) fn.ntmps F V s2 V' a' w'->∃ v,(results fn a'.tmps).run P w' = .ok v w'/\R (.returned v) w':=by
  intro s2 h2 h3
  split at h3
  case h_2=>cases h3
  rename_i obr rs Uy
  have Zs:e.bO=obr++s2.ob:=by
   unfold finish at h3
   split at h3
   .cases h3
   .simp only at h3
    split at h3
    .cases h3;rfl
    .cases h3
  refine ⟨fun q hq=>ho q (Zs ▸ List.mem_append_right _ hq),fun V' a' w' fQ=>?_⟩
  obtain ⟨v,hv1,hv2⟩:=Bs (P:=P) (fn:=fn) aV fQ.tmp fQ.fB Uy (fun q hq=>ho q (Zs ▸ List.mem_append_left _ hq))
  obtain ⟨_,V2,k1,k2,k3⟩:=Et hT aO hf (fQ.MM obr) hv1 h3
  exact ⟨v,hv2,hR V2 v w' k1 k2 k3⟩
 have main:∀ s2,x.to = .normal\/x.to = .ret->rdS dd (kA Γ (bI F T) F fn.ntmps s.df s) s.df s=some s2->(match zG Γ s2.g.get (s2.T (bI F T)) fn.results.toList with
   | some (ob,rs)=>finish F lab (s2.MM ob) (res rs)
   | none=>none)=some e->∃ c,fn.body=some c/\c.wp P (fun x a w=>bodyPostD P fn R x a w/\(dd=false->bodyPost P fn R x a w)) { tmps:=xs.toArray++Array.replicate (fn.ntmps-xs.toArray.size) undef,defers:=[] } w:=by
  intro s2 hxn h2 h3
  obtain ⟨rM,PS⟩:=fin s2 h2 h3
  have eA:=aFc h2
  refine ⟨c,hb,(XB aV aY iS fuel).1 hex (fun q hq=>rM q (uO eA q hq)) NZ fun V' a' w' fQ=>?_⟩
  obtain ⟨ys,gK,Dh⟩:=fQ.defers
  have hl:Leaves P fn a'.tmps R a'.defers .returning w':=by
   rw [Dh]
   exact Bc aY eA rM fQ rfl gK fun V3 a3 w3 hi3 ha3=>by
    obtain ⟨v,q1,q2⟩:=PS V3 a3 w3 hi3
    exact ⟨v,ha3 ▸ q1,q2⟩
  have hp:dd=false->a'.defers=[]/\∃ v,(results fn a'.tmps).run P w' = .ok v w'/\R (.returned v) w':=by
   intro hD
   have hdf:s.df=[]:=ER (hD ▸ h2)
   rw [hdf] at gK eA
   simp only [aI,aU] at gK
   subst gK
   have:=Wm eA
   subst this
   exact ⟨Dh,PS V' a' w' fQ⟩
  rcases hxn with q | q <;> (rw [q];exact ⟨hl,hp⟩)
 cases x with
 | exit id=>simp only at h;cases h
 | normal=>
   simp only at h
   split at h
   .rename_i s2 h2;exact main s2 (.inl rfl) h2 h
   .cases h
 | ret=>
   simp only at h
   split at h
   .rename_i s2 h2;exact main s2 (.inr rfl) h2 h
   .cases h
theorem gC {P:Program} {f:FuncId} {fn:Func} {c:Code} {args:Array Value} {w:World} (sX:P.funcs[f]?=some fn) (hb:fn.body=some c) (dK:(fn.name == "runtime.NumGoroutine")=false):(callFunc f args).run P w = .ok (.enter f args) w:=by
 unfold callFunc
 have xR:¬ fn.name = "runtime.NumGoroutine" := by simpa using dK
 simp [sX,hb,xR]
theorem aN {P:Program} {Γ:Env} (aV:cA P Γ) (aY:cH P Γ) (iS:P.follows .mixedOrders=true) {f:FuncId} {fn:Func} (sX:P.funcs[f]?=some fn) (dK:(fn.name == "runtime.NumGoroutine")=false) (dd:Bool) (hs:List Bool) (fuel:Nat):aG P Γ f (aK Γ fn dd hs fuel):=by
 intro vs T lab F e h ho w0 M V T2 w xs aO hT hg hf hF hx o a K Q hK
 obtain ⟨c,hb,hwp⟩:=xF aV aY iS h ho aO hT hg hf hF hx (R:=fun
   | .returned v,NM=>K (a.put o.dst v) NM
   | .panicked chain,NM=>Q (.panic chain) a NM
   | .outgrown,_=>LetsOut Q) (fun V' x w' h1 h2 h3=>hK V' x w' h1 h2 h3)
 rw [gC sX hb dK,Oper.upon_enter]
 exact calls_of_wp_defers sX hb (wp_mono hwp fun x a w h=>h.1)
theorem Qf {P:Program} {Γ:Env} (aV:cA P Γ) (aY:cH P Γ) (iS:P.follows .mixedOrders=true) {f:FuncId} {fn:Func} (sX:P.funcs[f]?=some fn) (dK:(fn.name == "runtime.NumGoroutine")=false) (hs:List Bool) (fuel:Nat):Av P Γ f (aK Γ fn false hs fuel):=by
 intro vs T lab F e h ho w0 M V T2 w xs aO hT hg hf hF hx fn0 tmps ds R hK aS cs hac
 obtain ⟨c,hb,hwp⟩:=xF aV aY iS h ho aO hT hg hf hF hx (R:=fun e' NM=>match e' with
   | .returned _=>Leaves P fn0 tmps R ds .returning NM
   | _=>False) (fun V' x w' h1 _ h3=>hK V' w' h1 h3)
 have nA:xs.toArray=aS++cs:=by apply Array.ext';simp [<- hac]
 refine leaves_cons (by simp) (f:=f) (args:=aS++cs) ?_ ?_
 .show (callFunc f (aS++cs)).run P w=_
  rw [gC sX hb dK]
 .rw [<- nA]
  refine (callsD_of_wp (u:=.returning) sX hb (wp_mono hwp fun x a w h=>h.2 rfl)).mono fun e' u' w' h=>?_
  obtain ⟨rfl,h⟩:=h
  cases e' with
  | returned v=>exact h
  | panicked chain=>exact h.elim
  | outgrown=>exact h.elim
theorem aG.env {P:Program} {Γ Γ':Env} (h:Γ'.aR=Γ.aR) {f:FuncId} {S:Sum} (hs:aG P Γ f S):aG P Γ' f S:=
 fun vs T lab F e he ho w0 M V T2 w xs aO hT hg=>hs vs T lab F e he ho w0 M V T2 w xs aO hT (fun n l hn=>hg n l (h ▸ hn))
theorem Av.env {P:Program} {Γ Γ':Env} (h:Γ'.aR=Γ.aR) {f:FuncId} {S:Sum} (hs:Av P Γ f S):Av P Γ' f S:=
 fun vs T lab F e he ho w0 M V T2 w xs aO hT hg=>hs vs T lab F e he ho w0 M V T2 w xs aO hT (fun n l hn=>hg n l (h ▸ hn))
noncomputable def Jc (P:Program) (aR:List (Nat × Nat)) (cmp:List Nat) (ex:Nat->Option Sum) (tw:List (Nat × Nat)) (fuel:Nat) (n:Nat):Env:=
 Nat.rec { ty:=tiP P,aR:=aR,sum:=ex,QF:=fun _=>none,cmp:=cmp }
  (fun _ Γ=>{ ty:=tiP P,aR:=aR,cmp:=cmp
              sum:=fun f=>match ex f with
               | some S=>some S
               | none=>match P.funcs[(look f tw).getD f]? with
                 | some fn=>some (aK Γ fn true [] fuel)
                 | none=>none
              QF:=fun f=>match P.funcs[f]? with
               | some fn=>some (aK Γ fn false [] fuel)
               | none=>none }) n
theorem oP {P:Program} {aR:List (Nat × Nat)} {cmp:List Nat} {ex:Nat->Option Sum} {tw:List (Nat × Nat)} {fuel n:Nat}:(Jc P aR cmp ex tw fuel n).ty=tiP P/\(Jc P aR cmp ex tw fuel n).aR=aR/\(Jc P aR cmp ex tw fuel n).cmp=cmp:=by
 cases n <;> exact ⟨rfl,rfl,rfl⟩
structure GG (P:Program) (aR:List (Nat × Nat)) (cmp:List Nat) (ex:Nat->Option Sum) (tw:List (Nat × Nat)):Prop where
 mix:P.follows .mixedOrders=true
 names:∀ (f:Nat) (fn:Func),P.funcs[f]?=some fn->(fn.name == "runtime.NumGoroutine")=false
 cmp:∀ t:Nat,cmp.elem t=true->(∀ i,P.info? t=some i->i.comparable=true)/\P.stoodInHeld t=false
 depth:∃ d,P.depth=d+2
 tw:∀ f g:Nat,look f tw=some g->∀ (args:Array Value) (w:World),(callFunc f args).run P w=(callFunc g args).run P w
 ex:∀ f S,ex f=some S->∀ Γ:Env,Γ.aR=aR->aG P Γ f S
theorem XQ {P:Program} {aR:List (Nat × Nat)} {cmp:List Nat} {ex:Nat->Option Sum} {tw:List (Nat × Nat)} (h:GG P aR cmp ex tw) (fuel:Nat):∀ n,cH P (Jc P aR cmp ex tw fuel n):=by
 intro n
 induction n with
 | zero=>exact ⟨fun f S hS=>h.ex f S hS _ rfl,fun f S hS=>(by cases hS),h.cmp,h.depth⟩
 | succ n ih=>
   refine ⟨fun f S hS=>?_,fun f S hS=>?_,h.cmp,h.depth⟩
   .have hS:(match ex f with
     | some S=>some S
     | none=>match P.funcs[(look f tw).getD f]? with
       | some fn=>some (aK (Jc P aR cmp ex tw fuel n) fn true [] fuel)
       | none=>none)=some S:=hS
    split at hS
    .rename_i S' hx;cases hS;exact h.ex f S hx _ rfl
    .split at hS
     .rename_i fn sX
      cases hS
      have hs:=(aN (cA.prog oP.1) ih h.mix sX (h.names _ fn sX) true [] fuel).env (Γ':=Jc P aR cmp ex tw fuel (n+1)) (by rw [oP.2.1,oP.2.1])
      cases htw:look f tw with
      | none=>rw [htw] at hs;exact hs
      | some g=>
        rw [htw] at hs
        intro vs T lab F e he ho w0 M V T2 w xs aO hT hg hf hF hx o a K Q hK
        rw [h.tw f g htw]
        exact hs vs T lab F e he ho w0 M V T2 w xs aO hT hg hf hF hx o a K Q hK
     .cases hS
   .have hS:(match P.funcs[f]? with
      | some fn=>some (aK (Jc P aR cmp ex tw fuel n) fn false [] fuel)
      | none=>none)=some S:=hS
    split at hS
    .rename_i fn sX
     cases hS
     exact (Qf (cA.prog oP.1) ih h.mix sX (h.names f fn sX) [] fuel).env (by rw [oP.2.1,oP.2.1])
    .cases hS
theorem cA.env {P:Program} {Γ Γ':Env} (h:Γ'.ty=Γ.ty) (hs:cA P Γ):cA P Γ':=fun t ti ht=>hs t ti (h ▸ ht)
def Jk (a b:Int):Bool:=match a,b with
 | .ofNat m,.ofNat n=>Nat.beq m n
 | .negSucc m,.negSucc n=>Nat.beq m n
 | _,_=>false
theorem Uo {a b:Int} (h:Jk a b=true):a=b:=by
 unfold Jk at h
 split at h
 .rw [cM h]
 .rw [cM h]
 .cases h
def pP (a b:IntKind):Bool:=decide (a=b)
def Nt (a b:Bool):Bool:=match a,b with
 | true,true=>true
 | false,false=>true
 | _,_=>false
theorem qU {a b:Bool} (h:Nt a b=true):a=b:=by cases a <;> cases b <;> first | rfl | cases h
mutual
def pE:SV->SV->Bool
 | .int s k n,.int s' k' n'=>Nt s s'&&(pP k k'&&Jk n n')
 | .bool s b,.bool s' b'=>Nt s s'&&Nt b b'
 | .agg vs,.agg us=>Jj vs us
 | .eH vs,.eH us=>Jj vs us
 | .ptr l s o,.ptr l' s' o'=>Nat.beq l l'&&(Nt s s'&&Nat.beq o o')
 | .aH l s o n c,.aH l' s' o' n' c'=>Nat.beq l l'&&(Nt s s'&&(Nat.beq o o'&&(Nat.beq n n'&&Nat.beq c c')))
 | _,_=>false
def Jj:List SV->List SV->Bool
 | [],[]=>true
 | v::r,u::t=>match pE v u with
   | true=>Jj r t
   | false=>false
 | _,_=>false
end
mutual
theorem YM:∀ {v u:SV},pE v u=true->v=u
 | .int s k n,u,h=>by
   cases u <;> simp only [pE,iJ] at h <;> first | (cases h;done) | skip
   obtain ⟨h1,h2,h3⟩:=h
   rw [qU h1,jI h2,Uo h3]
 | .bool s b,u,h=>by
   cases u <;> simp only [pE,iJ] at h <;> first | (cases h;done) | skip
   rw [qU h.1,qU h.2]
 | .agg vs,u,h=>by
   cases u <;> simp only [pE] at h <;> first | (cases h;done) | skip
   rw [yL h]
 | .eH vs,u,h=>by
   cases u <;> simp only [pE] at h <;> first | (cases h;done) | skip
   rw [yL h]
 | .ptr l s o,u,h=>by
   cases u <;> simp only [pE,iJ] at h <;> first | (cases h;done) | skip
   obtain ⟨h1,h2,h3⟩:=h
   rw [cM h1,qU h2,cM h3]
 | .aH l s o n c,u,h=>by
   cases u <;> simp only [pE,iJ] at h <;> first | (cases h;done) | skip
   obtain ⟨h1,h2,h3,h4,h5⟩:=h
   rw [cM h1,qU h2,cM h3,cM h4,cM h5]
 | .fn ..,u,h=>by simp [pE] at h
 | .sO ..,u,h=>by simp [pE] at h
 | .raw ..,u,h=>by simp [pE] at h
 | .buf ..,u,h=>by simp [pE] at h
 | .iU ..,u,h=>by simp [pE] at h
 | .Re ..,u,h=>by simp [pE] at h
 | .lW ..,u,h=>by simp [pE] at h
 | .gY ..,u,h=>by simp [pE] at h
 | .ai ..,u,h=>by simp [pE] at h
 | .dG ..,u,h=>by simp [pE] at h
theorem yL:∀ {vs us:List SV},Jj vs us=true->vs=us
 | [],us,h=>by cases us <;> simp [Jj] at h |-
 | v::r,us,h=>by
   cases us with
   | nil=>simp [Jj] at h
   | cons u t=>
     simp only [Jj] at h
     split at h
     .rename_i h1;rw [YM h1,yL h]
     .cases h
end
mutual
def fH:SV->Bool
 | .int .. | .bool .. | .raw _ | .ai .. => true
 | .agg vs=>Js vs
 | .eH vs=>Js vs
 | _=>false
def Js:List SV->Bool
 | []=>true
 | v::r=>match fH v with
   | true=>Js r
   | false=>false
end
mutual
theorem mA {V V':bA}:∀ {v:SV},fH v=true->den V v=den V' v
 | .int ..,_=>rfl
 | .bool ..,_=>rfl
 | .raw _,_=>rfl
 | .agg vs,h=>by simp only [den,Be (V:=V) (V':=V') (vs:=vs) h]
 | .eH vs,h=>by simp only [den,Be (V:=V) (V':=V') (vs:=vs) h]
 | .fn ..,h=>by cases h
 | .sO ..,h=>by cases h
 | .ptr ..,h=>by cases h
 | .aH ..,h=>by cases h
 | .buf ..,h=>by cases h
 | .iU ..,h=>by cases h
 | .Re ..,h=>by cases h
 | .lW ..,h=>by cases h
 | .gY ..,h=>by cases h
 | .ai ..,_=>rfl
 | .dG ..,h=>by cases h
theorem Be {V V':bA}:∀ {vs:List SV},Js vs=true->aI V vs=aI V' vs
 | [],_=>rfl
 | v::r,h=>by
   simp only [Js] at h
   split at h
   .rename_i h1;simp only [aI,mA (V:=V) (V':=V') h1,Be (V:=V) (V':=V') h]
   .cases h
end
def orS (A B:Sum):Sum:=fun vs T lab F=>match A vs T lab F with
 | some e=>some e
 | none=>B vs T lab F
theorem EX {P:Program} {Γ:Env} {f:FuncId} {A B:Sum} (ha:aG P Γ f A) (hb:aG P Γ f B):aG P Γ f (orS A B):=by
 intro vs T lab F e he
 unfold orS at he
 split at he
 .rename_i e' h;cases he;exact ha vs T lab F _ h
 .exact hb vs T lab F e he
theorem qN {P:Program} {f g:FuncId} {fn fg:Func} {c:Code} {twin:String} (hf:P.funcs[f]?=some fn) (hg:P.funcs[g]?=some fg) (hb:fn.body=none) (hc:fg.body=some c)
 (hn:(fn.name == "runtime.NumGoroutine")=false) (NW:(fg.name == "runtime.NumGoroutine")=false) (he:Extern.findNext fn=some (Extern.Twins.call twin fn.params fn.resultTypes))
 (hi:P.funcs.findIdx? (·.name==twin)=some g) (hp:fg.params=fn.params) (hr:fg.resultTypes=fn.resultTypes) (args:Array Value) (w:World) :
 (callFunc f args).run P w=(callFunc g args).run P w:=by
 rw [gC hg hc NW]
 have Mm:¬ fn.name = "runtime.NumGoroutine" := by simpa using hn
 unfold callFunc
 simp [hf,hb,Mm,he,Extern.Twins.call,hi,hg,hp,hr,hc]
def wB (sub:Bool):Sum:=fun vs _ _ _=>match vs with
 | [.int sx .u64 x,.int sy .u64 y,.int sc .u64 c]=>match rC (sx&&(sy&&sc)) (0<=x/\0<=y/\0<=c/\c<=1) with
   | some l=>match sub with
     | false=>some { bO:=l,val:=.eH [.int (sx&&(sy&&sc)) .u64 ((x+y+c)%18446744073709551616),.int (sx&&(sy&&sc)) .u64 ((x+y+c)/18446744073709551616)] }
     | true=>some { bO:=l,val:=.eH [.int (sx&&(sy&&sc)) .u64 ((((x.toNat+18446744073709551616-y.toNat-c.toNat)%18446744073709551616:Nat):Int)),.int (sx&&(sy&&sc)) .u64 ((if x<y+c then 1 else 0))] }
   | none=>none
 | _=>none
def Ob:Array Value->Sem Value:=fun args=>do
 let (x,y,b) <- Extern.MathBitsCarry.three "Sub64" args
 pure (Extern.MathBitsCarry.pair ((x+Extern.MathBitsCarry.m64-y-b)%Extern.MathBitsCarry.m64) (if x<y+b then 1 else 0))
theorem Pu {P:Program} (x y b:Nat) (hb:b<=1) (w:World) :
 (Ob #[.int .u64 x,.int .u64 y,.int .u64 b]).run P w =
  .ok (.tuple #[.int .u64 (((x+18446744073709551616-y-b)%18446744073709551616:Nat):Int),.int .u64 ((if x<y+b then 1 else 0:Nat):Int)]) w:=by
 have:b=0\/b=1:=by omega
 rcases this with rfl | rfl <;> rfl
theorem Fa {P:Program} {Γ:Env} {f:FuncId} (sub:Bool)
 (eA:∀ (args:Array Value) (w:World),(callFunc f args).run P w=(do pure (.value (<- (match sub with | false=>add64Entry args | true=>Ob args))):Sem Next).run P w):aG P Γ f (wB sub):=by
 intro vs T lab F e he ho w0 M V T2 w xs aO hT hg hf hF hx o a K Q hK
 unfold wB at he
 split at he
 case h_2=>cases he
 rename_i sx x sy y sc c
 split at he
 case h_2=>cases he
 rename_i l hl
 simp only [aI,den,nG,gN,aU] at hx
 subst hx
 have rM:∀ q∈l,q:=by cases sub <;> (simp only [aU] at he;subst he;exact ho)
 obtain ⟨h1,h2,h3,h4⟩:=gF hl rM
 rw [eA]
 obtain ⟨x',rfl⟩:=pI h1
 obtain ⟨y',rfl⟩:=pI h2
 obtain ⟨c',rfl⟩:=pI h3
 cases sub with
 | false=>
   simp only [aU] at he
   subst he
   have:=run_add64 (P:=P) x' y' c' h1 h2 h3 h4 w
   simp only [Sem.run_bind,this,Result.andThen_ok,Sem.run_pure,Oper.upon_value]
   exact hK V _ w (V.cN lab) (by simp [den,aI]) (by rw [kB _ _ rfl rfl];exact hT)
 | true=>
   simp only [aU] at he
   subst he
   have:=Pu (P:=P) x' y' c' (by omega) w
   simp only [Sem.run_bind,this,Result.andThen_ok,Sem.run_pure,Oper.upon_value]
   refine hK V _ w (V.cN lab) ?_ (by rw [kB _ _ rfl rfl];exact hT)
   have e1:(if (x':Int)<(y':Int)+(c':Int) then (1:Int) else 0)=((if x'<y'+c' then 1 else 0:Nat):Int):=by
    split <;> split <;> first | rfl | omega
   simp only [den,aI,nG,gN,sR,e1]
end Go.Proofs.YtnodfocobmghiaaGreatDoor.Sx
section
namespace Go.Proofs.YtnodfocobmghiaaGreatDoor.Sx
end Go.Proofs.YtnodfocobmghiaaGreatDoor.Sx
end
section
namespace Go.Proofs.YtnodfocobmghiaaGreatDoor.Sx
end Go.Proofs.YtnodfocobmghiaaGreatDoor.Sx
end
namespace Go.Proofs.YtnodfocobmghiaaGreatDoor.Sx
def aE (P:Program) (Γ:Env) (f:FuncId) (vs:List SV) (T:bB) (lab F:Nat) (e:bK):Prop:=
 ∀ (w0:World) (M:Nat->Prop) (V:bA) (T2:bB) (w:World) (xs:List Value),
   (∀ l B,T l=some B->T2 l=some B)->aD w0 M V T2 w->bP Γ V->V.fresh lab->V.top F->aI V vs=some xs ->
   ∀ (o:Oper) (a:Act) K Q,(∀ V' x w',V.ext lab V'->den V' e.val=some x->aD w0 M V' (eT T2 lab e) w'->K (a.put o.dst x) w') ->
     o.upon P a K Q ((callFunc f xs.toArray).run P w)
theorem aG.call {P:Program} {Γ:Env} {f:FuncId} {S:Sum} (h:aG P Γ f S) {vs:List SV} {T:bB} {lab F:Nat} {e:bK} (he:S vs T lab F=some e) (ho:∀ q∈e.bO,q):aE P Γ f vs T lab F e:=h vs T lab F e he ho
theorem aG.HF {P:Program} {Γ:Env} {f:FuncId} {S:Sum} (h:∀ vs T lab F e,S vs T lab F=some e->(∀ q∈e.bO,q)->aE P Γ f vs T lab F e):aG P Γ f S:=h
inductive Src where
 | lab (l off:Nat)
 | val (v:SV)
 | Yy (v:SV) (cs:List SV)
abbrev Vw:=Nat->Option Src
def seen (vw:Vw) (V:bA):bA:=
 ⟨fun l0=>match vw l0 with
  | some (.lab l off)=>(V.β l).map fun p=>(p.1,p.2+off)
  | _=>none,
  fun l0=>match vw l0 with
   | some (.lab l _)=>V.σ l
   | some (.val v)=>den V v
   | some (.Yy v cs)=>(den V v).bind fun x=>(aI V cs).map fun us=>.tuple (x::us).toArray
   | none=>none⟩
theorem kU {vw:Vw} {V:bA} {l0 l off:Nat} (h:vw l0=some (.lab l off)):(seen vw V).β l0=(V.β l).map (fun p=>(p.1,p.2+off))/\(seen vw V).σ l0=V.σ l:=by
 simp [seen,h]
theorem uN {vw:Vw} {V:bA} {l0:Nat} {v:SV} (h:vw l0=some (.val v)):(seen vw V).σ l0=den V v:=by
 simp [seen,h]
def sY (vw:Vw) (F0 lab l0:Nat):Option Nat:=match Nat.blt l0 F0 with
 | true=>match vw l0 with
   | some (.lab l 0)=>some l
   | _=>none
 | false=>match Nat.blt l0 (F0+8) with
   | true=>some (lab+(l0-F0))
   | false=>none
def Jq (ρ : Nat->Option Nat):List SB->Option (List SB)
 | []=>some []
 | B::r=>match xN ρ B,Jq ρ r with
   | some B,some r=>some (B::r)
   | _,_=>none
def Jp (ρ : Nat->Option Nat):List (Nat × SB)->Option (List (Nat × SB))
 | []=>some []
 | (l,B)::r=>match ρ l,xN ρ B,Jp ρ r with
   | some l,some B,some r=>some ((l,B)::r)
   | _,_,_=>none
def Sj (ρ : Nat->Option Nat) (e:bK):Option bK:=match yR ρ e.val,Jq ρ e.new,Jp ρ e.wr with
 | some v,some n,some w=>some { bO:=e.bO,val:=v,new:=n,wr:=w }
 | _,_,_=>none
theorem Ei {ρ : Nat->Option Nat}:∀ {bs cs:List SB},Jq ρ bs=some cs->cs.length=bs.length/\∀ (i:Nat) (B:SB),cs[i]?=some B->∃ C,bs[i]?=some C/\xN ρ C=some B
 | [],cs,h=>by simp only [Jq,aU] at h;subst h;simp
 | b::r,cs,h=>by
   simp only [Jq] at h
   split at h
   .rename_i B' r' hB hr
    cases h
    obtain ⟨h1,h2⟩:=Ei hr
    refine ⟨by simp [h1],fun i B hi=>?_⟩
    cases i with
    | zero=>simp only [List.getElem?_cons_zero,aU] at hi;subst hi;exact ⟨b,rfl,hB⟩
    | succ i=>simpa using h2 i B (by simpa using hi)
   .cases h
def xM (ρ : Nat->Option Nat) (l:Nat):List (Nat × SB)->Option Nat
 | []=>none
 | (k,_)::r=>if ρ k=some l then some k else xM ρ l r
theorem yF {ρ : Nat->Option Nat} {l:Nat}:∀ {r:List (Nat × SB)} {k:Nat},xM ρ l r=some k -> ρ k=some l
 | [],k,h=>by cases h
 | (j,B)::r,k,h=>by
   simp only [xM] at h
   split at h
   .rename_i hj;cases h;exact hj
   .exact yF h
theorem Eh {ρ : Nat->Option Nat} {l:Nat}:∀ {r s:List (Nat × SB)},Jp ρ r=some s ->
 (∀ B,look l s=some B->∃ k C,xM ρ l r=some k/\look k r=some C/\xN ρ C=some B)/\(look l s=none->xM ρ l r=none)
 | [],s,h=>by simp only [Jp,aU] at h;subst h;exact ⟨fun B hB=>(by simp [look] at hB),fun _=>rfl⟩
 | (k,C)::r,s,h=>by
   simp only [Jp] at h
   split at h
   .rename_i l' B' r' h1 h2 h3
    cases h
    obtain ⟨i1,i2⟩:=Eh (l:=l) h3
    by_cases e:l'=l
    .subst e
     refine ⟨fun B hB=>?_,fun hn=>?_⟩
     .rw [aJ] at hB
      cases hB
      exact ⟨k,C,by simp [xM,h1],aJ _ _ _,h2⟩
     .rw [aJ] at hn;cases hn
    .have hk : ρ k≠some l:=by rw [h1];exact fun q=>e (by cases q;rfl)
     refine ⟨fun B hB=>?_,fun hn=>?_⟩
     .rw [aF e] at hB
      obtain ⟨k2,C2,j1,j2,j3⟩:=i1 B hB
      have dK:k≠k2:=fun q=>hk (q ▸ yF j1)
      exact ⟨k2,C2,by simp [xM,hk,j1],by rw [aF dK];exact j2,j3⟩
     .rw [aF e] at hn
      simp [xM,hk,i2 hn]
   .cases h
structure GJ (vw:Vw) (vs:List SV) (T:bB) (eR:List SV) (T0:List (Nat × SB)) (V:bA) (w:World):Prop where
 val:∀ xs,aI V vs=some xs->aI (seen vw V) eR=some xs
 ok:∀ l0 B0,look l0 T0=some B0->okB (seen vw V) w l0 B0
 jK:∀ l0 B0 l1 B1 n,l0≠l1->look l0 T0=some B0->look l1 T0=some B1->B0.owned=true->B0.aT (seen vw V) l0=some n->B1.aT (seen vw V) l1≠some n
 own:∀ l0 B0 n,look l0 T0=some B0->B0.owned=true->B0.aT (seen vw V) l0=some n->∃ l B,vw l0=some (.lab l 0)/\T l=some B/\B.owned=true/\B.aT V l=some n
def aJh (P:Program) (f:FuncId) (xs:List Value) (T2:bB) (lab:Nat) (e:bK) (w0:World) (M:Nat->Prop) (V:bA) (w:World):Prop:=
 ∀ (o:Oper) (a:Act) K Q,(∀ V' x w',V.ext lab V'->den V' e.val=some x->aD w0 M V' (eT T2 lab e) w'->K (a.put o.dst x) w')->o.upon P a K Q ((callFunc f xs.toArray).run P w)
theorem ME {P:Program} {Γ:Env} {f:FuncId} {vs eR:List SV} {T:bB} {T0:List (Nat × SB)} {F0 lab:Nat} {e0 e:bK} {vw:Vw} (hC:aE P Γ f eR (fun l=>look l T0) F0 F0 e0)
 (hvw:∀ l0,F0<=l0->vw l0=none) (Vb:∀ n l,look n Γ.aR=some l->vw l=some (.lab l 0))
 (fF:∀ l0 B0,look l0 T0=some B0->B0.owned=true->l0<F0/\look l0 e0.wr≠none)
 (hlen:e0.new.length<=8) (Uw:∀ l0 B0,look l0 e0.wr=some B0->l0<F0)
 (he:Sj (sY vw F0 lab) e0=some e) {w0:World} {M:Nat->Prop} {V:bA} {T2:bB} {w:World} {xs:List Value}
 (aO:∀ l B,T l=some B->T2 l=some B) (hT:aD w0 M V T2 w) (hg:bP Γ V) (hf:V.fresh lab) (hx:aI V vs=some xs) (fit:GJ vw vs T eR T0 V w):aJh P f xs T2 lab e w0 M V w:=by
 intro o a K Q hK
 unfold Sj at he
 split at he
 case h_2=>cases he
 rename_i v' new wr hv AM aTd
 cases he
 obtain ⟨MZ,hng⟩:=Ei AM
 obtain ⟨Th,hTh⟩:∃ Th:bB,Th=fun l=>open Classical in if ∃ l0 B0,look l0 T0=some B0/\B0.owned=true/\vw l0=some (.lab l 0) then T l else none:=⟨_,rfl⟩
 have aUc:∀ l B,Th l=some B->T2 l=some B:=fun l B hl=>by
  rw [hTh] at hl
  simp only at hl
  split at hl
  .exact aO l B hl
  .cases hl
 have aAp:∀ l0,F0<=l0->(seen vw V).β l0=none/\(seen vw V).σ l0=none:=fun l0 h=>by simp [seen,hvw l0 h]
 have Fu:aD w (jH V Th) (seen vw V) (fun l=>look l T0) w:=by
  refine ⟨fun l B hl=>fit.ok l B hl,fun l B l' B' n dK hl sV ho hb=>fit.jK l B l' B' n dK hl sV ho hb,fun l B n hl ho hb=>.inr ?_,gI.refl w _⟩
  .obtain ⟨l1,B1,h1,h2,h3,h4⟩:=fit.own l B n hl ho hb
   refine ⟨l1,B1,?_,h3,h4⟩
   rw [hTh]
   simp only
   rw [if_pos ⟨l,B,hl,ho,h1⟩]
   exact h2
 refine hC w (jH V Th) (seen vw V) (fun l=>look l T0) w xs (fun _ _ h=>h) Fu (fun n l hl=>?_) (fun l h1 h2=>aAp l h1) (fun l h1=>aAp l h1) (fit.val xs hx) o a K Q (fun V' x w' Mn hx' pH=>?_)
 .rw [(kU (Vb n l hl)).1,hg n l hl];rfl
 obtain ⟨V2,hV2⟩:∃ V2:bA,V2=⟨fun l=>if lab<=l/\l<lab+8 then V'.β (F0+(l-lab)) else V.β l,fun l=>if lab<=l/\l<lab+8 then V'.σ (F0+(l-lab)) else V.σ l⟩:=⟨_,rfl⟩
 have out:∀ l,¬ (lab<=l/\l<lab+8)->V2.β l=V.β l/\V2.σ l=V.σ l:=fun l hl=>by
  subst hV2;exact ⟨if_neg hl,if_neg hl⟩
 have inn:∀ i,i<8->V2.β (lab+i)=V'.β (F0+i)/\V2.σ (lab+i)=V'.σ (F0+i):=fun i hi=>by
  have hr:lab<=lab+i/\lab+i<lab+8:=⟨by omega,by omega⟩
  subst hV2
  refine ⟨(if_pos hr).trans ?_,(if_pos hr).trans ?_⟩ <;> rw [show lab+i-lab=i from by omega]
 have bR:V.ext lab V2:=by
  refine ⟨⟨fun l p hp=>?_,fun l p hp=>?_⟩,fun l hl=>out l (by omega)⟩
  .rw [(out l (fun hr=>by have:=(hf l hr.1 (by omega)).1;rw [this] at hp;cases hp)).1];exact hp
  .rw [(out l (fun hr=>by have:=(hf l hr.1 (by omega)).2;rw [this] at hp;cases hp)).2];exact hp
 have xQ:Ah (sY vw F0 lab) V' V2:=by
  intro l l' hl
  unfold sY at hl
  split at hl
  .rename_i hb
   have hlF:l<F0:=by simpa [Nat.blt_eq] using hb
   split at hl
   .rename_i l1 hq
    cases hl
    have h0:=Mn.2 l (.inl hlF)
    have h1:=kU (V:=V) hq
    rw [h0.1,h0.2,h1.1,h1.2]
    refine ⟨fun p hp=>?_,fun v hv=>bR.1.2 _ v hv⟩
    simp only [dF] at hp
    obtain ⟨q,yA,rfl⟩:=hp
    exact bR.1.1 _ _ yA
   .cases hl
  .split at hl
   .rename_i oZ mP
    cases hl
    have h1:F0<=l:=by
     apply Nat.le_of_not_lt
     intro q
     have q2:Nat.blt l F0=true:=by simpa [Nat.blt_eq] using q
     simp_all
    have h2:l<F0+8:=by simpa [Nat.blt_eq] using mP
    have:=inn (l-F0) (by omega)
    rw [show F0+(l-F0)=l from by omega] at this
    rw [this.1,this.2]
    exact ⟨fun p hp=>hp,fun p hp=>hp⟩
   .cases hl
 refine hK V2 x w' bR (Am xQ hv hx') ?_
 refine aD.called hT aUc pH bR.1 (fun l=>match xM (sY vw F0 lab) l e0.wr with
  | some k=>some k
  | none=>if lab<=l/\l<lab+e0.new.length then some (F0+(l-lab)) else none) (fun l B hl=>?_) (fun l l' k hk gL=>?_)
 .unfold eT bK.fB at hl
  simp only at hl
  rw [cB] at hl
  obtain ⟨g1,g2⟩:=Eh (l:=l) aTd
  cases hw:look l wr with
  | some b=>
    rw [hw] at hl
    cases hl
    obtain ⟨k,C,h1,h2,h3⟩:=g1 _ hw
    have yV:eT (fun l=>look l T0) F0 e0 k=some C:=by
     unfold eT bK.fB
     rw [cB,h2]
    obtain ⟨r1,r2,r3,r4⟩:=pZ xQ (yF h1) h3 (pH.ok k C yV)
    refine .inl ⟨k,by simp only [h1],C,yV,r1,r2,r4,?_⟩
    rcases uP h3 with q | q
    .exact .inl q
    .exact .inr (.inl q)
  | none=>
    rw [hw] at hl
    have Di:=g2 hw
    rw [eZ] at hl
    by_cases hr:lab<=l/\l<lab+e0.new.length
    .have cL:l-lab<new.length:=by rw [MZ];omega
     rw [if_pos hr.1,List.getElem?_eq_getElem cL] at hl
     cases hl
     obtain ⟨C,h3,h4⟩:=hng (l-lab) _ (List.getElem?_eq_getElem cL)
     have yV:eT (fun l=>look l T0) F0 e0 (F0+(l-lab))=some C:=by
      unfold eT bK.fB
      rw [cB]
      cases hq:look (F0+(l-lab)) e0.wr with
      | some b=>have:=Uw _ b hq;omega
      | none=>
        simp only
        rw [eZ,if_pos (by omega),show F0+(l-lab)-F0=l-lab from by omega,h3]
     have aCd:sY vw F0 lab (F0+(l-lab))=some l:=by
      unfold sY
      have b1:Nat.blt (F0+(l-lab)) F0=false:=by
       cases hb:Nat.blt (F0+(l-lab)) F0 with
       | false=>rfl
       | true=>have:F0+(l-lab)<F0:=by simpa [Nat.blt_eq] using hb
               omega
      have b2:Nat.blt (F0+(l-lab)) (F0+8)=true:=by simp [Nat.blt_eq];omega
      rw [b1,b2]
      simp only
      congr 1
      omega
     obtain ⟨r1,r2,r3,r4⟩:=pZ xQ aCd h4 (pH.ok _ C yV)
     refine .inl ⟨F0+(l-lab),by simp only [Di,if_pos hr],C,yV,r1,r2,r4,?_⟩
     rcases uP h4 with q | q
     .exact .inl q
     .exact .inr (.inl q)
    .have MY:(if lab<=l then new[l-lab]? else none)=none:=by
      split
      .apply List.getElem?_eq_none;rw [MZ];omega
      .rfl
     rw [MY] at hl
     simp only at hl
     refine .inr ⟨by simp only [Di,if_neg hr],?_,hl⟩
     rw [hTh]
     simp only
     split
     .rename_i hex
      obtain ⟨l0,B0,h1,h2,h3⟩:=hex
      obtain ⟨cL,hnn⟩:=fF l0 B0 h1 h2
      have aCd:sY vw F0 lab l0=some l:=by
       unfold sY
       have b1:Nat.blt l0 F0=true:=by simpa [Nat.blt_eq] using cL
       simp only [b1,h3]
      exfalso
      have:∀ {r:List (Nat × SB)},look l0 r≠none->xM (sY vw F0 lab) l r≠none:=by
       intro r
       induction r with
       | nil=>intro h;exact (h rfl).elim
       | cons p r ih=>
         obtain ⟨k,C⟩:=p
         intro h
         simp only [xM]
         split
         .simp
         .rename_i dK
          refine ih ?_
          by_cases e:k=l0
          .subst e;exact (dK aCd).elim
          .rwa [aF e] at h
      exact this hnn Di
     .rfl
 .have Dg:∀ (l k:Nat),(match xM (sY vw F0 lab) l e0.wr with
    | some k=>some k
    | none=>if lab<=l/\l<lab+e0.new.length then some (F0+(l-lab)) else none)=some k->sY vw F0 lab k=some l:=by
   intro l k hk
   split at hk
   .rename_i k' gL
    cases hk
    exact yF gL
   .split at hk
    .rename_i hr
     cases hk
     unfold sY
     have b1:Nat.blt (F0+(l-lab)) F0=false:=by
      cases hb:Nat.blt (F0+(l-lab)) F0 with
      | false=>rfl
      | true=>have:F0+(l-lab)<F0:=by simpa [Nat.blt_eq] using hb
              omega
     have b2:Nat.blt (F0+(l-lab)) (F0+8)=true:=by simp [Nat.blt_eq];omega
     rw [b1,b2]
     simp only
     congr 1
     omega
    .cases hk
  have e1:=Dg l k hk
  have e2:=Dg l' k gL
  rw [e1] at e2
  cases e2
  rfl
theorem MD {P:Program} {Γ:Env} {f:FuncId} {vs eR:List SV} {T:bB} {T0:List (Nat × SB)} {F0 lab F:Nat} {e0 e:bK} {vw:Vw} (hC:aE P Γ f eR (fun l=>look l T0) F0 F0 e0)
 (hvw:∀ l0,F0<=l0->vw l0=none) (Vb:∀ n l,look n Γ.aR=some l->vw l=some (.lab l 0))
 (aTw:∀ w0 M V w xs,aD w0 M V T w->aI V vs=some xs->GJ vw vs T eR T0 V w)
 (fF:∀ l0 B0,look l0 T0=some B0->B0.owned=true->l0<F0/\look l0 e0.wr≠none)
 (hlen:e0.new.length<=8) (Uw:∀ l0 B0,look l0 e0.wr=some B0->l0<F0)
 (he:Sj (sY vw F0 lab) e0=some e):aE P Γ f vs T lab F e:=by
 intro w0 M V T2 w xs aO hT hg hf _ hx
 exact ME hC hvw Vb fF hlen Uw he aO hT hg hf hx (aTw _ _ V w xs (aD.part hT aO) hx)
inductive Fr where
 | seq (y:Code)
 | aT (id:Nat)
 | loop (n:Nat) (c:Code)
 | scope
inductive Cf where
 | go (c:Code)
 | at (x:Ex)
def KQ (P:Program):List Fr->(Exit->Act->World->Prop)->Exit->Act->World->Prop
 | [],Q=>Q
 | .seq y::K,Q=>Exit.then (y.wp P (KQ P K Q)) (KQ P K Q)
 | .aT id::K,Q=>Exit.inBlock id (KQ P K Q)
 | .loop n c::K,Q=>Exit.then (Code.rounds P c (KQ P K Q) n) (KQ P K Q)
 | .scope::K,Q=>Exit.noGoto (KQ P K Q)
def AR:Code->Nat
 | .region n _ _=>n
 | .seq x _=>AR x
 | .block _ c=>AR c
 | .loop c=>AR c
 | .scope c=>AR c
 | _=>0
structure qL where
 cf:Cf
 fr:List Fr
 st:St
noncomputable def Du (Γ:Env) (B:bB) (F0 N:Nat) (stops:List Nat) (lf:Nat) (rec:Cf->List Fr->St->Option qL) (cf:Cf) (K:List Fr) (s:St):Option qL:=
 match cf with
 | .at x=>match K with
   | []=>some ⟨.at x,[],s⟩
   | .seq y::K=>match x with
     | .normal=>rec (.go y) K s
     | x=>rec (.at x) K s
   | .aT id::K=>match x with
     | .exit Ik=>match Nat.beq Ik id with
       | true=>rec (.at .normal) K s
       | false=>rec (.at (.exit Ik)) K s
     | x=>rec (.at x) K s
   | .loop n c::K=>match x with
     | .normal=>match n with
       | m+1=>rec (.go c) (.loop m c::K) s
       | 0=>none
     | x=>rec (.at x) K s
   | .scope::K=>rec (.at x) K s
 | .go c=>match c with
   | .skip=>rec (.at .normal) K s
   | .label _=>rec (.at .normal) K s
   | .region _ ops d=>match d with
     | true=>match Eb Γ B F0 N ops s with
       | some s'=>rec (.at .normal) K s'
       | none=>none
     | false=>match Fp Γ B F0 N ops ops.toList s with
       | some s'=>rec (.at .normal) K s'
       | none=>none
   | .seq x y=>rec (.go x) (.seq y::K) s
   | .cond c x y=>match ev Γ s.g.get c with
     | some (.bool true true)=>rec (.go x) K s
     | some (.bool true false)=>rec (.go y) K s
     | some (.bool false b)=>match s.hs with
       | true::r=>rec (.go x) K { s with ob:=(b=true)::s.ob,hs:=r }
       | false::r=>rec (.go y) K { s with ob:=(b=false)::s.ob,hs:=r }
       | []=>none
     | _=>none
   | .block id c=>rec (.go c) (.aT id::K) s
   | .loop c=>match stops.elem (AR c) with
     | true=>some ⟨.go (.loop c),K,s⟩
     | false=>rec (.go c) (.loop lf c::K) s
   | .exit id=>rec (.at (.exit id)) K s
   | .ret=>rec (.at .ret) K s
   | .scope c=>rec (.go c) (.scope::K) s
   | _=>none
noncomputable def hH (Γ:Env) (B:bB) (F0 N:Nat) (stops:List Nat) (lf n:Nat):Cf->List Fr->St->Option qL:=
 Nat.rec (fun cf K s=>some ⟨cf,K,s⟩) (fun _ ih=>Du Γ B F0 N stops lf ih) n
def G (P:Program) (Γ:Env) (w0:World) (M:Nat->Prop) (B:bB) (N F0:Nat) (V0:bA) (cf:Cf) (K:List Fr) (s:St) (Q:Exit->Act->World->Prop):Prop:=
 ∀ V a w,Inv P Γ w0 M B N F0 V0 s V a w->match cf with
   | .go c=>c.wp P (KQ P K Q) a w
   | .at x=>KQ P K Q x.to a w
section
variable {P:Program} {Γ:Env} {w0:World} {M:Nat->Prop} {B:bB} {N F0:Nat} {V0:bA}
theorem Inv.hints {s:St} {V:bA} {a:Act} {w:World} (hi:Inv P Γ w0 M B N F0 V0 s V a w) (ob:List Prop) (hs:List Bool):Inv P Γ w0 M B N F0 V0 { s with ob:=ob,hs:=hs } V a w:=
 ⟨hi.tmp,hi.keys,hi.size,hi.defers,hi.fB,hi.aR,hi.top,hi.le,hi.low,hi.ch,hi.nx,hi.hi⟩
theorem yI {stops:List Nat} {lf:Nat}:∀ {n:Nat} {cf:Cf} {K:List Fr} {s:St} {r:qL},hH Γ B F0 N stops lf n cf K s=some r->∀ q∈s.ob,q∈r.st.ob:=by
 intro n
 induction n with
 | zero=>intro cf K s r h q hq;cases h;exact hq
 | succ n ih=>
   intro cf K s r h q hq
   have h:Du Γ B F0 N stops lf (hH Γ B F0 N stops lf n) cf K s=some r:=h
   unfold Du at h
   split at h
   .split at h
    .cases h;exact hq
    .split at h <;> exact ih h q hq
    .split at h
     .split at h <;> exact ih h q hq
     .exact ih h q hq
    .split at h
     .split at h
      .exact ih h q hq
      .cases h
     .exact ih h q hq
    .exact ih h q hq
   .split at h
    .exact ih h q hq
    .exact ih h q hq
    .split at h
     .split at h
      .rename_i s1 h1;exact ih h q (Ln h1 q hq)
      .cases h
     .split at h
      .rename_i s1 h1;exact ih h q (tN h1 q hq)
      .cases h
    .exact ih h q hq
    .split at h
     .exact ih h q hq
     .exact ih h q hq
     .split at h
      .exact ih h q (eM _ hq)
      .exact ih h q (eM _ hq)
      .cases h
     .cases h
    .exact ih h q hq
    .split at h
     .cases h;exact hq
     .exact ih h q hq
    .exact ih h q hq
    .exact ih h q hq
    .exact ih h q hq
    .cases h
theorem G.run (aV:cA P Γ) (aY:cH P Γ) (iS:P.follows .mixedOrders=true) {stops:List Nat} {lf:Nat} {Q:Exit->Act->World->Prop}:∀ {n:Nat} {cf:Cf} {K:List Fr} {s:St} {r:qL},
 hH Γ B F0 N stops lf n cf K s=some r->(∀ q∈r.st.ob,q)->G P Γ w0 M B N F0 V0 r.cf r.fr r.st Q->G P Γ w0 M B N F0 V0 cf K s Q:=by
 intro n
 induction n with
 | zero=>intro cf K s r h ho hr;cases h;exact hr
 | succ n ih=>
   intro cf K s r h ho hr V a w hi
   have h:Du Γ B F0 N stops lf (hH Γ B F0 N stops lf n) cf K s=some r:=h
   cases cf with
   | «at» x=>
     cases K with
     | nil=>cases h;exact hr V a w hi
     | cons fr K'=>
       cases fr with
       | seq y=>cases x <;> exact ih h ho hr V a w hi
       | aT id=>
         cases x with
         | normal=>exact ih h ho hr V a w hi
         | ret=>exact ih h ho hr V a w hi
         | exit Ik=>
           simp only [Du] at h
           split at h
           .rename_i hb
            have:=ih h ho hr V a w hi
            show (if Ik=id then KQ P K' Q .normal a w else KQ P K' Q (.exit Ik) a w)
            rw [if_pos (cM hb)]
            exact this
           .rename_i hb
            have:=ih h ho hr V a w hi
            show (if Ik=id then KQ P K' Q .normal a w else KQ P K' Q (.exit Ik) a w)
            rw [if_neg (beq_false hb)]
            exact this
       | loop m c=>
         cases x with
         | normal=>
           cases m with
           | zero=>cases h
           | succ m'=>exact ih h ho hr V a w hi
         | ret=>exact ih h ho hr V a w hi
         | exit Ik=>exact ih h ho hr V a w hi
       | scope=>
         have:=ih h ho hr V a w hi
         cases x <;> exact this
   | go c=>
     simp only [Du] at h
     split at h
     .exact wp_skip (ih h ho hr V a w hi)
     .exact wp_label (ih h ho hr V a w hi)
     .split at h
      .split at h
       .rename_i s1 h1
        exact Lm aV aY iS h1 (fun q hq=>ho q (yI h q hq)) hi fun V' a' w' fQ=>ih h ho hr V' a' w' fQ
       .cases h
      .split at h
       .rename_i s1 h1
        exact wp_region_list (tM aV aY h1 (fun q hq=>ho q (yI h q hq)) hi fun V' a' w' fQ=>ih h ho hr V' a' w' fQ)
       .cases h
     .exact wp_seq (ih h ho hr V a w hi)
     .split at h
      .rename_i hc
       have hc:=bH hi.tmp hi.aR hc
       simp only [den,aU] at hc
       exact wp_cond_true hc.symm (ih h ho hr V a w hi)
      .rename_i hc
       have hc:=bH hi.tmp hi.aR hc
       simp only [den,aU] at hc
       exact wp_cond_false hc.symm (ih h ho hr V a w hi)
      .rename_i b hc
       have hc:=bH hi.tmp hi.aR hc
       simp only [den,aU] at hc
       split at h
       .have hb:b=true:=ho _ (yI h _ dB)
        rw [hb] at hc
        exact wp_cond_true hc.symm (ih h ho hr V a w (hi.hints _ _))
       .have hb:b=false:=ho _ (yI h _ dB)
        rw [hb] at hc
        exact wp_cond_false hc.symm (ih h ho hr V a w (hi.hints _ _))
       .cases h
      .cases h
     .exact wp_block (ih h ho hr V a w hi)
     .split at h
      .cases h;exact hr V a w hi
      .exact wp_loop_rounds (lf+1) (ih h ho hr V a w hi)
     .exact wp_exit (ih h ho hr V a w hi)
     .exact wp_ret (ih h ho hr V a w hi)
     .exact wp_scope_straight (ih h ho hr V a w hi)
     .cases h
theorem G.loop {L:Code} {K:List Fr} {Q:Exit->Act->World->Prop} (S:Nat->St->Prop) {r0:Nat} {s0:St} (h0:S r0 s0)
 (aGo:∀ r s,S r s->G P Γ w0 M B N F0 V0 (.go L) [] s (Exit.then (fun a w=>∃ r',r'<r/\∃ s',S r' s'/\∃ V,Inv P Γ w0 M B N F0 V0 s' V a w) (KQ P K Q))) :
 G P Γ w0 M B N F0 V0 (.go (.loop L)) K s0 Q:=by
 intro V a w hi
 refine wp_loop_ghost (fun r a w=>∃ s,S r s/\∃ V,Inv P Γ w0 M B N F0 V0 s V a w) r0 ⟨s0,h0,V,hi⟩ ?_
 rintro r a w ⟨s,hs,V,hi⟩
 exact aGo r s hs V a w hi
theorem G.again {K:List Fr} {Q:Exit->Act->World->Prop} {S:Nat->St->Prop} {r:Nat} {s:St}
 (h:∀ V a w,Inv P Γ w0 M B N F0 V0 s V a w->∃ r',r'<r/\∃ s',S r' s'/\∃ V,Inv P Γ w0 M B N F0 V0 s' V a w) :
 G P Γ w0 M B N F0 V0 (.at .normal) [] s (Exit.then (fun a w=>∃ r',r'<r/\∃ s',S r' s'/\∃ V,Inv P Γ w0 M B N F0 V0 s' V a w) (KQ P K Q)):=
 fun V a w hi=>h V a w hi
theorem G.leave {K:List Fr} {Q:Exit->Act->World->Prop} {J:Act->World->Prop} {x:Ex} {s:St} (hx:x ≠ .normal) (h:G P Γ w0 M B N F0 V0 (.at x) K s Q) :
 G P Γ w0 M B N F0 V0 (.at x) [] s (Exit.then J (KQ P K Q)):=by
 intro V a w hi
 have:=h V a w hi
 cases x with
 | normal=>exact (hx rfl).elim
 | exit id=>exact this
 | ret=>exact this
end
def Jr (ρ : Nat->Option Nat):SB->Option SB
 | .iV k xs=>some (.iV k xs)
 | .qK xs=>some (.qK xs)
 | B=>xN ρ B
theorem Ej {ρ : Nat->Option Nat} {V V':bA} (h:Ah ρ V V') {w:World} {l l':Nat} {B B':SB} (hl : ρ l=some l') (hr:Jr ρ B=some B') (nC:okB V w l B) :
 okB V' w l' B'/\(∀ n,B'.aT V' l'=some n->B.aT V l=some n)/\(∀ n,B.aT V l=some n->B'.aT V' l'=some n)/\B'.owned=B.owned:=by
 cases B with
 | iV k xs=>
   simp only [Jr,aU] at hr
   subst hr
   obtain ⟨cs,hc,v,hσ,hh⟩:=nC
   have gE:=(h l l' hl).2 _ hσ
   exact ⟨⟨cs,hc,v,gE,hh⟩,fun n hn=>by simpa [SB.aT,hσ,gE] using hn,fun n hn=>by simpa [SB.aT,hσ,gE] using hn,rfl⟩
 | qK xs=>
   simp only [Jr,aU] at hr
   subst hr
   obtain ⟨cs,hc,v,hσ,hh⟩:=nC
   have gE:=(h l l' hl).2 _ hσ
   exact ⟨⟨cs,hc,v,gE,hh⟩,fun n hn=>by simpa [SB.aT,hσ,gE] using hn,fun n hn=>by simpa [SB.aT,hσ,gE] using hn,rfl⟩
 | _=>exact pZ h hl hr nC
noncomputable def qP (ρ : Nat->Option Nat) (tb:Tr SB):List Nat->Option (List SB)
 | []=>some []
 | l::r=>match tb.get l with
   | some B=>match Jr ρ B,qP ρ tb r with
     | some B,some bs=>some (B::bs)
     | _,_=>none
   | none=>none
theorem qE {ρ : Nat->Option Nat} {tb:Tr SB}:∀ {ls:List Nat} {bs:List SB},qP ρ tb ls=some bs->bs.length=ls.length/\∀ (i:Nat) (B:SB),bs[i]?=some B->∃ (l:Nat) (C:SB),ls[i]?=some l/\tb.get l=some C/\Jr ρ C=some B
 | [],bs,h=>by simp only [qP,aU] at h;subst h;simp
 | l::r,bs,h=>by
   simp only [qP] at h
   split at h
   .rename_i C hC
    split at h
    .rename_i B' bs' hB hbs
     cases h
     obtain ⟨h1,h2⟩:=qE hbs
     refine ⟨by simp [h1],fun i B hi=>?_⟩
     cases i with
     | zero=>simp only [List.getElem?_cons_zero,aU] at hi;subst hi;exact ⟨l,C,rfl,hC,hB⟩
     | succ i=>simpa using h2 i B (by simpa using hi)
    .cases h
   .cases h
noncomputable def Jx (ρ : Nat->Option Nat) (g:Tr SV):List Nat->Option (Tr SV)
 | []=>some .lf
 | t::r=>match Jx ρ g r,g.get t with
   | some g',some v=>match yR ρ v with
     | some v=>Tr.put v 64 g' t
     | none=>none
   | _,_=>none
noncomputable def AF:List (Nat × SB)->Option (Tr SB)
 | []=>some .lf
 | (l,B)::r=>match AF r with
   | some t=>Tr.put B 64 t l
   | none=>none
noncomputable def Rw (F0:Nat) (pN fE:List Nat) (hs:List Bool) (s:St):Option St:=
 match Jx (nm F0 F0 fE) s.g pN,qP (nm F0 F0 fE) s.tb s.ws,qP (nm F0 F0 fE) s.tb fE with
 | some g,some wr,some nw=>match AF (nN s.ws wr++fZ F0 nw),zH (nm F0 F0 fE) s.df with
   | some tb,some df=>match Dr fE&&(fE.all (fun l=>Nat.ble F0 l)&&s.ws.all (fun l=>Nat.blt l F0)) with
     | true=>some { g:=g,tb:=tb,nx:=F0+fE.length,ws:=s.ws,ob:=[],df:=df,hs:=hs }
     | false=>none
   | _,_=>none
 | _,_,_=>none
theorem wH {ρ : Nat->Option Nat} {g:Tr SV}:∀ {ks:List Nat} {g':Tr SV},Jx ρ g ks=some g'->∀ t v,g'.get t=some v->∃ u,g.get t=some u/\yR ρ u=some v
 | [],g',h,t,v,hv=>by simp only [Jx,aU] at h;subst h;rw [Tr.kK] at hv;cases hv
 | k::r,g',h,t,v,hv=>by
   simp only [Jx] at h
   split at h
   case h_2=>cases h
   rename_i g1 u h1 hu
   split at h
   case h_2=>cases h
   rename_i v1 hr
   rw [Tr.gG _ _ _ _ _ h t] at hv
   split at hv
   .rename_i e;subst e;cases hv;exact ⟨u,hu,hr⟩
   .exact wH h1 t v hv
theorem Kw:∀ {r:List (Nat × SB)} {t:Tr SB},AF r=some t->∀ l,t.get l=look l r
 | [],t,h,l=>by simp only [AF,aU] at h;subst h;rfl
 | (k,B)::r,t,h,l=>by
   simp only [AF] at h
   split at h
   case h_2=>cases h
   rename_i t1 h1
   rw [Tr.gG _ _ _ _ _ h l]
   split
   .rename_i e;subst e;rw [aJ]
   .rename_i e;rw [aF (fun q=>e q.symm)];exact Kw h1 l
structure pF (Γ:Env) (B:bB) (F0:Nat) (V0:bA):Prop where
 top:V0.top F0
 aR:bP Γ V0
 cut:∀ l,F0<=l->B l=none
 cells:∀ l b,B l=some b->∃ cs,b.cells V0=some cs
theorem CI {F lab l:Nat} {ls:List Nat} (h:l<F):nm F lab ls l=some l:=by
 unfold nm
 have:Nat.blt l F=true:=by simpa [Nat.blt_eq] using h
 rw [this]
theorem aNi {F lab l i:Nat} {ls:List Nat} (h:F<=l) (hd:Dr ls=true) (hi:ls[i]?=some l):nm F lab ls l=some (lab+i):=by
 unfold nm
 have hb:Nat.blt l F=false:=by
  cases hb:Nat.blt l F with
  | false=>rfl
  | true=>have:l<F:=by simpa [Nat.blt_eq] using hb
          omega
 rw [hb]
 simp only
 cases NY:Cs l ls 0 with
 | none=>
   exfalso
   have:∀ (ms:List Nat) (i:Nat),Cs l ms i=none->l ∉ ms:=by
    intro ms
    induction ms with
    | nil=>intro i _;simp
    | cons a r ih=>
      intro i hi
      simp only [Cs] at hi
      split at hi
      .cases hi
      .rename_i hb
       have:=beq_false hb
       simp only [List.mem_cons,not_or]
       exact ⟨fun q=>this q.symm,ih _ hi⟩
   exact this ls 0 NY (List.mem_of_getElem? hi)
 | some j=>
   simp only
   obtain ⟨_,h6⟩:=tR NY
   have:=uR hd hi (by simpa using h6)
   congr 1
   omega
section
variable {P:Program} {Γ:Env} {w0:World} {M:Nat->Prop} {B:bB} {N F0:Nat} {V0:bA}
theorem Inv.norm (hb:pF Γ B F0 V0) {pN fE:List Nat} {hs:List Bool} {s s':St} (h:Rw F0 pN fE hs s=some s') {V:bA} {a:Act} {w:World} (hi:Inv P Γ w0 M B N F0 V0 s V a w) :
 ∃ V',Inv P Γ w0 M B N F0 V0 s' V' a w:=by
 unfold Rw at h
 split at h
 case h_2=>cases h
 rename_i g wr nw hg Uw hnw
 split at h
 case h_2=>cases h
 rename_i tb df htb hdf
 split at h
 case h_2=>cases h
 rename_i jY
 cases h
 simp only [iJ] at jY
 obtain ⟨sP,hc3,hc4⟩:=jY
 have PO:∀ (i k:Nat),fE[i]?=some k->F0<=k:=fun i k hk=>kO (List.all_eq_true.1 hc3 k (List.mem_of_getElem? hk))
 have AI:∀ k,k∈s.ws->k<F0:=fun k hk=>by have:=List.all_eq_true.1 hc4 k hk;simpa [Nat.blt_eq] using this
 obtain ⟨MZ,hng⟩:=qE hnw
 obtain ⟨MT,hwg⟩:=qE Uw
 have rD:=Kw htb
 obtain ⟨V',Mn⟩:∃ V':bA,V'=⟨fun l=>if l<F0 then V.β l else (fE[l-F0]?).bind V.β,fun l=>if l<F0 then V.σ l else (fE[l-F0]?).bind V.σ⟩:=⟨_,rfl⟩
 have Ip:∀ l,l<F0->V'.β l=V.β l/\V'.σ l=V.σ l:=fun l hl=>by subst Mn;exact ⟨if_pos hl,if_pos hl⟩
 have vhi:∀ i,V'.β (F0+i)=(fE[i]?).bind V.β/\V'.σ (F0+i)=(fE[i]?).bind V.σ:=fun i=>by
  subst Mn
  refine ⟨(if_neg (by omega)).trans ?_,(if_neg (by omega)).trans ?_⟩ <;> rw [show F0+i-F0=i from by omega]
 have aQi:∀ l,F0<=l->V'.β l=(fE[l-F0]?).bind V.β/\V'.σ l=(fE[l-F0]?).bind V.σ:=fun l hl=>by
  have:=vhi (l-F0);rwa [show F0+(l-F0)=l from by omega] at this
 have hle:V0.le V':=by
  refine ⟨fun l p hp=>?_,fun l p hp=>?_⟩
  .by_cases hl:l<F0
   .rw [(Ip l hl).1,(hi.low l hl).1];exact hp
   .rw [(hb.top l (by omega)).1] at hp;cases hp
  .by_cases hl:l<F0
   .rw [(Ip l hl).2,(hi.low l hl).2];exact hp
   .rw [(hb.top l (by omega)).2] at hp;cases hp
 have xQ:Ah (nm F0 F0 fE) V V':=by
  intro l l' hl
  by_cases cL:l<F0
  .rw [CI cL] at hl
   cases hl
   rw [(Ip l cL).1,(Ip l cL).2]
   exact ⟨fun p hp=>hp,fun p hp=>hp⟩
  .unfold nm at hl
   split at hl
   .rename_i Rl
    exact absurd (by simpa [Nat.blt_eq] using Rl) cL
   .split at hl
    .rename_i i NY
     cases hl
     obtain ⟨_,h2⟩:=tR NY
     have h2:fE[i]?=some l:=by simpa using h2
     rw [(vhi i).1,(vhi i).2,h2]
     exact ⟨fun p hp=>hp,fun p hp=>hp⟩
    .cases hl
 have src:∀ l b,St.T B { g:=g,tb:=tb,nx:=F0+fE.length,ws:=s.ws,ob:=[],df:=df,hs:=hs } l=some b ->
  ∃ k C,s.T B k=some C/\nm F0 F0 fE k=some l/\okB V' w l b/\(∀ n,b.aT V' l=some n->C.aT V k=some n)/\b.owned=C.owned:=by
  intro l b hl
  simp only [St.T,rD l] at hl
  rw [cB] at hl
  cases hw:look l (nN s.ws wr) with
  | some b1=>
    rw [hw] at hl
    cases hl
    obtain ⟨i,h1,h2⟩:=mE hw
    obtain ⟨k,C,h3,h4,h5⟩:=hwg i _ h2
    rw [h1] at h3;cases h3
    have yV:s.T B l=some C:=by simp only [St.T,h4]
    have NV:nm F0 F0 fE l=some l:=CI (AI l (List.mem_of_getElem? h1))
    obtain ⟨r1,r2,r3,r4⟩:=Ej xQ NV h5 (hi.fB.ok l C yV)
    exact ⟨l,C,yV,NV,r1,r2,r4⟩
  | none=>
    rw [hw] at hl
    have Ct:=kN MT hw
    simp only at hl
    rw [eZ] at hl
    by_cases hr:F0<=l
    .rw [if_pos hr] at hl
     cases hn:nw[l-F0]? with
     | some b1=>
       rw [hn] at hl
       cases hl
       obtain ⟨k,C,h3,h4,h5⟩:=hng (l-F0) _ hn
       have yV:s.T B k=some C:=by simp only [St.T,h4]
       have NV:nm F0 F0 fE k=some l:=by
        rw [aNi (PO _ _ h3) sP h3]
        congr 1
        omega
       obtain ⟨r1,r2,r3,r4⟩:=Ej xQ NV h5 (hi.fB.ok k C yV)
       exact ⟨k,C,yV,NV,r1,r2,r4⟩
     | none=>
       rw [hn] at hl
       simp only at hl
       rw [hb.cut l hr] at hl
       cases hl
    .rw [if_neg hr] at hl
     simp only at hl
     have cL:l<F0:=by omega
     have yV:s.T B l=some b:=by simp only [St.T,hi.ch l cL Ct,hl]
     obtain ⟨cs,c1,c2⟩:=hi.fB.ok l b yV
     obtain ⟨cs0,c3⟩:=hb.cells l b hl
     have:=SB.iI hi.le c3
     rw [c1] at this
     cases this
     have e1:=(Ip l cL).1
     have e2:=(Ip l cL).2
     refine ⟨l,b,yV,CI cL,⟨cs,SB.iI hle c3,?_⟩,fun n hn=>?_,rfl⟩
     .cases b with
      | own cells ty=>obtain ⟨b,hb,hh⟩:=c2;exact ⟨b,e1.trans hb,hh⟩
      | ints k xs ty=>obtain ⟨b,hb,hh⟩:=c2;exact ⟨b,e1.trans hb,hh⟩
      | eK vs ty=>obtain ⟨b,hb,hh⟩:=c2;exact ⟨b,e1.trans hb,hh⟩
      | fO cells=>obtain ⟨b,o,hb,hh⟩:=c2;exact ⟨b,o,e1.trans hb,hh⟩
      | nH k xs=>obtain ⟨b,o,hb,hh⟩:=c2;exact ⟨b,o,e1.trans hb,hh⟩
      | dC k xs ty=>obtain ⟨v,hv,hh⟩:=c2;exact ⟨v,e2.trans hv,hh⟩
      | fM sz n ty=>obtain ⟨v,us,hv,hh⟩:=c2;exact ⟨v,us,e2.trans hv,hh⟩
      | row sz cells ty=>obtain ⟨b,cap,cur,hb,hσ,r⟩:=c2;exact ⟨b,cap,cur,e1.trans hb,e2.trans hσ,r⟩
      | iV k xs=>obtain ⟨v,hv,hh⟩:=c2;exact ⟨v,e2.trans hv,hh⟩
      | eJ xs ty=>obtain ⟨v,hv,hh⟩:=c2;exact ⟨v,e2.trans hv,hh⟩
      | qK xs=>obtain ⟨v,hv,hh⟩:=c2;exact ⟨v,e2.trans hv,hh⟩
      | gone=>trivial
     .cases b <;> simp only [SB.aT,e1,e2] at hn |- <;> exact hn
 refine ⟨V',fun t v hv=>?_,fun d v hv=>?_,hi.size,?_,⟨fun l b hl=>?_,fun l b l' b' n dK hl sV ho Ih Vt=>?_,fun l b n hl ho Ih=>?_,hi.fB.frame⟩,fun n l hl=>hle.1 _ _ (hb.aR n l hl),fun l hl=>?_,hle,fun l hl=>?_,fun l hl hn=>?_,?_,fun l hl=>?_⟩
 .obtain ⟨u,h1,h2⟩:=wH hg t v hv
  exact Am xQ h2 (hi.tmp t u h1)
 .obtain ⟨u,h1,_⟩:=wH hg d v hv
  exact hi.keys d u h1
 .obtain ⟨xs,h1,h2⟩:=hi.defers
  exact ⟨xs,mT xQ hdf h1,h2⟩
 .obtain ⟨_,_,_,_,h,_⟩:=src l b hl;exact h
 .obtain ⟨k,C,h1,h2,_,h4,h5⟩:=src l b hl
  obtain ⟨k',C',Na,Ze,_,h4',_⟩:=src l' b' sV
  have yS:k≠k':=fun e=>by subst e;rw [h2] at Ze;cases Ze;exact dK rfl
  exact hi.fB.jK k C k' C' n yS h1 Na (h5 ▸ ho) (h4 n Ih) (h4' n Vt)
 .obtain ⟨k,C,h1,h2,_,h4,h5⟩:=src l b hl
  exact hi.fB.perm k C n h1 (h5 ▸ ho) (h4 n Ih)
 .have hl:F0+fE.length<=l:=hl
  have:=aQi l (by omega)
  rw [this.1,this.2,List.getElem?_eq_none (by omega)]
  exact ⟨rfl,rfl⟩
 .rw [(Ip l hl).1,(Ip l hl).2];exact hi.low l hl
 .show tb.get l=none
  rw [rD l,cB]
  cases hw:look l (nN s.ws wr) with
  | some b=>
    obtain ⟨i,h1,_⟩:=mE hw
    exact absurd (List.mem_of_getElem? h1) hn
  | none=>
    simp only
    rw [eZ,if_neg (by omega)]
 .exact Nat.le_add_right _ _
 .have hl:F0+fE.length<=l:=hl
  have h1:tb.get l=none:=by
   rw [rD l,cB]
   cases hw:look l (nN s.ws wr) with
   | some b=>
     obtain ⟨i,h1,_⟩:=mE hw
     have:=AI l (List.mem_of_getElem? h1)
     omega
   | none=>
     simp only
     rw [eZ,if_pos (by omega)]
     exact List.getElem?_eq_none (by rw [MZ];omega)
  show (match tb.get l with | some b=>some b | none=>B l)=none
  rw [h1]
  exact hb.cut l (by omega)
theorem G.norm (hb:pF Γ B F0 V0) {pN fE:List Nat} {hs:List Bool} {s s':St} (h:Rw F0 pN fE hs s=some s') {cf:Cf} {K:List Fr} {Q:Exit->Act->World->Prop}
 (hG:G P Γ w0 M B N F0 V0 cf K s' Q):G P Γ w0 M B N F0 V0 cf K s Q:=by
 intro V a w hi
 obtain ⟨V',fQ⟩:=hi.norm hb h
 exact hG V' a w fQ
end
noncomputable def Je (Γ:Env) (T:bB) (lab F:Nat) (fn:Func) (x:Ex) (s:St):Option bK:=match x with
 | .exit _=>none
 | _=>match kA Γ (bI F T) F fn.ntmps s.df s with
   | some s=>match zG Γ s.g.get (s.T (bI F T)) fn.results.toList with
     | some (ob,rs)=>finish F lab (s.MM ob) (res rs)
     | none=>none
   | none=>none
theorem XR {P:Program} {Γ:Env} (aV:cA P Γ) (aY:cH P Γ) {fn:Func} {T T2:bB} {lab F:Nat} {e e':bK} {w0 w:World} {M:Nat->Prop} {V:bA} {x:Ex} {s:St}
 (aO:∀ l B,T l=some B->T2 l=some B) (hT:aD w0 M V T2 w) (hf:V.fresh lab) (h:Je Γ T lab F fn x s=some e') (ho:∀ q∈e'.bO,q) (hev:e'.val=e.val) (hen:e'.new=e.new) (hew:e'.wr=e.wr)
 {R:Ending->World->Prop} (hR:∀ V' x w',V.ext lab V'->den V' e.val=some x->aD w0 M V' (eT T2 lab e) w'->R (.returned x) w') :
 G P Γ w (jH V (bI F T)) (bI F T) fn.ntmps F V (.at x) [] s (bodyPostD P fn R):=by
 intro V' a' w' fQ
 have main:∀ y:Ex,y.to = .normal\/y.to = .ret->(match kA Γ (bI F T) F fn.ntmps s.df s with
   | some s=>match zG Γ s.g.get (s.T (bI F T)) fn.results.toList with
     | some (ob,rs)=>finish F lab (s.MM ob) (res rs)
     | none=>none
   | none=>none)=some e'->bodyPostD P fn R y.to a' w':=by
  intro y hy h
  split at h
  case h_2=>cases h
  rename_i s2 h2
  split at h
  case h_2=>cases h
  rename_i obr rs Uy
  have Zs:e'.bO=obr++s2.ob:=by
   unfold finish at h
   split at h
   .cases h
   .simp only at h
    split at h
    .cases h;rfl
    .cases h
  obtain ⟨ys,gK,Dh⟩:=fQ.defers
  have hl:Leaves P fn a'.tmps R a'.defers .returning w':=by
   rw [Dh]
   refine Bc aY h2 (fun q hq=>ho q (Zs ▸ List.mem_append_right _ hq)) fQ rfl gK fun V3 a3 w3 hi3 ha3=>?_
   obtain ⟨v,hv1,hv2⟩:=Bs (P:=P) (fn:=fn) aV hi3.tmp hi3.fB Uy (fun q hq=>ho q (Zs ▸ List.mem_append_left _ hq))
   obtain ⟨_,V2,k1,k2,k3⟩:=Et hT aO hf (hi3.MM obr) hv1 h
   refine ⟨v,ha3 ▸ hv2,hR V2 v w3 k1 (hev ▸ k2) ?_⟩
   have:eT T2 lab e=eT T2 lab e':=by
    funext l;simp only [eT,bK.fB,hen,hew]
   rw [this]
   exact k3
  rcases hy with q | q <;> (rw [q];exact hl)
 cases x with
 | exit id=>cases h
 | normal=>exact main .normal (.inl rfl) h
 | ret=>exact main .ret (.inr rfl) h
theorem iH {P:Program} {Γ:Env} (aV:cA P Γ) (aY:cH P Γ) {f:FuncId} {fn:Func} {c:Code} (sX:P.funcs[f]?=some fn) (dK:(fn.name == "runtime.NumGoroutine")=false) (hc:fn.body=some c)
 {vs:List SV} {T:bB} {lab F:Nat} {e:bK} (hn:vs.length<=fn.ntmps) {g:Tr SV} (yC:Aa vs 0 .lf=some g) (hs:List Bool)
 (H:∀ (w0:World) (M:Nat->Prop) (V0:bA) (Q:Exit->Act->World->Prop),pF Γ (bI F T) F V0 ->
  (∀ x s e',Je Γ T lab F fn x s=some e'->(∀ q∈e'.bO,q)->e'.val=e.val->e'.new=e.new->e'.wr=e.wr->G P Γ w0 M (bI F T) fn.ntmps F V0 (.at x) [] s Q) ->
  G P Γ w0 M (bI F T) fn.ntmps F V0 (.go c) [] { g:=g,tb:=.lf,nx:=F,ws:=[],ob:=[],hs:=hs } Q):aE P Γ f vs T lab F e:=by
 intro w0 M V T2 w xs aO hT hg hf hF hx o a K Q hK
 have hlen:=bG hx
 have Kc:=wI yC
 have nA:xs.length=vs.length:=hlen
 have fA:pF Γ (bI F T) F V:=by
  refine ⟨hF,hg,fun l hl=>?_,fun l b hl=>?_⟩
  .cases hc:bI F T l with
   | none=>rfl
   | some b=>have:=(kD hc).1;omega
  .obtain ⟨cs,h1,_⟩:=hT.ok l b (aO l b (kD hl).2)
   exact ⟨cs,h1⟩
 have NZ:Inv P Γ w (jH V (bI F T)) (bI F T) fn.ntmps F V { g:=g,tb:=.lf,nx:=F,ws:=[],ob:=[],hs:=hs } V { tmps:=xs.toArray++Array.replicate (fn.ntmps-xs.toArray.size) undef,defers:=[] } w:=by
  refine ⟨fun t v hv=>?_,fun d v hv=>?_,?_,⟨[],rfl,rfl⟩,?_,hg,hF,V.le_refl,fun l _=>⟨rfl,rfl⟩,fun l _ _=>rfl,dE _,fun l hl=>?_⟩
  .have:=Kc t
   simp only at hv
   rw [hv] at this
   split at this
   .rename_i hr
    obtain ⟨y,h1,h2⟩:=dQ hx t v (by simpa using this.symm)
    rw [h2]
    have cL:t<xs.length:=by omega
    have rD:xs[t]?=some y:=h1
    simp [Act.eval,Array.getD_eq_getD_getElem?,Array.getElem?_append,cL] at rD |-
    exact rD.symm
   .cases this
  .have:=Kc d
   simp only at hv
   rw [hv] at this
   split at this
   .omega
   .cases this
  .simp
   omega
  .have hp:=aD.part hT (T:=bI F T) (fun l B hl=>aO l B (kD hl).2)
   have:St.T (bI F T) { g:=g,tb:=.lf,nx:=F,ws:=[],ob:=[],hs:=hs }=bI F T:=by funext l;rfl
   rw [this]
   exact hp
  .show (match Tr.get .lf l with | some b=>some b | none=>bI F T l)=none
   simp only [Tr.kK]
   exact fA.cut l hl
 rw [gC sX hc dK,Oper.upon_enter]
 refine calls_of_wp_defers sX hc ?_
 exact H w (jH V (bI F T)) V (bodyPostD P fn _) fA (fun x s e' h ho h1 h2 h3=>XR aV aY aO hT hf h ho h1 h2 h3 (R:=fun
   | .returned v,NM=>K (a.put o.dst v) NM
   | .panicked chain,NM=>Q (.panic chain) a NM
   | .outgrown,_=>LetsOut Q) (fun V' x w' h1 h2 h3=>hK V' x w' h1 h2 h3)) V _ w NZ
end Go.Proofs.YtnodfocobmghiaaGreatDoor.Sx
