/- The symbolic executor, fourteenth text: one operation, whichever it is; calls. -/
import Derived.Defers
import Derived.LaidEql
import Derived.ChangeKeysEq
import Derived.Laws.BytesString
import Derived.LoopN
import Derived.Scope
import Derived.Laws.Externs
import Derived.Deep.LoopGhost
import Derived.Test.YtnodfocobmghiaaGreatDoorQA
open Go
set_option maxRecDepth 100000
namespace Go.Proofs.YtnodfocobmghiaaGreatDoor.Sx
def bA.top (V:bA) (F:Nat):Prop:=∀ l,F<=l->V.β l=none/\V.σ l=none
def aG (P:Program) (Γ:Env) (f:FuncId) (S:Sum):Prop:=
 ∀ vs T lab F e,S vs T lab F=some e->(∀ q∈e.bO,q)->∀ (w0:World) (M:Nat->Prop) (V:bA) (T2:aX) (w:World) (xs:List Value),
   (∀ l B,T l=some B->T2 l=some B)->aD w0 M V T2 w->bR Γ V->V.fresh lab->V.top F->aJ V vs=some xs ->
   ∀ (o:Oper) (a:Act) K Q,(∀ V' x w',V.ext lab V'->den V' e.val=some x->aD w0 M V' (eT T2 lab e) w'->K (a.put o.dst x) w') ->
     o.upon P a K Q ((callFunc f xs.toArray).run P w)
def Cp (P:Program) (Γ:Env) (f:FuncId) (S:Sum):Prop:=
 ∀ vs T lab F e,S vs T lab F=some e->(∀ q∈e.bO,q)->∀ (w0:World) (M:Nat->Prop) (V:bA) (T2:aX) (w:World) (xs:List Value),
   (∀ l B,T l=some B->T2 l=some B)->aD w0 M V T2 w->bR Γ V->V.fresh lab->V.top F->aJ V vs=some xs ->
   ∀ (fn:Func) (tmps:Array Value) (ds:List Deferred) (R:Ending->World->Prop),(∀ V' w',V.ext lab V'->aD w0 M V' (eT T2 lab e) w'->Leaves P fn tmps R ds .returning w') ->
     ∀ aS cs:Array Value,aS.toList++cs.toList=xs->Leaves P fn tmps R ({ target:=.fn (.func f) cs,args:=aS }::ds) .returning w
def cF (P:Program) (Γ:Env):Prop:=(∀ f S,Γ.sum f=some S->aG P Γ f S)/\(∀ f S,Γ.TT f=some S->Cp P Γ f S) /\
 (∀ t,Γ.cmp.elem t=true->(∀ i,P.info? t=some i->i.comparable=true)/\P.stoodInHeld t=false)/\∃ d,P.depth=d+2
def lK (a b:Option bK):Option bK:=match a with
 | some e=>some e
 | none=>b
def Wq (a b:IntKind):Bool:=decide (a=b)
def Pv:SB->Bool
 | .own .. | .ints .. | .eN .. | .row .. => true
 | _=>false
def mF:List SV->List SV->Option (Bool × Bool)
 | [],[]=>some (true,true)
 | .int s k a::xs,.int s' k' b::ys=>match Wq k k',mF xs ys with
   | true,some (l,r)=>some (s&&(s'&&l),(a==b)&&r)
   | _,_=>none
 | _,_=>none
def Qn (op:BinOp) (s b:Bool):Option bK:=match op with
 | .eql=>some { val:=.bool s b }
 | .neq=>some { val:=.bool s (!b) }
 | _=>none
def RU (T:aX) (l o:Nat):Option ByteArray:=match T l,o with
 | some (.eQ (.raw (.string s)::_)),0=>some s
 | _,_=>none
def neS:List UInt8->List UInt8->Bool
 | [],[]=>false
 | x::r,y::q=>match Nat.beq x.toNat y.toNat with
   | true=>neS r q
   | false=>true
 | _,_=>true
theorem IB:∀ {s q:List UInt8},neS s q=true->s≠q
 | [],[],h,_=>by simp [neS] at h
 | [],y::q,_,e=>by cases e
 | x::r,[],_,e=>by cases e
 | x::r,y::q,h,e=>by
   cases e
   simp only [neS,Nat.beq_refl] at h
   exact IB h rfl
def Uc (Γ:Env) (g:Nat->Option SV) (T:aX) (op:BinOp) (t:TypeId) (x y:Operand):Option bK:=
 match ev Γ g x,ev Γ g y with
 | some (.ptr l _ o),some (.ptr l' _ o')=>match Γ.ty t with
   | some ti=>match ti.desc with
     | .pointer el=>match Γ.ty el with
       | some te=>match Nat.beq l l' with
         | true=>match Nat.beq o o' with
           | true=>tY op true
           | false=>match Nat.beq te.size 0 with
             | true=>none
             | false=>tY op false
         | false=>match Nat.beq te.size 0,T l,T l' with
           | false,some B,some B'=>match Pv B&&Pv B' with
             | true=>tY op false
             | false=>none
           | _,_,_=>none
       | none=>none
     | _=>none
   | none=>none
 | some (.pX t1 (.ptr l _ o)),some (.pX t2 (.ptr l' _ o'))=>match Γ.ty t,Γ.ty t1 with
   | some ti,some t1i=>match ti.desc,t1i.desc with
     | .interface _,.pointer el=>match Γ.ty el with
       | some te=>match Nat.beq t1 t2&&(Nat.beq l l'&&(Nat.beq o o'&&Γ.cmp.elem t1)) with
         | true=>tY op true
         | false=>match Nat.beq t1 t2&&(Γ.cmp.elem t1 && !Nat.beq te.size 0),RU T l o,RU T l' o' with
           | true,some s,some s'=>match neS s.data.toList s'.data.toList with
             | true=>tY op false
             | false=>none
           | _,_,_=>none
       | none=>none
     | _,_=>none
   | _,_=>none
 | some (.agg xs),some (.agg ys)=>match Γ.ty t with
   | some ti=>match ti.desc with
     | .array n el=>match Γ.ty el with
       | some te=>match te.desc,Nat.beq te.size 1&&Nat.beq xs.length n,mF xs ys with
         | .int _,true,some (l,r)=>Qn op l r
         | _,_,_=>none
       | none=>none
     | _=>none
   | none=>none
 | _,_=>none
def Ie (op:BinOp) (n:Nat) (xs ys:List Int):Option bK:=match op with
 | .eql=>some { bO:=[xs.length=n/\ys.length=n],val:=.bool false (decide (xs=ys)) }
 | .neq=>some { bO:=[xs.length=n/\ys.length=n],val:=.bool false (!decide (xs=ys)) }
 | _=>none
def Ig (Γ:Env) (g:Nat->Option SV) (op:BinOp) (t:TypeId) (x y:Operand):Option bK:=
 match (ev Γ g x).bind cL,(ev Γ g y).bind cL,Γ.ty t with
 | some (k,xs),some (k2,ys),some ti=>match ti.desc with
   | .array n el=>match Γ.ty el with
     | some te=>match te.desc,Nat.beq te.size 1,yE k k2 with
       | .int _,true,true=>Ie op n xs ys
       | _,_,_=>none
     | none=>none
   | _=>none
 | _,_,_=>none
def Ic (Γ:Env) (g:Nat->Option SV) (op:BinOp) (t:TypeId) (x y:Operand):Option bK:=
 match ev Γ g x,ev Γ g y,Γ.ty t with
 | some (.agg [.int _ k1 a,.int _ k2 b]),some (.agg [.int _ k3 c,.int _ k4 d]),some ti=>match ti.desc with
   | .struct fs=>match fs.toList with
     | [f1,f2]=>match Γ.ty f1.type,Γ.ty f2.type with
       | some t1,some t2=>match t1.desc,t2.desc,((!(f1.name == "_") && !(f2.name == "_"))&&(Nat.beq f1.offset 0&&Nat.beq f2.offset 1))&&((yE k1 k3&&yE k2 k4)&&Γ.cmp.elem t) with
         | .int _,.int _,true=>match op with
           | .eql=>some { val:=.bool false (decide (a=c)&&decide (b=d)) }
           | .neq=>some { val:=.bool false (!(decide (a=c)&&decide (b=d))) }
           | _=>none
         | _,_,_=>none
       | _,_=>none
     | _=>none
   | _=>none
 | _,_,_=>none
def Qq (Γ:Env) (g:Nat->Option SV) (t:TypeId) (x y:Operand) (lab:Nat):Option bK:=
 match ev Γ g x,ev Γ g y,Γ.ty t with
 | some (.int true _ 0),some (.int _ _ c),some ti=>match ti.desc with
   | .slice el=>match Γ.ty el with
     | some te=>match Nat.beq te.size 2&&Nat.beq te.zero.length 2 with
       | true=>some { bO:=[0<=c/\(te.bytes:Int)*c<=2^48/\c<2^63],val:=.buf lab,new:=[.eK [] el] }
       | false=>none
     | none=>none
   | _=>none
 | _,_,_=>none
section aCc
variable {P:Program} {Γ:Env} {V:bA} {w w0:World} {M:Nat->Prop} {T:aX} {g:Nat->Option SV} {a:Act} {o:Oper} {e:bK}
def GO (T:aX) (te:TI) (x y:SV):Option bK:=
 match x,Xv te.desc,Nat.beq te.size 1 with
 | .aH l true 0 len cap,some k,true=>match T l with
   | some (.ints k2 xs ty)=>match yE k k2,Xn T k y with
     | true,some (ob,ys)=>some { bO:=(cap=xs.length/\len+ys.length<=cap)::ob,val:=.aH l true 0 (len+ys.length) cap,wr:=[(l,.ints k (xs.take len++ys++xs.drop (len+ys.length)) ty)] }
     | _,_=>none
   | _=>none
 | _,_,_=>none
theorem OR (aU:cD P Γ) {T':aX} (aR:∀ l B,T' l=some B->T l=some B) (hT:aD w0 M V T w) {lab:Nat} {t ty el:TypeId} {te:TI} (ht:P.underlying t=some (.slice el)) (eG:Γ.ty el=some te)
 {x y:SV} {u v:Value} (hx:den V x=some u) (hy:den V y=some v) (he:GO T' te x y=some e) (ho:∀ q∈e.bO,q):oV P w0 M V T lab e (Builtin.append_ #[t,t] ty #[u,v]) w:=by
 unfold GO at he
 split at he
 case h_2=>cases he
 rename_i l len cap k hk gF
 split at he
 case h_2=>cases he
 rename_i k2 xs ety hB
 split at he
 case h_2=>cases he
 rename_i ob ys Ad hq
 simp only [aW] at he
 subst he
 have Ad:k=k2:=jP Ad
 subst Ad
 obtain ⟨qE,hle⟩:=ho _ dC
 obtain ⟨_,i,z,hi,cH,mC,hz,hzero⟩:=aU el te eG
 have iK:i.size=1:=by rw [cH];exact cP gF
 have hh:=uN (hT.sub aR) hy hq (fun q hq=>ho q (eM _ hq))
 simp only [den,dH] at hx
 obtain ⟨p,hβ,rfl⟩:=hx
 obtain ⟨w',hr,pU⟩:=oJ (P:=P) (xs:=ys) (off:=len) lab (.aH l true 0 (len+ys.length) cap) ((cap=xs.length/\len+ys.length<=cap)::ob) hT (aR l _ hB) (b:=p.1) (o:=p.2) hβ (by omega)
 have aNp:(⟨p.1,p.2,none⟩:Addr).add len=⟨p.1,p.2+len,none⟩:=by cases len <;> simp [Addr.add]
 refine ⟨V,.slice (some ⟨p.1,p.2+0,none⟩) (len+ys.length) cap,w',?_,V.cO lab,by simp [den,hβ],pU⟩
 rcases hh with ⟨rfl,pY⟩ | ⟨ad,c,rfl,cC⟩
 .have:ys=[]:=by simpa using pY
  subst this
  have hf:=run_firstCells_none (P:=P) (w:=w) 1 0 0 0
  have SY:len<=cap:=by simpa using hle
  simp at hr
  simp [Builtin.append_,run_underlying ht,Builtin.lenOf,run_sizeOf hi,iK,hf,SY,aNp,hr]
 .have hf:=run_firstCells_some (P:=P) (w:=w) 1 ys.length ad ys.length c (ys.map (Value.int k)) (by simp) cC
  simp [Builtin.append_,run_underlying ht,Builtin.lenOf,run_sizeOf hi,iK,hf,hle,aNp,hr]
def Jk (T:aX) (te:TI) (x:SV):Option bK:=
 match x,te.zero,Nat.beq te.size 1 with
 | .aH l false off len _,[.int _ k z],true=>match T l with
   | some (.ints k2 xs ty)=>match yE k k2 with
     | true=>some { bO:=[off+len<=xs.length],val:=.eD [],wr:=[(l,.ints k (xs.take off++List.replicate len z++xs.drop (off+len)) ty)] }
     | _=>none
   | _=>none
 | _,_,_=>none
theorem Sr (aU:cD P Γ) {T':aX} (aR:∀ l B,T' l=some B->T l=some B) (hT:aD w0 M V T w) {lab:Nat} {t ty el:TypeId} {te:TI} (ht:P.underlying t=some (.slice el)) (eG:Γ.ty el=some te)
 {x:SV} {u:Value} (hx:den V x=some u) (he:Jk T' te x=some e) (ho:∀ q∈e.bO,q):oV P w0 M V T lab e (Builtin.clear_ #[t] ty #[u]) w:=by
 unfold Jk at he
 split at he
 case h_2=>cases he
 rename_i l off len cap sz k z hzz gF
 split at he
 case h_2=>cases he
 rename_i k2 xs ety hB
 split at he
 case h_2=>cases he
 rename_i Ad
 simp only [aW] at he
 subst he
 have Ad:k=k2:=jP Ad
 subst Ad
 have hle:=ho _ dC
 obtain ⟨_,i,zv,hi,cH,mC,hz,hzero⟩:=aU el te eG
 have Dw:zv.cells = #[.int k z]:=by
  have:=hzero V
  rw [hzz] at this
  simp only [aJ,den,lI,gL,aW] at this
  rw [<- Array.toList_inj,<- this]
 simp only [den,dH] at hx
 obtain ⟨p,hβ,rfl⟩:=hx
 obtain ⟨w',hr,pU⟩:=oJ (P:=P) (xs:=List.replicate len z) (off:=off) lab (.eD []) [off+len<=xs.length] hT (aR l _ hB) (b:=p.1) (o:=p.2) hβ (by simpa using hle)
 rw [List.length_replicate] at pU
 cases len with
 | zero=>
   refine ⟨V,.tuple #[],w',?_,V.cO lab,by simp [den,aJ],pU⟩
   simp only [List.replicate_zero,List.map_nil,storeCells,Sem.run_pure,Result.ok.injEq,true_and] at hr
   subst hr
   simp [Builtin.clear_,run_underlying ht]
 | succ n=>
   refine ⟨V,.tuple #[],w',?_,V.cO lab,by simp [den,aJ],pU⟩
   have hzl:(Builtin.zeroCells zv.cells (n+1)).toList=(List.replicate (n+1) z).map (Value.int k):=by
    rw [Dw,iG]
    simp
   rw [<- hzl] at hr
   simp [Builtin.clear_,run_underlying ht,dZ hi hz,hr]
def hdK (k:IntKind):List SV->List Int × List SV
 | .int s k' n::r=>match yE k k' with
   | true=>((n::(hdK k r).1),(hdK k r).2)
   | false=>([],.int s k' n::r)
 | r=>([],r)
def QL (k:IntKind):List SV->List SV × List Int × List SV
 | []=>([],[],[])
 | v::r=>match (hdK k (v::r)).1 with
   | []=>(v::(QL k r).1,(QL k r).2.1,(QL k r).2.2)
   | n::ns=>([],n::ns,(hdK k (v::r)).2)
theorem IK {V:bA} {k:IntKind}:∀ {cs:List SV} {xs:List Value},aJ V cs=some xs->∃ qs,aJ V (hdK k cs).2=some qs/\xs=(hdK k cs).1.map (Value.int k)++qs
 | [],xs,h=>⟨xs,h,rfl⟩
 | v::r,xs,h=>by
   unfold hdK
   split
   .rename_i s k' n r' e
    cases e
    split
    .rename_i hk
     have hk:k=k':=jP hk
     subst hk
     simp only [aJ,den,lI,dH] at h
     obtain ⟨ys,hy,rfl⟩:=h
     obtain ⟨qs,h1,h2⟩:=IK (k:=k) hy
     exact ⟨qs,h1,by rw [h2];rfl⟩
    .exact ⟨xs,h,rfl⟩
   .exact ⟨xs,h,rfl⟩
theorem HL {V:bA} {k:IntKind}:∀ {cs:List SV} {xs:List Value},aJ V cs=some xs->∃ ps qs,aJ V (QL k cs).1=some ps/\aJ V (QL k cs).2.2=some qs/\xs=ps++((QL k cs).2.1.map (Value.int k)++qs)
 | [],xs,h=>by simp only [aJ,aW] at h;subst h;exact ⟨[],[],rfl,rfl,rfl⟩
 | v::r,xs,h=>by
   unfold QL
   split
   .simp only [aJ,dH,gM] at h
    obtain ⟨x,hx,ys,hy,rfl⟩:=h
    obtain ⟨ps,qs,h1,h2,h3⟩:=HL (k:=k) hy
    exact ⟨x::ps,qs,by simp [aJ,hx,h1],h2,by rw [h3];rfl⟩
   .rename_i n ns e
    obtain ⟨qs,h1,h2⟩:=IK (k:=k) h
    rw [e] at h2
    exact ⟨[],qs,rfl,h1,h2⟩
def qH (k:IntKind) (cs:List SV) (ty:TypeId) (off:Nat) (ys:List Int):Prop × SB:=match QL k cs with
 | (pre,ns,post)=>((pre.length<=off/\off+ys.length<=pre.length+ns.length),match pre,post with
   | [],[]=>.ints k (ns.take off++ys++ns.drop (off+ys.length)) ty
   | pre,post=>.own (pre++(cN k ns.length (ns.take (off-pre.length)++ys++ns.drop (off-pre.length+ys.length))++post)) ty)
theorem Cq {k:IntKind} {cells:List SV} {ty:TypeId} {l off b o:Nat} {ys:List Int} (lab:Nat) (rv:SV) (ob:List Prop)
 (hT:aD w0 M V T w) (hl:T l=some (.own cells ty)) (hβ:V.β l=some (b,o)) (hle:(qH k cells ty off ys).1) :
 ∃ w',(storeCells ⟨b,o+off,none⟩ (ys.map (Value.int k))).run P w = .ok () w'/\aD w0 M V (eT T lab { bO:=ob,val:=rv,wr:=[(l,(qH k cells ty off ys).2)] }) w':=by
 obtain ⟨cs,hc,b',hb,hh⟩:=hT.ok l _ hl
 rw [hβ] at hb;cases hb
 obtain ⟨ps,qs,h1,h2,h3⟩:=HL (V:=V) (k:=k) (show aJ V cells=some cs from hc)
 unfold qH at hle |-
 generalize QL k cells=sp at *
 obtain ⟨pre,ns,post⟩:=sp
 simp only at hle h1 h2 h3 |-
 obtain ⟨ha,lA⟩:=hle
 have BY:=bH h1
 have rV:cs.length=pre.length+(ns.length+post.length):=by rw [h3];simp [BY,bH h2]
 refine ⟨_,run_storeCells_at P b (0+off) ty _ 0 _ w hh (by simp;omega) (by intro x hx;simp only [List.mem_map] at hx;obtain ⟨y,_,rfl⟩:=hx;rfl),?_⟩
 obtain ⟨zs,sK⟩:∃ zs,zs=ns.take (off-pre.length)++ys++ns.drop (off-pre.length+ys.length):=⟨_,rfl⟩
 have hzl:zs.length=ns.length:=by rw [sK];simp;omega
 have key:ps++(zs.map (Value.int k)++qs)=cs.take off++ys.map (Value.int k)++cs.drop (off+(ys.map (Value.int k)).length):=by
  rw [h3,sK]
  obtain ⟨d,rfl⟩:∃ d,off=pre.length+d:=⟨off-pre.length,by omega⟩
  have e1:(ps++(ns.map (Value.int k)++qs)).take (pre.length+d)=ps++(ns.map (Value.int k)).take d:=by
   rw [<- BY,List.take_length_add_append,List.take_append_of_le_length (by simp;omega)]
  have e2:(ps++(ns.map (Value.int k)++qs)).drop (pre.length+d+(ys.map (Value.int k)).length)=(ns.map (Value.int k)).drop (d+ys.length)++qs:=by
   rw [<- BY,List.length_map,Nat.add_assoc,List.drop_length_add_append,List.drop_append_of_le_length (by simp;omega)]
  rw [e1,e2,Nat.add_sub_cancel_left]
  simp [List.map_take,List.map_drop]
 split
 .have e0:ps=[]:=by cases ps with | nil=>rfl | cons=>simp at BY
  have e1:qs=[]:=by have:=bH h2;cases qs with | nil=>rfl | cons=>simp at this
  subst e0 e1
  simp only [List.length_nil,Nat.sub_zero] at sK
  rw [<- sK]
  have:=hT.write (B0:=.own cells ty) (B:=.ints k zs ty) hl hβ rfl (by simp [SB.aT,hβ]) hh (cs:=cs.take off++ys.map (Value.int k)++cs.drop (off+(ys.map (Value.int k)).length)) (by rw [<- key];simp [SB.cells]) (.inr (.inl rfl)) lab rv ob
  simpa using this
 .rw [<- sK]
  have tV:aJ V (pre++(cN k ns.length zs++post))=some (ps++(zs.map (Value.int k)++qs)):=cK h1 (cK (vY hzl) h2)
  rw [key] at tV
  have:=hT.write (B0:=.own cells ty) (B:=.own (pre++(cN k ns.length zs++post)) ty) hl hβ rfl (by simp [SB.aT,hβ]) hh tV (.inl rfl) lab rv ob
  simpa using this
def Qv (T:aX) (te:TI) (x y:SV):Option bK:=
 match x,Xv te.desc,Nat.beq te.size 1 with
 | .aH l _ off len _,some k,true=>match Xn T k y with
   | some (ob,ys)=>match T l with
     | some (.own cs ty)=>some { bO:=(qH k cs ty off (ys.take (Nat.min ys.length len))).1::ob,val:=.int false .i64 ((Nat.min ys.length len:Nat):Int),wr:=[(l,(qH k cs ty off (ys.take (Nat.min ys.length len))).2)] }
     | some (.ints k2 xs ty)=>match yE k k2 with
       | true=>some { bO:=(off+Nat.min ys.length len<=xs.length)::ob,val:=.int false .i64 ((Nat.min ys.length len:Nat):Int),wr:=[(l,.ints k (xs.take off++ys.take (Nat.min ys.length len)++xs.drop (off+Nat.min ys.length len)) ty)] }
       | false=>none
     | _=>none
   | none=>none
 | _,_,_=>none
theorem AJ (aU:cD P Γ) {T':aX} (aR:∀ l B,T' l=some B->T l=some B) (hT:aD w0 M V T w) {lab:Nat} {dT sT ty el:TypeId} {te:TI} (ht:P.underlying dT=some (.slice el)) (eG:Γ.ty el=some te)
 {x y:SV} {u v:Value} (hx:den V x=some u) (hy:den V y=some v) (he:Qv T' te x y=some e) (ho:∀ q∈e.bO,q):oV P w0 M V T lab e (Builtin.copy_ #[dT,sT] ty #[u,v]) w:=by
 unfold Qv at he
 split at he
 case h_2=>cases he
 rename_i l s off len cap k hk gF
 split at he
 case h_2=>cases he
 rename_i ob ys hq
 obtain ⟨_,i,z,hi,cH,mC,hz,hzero⟩:=aU el te eG
 have iK:i.size=1:=by rw [cH];exact cP gF
 simp only [den,dH] at hx
 obtain ⟨p,hβ,rfl⟩:=hx
 have fin:∀ (B:SB) (q:Prop),(∃ w',(storeCells ⟨p.1,p.2+off,none⟩ ((ys.take (Nat.min ys.length len)).map (Value.int k))).run P w = .ok () w'/\aD w0 M V (eT T lab { bO:=q::ob,val:=.int false .i64 ((Nat.min ys.length len:Nat):Int),wr:=[(l,B)] }) w') ->
  Um w v (ys.map (Value.int k))->oV P w0 M V T lab { bO:=q::ob,val:=.int false .i64 ((Nat.min ys.length len:Nat):Int),wr:=[(l,B)] } (Builtin.copy_ #[dT,sT] ty #[.slice (some ⟨p.1,p.2+off,none⟩) len cap,v]) w:=by
  rintro B q ⟨w',hr,pU⟩ hh
  refine ⟨V,.int .i64 ((Nat.min ys.length len:Nat):Int),w',?_,V.cO lab,rfl,pU⟩
  rcases hh with ⟨rfl,pY⟩ | ⟨ad,c,rfl,cC⟩
  .have:ys=[]:=by simpa using pY
   subst this
   have hf:=run_firstCells_none (P:=P) (w:=w) 1 0 0 0
   simp at hr
   simp [Builtin.copy_,run_underlying ht,Builtin.lenOf,run_sizeOf hi,iK,hf,hr,goInt]
  .have hf:=run_firstCells_some (P:=P) (w:=w) 1 (Nat.min ys.length len) ad ys.length c ((ys.take (Nat.min ys.length len)).map (Value.int k))
    (by rw [List.length_map,List.length_take,Nat.mul_one];exact Nat.min_eq_left (Nat.min_le_left _ _))
    (fun j q hj=>by
     rw [List.map_take,List.getElem?_take] at hj
     split at hj
     .exact cC j q hj
     .cases hj)
   have e1:(ys.map (Value.int k)).length=ys.length:=by simp
   rw [e1]
   simp [Builtin.copy_,run_underlying ht,Builtin.lenOf,run_sizeOf hi,iK,goInt] at hf hr |-
   simp [hf,hr]
 split at he
 .rename_i cs ety hB
  simp only [aW] at he
  subst he
  exact fin _ _ (Cq lab _ _ hT (aR l _ hB) hβ (ho _ dC)) (uN (hT.sub aR) hy hq (fun q hq=>ho q (eM _ hq)))
 .rename_i k2 xs ety hB
  split at he
  case h_2=>cases he
  rename_i Ad
  simp only [aW] at he
  subst he
  have Ad:k=k2:=jP Ad
  subst Ad
  have hle:off+Nat.min ys.length len<=xs.length:=ho _ dC
  have QA:(ys.take (Nat.min ys.length len)).length=Nat.min ys.length len:=by rw [List.length_take];exact Nat.min_eq_left (Nat.min_le_left _ _)
  have:=oJ (P:=P) (xs:=ys.take (Nat.min ys.length len)) (off:=off) lab (.int false .i64 ((Nat.min ys.length len:Nat):Int)) ((off+Nat.min ys.length len<=xs.length)::ob) hT (aR l _ hB) (b:=p.1) (o:=p.2) hβ (by omega)
  rw [QA] at this
  exact fin _ _ this (uN (hT.sub aR) hy hq (fun q hq=>ho q (eM _ hq)))
 .cases he
theorem xU {t t2 ty el:TypeId} {ik:IntKind} {i:TypeInfo} {z z0 v:Value} (ht:P.underlying t=some (.slice el)) (On:P.underlying t2=some (.int ik)) (hi:P.info? el=some i) (hz:i.zero=some z) (gF:i.size=1) (Dw:z.cells = #[z0]) (h1:z0.oneCell'=true)
 (k0:IntKind) (m:Nat) (h0:0<m) {n:Nat} {xs:List Value} (fH:w.ownsRow 0 el 1 v n xs) (h63:n+m<=maxLen) (hb:(n+m)*i.bytes<=140737488355328) :
 ∃ v' w',(Builtin.append_ #[t,t2] ty #[v,.int k0 m]).run P w = .ok v' w'/\w'.ownsRow 0 el 1 v' (n+m) (xs++List.replicate m z0)/\w.grownBy w' v.ownBlock/\(v'.ownBlock=v.ownBlock\/v'.ownBlock=some w.heap.size) /\
   ∀ k,hY w k v->(∃ q,z0=Value.int k q)->hY w' k v':=by
 have Qj:n+m<=9223372036854775807:=by simp only [maxLen] at h63;omega
 have sK:∀ c,Builtin.zeroCells z.cells c=(List.replicate c z0).toArray:=fun c=>by rw [Dw,iG]
 have hw:IntKind.i64.wrap (m:Int)=m:=IntWalk.i64_in _ (by omega)
 have hmm:¬ ((m:Int)<0):=by omega
 have hbm:m*i.bytes<=140737488355328:=Nat.le_trans (Nat.mul_le_mul_right _ (Nat.le_add_left m n)) hb
 have h2:¬ (281474976710656<(m:Int)*(i.bytes:Int)):=by
  have:((m*i.bytes:Nat):Int)<=140737488355328:=by omega
  rw [Int.natCast_mul] at this
  omega
 rcases fH.2 with ⟨rfl,rfl⟩ | ⟨g,cap,cur,rfl,_,hg,CB,RE,kD,dG⟩
 .have nL:xs=[]:=List.eq_nil_of_length_eq_zero (by simpa using fH.1)
  subst nL
  rw [Nat.zero_add] at h63 hb Qj
  have hr:=pP (P:=P) (ty:=ty) w ht On hi hz gF k0 m h0 (by omega) hb
  have hgc:=grownCap_ge w m 0 el
  have hgm:grownCap w m 0 el<=maxLen:=grownCap_le_maxLen w m 0 el (by simp only [maxLen];omega)
  refine ⟨_,_,hr,⟨by simp,.inr ⟨w.heap.size,grownCap w m 0 el,_,by rw [Nat.zero_add],Nat.zero_le _,heap_alloc_new w.drew _,by omega,hgm,?_,?_⟩⟩,⟨rfl,rfl,rfl,by simp,fun k hk _=>heap_alloc_old w.drew _ hk⟩,.inr rfl,fun k _ hq b hb=>?_⟩
  .rw [sK,sK];simp;omega
  .rw [sK,sK];simp
  .cases hb
   obtain ⟨q,rfl⟩:=hq
   refine ⟨_,_,_,heap_alloc_new w.drew _,fun x hx=>?_⟩
   rw [sK,sK] at hx
   simp only [Array.toList_append,List.mem_append] at hx
   rcases hx with hx | hx <;> exact ⟨q,List.eq_of_mem_replicate hx⟩
 .rw [Nat.mul_one] at kD dG
  have aNl:cur.toList.length=cap:=by rw [Array.length_toList];exact kD
  by_cases uB:n+m<=cap
  .have Dz:=run_storeCells_at P g n el (List.replicate m z0) 0 cur w hg (by simp;omega) (fun u hu=>by rw [List.eq_of_mem_replicate hu];exact h1)
   simp only [Nat.add_zero,List.length_replicate] at Dz
   have hr:(Builtin.append_ #[t,t2] ty #[.slice (some ⟨g,0,none⟩) n cap,.int k0 m]).run P w = .ok (.slice (some ⟨g,0,none⟩) (n+m) cap) (w.setRow g (cur.toList.take n++List.replicate m z0++cur.toList.drop (n+m)).toArray):=by
    have dI:m≠0:=by omega
    simp [Builtin.append_,run_underlying ht,run_underlying On,sizeOf,typeInfo,zeroValue,hi,hz,gF,asInt,asIntOf,hw,hmm,h2,dI,uB,sK,Addr.add_lit,Dz]
   refine ⟨_,_,hr,⟨by simp [fH.1],.inr ⟨g,cap,_,rfl,Nat.zero_le _,setRow_heap w g cur _ el (0,0) hg,uB,RE,?_,?_⟩⟩,⟨rfl,rfl,rfl,by simp [World.setRow],fun k _ hk=>setRow_other w g k _ (fun e=>hk (by simp [Value.ownBlock,e]))⟩,.inl rfl,fun k hI hq b hb=>?_⟩
   .simp;omega
   .have hl:(cur.toList.take n).length=n:=by rw [List.length_take];omega
    rw [Nat.mul_one,<- dG,List.take_append_of_le_length (by simp;omega)]
    rw [List.take_of_length_le (by simp;omega)]
   .cases hb
    obtain ⟨q,rfl⟩:=hq
    obtain ⟨TU,ty2,p2,tV,fR⟩:=hI g rfl
    rw [hg] at tV
    cases tV
    refine ⟨_,_,_,setRow_heap w g cur _ el (0,0) hg,fun x hx=>?_⟩
    simp only [List.mem_append] at hx
    rcases hx with (hx | hx) | hx
    .exact fR x (List.mem_of_mem_take hx)
    .exact ⟨q,List.eq_of_mem_replicate hx⟩
    .exact fR x (List.mem_of_mem_drop hx)
  .have holds:∀ (j:Nat) (u:Value),xs[j]?=some u->w.drew.cell? ((⟨g,0,none⟩:Addr).add j)=some u:=fun j u hj=>by
    have:w.cell? ((⟨g,0,none⟩:Addr).add j)=some u:=by
     rw [bJ,cell_of_row w g _ _ _ _ hg]
     rw [<- dG,List.getElem?_take] at hj
     split at hj
     .simpa using hj
     .cases hj
    simpa using this
   have CD:=run_firstCells_some (P:=P) w.drew i.size n ⟨g,0,none⟩ n cap xs (by rw [gF];exact fH.1) holds
   rw [gF] at CD
   have hn:¬ (n+m<=cap):=uB
   have aEu:¬ (9223372036854775807<((n:Int)+(m:Int))):=by omega
   have h48:Builtin.nextslicecap (n+m) cap*i.bytes<=281474976710656:=growslice_fits (by omega) hb
   have aEv:¬ (281474976710656<Builtin.nextslicecap (n+m) cap*i.bytes):=by omega
   have dI:m≠0:=by omega
   have hr:(Builtin.append_ #[t,t2] ty #[.slice (some ⟨g,0,none⟩) n cap,.int k0 m]).run P w = .ok (.slice (some ⟨w.heap.size,0,none⟩) (n+m) (grownCap w (n+m) cap el))
    (w.drew.alloc (.cells (xs.toArray++Builtin.zeroCells z.cells m++Builtin.zeroCells z.cells (grownCap w (n+m) cap el-(n+m))) el)):=by
    simp [Builtin.append_,run_underlying ht,run_underlying On,sizeOf,typeInfo,zeroValue,hi,hz,gF,asInt,asIntOf,hw,hmm,h2,dI,hn,aEu,aEv,Question.forced,CD,newRow,grownCap]
   have hgc:=grownCap_ge w (n+m) cap el
   have hgm:grownCap w (n+m) cap el<=maxLen:=grownCap_le_maxLen w (n+m) cap el h63
   have Gz:=fH.1
   rw [Nat.mul_one] at Gz
   refine ⟨_,_,hr,⟨by simp [Gz],.inr ⟨w.heap.size,_,_,rfl,Nat.zero_le _,heap_alloc_new w.drew _,hgc,hgm,?_,?_⟩⟩,⟨rfl,rfl,rfl,by simp,fun k hk _=>heap_alloc_old w.drew _ hk⟩,.inr rfl,fun k hI hq b hb=>?_⟩
   .rw [sK,sK];simp [Gz];omega
   .rw [sK,sK,Nat.mul_one]
    simp only [Array.toList_append]
    rw [List.take_append_of_le_length (by simp [Gz]),List.take_of_length_le (by simp [Gz])]
   .cases hb
    obtain ⟨q,rfl⟩:=hq
    obtain ⟨TU,ty2,p2,tV,fR⟩:=hI g rfl
    rw [hg] at tV
    cases tV
    refine ⟨_,_,_,heap_alloc_new w.drew _,fun x hx=>?_⟩
    rw [sK,sK] at hx
    simp only [Array.toList_append,List.mem_append] at hx
    rcases hx with (hx | hx) | hx
    .rw [<- dG] at hx
     exact fR x (List.mem_of_mem_take hx)
    .exact ⟨q,List.eq_of_mem_replicate hx⟩
    .exact ⟨q,List.eq_of_mem_replicate hx⟩
def Pa (te:TI):Int:=match te.zero with
 | [.int _ _ z]=>z
 | _=>0
def GL (T:aX) (d:TypeDesc) (te:TI) (el:TypeId) (lab:Nat) (x y:SV):Option bK:=
 match Xv te.desc,Nat.beq te.size 1&&(Nat.blt 0 te.bytes&&zI te),d,y with
 | some k,true,.int _,.int _ _ m=>match Gb T k el x with
   | some (lo,o1,xs)=>some { bO:=(0<m/\((xs.length:Int)+m)*te.bytes<=140737488355328)::o1,val:=.buf lab,new:=[.dF k (xs++List.replicate m.toNat (Pa te)) el],wr:=iE lo }
   | none=>none
 | _,_,_,_=>none
theorem OO (aU:cD P Γ) {T':aX} (aR:∀ l B,T' l=some B->T l=some B) (hT:aD w0 M V T w) {lab:Nat} (hf:V.fresh lab) {t t2 ty el:TypeId} {d:TypeDesc} {te:TI} (ht:P.underlying t=some (.slice el)) (On:P.underlying t2=some d) (eG:Γ.ty el=some te)
 {x y:SV} {u v:Value} (hx:den V x=some u) (hy:den V y=some v) (he:GL T' d te el lab x y=some e) (ho:∀ q∈e.bO,q):oV P w0 M V T lab e (Builtin.append_ #[t,t2] ty #[u,v]) w:=by
 unfold GL at he
 split at he
 case h_2=>cases he
 rename_i k ik sm km m hk kE
 simp only [iN] at kE
 obtain ⟨gF,RF,hzi⟩:=kE
 split at he
 case h_2=>cases he
 rename_i lo o1 xs h1
 simp only [aW] at he
 subst he
 obtain ⟨_,i,z,hi,cH,mC,hz,hzero⟩:=aU el te eG
 have iK:i.size=1:=by rw [cH];exact cP gF
 have pM:0<te.bytes:=by simpa [Nat.blt_eq] using RF
 obtain ⟨hm0,hbound⟩:=ho _ dC
 have ho1:∀ q∈o1,q:=fun q hq=>ho q (eM _ hq)
 have Dw:z.cells = #[Value.int k (Pa te)]:=by
  unfold zI at hzi
  split at hzi
  .rename_i s k1 z1 k2 hz1 RC
   have e1:=jP hzi
   subst e1
   have Ad:k1=k:=by
    unfold Xv at hk
    rw [RC] at hk
    simpa using hk
   subst Ad
   have h3:=hzero V
   have e2:Pa te=z1:=by unfold Pa;rw [hz1]
   rw [hz1] at h3
   simp only [aJ,den,lI,gL,aW] at h3
   rw [e2]
   apply Array.ext';rw [<- h3]
  .cases hzi
 obtain ⟨n,rfl⟩:=pW (Int.le_of_lt hm0)
 simp only [den,aW] at hy
 subst hy
 have lA:(xs.length+n)*i.bytes<=140737488355328:=by
  rw [mC]
  have:(((xs.length+n)*te.bytes:Nat):Int)<=140737488355328:=by rw [Int.natCast_mul,Int.natCast_add];exact hbound
  omega
 have CZ:xs.length+n<=maxLen:=by
  rw [mC] at lA
  have:=Nat.le_mul_of_pos_right (xs.length+n) pM
  simp only [maxLen];omega
 obtain ⟨bT,jS,Jz⟩:=Nd (hT.sub aR) hx h1 ho1
 have jQ:∀ l,lo=some l->∃ B,T l=some B/\B.owned=true/\∀ n,u.ownBlock=some n->B.aT V l=some n:=fun l hl=>by
  obtain ⟨B,h1,h2,h3⟩:=Jz l hl;exact ⟨B,aR l B h1,h2,h3⟩
 obtain ⟨v',w',hr,sI,tS,fF,hI⟩:=xU (P:=P) (ty:=ty) ht On hi hz iK Dw rfl km n (by omega) bT CZ lA
 refine ⟨V.bC lab v',v',w',hr,bA.cG hf lab (cT _) (by omega) v',by simp [den,bA.bC],?_⟩
 exact hT.append hf ⟨k,xs++List.replicate n (Pa te),rfl,rfl,rfl,hI k (tN (hT.sub aR) hx h1) ⟨_,rfl⟩⟩ (show SB.cells V (.dF k (xs++List.replicate n (Pa te)) el)=some ((xs++List.replicate n (Pa te)).map (Value.int k)) from rfl) (by simpa using sI) tS fF jS jQ _ _
def txI (s:ByteArray):List Int:=s.data.toList.map fun b=>(b.toNat:Int)
def Qu (T:aX) (te:TI) (x y:SV):Option bK:=
 match x,y,te.desc,Nat.beq te.size 1 with
 | .aH l _ off len _,.raw (.string s),.int .u8,true=>match T l with
   | some (.own cs ty)=>some { bO:=[(qH .u8 cs ty off ((txI s).take (Nat.min s.size len))).1],val:=.int false .i64 ((Nat.min s.size len:Nat):Int),wr:=[(l,(qH .u8 cs ty off ((txI s).take (Nat.min s.size len))).2)] }
   | _=>none
 | _,_,_,_=>none
theorem AI (aU:cD P Γ) {T':aX} (aR:∀ l B,T' l=some B->T l=some B) (hT:aD w0 M V T w) {lab:Nat} {dT sT ty el:TypeId} {te:TI} (ht:P.underlying dT=some (.slice el)) (eG:Γ.ty el=some te)
 {x y:SV} {u v:Value} (hx:den V x=some u) (hy:den V y=some v) (he:Qu T' te x y=some e) (ho:∀ q∈e.bO,q):oV P w0 M V T lab e (Builtin.copy_ #[dT,sT] ty #[u,v]) w:=by
 unfold Qu at he
 split at he
 case h_2=>cases he
 rename_i l s0 off len cap s hk gF
 split at he
 case h_2=>cases he
 rename_i cs ety hB
 simp only [aW] at he
 subst he
 obtain ⟨_,i,z,hi,cH,mC,hz,hzero⟩:=aU el te eG
 have iK:i.size=1:=by rw [cH];exact cP gF
 simp only [den,dH,aW] at hx hy
 obtain ⟨p,hβ,rfl⟩:=hx
 subst hy
 obtain ⟨w',hr,pU⟩:=Cq (P:=P) lab (.int false .i64 ((Nat.min s.size len:Nat):Int)) [(qH .u8 cs ety off ((txI s).take (Nat.min s.size len))).1] hT (aR l _ hB) (b:=p.1) (o:=p.2) hβ (ho _ dC)
 refine ⟨V,.int .i64 ((Nat.min s.size len:Nat):Int),w',?_,V.cO lab,rfl,pU⟩
 have hf:(Builtin.firstCells 1 (Nat.min s.size len) (.string s)).run P w = .ok (((txI s).take (Nat.min s.size len)).map (Value.int .u8)).toArray w:=by
  simp only [Builtin.firstCells,Sem.run_pure]
  congr 1
  apply Array.ext'
  simp [txI,List.map_take]
  rfl
 simp [Builtin.copy_,run_underlying ht,Builtin.lenOf,run_sizeOf hi,iK,goInt] at hf hr |-
 simp [hf,hr]
def Jj (T:aX) (te:TI) (x:SV):Option bK:=
 match x,te.zero,Nat.beq te.size 1 with
 | .aH l _ off len _,[.int _ k z],true=>match T l with
   | some (.own cs ty)=>some { bO:=[(qH k cs ty off (List.replicate len z)).1],val:=.eD [],wr:=[(l,(qH k cs ty off (List.replicate len z)).2)] }
   | _=>none
 | _,_,_=>none
theorem Sq (aU:cD P Γ) {T':aX} (aR:∀ l B,T' l=some B->T l=some B) (hT:aD w0 M V T w) {lab:Nat} {t ty el:TypeId} {te:TI} (ht:P.underlying t=some (.slice el)) (eG:Γ.ty el=some te)
 {x:SV} {u:Value} (hx:den V x=some u) (he:Jj T' te x=some e) (ho:∀ q∈e.bO,q):oV P w0 M V T lab e (Builtin.clear_ #[t] ty #[u]) w:=by
 unfold Jj at he
 split at he
 case h_2=>cases he
 rename_i l s off len cap sz k z hzz gF
 split at he
 case h_2=>cases he
 rename_i cs ety hB
 simp only [aW] at he
 subst he
 obtain ⟨_,i,zv,hi,cH,mC,hz,hzero⟩:=aU el te eG
 have Dw:zv.cells = #[.int k z]:=by
  have:=hzero V
  rw [hzz] at this
  simp only [aJ,den,lI,gL,aW] at this
  rw [<- Array.toList_inj,<- this]
 simp only [den,dH] at hx
 obtain ⟨p,hβ,rfl⟩:=hx
 obtain ⟨w',hr,pU⟩:=Cq (P:=P) (ys:=List.replicate len z) (k:=k) (off:=off) lab (.eD []) [(qH k cs ety off (List.replicate len z)).1] hT (aR l _ hB) (b:=p.1) (o:=p.2) hβ (ho _ (by simp))
 cases len with
 | zero=>
   refine ⟨V,.tuple #[],w',?_,V.cO lab,by simp [den,aJ],pU⟩
   simp only [List.replicate_zero,List.map_nil,storeCells,Sem.run_pure,Result.ok.injEq,true_and] at hr
   subst hr
   simp [Builtin.clear_,run_underlying ht]
 | succ n=>
   refine ⟨V,.tuple #[],w',?_,V.cO lab,by simp [den,aJ],pU⟩
   have hzl:(Builtin.zeroCells zv.cells (n+1)).toList=(List.replicate (n+1) z).map (Value.int k):=by
    rw [Dw,iG]
    simp
   rw [<- hzl] at hr
   simp [Builtin.clear_,run_underlying ht,dZ hi hz,hr]
end aCc
def wC (Γ:Env) (T:aX) (lab:Nat) (b:Builtin) (ts:List TypeId) (vs:List SV):Option bK:=
 match b,ts,vs with
 | .len,t::_,[v]=>match Γ.ty t with
   | some ti=>aFg Γ T ti.desc v
   | none=>none
 | .cap,t::_,[v]=>match Γ.ty t with
   | some ti=>match ti.desc with
     | .slice _=>aFh v
     | _=>none
   | none=>none
 | .append,[t,t2],[x,y]=>match Nat.beq t t2,y with
   | false,.int .. => match Γ.ty t,Γ.ty t2 with
     | some ti,some ti2=>match ti.desc with
       | .slice el=>match Γ.ty el with
         | some te=>lK (De ti2.desc te el lab x y) (GL T ti2.desc te el lab x y)
         | none=>none
       | _=>none
     | _,_=>none
   | _,_=>match Γ.ty t,Nat.beq t t2 with
     | some ti,true=>match ti.desc with
       | .slice el=>match Γ.ty el with
         | some te=>lK (GN T te el lab x y) (lK (GO T te x y) (lK (GM T te el lab x y) (lK (GQ T te el lab x y) (GP T te el lab x y))))
         | none=>none
       | _=>none
     | _,_=>none
 | .copy,[t,_],[x,y]=>match Γ.ty t with
   | some ti=>match ti.desc with
     | .slice el=>match Γ.ty el with
       | some te=>lK (Qw T te.size x y) (lK (Qv T te x y) (Qu T te x y))
       | none=>none
     | _=>none
   | none=>none
 | .clear,[t],[x]=>match Γ.ty t with
   | some ti=>match ti.desc with
     | .slice el=>match Γ.ty el with
       | some te=>lK (Jk T te x) (lK (Jl T te x) (Jj T te x))
       | none=>none
     | _=>none
   | none=>none
 | _,_,_=>none
def GJ (Γ:Env) (g:Nat->Option SV) (T:aX) (lab F:Nat) (c:Call):Option bK:=
 match RK Γ g c.args.toList with
 | none=>none
 | some vs=>match c.callee with
   | .builtin b=>wC Γ T lab b c.argTypes.toList vs
   | .value f=>match ev Γ g f with
     | some (.fn (.func id) first Hr)=>match Γ.sum id with
       | some S=>S (first++vs++Hr) T lab F
       | none=>none
     | _=>none
   | .invoke _ _=>none
section bAm
variable {P:Program} {Γ:Env} {V:bA} {w w0:World} {M:Nat->Prop} {T:aX} {g:Nat->Option SV} {a:Act} {o:Oper} {e:bK}
def Qz (Γ:Env) (g:Nat->Option SV) (T:aX) (src dst:TypeId) (x:Operand):Option bK:=
 match ev Γ g x,Γ.ty src with
 | some (.aH l s off len cap),some ts=>match ts.desc with
   | .slice el=>match Γ.ty el,T l with
     | some te,some (.own cs _)=>match te.desc,Nat.beq src dst,cU .u8 cs with
       | .int .u8,true,some ns=>some { val:=.aH l s off len cap,wr:=[(l,.nT .u8 ns)] }
       | _,_,_=>none
     | _,_=>none
   | _=>none
 | _,_=>none
theorem AM (aU:cD P Γ) (ht:cJ V g a) (hg:bR Γ V) {T':aX} (aR:∀ l B,T' l=some B->T l=some B) (hT:aD w0 M V T w) {src dst:TypeId} {x:Operand} (bZ:o.op = .convert src dst x)
 (he:Qz Γ g T' src dst x=some e) (lab:Nat):lB P w0 M V T lab e o a w:=by
 unfold Qz at he
 split at he
 case h_2=>cases he
 rename_i l s off len cap ts hx BX
 split at he
 case h_2=>cases he
 rename_i el hd
 split at he
 case h_2=>cases he
 rename_i te cs ty eG hB
 split at he
 case h_2=>cases he
 rename_i ns hu8 hsd hns
 have hsd:=cP hsd
 subst hsd
 simp only [aW] at he
 subst he
 have ex:=bI ht hg hx
 simp only [den,dH] at ex
 obtain ⟨⟨b,base⟩,hβ,ex⟩:=ex
 have hu:=(aU src ts BX).1
 rw [hd] at hu
 have Ec:=(aU el te eG).1
 rw [hu8] at Ec
 obtain ⟨us,hc,b',hb,hh⟩:=hT.ok l _ (aR l _ hB)
 rw [hβ] at hb;cases hb
 have Dy:us=ns.map (Value.int .u8):=by
  have h1:=cS (V:=V) hns
  rw [show aJ V cs=some us from hc] at h1
  exact Option.some.inj h1
 have cM:b<w.heap.size:=(Array.getElem?_eq_some_iff.1 hh).1
 have hfr:∃ w',w'=w.freeze ⟨b,us.length,none⟩ 1:=⟨_,rfl⟩
 obtain ⟨w',PU⟩:=hfr
 have Bu:w'.heap[b]?=some (.cells us.toArray ty (us.length,us.length+1)):=by
  rw [PU]
  simp [World.freeze,Array.getElem?_modify,hh]
 have aWw:∀ n,n≠b->w'.heap[n]?=w.heap[n]?:=fun n hn=>by
  rw [PU]
  simp only [World.freeze]
  rw [if_neg (by decide:¬ (1:Nat)=0)]
  simp only [Array.getElem?_modify]
  rw [if_neg (fun q:b=n=>hn q.symm)]
 have gF:w'.heap.size=w.heap.size:=by rw [PU];simp [World.freeze]
 have dY:(execOp a.eval o).run P w = .ok (.value (a.eval x)) w':=by
  have hsh:w.shape? b=some (ty,us.length):=by simp [World.shape?,hh]
  unfold execOp
  simp [bZ,<- ex,convert,run_underlying hu,run_underlying Ec,markStringish,hsh,PU]
 intro K Q hK
 unfold Oper.wp
 rw [dY,Oper.upon_value]
 refine hK V _ w' (V.cO lab) (by rw [<- ex];simp [den,hβ]) ?_
 refine hT.change (B0:=.own cs ty) (B:=.nT .u8 ns) (b:=b) (aR l _ hB) rfl (by simp [SB.aT,hβ]) ⟨us,by rw [Dy];rfl,b,0,hβ,⟨by omega,fun s hs=>?_⟩,fun j v hj=>?_⟩ (by simp [SB.aT,hβ]) (by omega) (fun n _ dI=>aWw n dI) (by rw [PU];simp [World.freeze]) (by rw [PU];simp [World.freeze]) (by rw [PU];simp [World.freeze]) lab _ []
 .rw [Dy] at hs
  simp at hs
 .simp [World.cell?,Bu,hj]
def Jg (Γ:Env) (g:Nat->Option SV) (T:aX) (t:TypeId) (x y:Operand):Option bK:=
 match ev Γ g x,ev Γ g y,Γ.ty t with
 | some (.buf l),some (.int _ _ k),some ti=>match ti.desc,T l with
   | .slice el,some (.dF _ xs _)=>match Γ.ty el with
     | some te=>match Nat.beq te.size 1 with
       | true=>some { bO:=[0<=k/\k<xs.length],val:=.iZ l k.toNat }
       | false=>none
     | none=>none
   | _,_=>none
 | _,_,_=>none
theorem Sn (aU:cD P Γ) (ht:cJ V g a) (hg:bR Γ V) {T':aX} (aR:∀ l B,T' l=some B->T l=some B) (hT:aD w0 M V T w) {t:TypeId} {x y:Operand} (bZ:o.op = .indexAddr t x y)
 (he:Jg Γ g T' t x y=some e) (ho:∀ q∈e.bO,q) (lab:Nat):lB P w0 M V T lab e o a w:=by
 unfold Jg at he
 split at he
 case h_2=>cases he
 rename_i l sk kk k ti hx hy eA
 split at he
 case h_2=>cases he
 rename_i el k2 xs ty hd hB
 split at he
 case h_2=>cases he
 rename_i te eG
 split at he
 case h_2=>cases he
 rename_i iK
 have iK:=cP iK
 simp only [aW] at he
 subst he
 have hb:0<=k/\k<xs.length:=ho _ (by simp)
 have ex:=bI ht hg hx
 have ey:=bI ht hg hy
 simp only [den,aW] at ex ey
 obtain ⟨us,hc,v,hσ,bT⟩:=hT.ok l _ (aR l _ hB)
 rw [hσ] at ex
 cases ex
 rcases bT.1.2 with ⟨hv,h0⟩ | ⟨b,cap,cur,hv,_⟩
 .omega
 obtain ⟨_,i,z,hi,cH,_⟩:=aU el te eG
 have hu:=(aU t ti eA).1
 rw [hd] at hu
 refine bF (x:=.pointer (some ⟨b,0+k.toNat*te.size,none⟩)) ?_ (by simp [den,hσ,hv,bJ,iK]) rfl rfl hT
 unfold execOp
 simp only [bZ,hv,<- ey,Instr.indexAt,asIntOf,Sem.run_bind,Sem.run_pure,run_underlying hu w,Result.andThen_ok,if_pos hb,run_sizeOf hi,cH,bJ]
def Iy (Γ:Env) (g:Nat->Option SV) (T:aX) (t:TypeId) (x y:Operand):Option bK:=
 match ev Γ g x,ev Γ g y,Γ.ty t with
 | some (.iZ l off),some (.int _ k n),some ti=>match T l,Nat.beq ti.size 1 with
   | some (.dF k2 xs ty),true=>match decide (k2=k) with
     | true=>some { bO:=[off<xs.length],val:=.raw undef,wr:=[(l,.dF k (xs.set off n) ty)] }
     | false=>none
   | _,_=>none
 | _,_,_=>none
theorem Sf (aU:cD P Γ) (ht:cJ V g a) (hg:bR Γ V) {T':aX} (aR:∀ l B,T' l=some B->T l=some B) (hT:aD w0 M V T w) {t:TypeId} {x y:Operand} (bZ:o.op = .store t x y)
 (he:Iy Γ g T' t x y=some e) (ho:∀ q∈e.bO,q) (lab:Nat):lB P w0 M V T lab e o a w:=by
 unfold Iy at he
 split at he
 case h_2=>cases he
 rename_i l off sk k n ti hx hy eA
 split at he
 case h_2=>cases he
 rename_i k2 xs ty hB iK
 split at he
 case h_2=>cases he
 rename_i hk
 have hk:=jP hk
 subst hk
 have iK:=cP iK
 simp only [aW] at he
 subst he
 have hb:off<xs.length:=ho _ (by simp)
 have ex:=bI ht hg hx
 have ey:=bI ht hg hy
 simp only [den,aW] at ey
 obtain ⟨hu,i,z,hi,cH,_⟩:=aU t ti eA
 obtain ⟨us,hc,v,hσ,bT⟩:=hT.ok l _ (aR l _ hB)
 have hc':us=xs.map (Value.int k2):=(Option.some.inj hc).symm
 subst hc'
 obtain ⟨bT,hI⟩:=bT
 rcases bT.2 with ⟨hv,h0⟩ | ⟨b,cap,cur,hv,_,hh,hle,qE,kD,dG⟩
 .omega
 subst hv
 simp only [den,hσ,aW] at ex
 have Dz:=(World.ownsRow.stored bT off (.int k2 n))
 obtain ⟨aWv,CV⟩:=Dz
 have cM:off<cur.size:=by omega
 have dY:(execOp a.eval o).run P w = .ok .skip (w.setCell ⟨b,off,none⟩ (.int k2 n)):=by
  have fP:w.cell? ⟨b,off,none⟩=some cur[off]:=by simp [World.cell?,hh,cM]
  have hfz:w.frozen? ⟨b,off,none⟩=false:=World.ownsRow.frozenAt bT off
  have aJk:(store (⟨b,off,none⟩:Addr) (.int k2 n)).run P w = .ok () (w.setCell ⟨b,off,none⟩ (.int k2 n)):=by
   rw [run_store P w _ _ _ rfl,fP]
   simp [hfz]
  have hz1:i.size=1:=by omega
  unfold execOp
  simp [bZ,<- ex,<- ey,Instr.storeAt,Instr.sureAddr,storeVar,run_sizeOf hi,hz1,Value.cells,storeCells,bJ,aJk]
 intro K Q hK
 unfold Oper.wp
 rw [dY,Oper.upon_skip]
 refine hK V undef _ (V.cO lab) rfl ?_
 refine hT.change (B0:=.dF k2 xs ty) (B:=.dF k2 (xs.set off n) ty) (b:=b) (aR l _ hB) rfl (by simp [SB.aT,hσ,Value.ownBlock]) ⟨_,rfl,_,hσ,?_⟩ (by simp [SB.aT,hσ,Value.ownBlock]) CV.size (fun m hm dI=>CV.block m hm (fun q=>dI (Option.some.inj q))) CV.os CV.tape CV.output lab _ _
 rw [List.length_set,List.map_set]
 refine ⟨aWv,fun b' hb=>?_⟩
 cases hb
 obtain ⟨TU,ty2,p2,tV,fR⟩:=hI b rfl
 rw [hh] at tV
 cases tV
 refine ⟨_,_,_,heap_setCell_same w b off cur _ (.int k2 n) hh,fun q hq=>?_⟩
 rw [Array.toList_setIfInBounds] at hq
 rcases List.mem_or_eq_of_mem_set hq with hq | hq
 .exact fR q hq
 .exact ⟨n,hq⟩
end bAm
section bAl
variable {P:Program} {Γ:Env} {V:bA} {w w0:World} {M:Nat->Prop} {T:aX} {g:Nat->Option SV} {a:Act} {o:Oper} {e:bK}
def DU (ys:List Int):ByteArray:=ys.foldl (fun r n=>r.push (UInt8.ofNat n.toNat)) ByteArray.empty
def Qy (Γ:Env) (g:Nat->Option SV) (T:aX) (src dst:TypeId) (x:Operand):Option bK:=
 match ev Γ g x,Γ.ty src,Γ.ty dst with
 | some v,some ts,some td=>match ts.desc,td.desc with
   | .slice el,.string=>match Γ.ty el,Xn T .u8 v with
     | some te,some (ob,ys)=>match te.desc with
       | .int .u8=>some { bO:=ob,val:=.raw (.string (DU ys)) }
       | _=>none
     | _,_=>none
   | _,_=>none
 | _,_,_=>none
theorem AL (aU:cD P Γ) (ht:cJ V g a) (hg:bR Γ V) {T':aX} (aR:∀ l B,T' l=some B->T l=some B) (hT:aD w0 M V T w) {src dst:TypeId} {x:Operand} (bZ:o.op = .convert src dst x)
 (he:Qy Γ g T' src dst x=some e) (ho:∀ q∈e.bO,q) (lab:Nat):lB P w0 M V T lab e o a w:=by
 unfold Qy at he
 split at he
 case h_2=>cases he
 rename_i v ts td hx BX htd
 split at he
 case h_2=>cases he
 rename_i el RC QC
 split at he
 case h_2=>cases he
 rename_i te ob ys eG hq
 split at he
 case h_2=>cases he
 rename_i hu8
 simp only [aW] at he
 subst he
 have ex:=bI ht hg hx
 have hh:=uN (hT.sub aR) ex hq ho
 have hu:=(aU src ts BX).1
 rw [RC] at hu
 have hud:=(aU dst td htd).1
 rw [QC] at hud
 have Ec:=(aU el te eG).1
 rw [hu8] at Ec
 refine bF (x:=.string (DU ys)) ?_ rfl rfl rfl hT
 unfold execOp
 simp only [bZ,Sem.run_bind]
 rcases hh with ⟨hv,pY⟩ | ⟨ad,c,hv,cC⟩
 .have:ys=[]:=by simpa using pY
  subst this
  rw [hv,run_convert_bytes_string w src dst el _ _ _ hu Ec hud]
  simp [Conv.bytesToString,DU]
 .have hf:=run_firstCells_some (P:=P) (w:=w) 1 ys.length ad ys.length c (ys.map (Value.int .u8)) (by simp) cC
  simp only [Builtin.firstCells,Nat.mul_one] at hf
  rw [hv,List.length_map,run_convert_bytes_string w src dst el _ _ _ hu Ec hud,run_bytesToString w ad ys.length c ys hf]
  rfl
def Ib (Γ:Env) (g:Nat->Option SV) (op:BinOp) (x y:Operand):Option bK:=
 match ev Γ g x,ev Γ g y,op with
 | some (.raw (.string s)),some (.raw (.string t)),.eql=>some { val:=.bool false (s.toList==t.toList) }
 | some (.raw (.string s)),some (.raw (.string t)),.neq=>some { val:=.bool false (!(s.toList==t.toList)) }
 | _,_,_=>none
theorem Gs (ht:cJ V g a) (hg:bR Γ V) (hT:aD w0 M V T w) {op:BinOp} {t t2:TypeId} {x y:Operand} (bZ:o.op = .binOp op t x y t2)
 (he:Ib Γ g op x y=some e) (lab:Nat):lB P w0 M V T lab e o a w:=by
 unfold Ib at he
 split at he
 case h_3=>cases he
 all_goals
  rename_i s s2 hx hy
  simp only [aW] at he
  subst he
  have ex:=bI ht hg hx
  have ey:=bI ht hg hy
  simp only [den,aW] at ex ey
 .refine bF (x:=.bool (s.toList==s2.toList)) ?_ rfl rfl rfl hT
  unfold execOp
  have zK:=cR (P:=P) w .eql t x y (.string s) (.string s2) (fun e=>by cases e.1) (fun _ e=>by cases e)
  simp [bZ,<- ex,<- ey,binOp,Op.stringOp,zK]
 .refine bF (x:=.bool (!(s.toList==s2.toList))) ?_ rfl rfl rfl hT
  unfold execOp
  have zK:=cR (P:=P) w .neq t x y (.string s) (.string s2) (fun e=>by cases e.1) (fun _ e=>by cases e)
  simp [bZ,<- ex,<- ey,binOp,Op.stringOp,zK]
end bAl
def Bk (Γ:Env) (g:Nat->Option SV) (T:aX) (lab F:Nat) (h:Option Bool) (o:Oper):Option bK:=
 match o.op with
 | .move x=>Ud Γ g x
 | .assign x=>Ud Γ g x
 | .pick c x y=>GG Γ g c x y
 | .alloc t=>Rb Γ t lab
 | .box t x=>lK (aFi Γ g T t x lab) (GK Γ g t x lab)
 | .build t ps=>Ra Γ g T t ps
 | .buildSlice t n ps=>qX Γ g T t n ps lab
 | .load t x=>lK (Qs Γ g T t x) (lK (GH Γ g T t x) (Qr Γ g T t x))
 | .store t x y=>lK (Qo Γ g T t x y) (lK (Iz Γ g T t x y) (lK (Ix Γ g T t x y) (Iy Γ g T t x y)))
 | .nilCheck x=>aFf Γ g x
 | .binOp op t x y _=>match op with
   | .eql=>lK (DO Γ g h .eql t x y) (lK (Uc Γ g T .eql t x y) (lK (Ig Γ g .eql t x y) (lK (Ic Γ g .eql t x y) (Ib Γ g .eql x y))))
   | .neq=>lK (DO Γ g h .neq t x y) (lK (Uc Γ g T .neq t x y) (lK (Ig Γ g .neq t x y) (lK (Ic Γ g .neq t x y) (Ib Γ g .neq x y))))
   | _=>DO Γ g h op t x y
 | .unOp op _ x=>eUn Γ g op x
 | .convert s d x=>lK (GI Γ g s d x) (lK (Qz Γ g T s d x) (Qy Γ g T s d x))
 | .sliceToArrayPointer t x=>aFj Γ g t x
 | .makeInterface t x=>tL Γ g t x
 | .makeFunc f xs cs=>xQ Γ g f xs cs
 | .makeSlice t x y=>lK (tK Γ g t x y lab) (Qq Γ g t x y lab)
 | .slice t x lo hi mx=>lK (Jd Γ g T t x lo hi mx) (lK (Qp Γ g T t x lo hi mx) (lK (Ja Γ g T t x lo hi mx lab) (lK (Jc Γ g T t x lo hi mx lab) (Jb Γ g T t x lo hi mx lab))))
 | .fieldAddr t x n=>Qt Γ g t x n
 | .field t x n=>Ji Γ g t x n
 | .indexAddr t x y=>lK (tM Γ g t x y) (lK (Jg Γ g T t x y) (Jf Γ g t x y))
 | .index t x y=>lK (Je Γ g t x y) (Jh Γ g t x y)
 | .extract x i=>Dd Γ g x i
 | .call c=>GJ Γ g T lab F c
 | _=>none
theorem mT {a b:Nat} (h:Nat.beq a b=false):a≠b:=fun e=>by subst e;rw [Nat.beq_refl] at h;cases h
section He
variable {P:Program} {Γ:Env} {V:bA} {w w0:World} {M:Nat->Prop} {T:aX} {g:Nat->Option SV} {a:Act} {o:Oper} {e:bK}
theorem Mu {xs:Array Operand} {vs:List SV} (ht:cJ V g a) (hg:bR Γ V) (h:RK Γ g xs.toList=some vs):aJ V vs=some (xs.map a.eval).toList:=by
 rw [Array.toList_map];exact Hz ht hg h
theorem qS {v:SV} {xs:List Value} (h:aJ V [v]=some xs):∃ x,xs=[x]/\den V v=some x:=by
 simp only [aJ,dH,gM] at h
 obtain ⟨x,hx,ys,hy,rfl⟩:=h
 simp only [aW] at hy
 subst hy
 exact ⟨x,rfl,hx⟩
theorem Df {u v:SV} {xs:List Value} (h:aJ V [u,v]=some xs):∃ x y,xs=[x,y]/\den V u=some x/\den V v=some y:=by
 simp only [aJ,dH,gM] at h
 obtain ⟨x,hx,ys,⟨y,hy,zs,hz,rfl⟩,rfl⟩:=h
 simp only [aW] at hz
 subst hz
 exact ⟨x,y,rfl,hx,hy⟩
def aZy (b:Builtin) (Eh:Array TypeId) (ty:TypeId) (xs:Array Value):Sem Value:=match b with
 | .len=>Builtin.len_ Eh ty xs
 | .cap=>Builtin.cap_ Eh ty xs
 | .append=>Builtin.append_ Eh ty xs
 | .copy=>Builtin.copy_ Eh ty xs
 | .clear=>Builtin.clear_ Eh ty xs
 | _=>stuck ""
theorem Nw (aU:cD P Γ) {T':aX} (aR:∀ l B,T' l=some B->T l=some B) (hT:aD w0 M V T w) {lab:Nat} (hf:V.fresh lab) {b:Builtin} {Eh:Array TypeId} {ty:TypeId} {vs:List SV} {xs:Array Value}
 (hv:aJ V vs=some xs.toList) (he:wC Γ T' lab b Eh.toList vs=some e) (ho:∀ q∈e.bO,q) :
 oV P w0 M V T lab e (aZy b Eh ty xs) w:=by
 obtain ⟨ts,BX⟩:∃ ts,Eh.toList=ts:=⟨_,rfl⟩
 rw [BX] at he
 unfold wC at he
 split at he
 .rename_i t r v
  split at he
  case h_2=>cases he
  rename_i ti eA
  obtain ⟨x,hx,hd⟩:=qS hv
  have nL:xs = #[x]:=by apply Array.ext';simpa using hx
  subst nL
  have Af:Eh[0]?=some t:=by rw [<- Array.getElem?_toList,BX];rfl
  exact oK (aBf (ty:=ty) aU aR hT Af (aU t ti eA).1 hd he) hT
 .rename_i t r v
  split at he
  case h_2=>cases he
  rename_i ti eA
  split at he
  case h_2=>cases he
  rename_i el CE
  obtain ⟨x,hx,hd⟩:=qS hv
  have nL:xs = #[x]:=by apply Array.ext';simpa using hx
  subst nL
  have Af:Eh[0]?=some t:=by rw [<- Array.getElem?_toList,BX];rfl
  have hu:=(aU t ti eA).1
  rw [CE] at hu
  exact oK (aBh (ty:=ty) Af hu hd he) hT
 .rename_i t t2 x y
  split at he
  .rename_i s k n htt
   split at he
   case h_2=>cases he
   rename_i ti ti2 eA aNc
   split at he
   case h_2=>cases he
   rename_i el CE
   split at he
   case h_2=>cases he
   rename_i te eG
   obtain ⟨p,q,hx,hp,hq⟩:=Df hv
   have nL:xs = #[p,q]:=by apply Array.ext';simpa using hx
   subst nL
   have Pn:Eh = #[t,t2]:=by apply Array.ext';simpa using BX
   subst Pn
   have hu:=(aU t ti eA).1
   rw [CE] at hu
   unfold lK at he
   split at he
   .rename_i h1;cases he;exact Nx (ty:=ty) aU hT hf hu (aU t2 ti2 aNc).1 eG hp hq h1 ho
   .exact OO (ty:=ty) aU aR hT hf hu (aU t2 ti2 aNc).1 eG hp hq he ho
  .split at he
   case h_2=>cases he
   rename_i ti eA htt
   have:=cP htt
   subst this
   split at he
   case h_2=>cases he
   rename_i el CE
   split at he
   case h_2=>cases he
   rename_i te eG
   obtain ⟨p,q,hx,hp,hq⟩:=Df hv
   have nL:xs = #[p,q]:=by apply Array.ext';simpa using hx
   subst nL
   have Pn:Eh = #[t,t]:=by apply Array.ext';simpa using BX
   subst Pn
   have hu:=(aU t ti eA).1
   rw [CE] at hu
   unfold lK at he
   split at he
   .rename_i e' iA
    cases he
    exact OQ (ty:=ty) aU aR hT hf hu eG hp hq iA ho
   .split at he
    .rename_i e' iA
     cases he
     exact OR (ty:=ty) aU aR hT hu eG hp hq iA ho
    .split at he
     .rename_i e' iA
      cases he
      exact OP (ty:=ty) aU aR hT hf hu eG hp hq iA ho
     .split at he
      .rename_i e' iA
       cases he
       exact OT (ty:=ty) aU aR hT hf hu eG hp hq iA
      .exact OS (ty:=ty) aU aR hT hf hu eG hp hq he ho
 .rename_i t t2 x y
  split at he
  case h_2=>cases he
  rename_i ti eA
  split at he
  case h_2=>cases he
  rename_i el CE
  split at he
  case h_2=>cases he
  rename_i te eG
  obtain ⟨p,q,hx,hp,hq⟩:=Df hv
  have nL:xs = #[p,q]:=by apply Array.ext';simpa using hx
  subst nL
  have Pn:Eh = #[t,t2]:=by apply Array.ext';simpa using BX
  subst Pn
  have hu:=(aU t ti eA).1
  rw [CE] at hu
  unfold lK at he
  split at he
  .rename_i e' iA
   cases he
   exact AK (ty:=ty) aU aR hT hu eG hp hq iA
  .split at he
   .rename_i e' iA
    cases he
    exact AJ (ty:=ty) aU aR hT hu eG hp hq iA ho
   .exact AI (ty:=ty) aU aR hT hu eG hp hq he ho
 .rename_i t x
  split at he
  case h_2=>cases he
  rename_i ti eA
  split at he
  case h_2=>cases he
  rename_i el CE
  split at he
  case h_2=>cases he
  rename_i te eG
  obtain ⟨p,hx,hp⟩:=qS hv
  have nL:xs = #[p]:=by apply Array.ext';simpa using hx
  subst nL
  have Pn:Eh = #[t]:=by apply Array.ext';simpa using BX
  subst Pn
  have hu:=(aU t ti eA).1
  rw [CE] at hu
  unfold lK at he
  split at he
  .rename_i e' iA
   cases he
   exact Sr (ty:=ty) aU aR hT hu eG hp iA ho
  .split at he
   .rename_i e' iA
    cases he
    exact Ss (ty:=ty) aU aR hT hu eG hp iA
   .exact Sq (ty:=ty) aU aR hT hu eG hp he ho
 .cases he
theorem Np {lab:Nat} {s:Sem Value} (h:oV P w0 M V T lab e s w) (hr:execOp a.eval o=(do pure (.value (<- s)))):lB P w0 M V T lab e o a w:=by
 obtain ⟨V',x,w',h1,h2,h3,h4⟩:=h
 intro K Q hK
 unfold Oper.wp
 rw [hr]
 simp only [Sem.run_bind,h1,Result.andThen_ok,Sem.run_pure,Oper.upon_value]
 exact hK V' x w' h2 h3 h4
theorem OM (aU:cD P Γ) (aV:cF P Γ) (ht:cJ V g a) (hg:bR Γ V) {T':aX} (aR:∀ l B,T' l=some B->T l=some B) (hT:aD w0 M V T w) {lab F:Nat} (hf:V.fresh lab) (hF:V.top F) {c:Call} (bZ:o.op = .call c)
 (he:GJ Γ g T' lab F c=some e) (ho:∀ q∈e.bO,q):lB P w0 M V T lab e o a w:=by
 unfold GJ at he
 split at he
 case h_1=>cases he
 rename_i vs hvs
 have hd:=Mu ht hg hvs
 split at he
 .rename_i b hb
  have hs:=Nw (P:=P) (ty:=o.type) aU aR hT hf hd he ho
  refine Np hs ?_
  unfold execOp
  simp only [bZ,resolve,hb]
  unfold wC at he
  split at he <;> first | (cases he;done) | rfl
 .rename_i f hb
  split at he
  case h_2=>cases he
  rename_i id first Hr hfv
  split at he
  case h_2=>cases he
  rename_i S hS
  have ef:=bI ht hg hfv
  simp only [den,gM,dH] at ef
  obtain ⟨xf,hxf,xc,hxc,ef⟩:=ef
  intro K Q hK
  have fR:=cK (cK hxf hd) hxc
  have:=aV.1 id S hS _ _ _ _ _ he ho w0 M V T w _ aR hT hg hf hF fR o a K Q hK
  unfold Oper.wp
  have dY:(execOp a.eval o).run P w=(callFunc id ((xf++(c.args.map a.eval).toList++xc).toArray)).run P w:=by
   unfold execOp
   simp only [bZ,resolve,hb,<- ef,Deferred.ofValue,invoke]
   have:(xf++(c.args.map a.eval).toList++xc).toArray=xf.toArray++c.args.map a.eval++xc.toArray:=by
    apply Array.ext';simp
   rw [this]
   rfl
  rw [dY]
  exact this
 .cases he
theorem Gd {l:Nat} {B:SB} {p:Nat × Nat} (h:Pv B=true) (hβ:V.β l=some p) (kX:okB V w l B):B.owned=true/\B.aT V l=some p.1/\p.2=0/\∃ cs ty,w.heap[p.1]?=some (.cells cs ty (0,0)):=by
 obtain ⟨cs,_,h2⟩:=kX
 cases B with
 | own cells ty=>obtain ⟨b,hb,hh⟩:=h2;rw [hβ] at hb;cases hb;exact ⟨rfl,by simp [SB.aT,hβ],rfl,_,_,hh⟩
 | ints k xs ty=>obtain ⟨b,hb,hh⟩:=h2;rw [hβ] at hb;cases hb;exact ⟨rfl,by simp [SB.aT,hβ],rfl,_,_,hh⟩
 | eN vs ty=>obtain ⟨b,hb,hh⟩:=h2;rw [hβ] at hb;cases hb;exact ⟨rfl,by simp [SB.aT,hβ],rfl,_,_,hh⟩
 | row sz cells ty=>obtain ⟨b,_,_,hb,_,hh,_⟩:=h2;rw [hβ] at hb;cases hb;exact ⟨rfl,by simp [SB.aT,hβ],rfl,_,_,hh⟩
 | _=>cases h
theorem jW (d:Nat) {e:TypeId} {k0:IntKind} (he:P.underlying e=some (.int k0)) (aS bs:Array Value) :
 ∀ (xs ys:List SV) (j:Nat) (l r:Bool),mF xs ys=some (l,r)->aJ V xs=some (aS.toList.drop j)->aJ V ys=some (bs.toList.drop j)->(Op.eqItems (d+1) e 1 aS bs (List.range' j xs.length)).run P w = .ok r w
 | [],[],j,l,r,h,_,_=>by
   simp only [mF,aW,Prod.mk.injEq] at h
   obtain ⟨rfl,rfl⟩:=h
   simp [Op.eqItems]
 | .int s k a::xs,y::ys,j,l,r,h,hx,hy=>by
   cases y <;> simp only [mF] at h <;> first | (cases h;done) | skip
   rename_i s' k' b
   split at h
   case h_2=>cases h
   rename_i l' r' hk hr
   have:=jP hk
   subst this
   simp only [aW,Prod.mk.injEq] at h
   obtain ⟨rfl,rfl⟩:=h
   simp only [aJ,den,lI,dH] at hx hy
   obtain ⟨as',nL,hxa⟩:=hx
   obtain ⟨bs',pY,hyb⟩:=hy
   have ga:aS[j]?=some (.int k a):=by
    have:(aS.toList.drop j)[0]?=some (.int k a):=by rw [<- hxa];rfl
    simpa using this
   have gb:bs[j]?=some (.int k b):=by
    have:(bs.toList.drop j)[0]?=some (.int k b):=by rw [<- hyb];rfl
    simpa using this
   have da:as'=aS.toList.drop (j+1):=by
    have:=congrArg (List.drop 1) hxa
    simpa using this
   have db:bs'=bs.toList.drop (j+1):=by
    have:=congrArg (List.drop 1) hyb
    simpa using this
   have gH:sP (.int k0)=false:=rfl
   have ih:=jW d he aS bs xs ys (j+1) l' r' hr (da ▸ nL) (db ▸ pY)
   have pa:(part e aS (j*1)).run P w = .ok (.int k a) w:=by
    simp only [Nat.mul_one,part,Sem.run_bind,eO he,gH,Result.andThen_ok,Bool.false_eq_true,if_false,ga,Sem.run_pure]
   have pb:(part e bs (j*1)).run P w = .ok (.int k b) w:=by
    simp only [Nat.mul_one,part,Sem.run_bind,eO he,gH,Result.andThen_ok,Bool.false_eq_true,if_false,gb,Sem.run_pure]
   simp only [List.length_cons,List.range'_succ,Op.eqItems,Sem.run_bind,pa,pb,Result.andThen_ok,run_equalIn_int w d e k k0 a b he]
   cases hab:(a==b) with
   | true=>simp [ih]
   | false=>simp
 | [],_::_,_,_,_,h,_,_=>by simp [mF] at h
 | x::_,[],_,_,_,h,_,_=>by cases x <;> simp [mF] at h
 | .bool .. :: _,_::_,_,_,_,h,_,_=>by simp [mF] at h
 | .ptr .. :: _,_::_,_,_,_,h,_,_=>by simp [mF] at h
 | .aH .. :: _,_::_,_,_,_,h,_,_=>by simp [mF] at h
 | .agg .. :: _,_::_,_,_,_,h,_,_=>by simp [mF] at h
 | .eD .. :: _,_::_,_,_,_,h,_,_=>by simp [mF] at h
 | .fn .. :: _,_::_,_,_,_,h,_,_=>by simp [mF] at h
 | .pX .. :: _,_::_,_,_,_,h,_,_=>by simp [mF] at h
 | .raw .. :: _,_::_,_,_,_,h,_,_=>by simp [mF] at h
 | .buf .. :: _,_::_,_,_,_,h,_,_=>by simp [mF] at h
 | .iZ .. :: _,_::_,_,_,_,h,_,_=>by simp [mF] at h
 | .mG .. :: _,_::_,_,_,_,h,_,_=>by simp [mF] at h
 | .iH .. :: _,_::_,_,_,_,h,_,_=>by simp [mF] at h
 | .ai .. :: _,_::_,_,_,_,h,_,_=>by simp [mF] at h
 | .dJ .. :: _,_::_,_,_,_,h,_,_=>by simp [mF] at h
theorem Mz (aU:cD P Γ) (aV:cF P Γ) (ht:cJ V g a) (hg:bR Γ V) {T':aX} (aR:∀ l B,T' l=some B->T l=some B) (hT:aD w0 M V T w) {op:BinOp} {t t2:TypeId} {x y:Operand} (bZ:o.op = .binOp op t x y t2)
 (he:Uc Γ g T' op t x y=some e) (lab:Nat):lB P w0 M V T lab e o a w:=by
 have fin:∀ {u v:Value} {b:Bool},a.eval x=u->a.eval y=v->(Op.equal t u v).run P w = .ok b w->(binOp .eql t u v=(do pure (.bool (<- Op.equal t u v)))/\binOp .neq t u v=(do pure (.bool (!(<- Op.equal t u v))))) ->
  ¬ (u = .nilIface/\v = .nilIface)->(∀ cs,u ≠ .agg cs)->tY op b=some e->lB P w0 M V T lab e o a w:=by
  intro u v b hu hv hr hb Hb hn2 he
  have zK:=cR (P:=P) w op t x y u v Hb hn2
  have hx:∃ z,((do eqGuard op t x y u v;binOp op t u v):Sem Value).run P w = .ok z w/\den V e.val=some z/\e.new=[]/\e.wr=[]:=by
   cases op <;> simp only [tY] at he <;> first | (cases he;done) | skip
   .simp only [lit,aW] at he;subst he
    exact ⟨.bool b,by rw [Sem.run_bind,zK,Result.andThen_ok,hb.1,Sem.run_bind,hr];rfl,rfl,rfl,rfl⟩
   .simp only [lit,aW] at he;subst he
    exact ⟨.bool (!b),by rw [Sem.run_bind,zK,Result.andThen_ok,hb.2,Sem.run_bind,hr];rfl,rfl,rfl,rfl⟩
  obtain ⟨z,h1,h2,h3,h4⟩:=hx
  refine bF (x:=z) ?_ h2 h3 h4 hT
  unfold execOp
  simp only [bZ,hu,hv]
  rw [Sem.run_bind,h1]
  rfl
 unfold Uc at he
 split at he
 .rename_i l s1 off l' s2 fE hx hy
  have ex:=bI ht hg hx
  have ey:=bI ht hg hy
  simp only [den,dH] at ex ey
  obtain ⟨p,hp,ex⟩:=ex
  obtain ⟨q,hq,ey⟩:=ey
  split at he
  case h_2=>cases he
  rename_i ti eA
  split at he
  case h_2=>cases he
  rename_i el hd
  split at he
  case h_2=>cases he
  rename_i te eG
  have hu:=(aU t ti eA).1
  rw [hd] at hu
  obtain ⟨_,i,z,hi,gF,_⟩:=aU el te eG
  have aXh:∀ (n0:Nat) (b:Bool),(i.size≠0->(sameAddr ⟨p.1,p.2+off,none⟩ ⟨q.1,q.2+fE,none⟩).run P w = .ok b w)->(i.size=0->((⟨p.1,p.2+off,none⟩:Addr)==⟨q.1,q.2+fE,none⟩)=true/\b=true) ->
   (Op.equalIn (n0+1) t (.pointer (some ⟨p.1,p.2+off,none⟩)) (.pointer (some ⟨q.1,q.2+fE,none⟩))).run P w = .ok b w:=by
   intro n0 b h1 h2
   simp only [Op.equalIn,Sem.run_bind,run_underlying hu w,Result.andThen_ok,run_sizeOf hi]
   by_cases h0:i.size=0
   .rw [if_neg (by simp [h0])]
    obtain ⟨h3,rfl⟩:=h2 h0
    rw [if_pos h3];rfl
   .rw [if_pos (by simpa using h0)]
    exact h1 h0
  have heq:∀ (b:Bool),(i.size≠0->(sameAddr ⟨p.1,p.2+off,none⟩ ⟨q.1,q.2+fE,none⟩).run P w = .ok b w)->(i.size=0->((⟨p.1,p.2+off,none⟩:Addr)==⟨q.1,q.2+fE,none⟩)=true/\b=true) ->
   (Op.equal t (.pointer (some ⟨p.1,p.2+off,none⟩)) (.pointer (some ⟨q.1,q.2+fE,none⟩))).run P w = .ok b w:=fun b=>aXh 9999 b
  split at he
  .rename_i QV
   have:=cP QV
   subst this
   rw [hp] at hq;cases hq
   split at he
   .rename_i hoo
    have:=cP hoo
    subst this
    exact fin ex.symm ey.symm (heq true (fun _=>run_sameAddr_same w _) (fun _=>⟨by simp,rfl⟩)) ⟨rfl,rfl⟩ (by simp) (by simp) he
   .rename_i hoo
    have dI:=mT hoo
    split at he
    .cases he
    .rename_i hz
     have hz:=mT hz
     refine fin ex.symm ey.symm (heq false (fun _=>?_) (fun h=>absurd (gF ▸ h) hz)) ⟨rfl,rfl⟩ (by simp) (by simp) he
     simp [sameAddr]
  .rename_i QV
   have dI:=mT QV
   split at he
   case h_2=>cases he
   rename_i B B' hz hB hB'
   have hz:=mT hz
   split at he
   case h_2=>cases he
   rename_i hw
   simp only [iN] at hw
   obtain ⟨o1,b1,z1,cs1,ty1,h1⟩:=Gd hw.1 hp (hT.ok l B (aR l B hB))
   obtain ⟨o2,b2,z2,cs2,ty2,h2⟩:=Gd hw.2 hq (hT.ok l' B' (aR l' B' hB'))
   have Tk:p.1≠q.1:=fun e=>hT.iY l B l' B' p.1 dI (aR l B hB) (aR l' B' hB') o1 b1 (e ▸ b2)
   refine fin ex.symm ey.symm (heq false (fun _=>?_) (fun h=>absurd (gF ▸ h) hz)) ⟨rfl,rfl⟩ (by simp) (by simp) he
   exact run_sameAddr_other w (by simp) h1 h2
 .rename_i t1 l s1 off t2' l' s2 fE hx hy
  have ex:=bI ht hg hx
  have ey:=bI ht hg hy
  simp only [den,dH] at ex ey
  obtain ⟨_,⟨p,hp,rfl⟩,ex⟩:=ex
  obtain ⟨_,⟨q,hq,rfl⟩,ey⟩:=ey
  split at he
  case h_2=>cases he
  rename_i ti t1i eA ht1
  split at he
  case h_2=>cases he
  rename_i ms el hd RC
  split at he
  case h_2=>cases he
  rename_i te eG
  have hu:=(aU t ti eA).1
  rw [hd] at hu
  obtain ⟨hu1,i1,z1,Xe,_⟩:=aU t1 t1i ht1
  rw [RC] at hu1
  obtain ⟨_,i2,z2,Tj,aWt,_⟩:=aU el te eG
  split at he
  .rename_i hc
   simp only [iN] at hc
   obtain ⟨c1,c2,c3,c4⟩:=hc
   have:=cP c1
   subst this
   have:=cP c2
   subst this
   have:=cP c3
   subst this
   rw [hp] at hq;cases hq
   have aEt:=(aV.2.2.1 t1 c4).1 i1 Xe
   exact fin ex.symm ey.symm (run_equalIn_iface_ptr_same w 9998 _ hu hu1 Xe aEt Tj) ⟨rfl,rfl⟩ (by simp) (by simp) he
  .split at he
   case h_2=>cases he
   rename_i s s' hc hs xX
   split at he
   case h_2=>cases he
   rename_i dI
   simp only [iN,Bool.not_eq_true'] at hc
   obtain ⟨c1,c4,c5⟩:=hc
   have:=cP c1
   subst this
   have aEt:=(aV.2.2.1 t1 c4).1 i1 Xe
   have look:∀ {l o:Nat} {s:ByteArray} {p:Nat × Nat},RU T' l o=some s->V.β l=some p->o=0/\uD w p.1/\w.cell? ⟨p.1,p.2,none⟩=some (.string s):=by
    intro l o s p h hp
    unfold RU at h
    split at h
    case h_2=>cases h
    rename_i s0 r hB
    cases h
    obtain ⟨cs,kD,b,o,hb,h0,hh⟩:=hT.ok l _ (aR l _ hB)
    rw [hp] at hb;cases hb
    simp only [SB.cells,aJ,den,gM,dH] at kD
    obtain ⟨v,hv,w',_,rfl⟩:=kD
    cases hv
    refine ⟨rfl,h0.2 s rfl,?_⟩
    have:=hh 0 (.string s) rfl
    simpa using this
   obtain ⟨rfl,⟨ca,ta,ha⟩,kF⟩:=look hs hp
   obtain ⟨rfl,⟨cb,tb,hb⟩,hcb⟩:=look xX hq
   have hab:(⟨p.1,p.2+0,none⟩:Addr)≠⟨q.1,q.2+0,none⟩:=fun e=>by
    simp only [Nat.add_zero] at e
    rw [e] at kF
    have:=kF.symm.trans hcb
    simp only [aW,Value.string.injEq] at this
    exact IB dI (by rw [this])
   exact fin ex.symm ey.symm (run_equalIn_iface_ptr_other w 9998 hu hu1 Xe aEt Tj (by rw [aWt];exact mT c5) hab ha hb) ⟨rfl,rfl⟩ (by simp) (by simp) he
 .rename_i xs ys hx hy
  have ex:=bI ht hg hx
  have ey:=bI ht hg hy
  simp only [den,dH] at ex ey
  obtain ⟨aS,has,ex⟩:=ex
  obtain ⟨bs,QD,ey⟩:=ey
  split at he
  case h_2=>cases he
  rename_i ti eA
  split at he
  case h_2=>cases he
  rename_i n el hd
  split at he
  case h_2=>cases he
  rename_i te eG
  split at he
  case h_2=>cases he
  rename_i k0 l r hdk kE heq
  simp only [iN] at kE
  have h1:=cP kE.1
  have h2:=cP kE.2
  have hu:=(aU t ti eA).1
  rw [hd] at hu
  obtain ⟨Ec,i,z,hi,gF,_⟩:=aU el te eG
  rw [hdk] at Ec
  have fP:P.cellsOf el=1:=by simp [Program.cellsOf,hi,gF,h1]
  have hr:(Op.equal t (.agg aS.toArray) (.agg bs.toArray)).run P w = .ok r w:=by
   have:=run_equalIn_array (P:=P) w 9999 aS.toArray bs.toArray hu hi
   refine Eq.trans this ?_
   rw [fP,<- h2,List.range_eq_range']
   exact jW 9998 Ec aS.toArray bs.toArray xs ys 0 l r heq (by simpa using has) (by simpa using QD)
  have zK:∀ op:BinOp,(eqGuard op t x y (.agg aS.toArray) (.agg bs.toArray)).run P w = .ok () w:=fun op=>by
   refine run_eqGuard_agg w op t x y _ _ ?_
   obtain ⟨d,DB⟩:=aV.2.2.2
   rw [DB]
   simp [Program.eqGuardType,hu,Ec]
  refine bF (x:=match op with | .eql=>.bool r | _=>.bool (!r)) ?_ ?_ ?_ ?_ hT
  .unfold execOp
   simp only [bZ,<- ex,<- ey]
   cases op <;> simp only [Qn] at he <;> first | (cases he;done) | skip
   .rw [Sem.run_bind,Sem.run_bind,zK,Result.andThen_ok]
    show (((do pure (.bool (<- Op.equal t (.agg aS.toArray) (.agg bs.toArray)))):Sem Value).run P w).andThen _=_
    rw [Sem.run_bind,hr];rfl
   .rw [Sem.run_bind,Sem.run_bind,zK,Result.andThen_ok]
    show (((do pure (.bool (!(<- Op.equal t (.agg aS.toArray) (.agg bs.toArray))))):Sem Value).run P w).andThen _=_
    rw [Sem.run_bind,hr];rfl
  all_goals (cases op <;> simp only [Qn] at he <;> first | (cases he;done) | (cases he;rfl))
 .cases he
theorem Mw (k:IntKind):∀ (xs ys:List Int),xs.length=ys.length->∃ l,mF (xs.map (SV.int false k)) (ys.map (SV.int false k))=some (l,decide (xs=ys))
 | [],[],_=>⟨true,rfl⟩
 | [],_::_,h=>by simp at h
 | _::_,[],h=>by simp at h
 | x::xs,y::ys,h=>by
   obtain ⟨l,hl⟩:=Mw k xs ys (by simpa using h)
   refine ⟨false&&(false&&l),?_⟩
   simp only [List.map_cons,mF,Wq,decide_true,hl]
   by_cases e:x=y
   .subst e;simp
   .simp [e]
theorem Gu (aU:cD P Γ) (aV:cF P Γ) (ht:cJ V g a) (hg:bR Γ V) (hT:aD w0 M V T w) {op:BinOp} {t t2:TypeId} {x y:Operand} (bZ:o.op = .binOp op t x y t2)
 (he:Ig Γ g op t x y=some e) (ho:∀ q∈e.bO,q) (lab:Nat):lB P w0 M V T lab e o a w:=by
 unfold Ig at he
 split at he
 case h_2=>cases he
 rename_i k xs k2 ys ti hx hy eA
 split at he
 case h_2=>cases he
 rename_i n el hd
 split at he
 case h_2=>cases he
 rename_i te eG
 split at he
 case h_2=>cases he
 rename_i k0 hdk iK Ad
 have iK:=cP iK
 have Ad:k=k2:=jP Ad
 subst Ad
 simp only [gM] at hx hy
 obtain ⟨vx,hx,QX⟩:=hx
 obtain ⟨vy,hy,hiy⟩:=hy
 have ex:=(bI ht hg hx).symm.trans (Gp QX)
 have ey:=(bI ht hg hy).symm.trans (Gp hiy)
 simp only [aW] at ex ey
 have hu:=(aU t ti eA).1
 rw [hd] at hu
 obtain ⟨Ec,i,z,hi,gF,_⟩:=aU el te eG
 rw [hdk] at Ec
 have fP:P.cellsOf el=1:=by simp [Program.cellsOf,hi,gF,iK]
 have hlen:xs.length=n/\ys.length=n:=by
  cases op <;> simp only [Ie] at he <;> first | (cases he;done) | (cases he;exact ho _ (by simp))
 obtain ⟨l,hl⟩:=Mw k xs ys (by omega)
 have dm:∀ zs:List Int,aJ V (zs.map (SV.int false k))=some (zs.map (Value.int k)):=fun zs=>by
  induction zs with
  | nil=>rfl
  | cons z zs ih=>simp [aJ,den,ih]
 have hr:(Op.equal t (.agg (xs.map (Value.int k)).toArray) (.agg (ys.map (Value.int k)).toArray)).run P w = .ok (decide (xs=ys)) w:=by
  have:=run_equalIn_array (P:=P) w 9999 (xs.map (Value.int k)).toArray (ys.map (Value.int k)).toArray hu hi
  refine Eq.trans this ?_
  rw [fP,<- hlen.1,List.range_eq_range']
  have:=jW (P:=P) (w:=w) (V:=V) 9998 Ec (xs.map (Value.int k)).toArray (ys.map (Value.int k)).toArray (xs.map (SV.int false k)) (ys.map (SV.int false k)) 0 l _ hl (by simpa using dm xs) (by simpa using dm ys)
  simpa using this
 have zK:∀ op:BinOp,(eqGuard op t x y (.agg (xs.map (Value.int k)).toArray) (.agg (ys.map (Value.int k)).toArray)).run P w = .ok () w:=fun op=>by
  refine run_eqGuard_agg w op t x y _ _ ?_
  obtain ⟨d,DB⟩:=aV.2.2.2
  rw [DB]
  simp [Program.eqGuardType,hu,Ec]
 refine bF (x:=match op with | .eql=>.bool (decide (xs=ys)) | _=>.bool (!decide (xs=ys))) ?_ ?_ ?_ ?_ hT
 .unfold execOp
  simp only [bZ,ex,ey]
  cases op <;> simp only [Ie] at he <;> first | (cases he;done) | skip
  .rw [Sem.run_bind,Sem.run_bind,zK,Result.andThen_ok]
   show (((do pure (.bool (<- Op.equal t (.agg (xs.map (Value.int k)).toArray) (.agg (ys.map (Value.int k)).toArray)))):Sem Value).run P w).andThen _=_
   rw [Sem.run_bind,hr];rfl
  .rw [Sem.run_bind,Sem.run_bind,zK,Result.andThen_ok]
   show (((do pure (.bool (!(<- Op.equal t (.agg (xs.map (Value.int k)).toArray) (.agg (ys.map (Value.int k)).toArray))))):Sem Value).run P w).andThen _=_
   rw [Sem.run_bind,hr];rfl
 all_goals (cases op <;> simp only [Ie] at he <;> first | (cases he;done) | (cases he;rfl))
theorem Gt (aU:cD P Γ) (aV:cF P Γ) (ht:cJ V g a) (hg:bR Γ V) (hT:aD w0 M V T w) {op:BinOp} {t t2:TypeId} {x y:Operand} (bZ:o.op = .binOp op t x y t2)
 (he:Ic Γ g op t x y=some e) (lab:Nat):lB P w0 M V T lab e o a w:=by
 unfold Ic at he
 split at he
 case h_2=>cases he
 rename_i s1 k1 x1 s2 k2 x2 s3 k3 y1 s4 k4 y2 ti hx hy eA
 split at he
 case h_2=>cases he
 rename_i fs hd
 split at he
 case h_2=>cases he
 rename_i f1 f2 hfs
 split at he
 case h_2=>cases he
 rename_i t1 t2 ht1 On
 split at he
 case h_2=>cases he
 rename_i d1 d2 RC QC kE
 simp only [iN,Bool.not_eq_true',beq_eq_false_iff_ne,ne_eq] at kE
 obtain ⟨⟨⟨n1,n2⟩,o1,o2⟩,⟨hk1,fJ⟩,hc⟩:=kE
 have o1:=cP o1
 have o2:=cP o2
 have hk1:k1=k3:=jP hk1
 have fJ:k2=k4:=jP fJ
 subst hk1 fJ
 have ex:=bI ht hg hx
 have ey:=bI ht hg hy
 simp only [den,aJ,lI,gL,aW] at ex ey
 have hu:=(aU t ti eA).1
 rw [hd] at hu
 have hu1:=(aU _ t1 ht1).1
 rw [RC] at hu1
 have hu2:=(aU _ t2 On).1
 rw [QC] at hu2
 have CD:P.fieldsOf t=fs:=by simp [Program.fieldsOf,hu]
 have gH:∀ k,sP (.int k)=false:=fun _=>rfl
 have p1:∀ u v:Value,(part f1.type #[u,v] f1.offset).run P w = .ok u w:=fun u v=>by
  simp [o1,part,Sem.run_bind,eO hu1,gH,Result.andThen_ok]
 have p2:∀ u v:Value,(part f2.type #[u,v] f2.offset).run P w = .ok v w:=fun u v=>by
  simp [o2,part,Sem.run_bind,eO hu2,gH,Result.andThen_ok]
 have hr:(Op.equal t (.agg #[.int k1 x1,.int k2 x2]) (.agg #[.int k1 y1,.int k2 y2])).run P w = .ok (decide (x1=y1)&&decide (x2=y2)) w:=by
  refine Eq.trans (run_equalIn_struct w 9999 t _ _ (by rw [CD];exact hu) (aV.2.2.1 t hc).2) ?_
  rw [CD,hfs]
  simp only [Op.eqFields,ne_eq,n1,n2,not_false_eq_true,if_true,Sem.run_bind,p1,Result.andThen_ok,run_equalIn_int w 9998 f1.type k1 d1 x1 y1 hu1]
  have q2:∀ u v:Int,(Op.equalIn 9999 f2.type (.int k2 u) (.int k2 v)).run P w = .ok (u==v) w:=fun u v=>run_equalIn_int w 9998 f2.type k2 d2 u v hu2
  by_cases h1:x1=y1 <;> by_cases h2:x2=y2 <;> simp [h1,h2,Sem.run_bind,p2,Result.andThen_ok] <;> (try (rw [q2];simp [h2]))
 have hfa:fs = #[f1,f2]:=by apply Array.ext';simpa using hfs
 have zK:∀ op:BinOp,(eqGuard op t x y (.agg #[.int k1 x1,.int k2 x2]) (.agg #[.int k1 y1,.int k2 y2])).run P w = .ok () w:=fun op=>by
  refine run_eqGuard_agg w op t x y _ _ ?_
  obtain ⟨d,DB⟩:=aV.2.2.2
  rw [DB]
  simp [Program.eqGuardType,hu,hu1,hu2,hfa]
 refine bF (x:=match op with | .eql=>.bool (decide (x1=y1)&&decide (x2=y2)) | _=>.bool (!(decide (x1=y1)&&decide (x2=y2)))) ?_ ?_ ?_ ?_ hT
 .unfold execOp
  simp only [bZ,<- ex,<- ey]
  split at he
  .rw [Sem.run_bind,Sem.run_bind,zK,Result.andThen_ok]
   show (((do pure (.bool (<- Op.equal t (.agg #[.int k1 x1,.int k2 x2]) (.agg #[.int k1 y1,.int k2 y2])))):Sem Value).run P w).andThen _=_
   rw [Sem.run_bind,hr];rfl
  .rw [Sem.run_bind,Sem.run_bind,zK,Result.andThen_ok]
   show (((do pure (.bool (!(<- Op.equal t (.agg #[.int k1 x1,.int k2 x2]) (.agg #[.int k1 y1,.int k2 y2]))))):Sem Value).run P w).andThen _=_
   rw [Sem.run_bind,hr];rfl
  .cases he
 all_goals (split at he <;> first | (cases he;done) | (cases he;rfl))
theorem AE (aU:cD P Γ) (ht:cJ V g a) (hg:bR Γ V) (hT:aD w0 M V T w) {t:TypeId} {x y:Operand} (bZ:o.op = .makeSlice t x y) {lab:Nat} (hf:V.fresh lab) (he:Qq Γ g t x y lab=some e) (ho:∀ q∈e.bO,q):lB P w0 M V T lab e o a w:=by
 unfold Qq at he
 split at he
 case h_2=>cases he
 rename_i kx sy ky c ti hx hy eA
 split at he
 case h_2=>cases he
 rename_i el hd
 split at he
 case h_2=>cases he
 rename_i te eG
 split at he
 case h_2=>cases he
 rename_i kE
 simp only [iN] at kE
 have wR:=cP kE.1
 have hz2:=cP kE.2
 simp only [aW] at he
 subst he
 obtain ⟨h1,h2,h3⟩:=ho _ dC
 have ex:=bI ht hg hx
 have ey:=bI ht hg hy
 simp only [den,aW] at ex ey
 have hu:=(aU t ti eA).1
 rw [hd] at hu
 obtain ⟨_,i,z,hi,cH,RF,hz,hzero⟩:=aU el te eG
 have Tj:i.size=2:=cH.trans wR
 have sK:z.cells.size=2:=by
  have h1:=bH (hzero V)
  rw [<- hz2,<- h1];simp
 rw [<- RF] at h2
 have en:IntKind.i64.wrap 0=0:=rO (by omega) (by omega)
 have ec:IntKind.i64.wrap c=c:=rO (by omega) (by omega)
 have eA:(typeInfo el).run P w = .ok i w:=by simp [typeInfo,hi]
 have Bv:(c<0||(i.bytes:Int)*c>2^48||(0:Int)<0||(0:Int)>c)=false:=by simp;omega
 obtain ⟨cur,aNl,dY⟩:∃ cur:Array Value,cur.size=c.toNat*2/\(Instr.makeSlice t (.int kx 0) (.int ky c)).run P w = .ok (.slice (some ⟨w.heap.size,0,none⟩) 0 c.toNat) (w.alloc (.cells cur el)):=by
  unfold Instr.makeSlice
  simp only [Sem.run_bind,run_underlying hu w,Result.andThen_ok,asInt,asIntOf,Sem.run_pure,eA,en,ec,Bv,Bool.false_eq_true,if_false,run_askRoom,run_sizeOf hi,Tj]
  by_cases Ae:c.toNat*2=0
  .exact ⟨#[],by simp;omega,by simp [show c.toNat=0 by omega,newRow,show Array.range 0 = #[] from rfl]⟩
  .refine ⟨(Array.range (c.toNat*2)).map fun j=>z.cells[j%z.cells.size]!,by simp,?_⟩
   simp only [if_neg Ae,Sem.run_bind,dZ hi hz,Result.andThen_ok,Sem.run_pure,newRow,run_newObj,World.alloc_eq,Int.toNat_zero]
 intro K Q hK
 unfold Oper.wp
 have hr:(execOp a.eval o).run P w = .ok (.value (.slice (some ⟨w.heap.size,0,none⟩) 0 c.toNat)) (w.alloc (.cells cur el)):=by
  unfold execOp
  simp only [bZ,<- ex,<- ey,Sem.run_bind,dY,Result.andThen_ok,Sem.run_pure]
 rw [hr,Oper.upon_value]
 have hs:(V.bC lab (.slice (some ⟨w.heap.size,0,none⟩) 0 c.toNat)).σ lab=some (.slice (some ⟨w.heap.size,0,none⟩) 0 c.toNat):=by simp [bA.bC]
 have kX:okB (V.bC lab (.slice (some ⟨w.heap.size,0,none⟩) 0 c.toNat)) (w.alloc (.cells cur el)) lab (.eK [] el):=
  ⟨[],rfl,_,hs,rfl,.inr ⟨w.heap.size,c.toNat,cur,rfl,Nat.zero_le _,heap_alloc_new w _,Nat.zero_le _,by simp only [maxLen];omega,aNl,by simp⟩⟩
 refine hK _ (.slice (some ⟨w.heap.size,0,none⟩) 0 c.toNat) _ (bA.cG hf lab (cT _) (by omega) (.slice (some ⟨w.heap.size,0,none⟩) 0 c.toNat)) (by simp only [den];exact hs) ?_
 exact hT.rM (lo:=none) (v:=.slice none 0 0) (v':=.slice (some ⟨w.heap.size,0,none⟩) 0 c.toNat) hf kX (fun n hb=>by simpa [SB.aT,hs] using hb) (World.grownBy_alloc w _ _) (.inr rfl) (fun _=>rfl) (fun l hl=>by cases hl) _ _
theorem Mk (aU:cD P Γ) (aV:cF P Γ) (ht:cJ V g a) (hg:bR Γ V) {T':aX} (aR:∀ l B,T' l=some B->T l=some B) (hT:aD w0 M V T w) {lab F:Nat} (hf:V.fresh lab) (hF:V.top F) {h:Option Bool}
 (he:Bk Γ g T' lab F h o=some e) (ho:∀ q∈e.bO,q):lB P w0 M V T lab e o a w:=by
 unfold Bk at he
 split at he
 .rename_i bZ;exact Na ht hg hT (.inl bZ) he lab
 .rename_i bZ;exact Na ht hg hT (.inr bZ) he lab
 .rename_i bZ;exact OJ ht hg hT bZ he lab
 .rename_i bZ;exact AO aU hT bZ hf he
 .rename_i bZ
  unfold lK at he
  split at he
  .rename_i h1;cases he;exact aBi ht hg aR hT bZ hf h1
  .exact ON ht hg hT bZ hf he
 .rename_i bZ;exact AN aU ht hg aR hT bZ he ho lab
 .rename_i bZ;exact Du aU ht hg aR hT bZ hf he
 .rename_i bZ
  unfold lK at he
  split at he
  .rename_i h1;cases he;exact AG aU ht hg aR hT bZ h1 ho lab
  .split at he
   .rename_i h1;cases he;exact OK aU ht hg aR hT bZ h1 ho lab
   .exact AF aU ht hg aR hT bZ he ho lab
 .rename_i bZ
  unfold lK at he
  split at he
  .rename_i h1;cases he;exact AB aU ht hg aR hT bZ h1 ho lab
  .split at he
   .rename_i h1;cases he;exact Sg aU ht hg aR hT bZ h1 ho lab
   .split at he
    .rename_i h1;cases he;exact Se aU ht hg aR hT bZ h1 lab
    .exact Sf aU ht hg aR hT bZ he ho lab
 .rename_i bZ;exact aBe ht hg hT bZ he lab
 .rename_i bZ
  split at he
  .unfold lK at he
   split at he
   .rename_i e' iA;cases he;exact Jm aU ht hg hT bZ iA ho lab
   .split at he
    .rename_i h1;cases he;exact Mz aU aV ht hg aR hT bZ h1 lab
    .split at he
     .rename_i h1;cases he;exact Gu aU aV ht hg hT bZ h1 ho lab
     .split at he
      .rename_i h1;cases he;exact Gt aU aV ht hg hT bZ h1 lab
      .exact Gs ht hg hT bZ he lab
  .unfold lK at he
   split at he
   .rename_i e' iA;cases he;exact Jm aU ht hg hT bZ iA ho lab
   .split at he
    .rename_i h1;cases he;exact Mz aU aV ht hg aR hT bZ h1 lab
    .split at he
     .rename_i h1;cases he;exact Gu aU aV ht hg hT bZ h1 ho lab
     .split at he
      .rename_i h1;cases he;exact Gt aU aV ht hg hT bZ h1 lab
      .exact Gs ht hg hT bZ he lab
  .exact Jm aU ht hg hT bZ he ho lab
 .rename_i bZ;exact aKx ht hg hT bZ he lab
 .rename_i bZ
  unfold lK at he
  split at he
  .rename_i h1;cases he;exact OL aU ht hg hT bZ h1 lab
  .split at he
   .rename_i h1;cases he;exact AM aU ht hg aR hT bZ h1 lab
   .exact AL aU ht hg aR hT bZ he ho lab
 .rename_i bZ;exact aBj aU ht hg hT bZ he ho lab
 .rename_i bZ;exact Fb aU ht hg hT bZ he lab
 .rename_i bZ;exact Jq ht hg hT bZ he lab
 .rename_i bZ
  unfold lK at he
  split at he
  .rename_i h1;cases he;exact Fa aU ht hg hT bZ hf h1 ho
  .exact AE aU ht hg hT bZ hf he ho
 .rename_i bZ
  unfold lK at he
  split at he
  .rename_i h1;cases he;exact Sk aU ht hg aR hT bZ h1 lab
  .split at he
   .rename_i h1;cases he;exact AD aU ht hg aR hT bZ h1 ho lab
   .split at he
    .rename_i h1;cases he;exact Sh aU ht hg aR hT bZ hf h1 ho
    .split at he
     .rename_i h1;cases he;exact Sj aU ht hg aR hT bZ hf h1 ho
     .exact Si aU ht hg aR hT bZ hf he ho
 .rename_i bZ;exact AH aU ht hg hT bZ he lab
 .rename_i bZ;exact Sp aU ht hg hT bZ he lab
 .rename_i bZ
  unfold lK at he
  split at he
  .rename_i h1;cases he;exact Fc aU ht hg hT bZ h1 ho lab
  .split at he
   .rename_i h1;cases he;exact Sn aU ht hg aR hT bZ h1 ho lab
   .exact Sm aU ht hg hT bZ he ho lab
 .rename_i bZ
  unfold lK at he
  split at he
  .rename_i h1;cases he;exact Sl aU ht hg hT bZ h1 lab
  .exact So aU ht hg hT bZ he ho lab
 .rename_i bZ;exact Nv ht hg hT bZ he lab
 .rename_i bZ;exact OM aU aV ht hg aR hT hf hF bZ he ho
 .cases he
end He
inductive Tr (α:Type) where
 | lf
 | nd (l:Tr α) (v:Option α) (r:Tr α)
noncomputable def Tr.get {α:Type} (t:Tr α):Nat->Option α:=Tr.rec (motive:=fun _=>Nat->Option α) (fun _=>none)
 (fun _ v _ ihl ihr n=>Bool.rec (Bool.rec (ihr (n/2-1)) (ihl (n/2)) (Nat.beq (n%2) 1)) v (Nat.beq n 0)) t
noncomputable def Tr.new {α:Type} (v:α) (f:Nat):Nat->Tr α:=Nat.rec (motive:=fun _=>Nat->Tr α) (fun _=>.nd .lf (some v) .lf)
 (fun _ ih n=>Bool.rec (Bool.rec (.nd .lf none (ih (n/2-1))) (.nd (ih (n/2)) none .lf) (Nat.beq (n%2) 1)) (.nd .lf (some v) .lf) (Nat.beq n 0)) f
noncomputable def Tr.put {α:Type} (v:α) (f:Nat) (t:Tr α):Nat->Option (Tr α):=Tr.rec (motive:=fun _=>Nat->Option (Tr α)) (fun n=>Bool.rec none (some (Tr.new v f n)) (Nat.ble (n+1) (2^f)))
 (fun l u r ihl ihr n=>Bool.rec (Bool.rec (Option.rec none (fun r'=>some (.nd l u r')) (ihr (n/2-1))) (Option.rec none (fun l'=>some (.nd l' u r)) (ihl (n/2))) (Nat.beq (n%2) 1)) (some (.nd l (some v) r)) (Nat.beq n 0)) t
theorem Tr.kT {α:Type} (n:Nat):(Tr.lf:Tr α).get n=none:=rfl
theorem Tr.nS {α:Type} (l r:Tr α) (v:Option α) (n:Nat):(Tr.nd l v r).get n=if n=0 then v else if n%2=1 then l.get (n/2) else r.get (n/2-1):=by
 show Bool.rec (motive:=fun _=>Option α) (Bool.rec (motive:=fun _=>Option α) (r.get (n/2-1)) (l.get (n/2)) (Nat.beq (n%2) 1)) v (Nat.beq n 0)=_
 by_cases h0:n=0
 .subst h0;rfl
 .rw [if_neg h0]
  have e0:Nat.beq n 0=false:=by
   cases hb:Nat.beq n 0 with
   | false=>rfl
   | true=>exact absurd (cP hb) h0
  rw [e0]
  by_cases h1:n%2=1
  .rw [if_pos h1,h1];rfl
  .rw [if_neg h1]
   have e1:Nat.beq (n%2) 1=false:=by
    cases hb:Nat.beq (n%2) 1 with
    | false=>rfl
    | true=>exact absurd (cP hb) h1
   rw [e1]
theorem beq_false {a b:Nat} (h:Nat.beq a b=false):a≠b:=fun e=>by subst e;rw [Nat.beq_refl] at h;cases h
theorem Tr.Is {α:Type} (v:α):∀ (f n m:Nat),n<2^f->(Tr.new v f n).get m=if m=n then some v else none
 | 0,n,m,h=>by
   have h0:n=0:=by simpa using h
   subst h0
   show (Tr.nd .lf (some v) .lf).get m=_
   rw [Tr.nS,Tr.kT,Tr.kT]
   split
   .rfl
   .split <;> rfl
 | f+1,n,m,h=>by
   have h2:n/2<2^f:=by rw [Nat.pow_succ] at h;omega
   show Tr.get (Bool.rec (motive:=fun _=>Tr α) (Bool.rec (motive:=fun _=>Tr α) (.nd .lf none (Tr.new v f (n/2-1))) (.nd (Tr.new v f (n/2)) none .lf) (Nat.beq (n%2) 1)) (.nd .lf (some v) .lf) (Nat.beq n 0)) m=_
   cases h0:Nat.beq n 0 with
   | true=>
     have:=cP h0
     subst this
     show (Tr.nd .lf (some v) .lf).get m=_
     rw [Tr.nS,Tr.kT,Tr.kT]
     split
     .rfl
     .split <;> rfl
   | false=>
     have Ob:=beq_false h0
     cases h1:Nat.beq (n%2) 1 with
     | true=>
       have Hb:=cP h1
       show (Tr.nd (Tr.new v f (n/2)) none .lf).get m=_
       rw [Tr.nS,Tr.kT,Tr.Is v f _ _ h2]
       by_cases e:m=n
       .subst e;rw [if_neg Ob,if_pos Hb,if_pos rfl,if_pos rfl]
       .rw [if_neg e]
        split
        .rfl
        .split
         .rw [if_neg (by omega)]
         .rfl
     | false=>
       have Hb:=beq_false h1
       show (Tr.nd .lf none (Tr.new v f (n/2-1))).get m=_
       rw [Tr.nS,Tr.kT,Tr.Is v f _ _ (by omega)]
       by_cases e:m=n
       .subst e;rw [if_neg Ob,if_neg Hb,if_pos rfl,if_pos rfl]
       .rw [if_neg e]
        split
        .rfl
        .split
         .rfl
         .rw [if_neg (by omega)]
theorem Tr.gQ {α:Type} (v:α) (f:Nat) (t:Tr α):∀ (n:Nat) (t':Tr α),Tr.put v f t n=some t'->∀ m,t'.get m=if m=n then some v else t.get m:=by
 induction t with
 | lf=>
   intro n t' h m
   have h:Bool.rec (motive:=fun _=>Option (Tr α)) none (some (Tr.new v f n)) (Nat.ble (n+1) (2^f))=some t':=h
   cases hb:Nat.ble (n+1) (2^f) with
   | false=>rw [hb] at h;cases h
   | true=>
     rw [hb] at h
     cases h
     have:=jX hb
     rw [Tr.Is v f n m (by omega),Tr.kT]
 | nd l u r ihl ihr=>
   intro n t' h m
   have h:Bool.rec (motive:=fun _=>Option (Tr α)) (Bool.rec (motive:=fun _=>Option (Tr α)) (Option.rec (motive:=fun _=>Option (Tr α)) none (fun r'=>some (.nd l u r')) (Tr.put v f r (n/2-1))) (Option.rec (motive:=fun _=>Option (Tr α)) none (fun l'=>some (.nd l' u r)) (Tr.put v f l (n/2))) (Nat.beq (n%2) 1)) (some (.nd l (some v) r)) (Nat.beq n 0)=some t':=h
   cases h0:Nat.beq n 0 with
   | true=>
     rw [h0] at h
     cases h
     have:=cP h0
     subst this
     rw [Tr.nS,Tr.nS]
     by_cases e:m=0
     .subst e;rfl
     .rw [if_neg e,if_neg e,if_neg e]
   | false=>
     have Ob:=beq_false h0
     rw [h0] at h
     cases h1:Nat.beq (n%2) 1 with
     | true=>
       have Hb:=cP h1
       rw [h1] at h
       cases hp:Tr.put v f l (n/2) with
       | none=>rw [hp] at h;cases h
       | some l'=>
         rw [hp] at h
         cases h
         have ih:=ihl (n/2) l' hp
         rw [Tr.nS,Tr.nS]
         by_cases e:m=n
         .subst e;rw [if_neg Ob,if_pos Hb,ih,if_pos rfl,if_pos rfl]
         .rw [if_neg e]
          split
          .rfl
          .split
           .rw [ih,if_neg (by omega)]
           .rfl
     | false=>
       have Hb:=beq_false h1
       rw [h1] at h
       cases hp:Tr.put v f r (n/2-1) with
       | none=>rw [hp] at h;cases h
       | some r'=>
         rw [hp] at h
         cases h
         have ih:=ihr (n/2-1) r' hp
         rw [Tr.nS,Tr.nS]
         by_cases e:m=n
         .subst e;rw [if_neg Ob,if_neg Hb,ih,if_pos rfl,if_pos rfl]
         .rw [if_neg e]
          split
          .rfl
          .split
           .rfl
           .rw [ih,if_neg (by omega)]
structure St where
 g:Tr SV
 tb:Tr SB
 nx:Nat
 ws:List Nat
 ob:List Prop
 df:List SV:=[]
 hs:List Bool:=[]
noncomputable def St.T (B:aX) (s:St):aX:=fun l=>match s.tb.get l with
 | some b=>some b
 | none=>B l
noncomputable def CQ (F0:Nat):List (Nat × SB)->Tr SB->List Nat->Option (Tr SB × List Nat)
 | [],t,ws=>some (t,ws)
 | (l,b)::r,t,ws=>match CQ F0 r t ws with
   | none=>none
   | some (t,ws)=>match Tr.put b 64 t l with
     | none=>none
     | some t=>some (t,match Nat.blt l F0,ws.elem l with
       | true,false=>l::ws
       | _,_=>ws)
theorem Mj {F0:Nat}:∀ {r:List (Nat × SB)} {t t':Tr SB} {ws ws':List Nat},CQ F0 r t ws=some (t',ws') ->
 (∀ l,t'.get l=match look l r with | some b=>some b | none=>t.get l)/\(∀ l,l∈ws->l∈ws')/\(∀ l b,look l r=some b->l<F0->l∈ws')
 | [],t,t',ws,ws',h=>by
   simp only [CQ,aW,Prod.mk.injEq] at h
   obtain ⟨rfl,rfl⟩:=h
   exact ⟨fun l=>rfl,fun l hl=>hl,fun l b hl=>by cases hl⟩
 | (k,c)::r,t,t',ws,ws',h=>by
   simp only [CQ] at h
   split at h
   .cases h
   .rename_i t1 ws1 h1
    obtain ⟨i1,i2,i3⟩:=Mj h1
    split at h
    .cases h
    .rename_i t2 h2
     simp only [aW,Prod.mk.injEq] at h
     obtain ⟨rfl,hws⟩:=h
     have hg:=Tr.gQ c 64 t1 k t2 h2
     have aR:∀ l,l∈ws1->l∈ws':=by
      intro l hl
      rw [<- hws]
      split
      .exact eM _ hl
      .exact hl
     have hk:k<F0->k∈ws':=by
      intro cM
      rw [<- hws]
      split
      .exact dC
      .rename_i PZ
       have hb:Nat.blt k F0=true:=by simpa [Nat.blt_eq] using cM
       cases he:ws1.elem k with
       | true=>simpa using he
       | false=>exact (PZ hb he).elim
     refine ⟨fun l=>?_,fun l hl=>aR l (i2 l hl),fun l b hl cM=>?_⟩
     .rw [hg l]
      by_cases e:k=l
      .subst e;rw [aI,if_pos rfl]
      .rw [aE e,if_neg (fun x=>e x.symm)];exact i1 l
     .by_cases e:k=l
      .subst e;exact hk cM
      .rw [aE e] at hl
       exact aR l (i3 l b hl cM)
noncomputable def St.step (F0 N:Nat) (s:St) (dst:Option Tmp) (e:bK) (lab nx:Nat):Option St:=
 match CQ F0 (e.eW lab) s.tb s.ws,Nat.ble e.new.length 8&&e.wr.all (fun p=>Nat.blt p.1 nx) with
 | some (tb,ws),true=>match dst with
   | none=>some { g:=s.g,tb:=tb,nx:=nx,ws:=ws,ob:=e.bO++s.ob,df:=s.df,hs:=s.hs }
   | some d=>match Tr.put e.val 64 s.g d,Nat.blt d N with
     | some g,true=>some { g:=g,tb:=tb,nx:=nx,ws:=ws,ob:=e.bO++s.ob,df:=s.df,hs:=s.hs }
     | _,_=>none
 | _,_=>none
def zM (ops:Array Oper) (g:Nat->Option SV) (o:Oper):Option Bool:=
 match o.guard with
 | none=>some true
 | some (j,want)=>match (ops[j]?).bind (·.dst) with
   | none=>none
   | some d=>match g d with
     | some (.bool true b)=>some (b==want)
     | some (.raw v)=>match v with
       | .bool _=>none
       | _=>some false
     | _=>none
theorem St.Uy {F0 N:Nat} {s s':St} {dst:Option Tmp} {e:bK} {lab nx:Nat} (h:s.step F0 N dst e lab nx=some s'):s'.df=s.df:=by
 unfold St.step at h
 split at h
 .split at h
  .cases h;rfl
  .split at h
   .cases h;rfl
   .cases h
 .cases h
def toD:Value->Deferred
 | .func f xs ys=>{ target:=.fn f ys,args:=xs }
 | _=>{ target:=.nil,args := #[] }
structure Inv (P:Program) (Γ:Env) (w0:World) (M:Nat->Prop) (B:aX) (N F0:Nat) (V0:bA) (s:St) (V:bA) (a:Act) (w:World):Prop where
 tmp:cJ V s.g.get a
 keys:∀ d v,s.g.get d=some v->d<N
 size:N<=a.tmps.size
 defers:∃ xs,aJ V s.df=some xs/\a.defers=xs.map toD
 eW:aD w0 M V (s.T B) w
 aO:bR Γ V
 top:V.top s.nx
 le:V0.le V
 low:∀ l,l<F0->V.β l=V0.β l/\V.σ l=V0.σ l
 ch:∀ l,l<F0->l ∉ s.ws->s.tb.get l=none
 nx:F0<=s.nx
 hi:∀ l,s.nx<=l->s.T B l=none
theorem bA.top.fresh {V:bA} {F:Nat} (h:V.top F):V.fresh F:=fun l h1 _=>h l h1
theorem bA.top.mono {V:bA} {F F':Nat} (h:V.top F) (hl:F<=F'):V.top F':=fun l h1=>h l (Nat.le_trans hl h1)
theorem pE {ops:Array Oper} {V:bA} {g:Nat->Option SV} {a:Act} (ht:cJ V g a) (hs:∀ d v,g d=some v->d<a.tmps.size) {o:Oper} {b:Bool} (h:zM ops g o=some b):Region.wanted o (yielded ops a.tmps)=b:=by
 unfold zM at h
 unfold Region.wanted
 split at h
 .rename_i hg;simp only [aW] at h;subst h;rw [hg]
 .rename_i j want hg
  rw [hg]
  split at h
  .cases h
  .rename_i d hd
   split at h
   .rename_i c hc
    simp only [aW] at h
    subst h
    have hv:=ht d _ hc
    have cM:=hs d _ hc
    simp only [den,aW,Act.eval] at hv
    have rZ:a.tmps[d]?=some (.bool c):=by
     rw [Array.getElem?_eq_getElem cM]
     rw [Array.getD_eq_getD_getElem?,Array.getElem?_eq_getElem cM,Option.getD_some] at hv
     rw [hv]
    simp only [yielded,hd,lI,rZ]
    cases c <;> cases want <;> rfl
   .rename_i v hc
    split at h
    .cases h
    .rename_i QU
     simp only [aW] at h
     subst h
     have hv:=ht d _ hc
     have cM:=hs d _ hc
     simp only [den,aW,Act.eval] at hv
     have rZ:a.tmps[d]?=some v:=by
      rw [Array.getElem?_eq_getElem cM]
      rw [Array.getD_eq_getD_getElem?,Array.getElem?_eq_getElem cM,Option.getD_some] at hv
      rw [hv]
     have hy:yielded ops a.tmps j=none:=by
      simp only [yielded,hd,lI,rZ]
      split
      .rename_i b' hq;cases hq;exact absurd rfl (QU b')
      .rfl
     show (yielded ops a.tmps j==some want)=false
     rw [hy]
     rfl
   .cases h
theorem St.dP {F0 N:Nat} {s s':St} {dst:Option Tmp} {e:bK} {lab nx:Nat} (B:aX) (h:s.step F0 N dst e lab nx=some s') :
 s'.T B=eT (s.T B) lab e/\s'.nx=nx/\s'.ob=e.bO++s.ob/\(∀ l,l∈s.ws->l∈s'.ws)/\(∀ l,l<F0->l ∉ s'.ws->s.tb.get l=none->s'.tb.get l=none) /\
  (∀ m,s'.g.get m=if dst=some m then some e.val else s.g.get m)/\(∀ d,dst=some d->d<N)/\e.new.length<=8/\(∀ l b,look l e.wr=some b->l<nx):=by
 unfold St.step at h
 split at h
 case h_2=>cases h
 rename_i tb ws hp kE
 obtain ⟨i1,i2,i3⟩:=Mj hp
 simp only [iN] at kE
 have aNn:=jX kE.1
 have aNm:∀ l b,look l e.wr=some b->l<nx:=fun l b hl=>by
  have:=List.all_eq_true.1 kE.2 _ (gA hl)
  simpa [Nat.blt_eq] using this
 have hT:∀ g nx ob df hs,(St.mk g tb nx ws ob df hs).T B=eT (s.T B) lab e:=by
  intro g nx ob df hs
  funext l
  simp only [St.T,eT,i1 l]
  cases look l (e.eW lab) <;> rfl
 have hch:∀ l,l<F0->l ∉ ws->s.tb.get l=none->tb.get l=none:=by
  intro l hl hn h0
  rw [i1 l]
  cases hk:look l (e.eW lab) with
  | none=>exact h0
  | some b=>exact (hn (i3 l b hk hl)).elim
 split at h
 .simp only [aW] at h
  subst h
  exact ⟨hT _ _ _ _ _,rfl,rfl,i2,hch,fun m=>by simp,(fun d hd=>by cases hd),aNn,aNm⟩
 .rename_i d
  split at h
  .rename_i g hg cM
   simp only [aW] at h
   subst h
   refine ⟨hT _ _ _ _ _,rfl,rfl,i2,hch,fun m=>?_,fun d' hd'=>?_,aNn,aNm⟩
   .rw [Tr.gQ _ _ _ _ _ hg m]
    by_cases e:m=d
    .subst e;simp
    .rw [if_neg e,if_neg (by simp;exact fun x=>e x.symm)]
   .cases hd';simpa [Nat.blt_eq] using cM
  .cases h
theorem Inv.step {P:Program} {Γ:Env} {w0 w w':World} {M:Nat->Prop} {B:aX} {N F0:Nat} {V0 V V':bA} {s s':St} {a:Act} {dst:Option Tmp} {e:bK} {x:Value} {lab nx:Nat}
 (h:Inv P Γ w0 M B N F0 V0 s V a w) (hs:s.step F0 N dst e lab nx=some s') (hle:s.nx<=lab) (hn:lab+8<=nx) (hV:V.ext lab V') (hx:dst.isSome=true->den V' e.val=some x)
 (hT:aD w0 M V' (eT (s.T B) lab e) w'):Inv P Γ w0 M B N F0 V0 s' V' (a.put dst x) w':=by
 obtain ⟨h1,h2,h3,h4,h5,h6,h7,h8,h9⟩:=St.dP B hs
 refine ⟨fun t v hv=>?_,fun d v hv=>?_,?_,?_,by rw [h1];exact hT,fun n l hl=>hV.1.1 _ _ (h.aO n l hl),fun l hl=>?_,bA.le_trans h.le hV.1,fun l hl=>?_,fun l hl hw=>?_,?_,fun l hl=>?_⟩
 .rw [h6] at hv
  by_cases hd:dst=some t
  .subst hd
   simp only [if_true,aW] at hv
   subst hv
   have cM:t<a.tmps.size:=Nat.lt_of_lt_of_le (h7 t rfl) h.size
   rw [hx rfl]
   simp [Act.eval,Act.put,Array.getD_eq_getD_getElem?,cM]
  .rw [if_neg hd] at hv
   rw [oH hV.1 (h.tmp t v hv)]
   rw [Act.eval_put (fun d hd' hq=>hd (by cases hq;exact hd'))]
 .rw [h6] at hv
  by_cases hd:dst=some d
  .exact h7 d hd
  .rw [if_neg hd] at hv;exact h.keys d v hv
 .cases dst with
  | none=>exact h.size
  | some d=>simpa [Act.put] using h.size
 .obtain ⟨xs,fW,mW⟩:=h.defers
  refine ⟨xs,by rw [St.Uy hs];exact cV hV.1 fW,?_⟩
  cases dst <;> exact mW
 .rw [h2] at hl
  have:=hV.2 l (.inr (by omega))
  rw [this.1,this.2]
  exact h.top l (by omega)
 .have:=hV.2 l (.inl (by have:=h.nx;omega))
  rw [this.1,this.2]
  exact h.low l hl
 .exact h5 l hl hw (h.ch l hl (fun q=>hw (h4 l q)))
 .rw [h2];have:=h.nx;omega
 .rw [h2] at hl
  rw [h1]
  unfold eT bK.eW
  rw [cE]
  cases hk:look l e.wr with
  | some b=>have:=h9 l b hk;omega
  | none=>
    have:look l (gE lab e.new)=none:=by
     rw [fD]
     split
     .apply List.getElem?_eq_none;omega
     .rfl
    simp only [this]
    exact h.hi l (by omega)
def Rc (Γ:Env) (g:Nat->Option SV) (c:Call):Option SV:=match RK Γ g c.args.toList,c.callee with
 | some vs,.value f=>match ev Γ g f with
   | some (.fn f first Hr)=>some (.fn f (first++vs) Hr)
   | _=>none
 | _,_=>none
theorem AU {P:Program} {Γ:Env} {V:bA} {g:Nat->Option SV} {a:Act} {w:World} (ht:cJ V g a) (hg:bR Γ V) {c:Call} {o:Oper} (bZ:o.op = .defer c) {v:SV} (h:Rc Γ g c=some v) :
 ∃ x,den V v=some x/\(execOp a.eval o).run P w = .ok (.defer (toD x)) w:=by
 unfold Rc at h
 split at h
 case h_2=>cases h
 rename_i vs f hvs hc
 split at h
 case h_2=>cases h
 rename_i f' first Hr hf
 cases h
 have hd:=Mu ht hg hvs
 have ef:=bI ht hg hf
 simp only [den,gM,dH] at ef
 obtain ⟨xf,hxf,xc,hxc,ef⟩:=ef
 refine ⟨.func f' (xf++(c.args.map a.eval).toList).toArray xc.toArray,by simp only [den,cK hxf hd,hxc,lI,gL],?_⟩
 unfold execOp
 simp only [bZ,resolve,hc,<- ef,Deferred.ofValue,Sem.run_bind,Sem.run_pure,Result.andThen_ok,toD]
 have:(xf++(c.args.map a.eval).toList).toArray=xf.toArray++c.args.map a.eval:=by
  apply Array.ext';simp
 rw [this]
noncomputable def DG (ops:Array Oper) (o:Oper) (s:St):Option St:=match o.guard with
 | none=>some s
 | some (j,_)=>match (ops[j]?).bind (·.dst) with
   | none=>some s
   | some d=>match s.g.get d with
     | some (.bool false b)=>match s.hs with
       | true::r=>match Tr.put (.bool true true) 64 s.g d with
         | some g=>some { s with g:=g,ob:=(b=true)::s.ob,hs:=r }
         | none=>none
       | false::r=>match Tr.put (.bool true false) 64 s.g d with
         | some g=>some { s with g:=g,ob:=(b=false)::s.ob,hs:=r }
         | none=>none
       | []=>none
     | _=>some s
theorem aAh {ops:Array Oper} {o:Oper} {s s':St} (h:DG ops o s=some s'):∀ q∈s.ob,q∈s'.ob:=by
 intro q hq
 unfold DG at h
 split at h
 .cases h;exact hq
 split at h
 .cases h;exact hq
 split at h
 .split at h
  .split at h
   .cases h;exact eM _ hq
   .cases h
  .split at h
   .cases h;exact eM _ hq
   .cases h
  .cases h
 .cases h;exact hq
theorem Inv.known {P:Program} {Γ:Env} {w0:World} {M:Nat->Prop} {B:aX} {N F0:Nat} {V0:bA} {s:St} {V:bA} {a:Act} {w:World} (hi:Inv P Γ w0 M B N F0 V0 s V a w) {d:Nat} {b c:Bool} {g:Tr SV} {ob:List Prop} {hs:List Bool}
 (hd:s.g.get d=some (.bool false b)) (hp:Tr.put (.bool true c) 64 s.g d=some g) (hb:b=c):Inv P Γ w0 M B N F0 V0 { s with g:=g,ob:=ob,hs:=hs } V a w:=by
 refine ⟨fun m v hv=>?_,fun m v hv=>?_,hi.size,hi.defers,hi.eW,hi.aO,hi.top,hi.le,hi.low,hi.ch,hi.nx,hi.hi⟩
 .have hv:g.get m=some v:=hv
  rw [Tr.gQ _ _ _ _ _ hp m] at hv
  split at hv
  .rename_i e
   cases hv
   have:=hi.tmp d _ hd
   rw [e]
   rw [hb] at this
   exact this
  .exact hi.tmp m v hv
 .have hv:g.get m=some v:=hv
  rw [Tr.gQ _ _ _ _ _ hp m] at hv
  split at hv
  .rename_i e;rw [e];exact hi.keys d _ hd
  .exact hi.keys m v hv
theorem aAg {P:Program} {Γ:Env} {w0:World} {M:Nat->Prop} {B:aX} {N F0:Nat} {V0:bA} {s s':St} {V:bA} {a:Act} {w:World} {ops:Array Oper} {o:Oper} (hi:Inv P Γ w0 M B N F0 V0 s V a w)
 (h:DG ops o s=some s') (ho:∀ q∈s'.ob,q):Inv P Γ w0 M B N F0 V0 s' V a w:=by
 unfold DG at h
 split at h
 .cases h;exact hi
 split at h
 .cases h;exact hi
 split at h
 .rename_i hd
  split at h
  .split at h
   .rename_i g hp;cases h;exact hi.known hd hp (ho _ dC)
   .cases h
  .split at h
   .rename_i g hp;cases h;exact hi.known hd hp (ho _ dC)
   .cases h
  .cases h
 .cases h;exact hi
noncomputable def Tp (Γ:Env) (B:aX) (F0 N:Nat) (ops:Array Oper) (o:Oper) (s:St):Option St:=match zM ops s.g.get o with
 | some true=>match o.op with
   | .defer c=>match Rc Γ s.g.get c with
     | some v=>match s.step F0 N o.dst { val:=.raw undef } s.nx (s.nx+8) with
       | some s'=>some { s' with df:=v::s'.df }
       | none=>none
     | none=>none
   | _=>match Bk Γ s.g.get (s.T B) s.nx (s.nx+8) none o with
     | some e=>s.step F0 N o.dst e s.nx (s.nx+8)
     | none=>none
 | some false=>s.step F0 N o.dst { val:=.raw undef } s.nx (s.nx+8)
 | none=>none
theorem Ma {Γ:Env} {B:aX} {F0 N:Nat} {ops:Array Oper} {o:Oper} {s s':St} (h:Tp Γ B F0 N ops o s=some s'):∀ q∈s.ob,q∈s'.ob:=by
 intro q hq
 unfold Tp at h
 split at h
 .split at h
  .split at h
   .split at h
    .rename_i s1 h1
     cases h
     show q∈s1.ob
     rw [(St.dP B h1).2.2.1];exact List.mem_append_right _ hq
    .cases h
   .cases h
  .split at h
   .rw [(St.dP B h).2.2.1];exact List.mem_append_right _ hq
   .cases h
 .rw [(St.dP B h).2.2.1];exact List.mem_append_right _ hq
 .cases h
noncomputable def Hh (Γ:Env) (B:aX) (F0 N:Nat) (ops:Array Oper):List Oper->St->Option St
 | [],s=>some s
 | o::r,s=>match DG ops o s with
   | some s1=>match Tp Γ B F0 N ops o s1 with
     | some s2=>Hh Γ B F0 N ops r s2
     | none=>none
   | none=>none
theorem uM {Γ:Env} {B:aX} {F0 N:Nat} {ops:Array Oper}:∀ {l:List Oper} {s s':St},Hh Γ B F0 N ops l s=some s'->∀ q∈s.ob,q∈s'.ob
 | [],s,s',h,q,hq=>by simp only [Hh,aW] at h;subst h;exact hq
 | o::r,s,s',h,q,hq=>by
   unfold Hh at h
   split at h
   .rename_i s1 h1
    split at h
    .rename_i s2 h2
     exact uM h q (Ma h2 q (aAh h1 q hq))
    .cases h
   .cases h
theorem uL {P:Program} {Γ:Env} {w0:World} {M:Nat->Prop} {B:aX} {N F0:Nat} {V0:bA} (aU:cD P Γ) (aV:cF P Γ) {ops:Array Oper} {Q:Exit->Act->World->Prop} :
 ∀ {l:List Oper} {s s':St} {V:bA} {a:Act} {w:World},Hh Γ B F0 N ops l s=some s'->(∀ q∈s'.ob,q)->Inv P Γ w0 M B N F0 V0 s V a w ->
   (∀ V' a' w',Inv P Γ w0 M B N F0 V0 s' V' a' w'->Q .normal a' w')->wpList P ops Q l a w
 | [],s,s',V,a,w,h,ho,hi,hQ=>by
   simp only [Hh,aW] at h
   subst h
   exact wpList_nil (hQ V a w hi)
 | o::r,s0,s',V,a,w,h,ho,QY,hQ=>by
   unfold Hh at h
   split at h
   case h_2=>cases h
   rename_i s aXf
   split at h
   case h_2=>cases h
   rename_i s2 Dz
   have hi:=aAg QY aXf (fun q hq=>ho q (uM h q (Ma Dz q hq)))
   unfold Tp at Dz
   split at Dz
   .rename_i hw
    have hw:=pE hi.tmp (fun d v hd=>Nat.lt_of_lt_of_le (hi.keys d v hd) hi.size) hw
    split at Dz
    .rename_i c bZ
     split at Dz
     case h_2=>cases Dz
     rename_i v hv
     split at Dz
     case h_2=>cases Dz
     rename_i s1 h1
     cases Dz
     refine wpList_step fun K hK=>?_
     rw [if_pos hw]
     obtain ⟨x,hx,hr⟩:=AU (P:=P) (w:=w) hi.tmp hi.aO bZ hv
     unfold Oper.wp
     rw [hr,Oper.upon_defer]
     have h2:=hi.step (a:=a) (w':=w) (x:=undef) h1 (cT _) (cT _) (V.cO _) (fun _=>rfl) (by rw [jN _ _ rfl rfl];exact hi.eW)
     refine hK _ _ (uL aU aV h ho ⟨?_,h2.keys,?_,?_,h2.eW,h2.aO,h2.top,h2.le,h2.low,h2.ch,h2.nx,h2.hi⟩ hQ)
     .intro t v' PV
      have:=h2.tmp t v' PV
      rw [this]
      cases o.dst <;> rfl
     .have:=h2.size;cases ho:o.dst <;> (rw [ho] at this;exact this)
     .obtain ⟨xs,fW,mW⟩:=h2.defers
      refine ⟨x::xs,by simp only [aJ,hx,fW,lI,gL],?_⟩
      simp only [List.map_cons,<- mW]
      cases o.dst <;> rfl
    .split at Dz
     case h_2=>cases Dz
     rename_i e he
     have h1:=Dz
     have rT:∀ q∈e.bO,q:=fun q hq=>ho q (uM h q (by rw [(St.dP B h1).2.2.1];exact List.mem_append_left _ hq))
     refine wpList_step fun K hK=>?_
     rw [if_pos hw]
     refine Mk aU aV hi.tmp hi.aO (T':=s.T B) (fun _ _ h=>h) hi.eW hi.top.fresh (hi.top.mono (by omega)) he rT K Q fun V' x w' hV hx hT=>hK _ _ ?_
     exact uL aU aV h ho (hi.step h1 (cT _) (cT _) hV (fun _=>hx) hT) hQ
   .rename_i hw
    have hw:=pE hi.tmp (fun d v hd=>Nat.lt_of_lt_of_le (hi.keys d v hd) hi.size) hw
    have h1:=Dz
    refine wpList_step fun K hK=>?_
    rw [if_neg (by rw [hw];simp)]
    refine hK _ _ (uL aU aV h ho (hi.step h1 (cT _) (cT _) (V.cO _) (fun _=>rfl) ?_) hQ)
    rw [jN _ _ rfl rfl]
    exact hi.eW
   .cases Dz
def nR:Op->Bool
 | .binOp .eql t .. | .binOp .neq t .. => Nat.blt t 6||(Nat.beq t 26||Nat.beq t 100)
 | .move _ | .assign _ | .pick .. | .alloc _ | .box .. | .build .. | .buildSlice .. | .nilCheck _ | .binOp .. | .unOp .. | .sliceToArrayPointer .. | .makeInterface .. | .makeFunc .. | .makeSlice .. | .fieldAddr .. | .field .. | .indexAddr .. | .index .. | .extract .. => true
 | .convert s d _ => !Nat.beq s d
 | .call c=>match c.callee,c.args.toList with
   | .value (.func f),[]=>Nat.beq f 30
   | _,_=>false
 | _=>false
def mJ (ms:List Nat):List Edge->Option Nat
 | []=>some 0
 | e::r=>match Region.binds .any e with
   | true=>match ms[e.on]?,mJ ms r with
     | some m,some k=>some ((m ||| (1 <<< e.on)) ||| k)
     | _,_=>none
   | false=>mJ ms r
theorem wH (i k:Nat):(1 <<< i).testBit k=decide (k=i):=by
 rw [Nat.one_shiftLeft,Nat.testBit_two_pow]
 simp [eq_comm]
theorem jV {ms:List Nat}:∀ {es:List Edge} {m:Nat},mJ ms es=some m->∀ k,m.testBit k=true ->
 ∃ e∈es,Region.binds .any e=true/\(k=e.on\/∃ me,ms[e.on]?=some me/\me.testBit k=true)
 | [],m,h,k,hk=>by simp only [mJ,aW] at h;subst h;simp at hk
 | e::r,m,h,k,hk=>by
   simp only [mJ] at h
   split at h
   .rename_i hb
    split at h
    .rename_i me mr Ti hmr
     simp only [aW] at h
     subst h
     simp only [Nat.testBit_or,Bool.or_eq_true,wH,decide_eq_true_eq] at hk
     rcases hk with (hk | hk) | hk
     .exact ⟨e,by simp,hb,.inr ⟨me,Ti,hk⟩⟩
     .exact ⟨e,by simp,hb,.inl hk⟩
     .obtain ⟨e',iA,h1,h2⟩:=jV hmr k hk
      exact ⟨e',by simp [iA],h1,h2⟩
    .cases h
   .obtain ⟨e',iA,h1,h2⟩:=jV h k hk
    exact ⟨e',by simp [iA],h1,h2⟩
theorem rQ {ms:List Nat}:∀ {es:List Edge} {m:Nat},mJ ms es=some m->∀ e∈es,Region.binds .any e=true->e.on<ms.length/\m.testBit e.on=true
 | [],m,h,e,he,_=>by cases he
 | e0::r,m,h,e,he,hb=>by
   simp only [mJ] at h
   split at h
   .split at h
    .rename_i me mr Ti hmr
     simp only [aW] at h
     subst h
     rcases List.mem_cons.1 he with rfl | he
     .refine ⟨(List.getElem?_eq_some_iff.1 Ti).1,?_⟩
      simp [Nat.testBit_or]
     .obtain ⟨h1,h2⟩:=rQ hmr e he hb
      exact ⟨h1,by simp [Nat.testBit_or,h2]⟩
    .cases h
   .rename_i QU
    rcases List.mem_cons.1 he with rfl | he
    .rw [hb] at QU;cases QU
    .exact rQ h e he hb
theorem pG {ms:List Nat}:∀ {es:List Edge} {m:Nat},mJ ms es=some m->∀ e∈es,Region.binds .any e=true->∀ {me:Nat},ms[e.on]?=some me->∀ q,me.testBit q=true->m.testBit q=true
 | [],m,h,e,he,_,_,_,_,_=>by cases he
 | e0::r,m,h,e,he,hb,me,Ti,q,hq=>by
   simp only [mJ] at h
   split at h
   .split at h
    .rename_i me' mr aNh hmr
     simp only [aW] at h
     subst h
     rcases List.mem_cons.1 he with rfl | he
     .rw [Ti] at aNh;cases aNh
      simp [Nat.testBit_or,hq]
     .simp [Nat.testBit_or,pG hmr e he hb Ti q hq]
    .cases h
   .rename_i QU
    rcases List.mem_cons.1 he with rfl | he
    .rw [hb] at QU;cases QU
    .exact pG h e he hb Ti q hq
def jT (t:Nat):List Oper->Nat->Option Nat
 | [],_=>none
 | o::r,i=>match o.dst with
   | some d=>match Nat.beq d t with
     | true=>some i
     | false=>jT t r (i+1)
   | none=>jT t r (i+1)
theorem mR {t:Nat}:∀ {l:List Oper} {i j:Nat},jT t l i=some j->∃ o,i<=j/\l[j-i]?=some o/\o.dst=some t
 | [],i,j,h=>by cases h
 | o::r,i,j,h=>by
   simp only [jT] at h
   have Ke:jT t r (i+1)=some j->∃ o',i<=j/\(o::r)[j-i]?=some o'/\o'.dst=some t:=by
    intro h
    obtain ⟨o',h1,h2,h3⟩:=mR h
    refine ⟨o',by omega,?_,h3⟩
    rw [show j-i=(j-(i+1))+1 from by omega]
    simpa using h2
   split at h
   .rename_i d hd
    split at h
    .rename_i hb
     have:=cP hb
     subst this
     cases h
     exact ⟨o,cT _,by simp,hd⟩
    .exact Ke h
   .exact Ke h
def gS (ops:List Oper) (E:Nat->Option bK) (g0:Nat->Option SV) (S O:Nat->Bool) (t:Nat):Option SV:=
 match jT t ops 0 with
 | none=>g0 t
 | some j=>match S j with
   | true=>(E j).map (·.val)
   | false=>match O j with
     | true=>g0 t
     | false=>none
def vP (all:Array Oper) (i j:Nat):Bool:=match all[j]? with
 | some o=>o.after.toList.any fun e=>Nat.beq e.on i&&Region.binds .any e
 | none=>false
def Bf (T0:aX) (lab0 n:Nat) (E:Nat->Option bK) (S:Nat->Bool):aX:=fun l=>
 match Nat.ble lab0 l&&Nat.blt l (lab0+8*n) with
 | true=>match S ((l-lab0)/8) with
   | true=>(E ((l-lab0)/8)).bind fun e=>e.new[(l-lab0)%8]?
   | false=>none
 | false=>T0 l
def TS (T0:aX) (lab0 n:Nat) (E:Nat->Option bK) (wr:List (Nat × SB)) (S:Nat->Bool):aX:=fun l=>
 match look l wr with
 | some b=>some b
 | none=>Bf T0 lab0 n E S l
def sZ:Op->Bool
 | .load .. => true
 | .slice .. => true
 | .convert s d _=>Nat.beq s d
 | .call c=>match c.callee with
   | .builtin .len=>true
   | .builtin .cap=>true
   | _=>false
 | _=>false
def aEn:SV->Nat
 | .buf l=>l
 | .dJ l _ _ _=>l
 | .iH l _=>l
 | _=>1000000000
def aWg:SV->Nat
 | .iZ l _=>l
 | v=>aEn v
def Oh (Γ:Env) (g:Nat->Option SV) (o:Oper):Option Nat:=match o.op with
 | .load _ x=>match ev Γ g x with
   | some (.ptr l _ _)=>some l
   | some (.iZ l _)=>some l
   | _=>none
 | .slice _ x _ _ _=>(ev Γ g x).map aWg
 | .convert s d x=>match Nat.beq s d,ev Γ g x with
   | true,some (.aH l _ _ _ _)=>some l
   | _,_=>none
 | .call c=>match c.callee,c.args.toList with
   | .builtin .len,[x]=>(ev Γ g x).map aEn
   | .builtin .cap,[x]=>(ev Γ g x).map aEn
   | _,_=>none
 | _=>none
theorem JV {Γ:Env} {g:Nat->Option SV} {o:Oper} {l:Nat} (h:Oh Γ g o=some l):sZ o.op=true:=by
 unfold Oh at h
 split at h
 .rename_i bZ;rw [bZ];rfl
 .rename_i bZ;rw [bZ];rfl
 .rename_i bZ
  rw [bZ]
  split at h
  .rename_i hb _;exact hb
  .cases h
 .rename_i c bZ
  rw [bZ]
  split at h
  .rename_i hc _;simp only [sZ,hc]
  .rename_i hc _;simp only [sZ,hc]
  .cases h
 .cases h
def aEf (l:Nat) (T:aX):aX:=fun k=>match Nat.beq k l with
 | true=>T k
 | false=>none
theorem KC {l k:Nat} {T:aX} {B:SB} (h:aEf l T k=some B):k=l/\T l=some B:=by
 unfold aEf at h
 split at h
 .rename_i hb
  have:=cP hb
  subst this
  exact ⟨rfl,h⟩
 .cases h
def Er (l m:Nat) (es:List bK):List Nat->Bool
 | []=>true
 | s::r=>match m.testBit s with
   | true=>Er l m es r
   | false=>match es[s]? with
     | some e=>match look l e.wr with
       | none=>Er l m es r
       | some _=>false
     | none=>false
theorem It {l m:Nat} {es:List bK}:∀ {L:List Nat},Er l m es L=true->∀ s∈L,m.testBit s=true\/∃ e,es[s]?=some e/\look l e.wr=none
 | [],_,s,hs=>by cases hs
 | k::r,h,s,hs=>by
   simp only [Er] at h
   split at h
   .rename_i hk
    rcases List.mem_cons.1 hs with rfl | hs
    .exact .inl hk
    .exact It h s hs
   .split at h
    case h_2=>cases h
    rename_i e he
    split at h
    .rename_i hl
     rcases List.mem_cons.1 hs with rfl | hs
     .exact .inr ⟨e,he,hl⟩
     .exact It h s hs
    .cases h
theorem yK {l m:Nat} {es:List bK} {e:bK}:∀ {L:List Nat},(∀ s∈L,s<es.length)->Er l m (es++[e]) L=Er l m es L
 | [],_=>rfl
 | s::r,h=>by
   have ih:=yK (l:=l) (m:=m) (es:=es) (e:=e) (L:=r) (fun s hs=>h s (eM _ hs))
   simp only [Er,ih,List.getElem?_append_left (h s dC)]
def wS (g0:Nat->Option SV) (all:Array Oper) (es:List bK) (j m:Nat):Nat->Option SV:=
 gS all.toList (fun j=>es[j]?) g0 (fun k=>m.testBit k) (vP all j)
def Xp (Γ:Env) (g0:Nat->Option SV) (all:Array Oper) (es:List bK) (ms:List Nat) (wr:List (Nat × SB)) (m:Nat):List Oper->Nat->Nat->Bool
 | _,_,0=>true
 | [],_,_=>true
 | o::r,j,k+1=>match nR o.op||m.testBit j with
   | true=>Xp Γ g0 all es ms wr m r (j+1) k
   | false=>match ms[j]? with
     | some mj=>match Oh Γ (wS g0 all es j mj) o with
       | some l=>match look l wr with
         | none=>Xp Γ g0 all es ms wr m r (j+1) k
         | some _=>false
       | none=>false
     | none=>false
theorem Vq {Γ:Env} {g0:Nat->Option SV} {all:Array Oper} {es:List bK} {ms:List Nat} {wr:List (Nat × SB)} {m:Nat}:∀ {l:List Oper} {j k:Nat},Xp Γ g0 all es ms wr m l j k=true->∀ (i:Nat) (o:Oper),i<k->l[i]?=some o ->
 (nR o.op=true\/m.testBit (j+i)=true)\/∃ mj lb,ms[j+i]?=some mj/\Oh Γ (wS g0 all es (j+i) mj) o=some lb/\look lb wr=none
 | _,_,0,_,i,o,hi,_=>by omega
 | [],_,k+1,_,i,o,_,ho=>by simp at ho
 | o'::r,j,k+1,h,i,o,hi,ho=>by
   have Ke:Xp Γ g0 all es ms wr m r (j+1) k=true->∀ i',i=i'+1->(nR o.op=true\/m.testBit (j+i)=true)\/∃ mj lb,ms[j+i]?=some mj/\Oh Γ (wS g0 all es (j+i) mj) o=some lb/\look lb wr=none:=by
    rintro h i' rfl
    simp only [List.getElem?_cons_succ] at ho
    have:=Vq h i' o (by omega) ho
    rw [show j+(i'+1)=j+1+i' from by omega]
    exact this
   simp only [Xp] at h
   cases i with
   | zero=>
     simp only [List.getElem?_cons_zero,aW] at ho
     subst ho
     split at h
     .rename_i hb
      left
      simpa using hb
     .split at h
      case h_2=>cases h
      rename_i mj hmj
      split at h
      case h_2=>cases h
      rename_i lb hlb
      split at h
      .rename_i hl
       exact .inr ⟨mj,lb,hmj,hlb,hl⟩
      .cases h
   | succ i=>
     split at h
     .exact Ke h i rfl
     .split at h
      case h_2=>cases h
      split at h
      case h_2=>cases h
      split at h
      .exact Ke h i rfl
      .cases h
def iV (es:List bK):List Nat->List (Nat × SB)
 | []=>[]
 | s::r=>match es[s]? with
   | some e=>e.wr++iV es r
   | none=>iV es r
theorem Gl {es:List bK} {l:Nat} {b:SB}:∀ {L:List Nat},look l (iV es L)=some b->∃ s∈L,∃ e,es[s]?=some e/\look l e.wr=some b
 | [],h=>by simp [iV,look] at h
 | s::r,h=>by
   simp only [iV] at h
   have Ke:look l (iV es r)=some b->∃ s'∈s::r,∃ e,es[s']?=some e/\look l e.wr=some b:=fun h=>by
    obtain ⟨s',h1,h2⟩:=Gl h
    exact ⟨s',eM _ h1,h2⟩
   split at h
   .rename_i e he
    rw [cE] at h
    cases hk:look l e.wr with
    | some b'=>rw [hk] at h;cases h;exact ⟨s,dC,e,he,hk⟩
    | none=>rw [hk] at h;exact Ke h
   .exact Ke h
theorem qU {es:List bK} {e:bK}:∀ {L:List Nat},(∀ s∈L,s<es.length)->iV (es++[e]) L=iV es L
 | [],_=>rfl
 | s::r,h=>by
   have ih:=qU (es:=es) (e:=e) (L:=r) (fun s hs=>h s (eM _ hs))
   simp only [iV,ih,List.getElem?_append_left (h s dC)]
def inM (m:Nat):List Nat->Bool
 | []=>true
 | s::r=>match m.testBit s with
   | true=>inM m r
   | false=>false
theorem II {m:Nat}:∀ {L:List Nat},inM m L=true->∀ s∈L,m.testBit s=true
 | [],_,s,hs=>by cases hs
 | k::r,h,s,hs=>by
   simp only [inM] at h
   split at h
   .rename_i hk
    rcases List.mem_cons.1 hs with rfl | hs
    .exact hk
    .exact II h s hs
   .cases h
def isNil {α:Type}:List α->Bool
 | []=>true
 | _=>false
def pS (i:Nat):List Nat->List Nat
 | []=>[]
 | s::r=>match Nat.blt s i with
   | true=>s::pS i r
   | false=>pS i r
theorem mP (i:Nat):∀ L:List Nat,pS i L=L.filter fun s=>Nat.blt s i
 | []=>rfl
 | s::r=>by
   simp only [pS,List.filter_cons,mP i r]
   cases Nat.blt s i <;> rfl
def Hy:List Oper->Nat->Bool
 | [],_=>false
 | o::r,i=>match o.guard with
   | some (j,_)=>match Nat.beq j i with
     | true=>true
     | false=>Hy r i
   | none=>Hy r i
def sS (b:Bool) (all:Array Oper) (i:Nat) (e:bK):bK:=match e.val with
 | .bool false c=>match Hy all.toList i with
   | true=>{ e with val:=.bool true b,bO:=(c=b)::e.bO }
   | false=>e
 | _=>e
def nxH (all:Array Oper) (i:Nat) (e:bK) (hs:List Bool):List Bool:=match e.val with
 | .bool false _=>match Hy all.toList i with
   | true=>hs.tail
   | false=>hs
 | _=>hs
theorem Ym {b:Bool} {all:Array Oper} {i:Nat} {e:bK} (ho:∀ q∈(sS b all i e).bO,q):(∀ q∈e.bO,q)/\(sS b all i e).new=e.new/\(sS b all i e).wr=e.wr/\∀ V,den V (sS b all i e).val=den V e.val:=by
 unfold sS at ho |-
 split
 .rename_i c hc
  rw [hc] at ho
  simp only at ho
  split
  .rename_i hg
   rw [hg] at ho
   refine ⟨fun q hq=>ho q (eM _ hq),rfl,rfl,fun V=>?_⟩
   have:c=b:=ho _ dC
   subst this
   rw [hc];rfl
  .rename_i hg
   rw [hg] at ho
   exact ⟨ho,rfl,rfl,fun _=>rfl⟩
 .rename_i dI
  refine ⟨?_,rfl,rfl,fun _=>rfl⟩
  split at ho
  .rename_i c hc;exact (dI c hc).elim
  .exact ho
def aEe (Γ:Env) (g:Nat->Option SV) (o:Oper) (wr:List (Nat × SB)):Bool:=match Oh Γ g o with
 | some lb=>wr.all fun p=>Nat.beq p.1 lb
 | none=>false
theorem XV {Γ:Env} {g:Nat->Option SV} {o:Oper} {wr:List (Nat × SB)} (h:aEe Γ g o wr=true):∃ lb,Oh Γ g o=some lb/\∀ l,l≠lb->look l wr=none:=by
 unfold aEe at h
 split at h
 case h_2=>cases h
 rename_i lb hlb
 refine ⟨lb,hlb,fun l hl=>?_⟩
 cases hk:look l wr with
 | none=>rfl
 | some b=>
   have:=List.all_eq_true.1 h _ (gA hk)
   exact absurd (cP this) hl
def TR (Γ:Env) (g0:Nat->Option SV) (T0:aX) (lab0 n:Nat) (all:Array Oper) (o:Oper) (i m:Nat) (es:List bK) (wi:List Nat):Option bK:=
 match zM all (wS g0 all es i m) o with
 | some false=>some { val:=.raw undef }
 | some true=>match nR o.op with
   | true=>Bk Γ (wS g0 all es i m) (fun _=>none) (lab0+8*i) (lab0+8*n) none o
   | false=>match Oh Γ (wS g0 all es i m) o with
     | some l=>match Er l m es (pS i wi) with
       | true=>Bk Γ (wS g0 all es i m) (aEf l (TS T0 lab0 n (fun j=>es[j]?) (iV es ((pS i wi).filter fun s=>m.testBit s)) (fun j=>m.testBit j))) (lab0+8*i) (lab0+8*n) none o
       | false=>none
     | none=>match inM m (pS i wi) with
       | true=>Bk Γ (wS g0 all es i m) (TS T0 lab0 n (fun j=>es[j]?) (iV es (pS i wi)) (fun j=>m.testBit j)) (lab0+8*i) (lab0+8*n) none o
       | false=>none
 | none=>none
def Es (b:Bool) (Γ:Env) (g0:Nat->Option SV) (T0:aX) (lab0 n:Nat) (all:Array Oper) (o:Oper) (i m:Nat) (es:List bK) (wi:List Nat):Option bK:=
 match TR Γ g0 T0 lab0 n all o i m es wi with
 | some e=>some (sS b all i e)
 | none=>none
def aFe (Γ:Env) (g0:Nat->Option SV) (T0:aX) (lab0 n:Nat) (all:Array Oper) (o:Oper) (i m:Nat) (es:List bK) (wi:List Nat) (hs:List Bool):Option (bK × List Bool):=
 match TR Γ g0 T0 lab0 n all o i m es wi with
 | some e=>some (sS (hs.headD true) all i e,nxH all i e hs)
 | none=>none
theorem AA {Γ:Env} {g0:Nat->Option SV} {T0:aX} {lab0 n:Nat} {all:Array Oper} {o:Oper} {i m:Nat} {es:List bK} {wi:List Nat} {hs xX:List Bool} {e:bK} (h:aFe Γ g0 T0 lab0 n all o i m es wi hs=some (e,xX)):∃ b,Es b Γ g0 T0 lab0 n all o i m es wi=some e:=by
 unfold aFe at h
 split at h
 case h_2=>cases h
 rename_i e0 h0
 cases h
 exact ⟨hs.headD true,by unfold Es;rw [h0]⟩
def Fz (Γ:Env) (g0:Nat->Option SV) (T0:aX) (lab0 n:Nat) (all:Array Oper):List Oper->Nat->List bK->List Nat->List Nat->List Bool->Option (List bK × List Nat × List Nat × List Bool)
 | [],_,es,ms,wi,hs=>some (es,ms,wi,hs)
 | o::r,i,es,ms,wi,hs=>match mJ ms o.after.toList with
   | none=>none
   | some m=>match aFe Γ g0 T0 lab0 n all o i m es wi hs,(match o.dst with | some d=>jT d all.toList 0==some i | none=>true) with
     | some (e,xX),true=>match isNil e.wr with
       | true=>match Nat.ble e.new.length 8 with
         | true=>Fz Γ g0 T0 lab0 n all r (i+1) (es++[e]) (ms++[m]) wi xX
         | false=>none
       | false=>match Nat.ble e.new.length 8&&Xp Γ g0 all es ms e.wr m all.toList 0 i&&e.wr.all (fun p=>Nat.blt p.1 lab0||(Nat.ble lab0 p.1&&m.testBit ((p.1-lab0)/8)))&&(!nR o.op&&(!sZ o.op||aEe Γ (wS g0 all es i m) o e.wr)) with
         | true=>Fz Γ g0 T0 lab0 n all r (i+1) (es++[e]) (ms++[m]) (i::wi) xX
         | false=>none
     | _,_=>none
structure zC (Γ:Env) (g0:Nat->Option SV) (T0:aX) (lab0 n:Nat) (all:Array Oper) (i:Nat) (es:List bK) (ms:List Nat) (wi:List Nat):Prop where
 Jt:es.length=i
 zG:ms.length=i
 lt:∀ (j m:Nat),ms[j]?=some m->∀ k,m.testBit k=true->k<j
 cl:∀ (j m:Nat),ms[j]?=some m->∀ k mk,m.testBit k=true->ms[k]?=some mk->∀ q,mk.testBit q=true->m.testBit q=true
 aft:∀ (j m:Nat) (o:Oper),ms[j]?=some m->all[j]?=some o->∀ e∈o.after,Region.binds .any e=true->e.on<j/\m.testBit e.on=true
 aOh:∀ (j m:Nat) (o:Oper),ms[j]?=some m->all[j]?=some o->∀ k,m.testBit k=true->∃ e∈o.after,Region.binds .any e=true/\(k=e.on\/∃ me,ms[e.on]?=some me/\me.testBit k=true)
 dst:∀ (j:Nat) (o:Oper) (d:Tmp),j<i->all[j]?=some o->o.dst=some d->jT d all.toList 0=some j
 new:∀ (j:Nat) (e:bK),es[j]?=some e->e.new.length<=8
 wrt:∀ (j:Nat) (e:bK),es[j]?=some e->e.wr≠[]->j∈wi
 pS:∀ s∈wi,s<i
 wso:wi.Pairwise (· > ·)
 wim:∀ s∈wi,∀ (o:Oper),all[s]?=some o->nR o.op=false
 wnp:∀ s∈wi,∀ (m:Nat),ms[s]?=some m->∀ (j:Nat) (o:Oper),j<s->all[j]?=some o->(nR o.op=true\/m.testBit j=true)\/∃ mj lb e,ms[j]?=some mj/\es[s]?=some e/\Oh Γ (wS g0 all es j mj) o=some lb/\look lb e.wr=none
 wlb:∀ s∈wi,∀ (m:Nat),ms[s]?=some m->∀ (e:bK),es[s]?=some e->∀ l b,look l e.wr=some b->l<lab0\/(lab0<=l/\m.testBit ((l-lab0)/8)=true)
 eff:∀ (j m:Nat) (o:Oper) (e:bK),ms[j]?=some m->all[j]?=some o->es[j]?=some e->∃ b,Es b Γ g0 T0 lab0 n all o j m es wi=some e
 wld:∀ s∈wi,∀ (o:Oper) (m:Nat) (e:bK),all[s]?=some o->ms[s]?=some m->es[s]?=some e->sZ o.op=false\/∃ lb,Oh Γ (wS g0 all es s m) o=some lb/\∀ l,l≠lb->look l e.wr=none
theorem Db {ops:List Oper} {E E':Nat->Option bK} {g0:Nat->Option SV} {S O:Nat->Bool} (h:∀ j,S j=true->E j=E' j):gS ops E g0 S O=gS ops E' g0 S O:=by
 funext t
 unfold gS
 cases jT t ops 0 with
 | none=>rfl
 | some j=>
   cases hs:S j with
   | false=>simp [hs]
   | true=>simp [hs,h j hs]
theorem Sy {T0:aX} {lab0 n:Nat} {E E':Nat->Option bK} {S:Nat->Bool} (h:∀ j,S j=true->E j=E' j):Bf T0 lab0 n E S=Bf T0 lab0 n E' S:=by
 funext l
 unfold Bf
 split
 .cases hs:S ((l-lab0)/8) with
  | false=>rfl
  | true=>simp only [h _ hs]
 .rfl
theorem PK {T0:aX} {lab0 n:Nat} {E E':Nat->Option bK} {wr:List (Nat × SB)} {S:Nat->Bool} (h:∀ j,S j=true->E j=E' j):TS T0 lab0 n E wr S=TS T0 lab0 n E' wr S:=by
 funext l
 unfold TS
 rw [Sy h]
theorem My {b:Bool} {Γ:Env} {g0:Nat->Option SV} {T0:aX} {lab0 n:Nat} {all:Array Oper} {o:Oper} {j m:Nat} {es:List bK} {wi Ta:List Nat} (e:bK) (hm:∀ k,m.testBit k=true->k<es.length) (hj:j<=es.length)
 (hw:Ta=wi\/(∃ s,Ta=s::wi/\j<=s)):Es b Γ g0 T0 lab0 n all o j m (es++[e]) Ta=Es b Γ g0 T0 lab0 n all o j m es wi:=by
 have hE:∀ k,m.testBit k=true->(es++[e])[k]?=es[k]?:=fun k hk=>List.getElem?_append_left (hm k hk)
 have hg:wS g0 all (es++[e]) j m=wS g0 all es j m:=Db (ops:=all.toList) (E:=fun k=>(es++[e])[k]?) (E':=fun k=>es[k]?) (g0:=g0) (S:=fun k=>m.testBit k) (O:=vP all j) hE
 have hwl:pS j Ta=pS j wi:=by
  rcases hw with rfl | ⟨s,rfl,hs⟩
  .rfl
  .have:Nat.blt s j=false:=by
    cases hb:Nat.blt s j with
    | false=>rfl
    | true=>simp [Nat.blt_eq] at hb;omega
   simp [pS,this]
 have cM:∀ s∈pS j wi,s<es.length:=fun s hs=>by
  rw [mP,List.mem_filter] at hs
  have:s<j:=by simpa [Nat.blt_eq] using hs.2
  omega
 have Xb:iV (es++[e]) (pS j wi)=iV es (pS j wi):=qU cM
 have aWp:iV (es++[e]) ((pS j wi).filter fun s=>m.testBit s)=iV es ((pS j wi).filter fun s=>m.testBit s):=qU fun s hs=>cM s (List.mem_filter.1 hs).1
 have hfw:∀ l,Er l m (es++[e]) (pS j wi)=Er l m es (pS j wi):=fun l=>yK cM
 have hT:=fun wr=>PK (T0:=T0) (lab0:=lab0) (n:=n) (E:=fun k=>(es++[e])[k]?) (E':=fun k=>es[k]?) (wr:=wr) (S:=fun k=>m.testBit k) hE
 unfold Es TR
 simp only [hg,hwl,Xb,aWp,hT,hfw]
theorem dM {α:Type} {l:List α} {x y:α} {j:Nat} (h:(l++[x])[j]?=some y):l[j]?=some y\/(j=l.length/\x=y):=by
 by_cases hj:j<l.length
 .rw [List.getElem?_append_left hj] at h;exact .inl h
 .have:j=l.length:=by
   have:=(List.getElem?_eq_some_iff.1 h).1
   simp at this;omega
  subst this
  simp at h
  exact .inr ⟨rfl,h⟩
theorem zC.nil {Γ:Env} {g0:Nat->Option SV} {T0:aX} {lab0 n:Nat} {all:Array Oper}:zC Γ g0 T0 lab0 n all 0 [] [] []:=
 ⟨rfl,rfl,(fun j m h=>by simp at h),(fun j m h=>by simp at h),(fun j m o h=>by simp at h),(fun j m o h=>by simp at h),(fun j o d h=>by omega),(fun j e h=>by simp at h),(fun j e h=>by simp at h),
  (fun s h=>by cases h),List.Pairwise.nil,(fun s h=>by cases h),(fun s h=>by cases h),(fun s h=>by cases h),(fun j m o e h=>by simp at h),(fun s h=>by cases h)⟩
theorem zC.snoc {Γ:Env} {g0:Nat->Option SV} {T0:aX} {lab0 n:Nat} {all:Array Oper} {i:Nat} {es:List bK} {ms:List Nat} {wi Ta:List Nat} (h:zC Γ g0 T0 lab0 n all i es ms wi) {o:Oper} {m:Nat} {e:bK}
 (ho:all[i]?=some o) (hm:mJ ms o.after.toList=some m) (he:∃ b,Es b Γ g0 T0 lab0 n all o i m es wi=some e) (hd:∀ d,o.dst=some d->jT d all.toList 0=some i) (hn:e.new.length<=8)
 (hw:(e.wr=[]/\Ta=wi)\/(Ta=i::wi/\(nR o.op=false/\(sZ o.op=false\/∃ lb,Oh Γ (wS g0 all es i m) o=some lb/\∀ l,l≠lb->look l e.wr=none))/\(∀ (j:Nat) (o:Oper),j<i->all[j]?=some o->(nR o.op=true\/m.testBit j=true)\/∃ mj lb,ms[j]?=some mj/\Oh Γ (wS g0 all es j mj) o=some lb/\look lb e.wr=none)/\∀ l b,look l e.wr=some b->l<lab0\/(lab0<=l/\m.testBit ((l-lab0)/8)=true))) :
 zC Γ g0 T0 lab0 n all (i+1) (es++[e]) (ms++[m]) Ta:=by
 have SU:∀ k,m.testBit k=true->k<i:=by
  intro k hk
  obtain ⟨ed,BI,hb,hk⟩:=jV hm k hk
  have h1:=(rQ hm ed BI hb).1
  rw [h.zG] at h1
  rcases hk with rfl | ⟨me,Ti,hk⟩
  .exact h1
  .have:=h.lt _ _ Ti k hk;omega
 have bU:∀ (b:Bool) (j m':Nat) (o':Oper),ms[j]?=some m'->Es b Γ g0 T0 lab0 n all o' j m' (es++[e]) Ta=Es b Γ g0 T0 lab0 n all o' j m' es wi:=by
  intro b j m' o' hj
  have hjl:=(List.getElem?_eq_some_iff.1 hj).1
  rw [h.zG] at hjl
  refine My e (fun k hk=>?_) (by rw [h.Jt];omega) ?_
  .have:=h.lt j m' hj k hk;rw [h.Jt];omega
  .rcases hw with ⟨_,rfl⟩ | ⟨rfl,_⟩
   .exact .inl rfl
   .exact .inr ⟨i,rfl,by omega⟩
 have Ot:∀ {j m':Nat},ms[j]?=some m'->(ms++[m])[j]?=some m':=fun {j m'} hj=>by
  rw [List.getElem?_append_left (List.getElem?_eq_some_iff.1 hj).1];exact hj
 refine ⟨by simp [h.Jt],by simp [h.zG],fun j m' hj k hk=>?_,fun j m' hj k mk hk Hc q hq=>?_,fun j m' o' hj kC ed BI hb=>?_,fun j m' o' hj kC k hk=>?_,fun j o' d hj kC hd'=>?_,fun j e' iA=>?_,fun j e' iA dI=>?_,fun s hs=>?_,?_,fun s hs o' kC=>?_,fun s hs m' kM j o' hj kC=>?_,fun s hs m' kM e' iA l b hl=>?_,fun j m' o' e' hj kC iA=>?_,fun s hs o' m' e' kC kM iA=>?_⟩
 .rcases dM hj with hj | ⟨rfl,rfl⟩
  .exact h.lt j m' hj k hk
  .rw [h.zG];exact SU k hk
 .have Xw:ms[k]?=some mk\/k=i:=by
   rcases dM Hc with h1 | ⟨h1,_⟩
   .exact .inl h1
   .right;rw [h1,h.zG]
  rcases dM hj with hj | ⟨rfl,rfl⟩
  .have hki:=h.lt j m' hj k hk
   have Ka:=(List.getElem?_eq_some_iff.1 hj).1
   rw [h.zG] at Ka
   rcases Xw with Xw | rfl
   .exact h.cl j m' hj k mk hk Xw q hq
   .omega
  .have hki:=SU k hk
   rcases Xw with Xw | rfl
   .obtain ⟨ed,BI,hb,fJ⟩:=jV hm k hk
    have key:∀ k mk,m.testBit k=true->ms[k]?=some mk->mk.testBit q=true->m.testBit q=true:=by
     intro k mk hk Hc hq
     obtain ⟨ed,BI,hb,fJ⟩:=jV hm k hk
     rcases fJ with rfl | ⟨me,Ti,fJ⟩
     .exact pG hm ed BI hb Hc q hq
     .exact pG hm ed BI hb Ti q (h.cl _ me Ti k mk fJ Hc q hq)
    exact key k mk hk Xw hq
   .omega
 .rcases dM hj with hj | ⟨rfl,rfl⟩
  .exact h.aft j m' o' hj kC ed BI hb
  .rw [h.zG] at kC
   rw [ho] at kC;cases kC
   obtain ⟨h1,h2⟩:=rQ hm ed (by simpa using BI) hb
   exact ⟨h1,h2⟩
 .rcases dM hj with hj | ⟨rfl,rfl⟩
  .obtain ⟨ed,h1,h2,h3⟩:=h.aOh j m' o' hj kC k hk
   refine ⟨ed,h1,h2,?_⟩
   rcases h3 with h3 | ⟨me,h3,h4⟩
   .exact .inl h3
   .exact .inr ⟨me,Ot h3,h4⟩
  .rw [h.zG] at kC
   rw [ho] at kC;cases kC
   obtain ⟨ed,h1,h2,h3⟩:=jV hm k hk
   refine ⟨ed,by simpa using h1,h2,?_⟩
   rcases h3 with h3 | ⟨me,h3,h4⟩
   .exact .inl h3
   .exact .inr ⟨me,Ot h3,h4⟩
 .by_cases Ka:j=i
  .subst Ka;rw [ho] at kC;cases kC;exact hd d hd'
  .exact h.dst j o' d (by omega) kC hd'
 .rcases dM iA with iA | ⟨_,rfl⟩
  .exact h.new j e' iA
  .exact hn
 .rcases dM iA with iA | ⟨rfl,rfl⟩
  .have:=h.wrt j e' iA dI
   rcases hw with ⟨_,rfl⟩ | ⟨rfl,_⟩
   .exact this
   .exact eM _ this
  .rcases hw with ⟨hw,_⟩ | ⟨rfl,_⟩
   .exact absurd hw dI
   .rw [h.Jt];exact dC
 .rcases hw with ⟨_,rfl⟩ | ⟨rfl,_⟩
  .have:=h.pS s hs;omega
  .rcases List.mem_cons.1 hs with rfl | hs
   .omega
   .have:=h.pS s hs;omega
 .rcases hw with ⟨_,rfl⟩ | ⟨rfl,_⟩
  .exact h.wso
  .exact List.pairwise_cons.2 ⟨fun s hs=>h.pS s hs,h.wso⟩
 .rcases hw with ⟨_,rfl⟩ | ⟨rfl,hpo,_⟩
  .exact h.wim s hs o' kC
  .rcases List.mem_cons.1 hs with rfl | hs
   .rw [ho] at kC;cases kC;exact hpo.1
   .exact h.wim s hs o' kC
 .have hes:∀ {k e'},es[k]?=some e'->(es++[e])[k]?=some e':=fun {k e'} hk=>by
   rw [List.getElem?_append_left (List.getElem?_eq_some_iff.1 hk).1];exact hk
  have hgo:∀ {k mk},ms[k]?=some mk->wS g0 all (es++[e]) k mk=wS g0 all es k mk:=fun {k mk} hk=>by
   refine Db fun q hq=>List.getElem?_append_left ?_
   have h1:=h.lt k mk hk q hq
   have h2:=(List.getElem?_eq_some_iff.1 hk).1
   rw [h.zG] at h2
   rw [h.Jt]
   omega
  have Fg:s∈wi->(nR o'.op=true\/m'.testBit j=true)\/∃ mj lb e',(ms++[m])[j]?=some mj/\(es++[e])[s]?=some e'/\Oh Γ (wS g0 all (es++[e]) j mj) o'=some lb/\look lb e'.wr=none:=fun hs=>by
   have Xc:=h.pS s hs
   rcases dM kM with kM | ⟨h1,_⟩
   .rcases h.wnp s hs m' kM j o' hj kC with h3 | ⟨mj,lb,e',k1,k2,k3,k4⟩
    .exact .inl h3
    .exact .inr ⟨mj,lb,e',Ot k1,hes k2,by rw [hgo k1];exact k3,k4⟩
   .rw [h.zG] at h1;omega
  rcases hw with ⟨_,rfl⟩ | ⟨rfl,_,hnp,_⟩
  .exact Fg hs
  .rcases List.mem_cons.1 hs with rfl | hs
   .rcases dM kM with kM | ⟨_,rfl⟩
    .have:=(List.getElem?_eq_some_iff.1 kM).1;rw [h.zG] at this;omega
    .rcases hnp j o' hj kC with h3 | ⟨mj,lb,k1,k3,k4⟩
     .exact .inl h3
     .exact .inr ⟨mj,lb,e,Ot k1,by rw [<- h.Jt];simp,by rw [hgo k1];exact k3,k4⟩
   .exact Fg hs
 .have Fg:s∈wi->l<lab0\/(lab0<=l/\m'.testBit ((l-lab0)/8)=true):=fun hs=>by
   have Xc:=h.pS s hs
   rcases dM kM with kM | ⟨h1,_⟩
   .rcases dM iA with iA | ⟨h1,_⟩
    .exact h.wlb s hs m' kM e' iA l b hl
    .rw [h.Jt] at h1;omega
   .rw [h.zG] at h1;omega
  rcases hw with ⟨_,rfl⟩ | ⟨rfl,_,_,hlb⟩
  .exact Fg hs
  .rcases List.mem_cons.1 hs with rfl | hs
   .rcases dM kM with kM | ⟨_,rfl⟩
    .have:=(List.getElem?_eq_some_iff.1 kM).1;rw [h.zG] at this;omega
    .rcases dM iA with iA | ⟨_,rfl⟩
     .have:=(List.getElem?_eq_some_iff.1 iA).1;rw [h.Jt] at this;omega
     .exact hlb l b hl
   .exact Fg hs
 .rcases dM hj with hj | ⟨rfl,rfl⟩
  .have Ka:=(List.getElem?_eq_some_iff.1 hj).1
   rw [h.zG] at Ka
   rcases dM iA with iA | ⟨h1,_⟩
   .obtain ⟨b,hb⟩:=h.eff j m' o' e' hj kC iA
    exact ⟨b,by rw [bU b j m' o' hj];exact hb⟩
   .rw [h.Jt] at h1;omega
  .rw [h.zG] at kC iA |-
   rw [ho] at kC;cases kC
   rcases dM iA with iA | ⟨_,rfl⟩
   .have:=(List.getElem?_eq_some_iff.1 iA).1;rw [h.Jt] at this;omega
   .obtain ⟨b,he⟩:=he
    refine ⟨b,?_⟩
    rw [My e (fun k hk=>by rw [h.Jt];exact SU k hk) (by rw [h.Jt];exact cT _) ?_]
    .exact he
    .rcases hw with ⟨_,rfl⟩ | ⟨rfl,_⟩
     .exact .inl rfl
     .exact .inr ⟨i,rfl,cT _⟩
 .have hgo:∀ {k mk},k<=i->(∀ q,mk.testBit q=true->q<k)->wS g0 all (es++[e]) k mk=wS g0 all es k mk:=fun {k mk} hk cM=>by
   refine Db fun q hq=>List.getElem?_append_left ?_
   have h1:=cM q hq
   rw [h.Jt]
   omega
  have Fg:s∈wi->sZ o'.op=false\/∃ lb,Oh Γ (wS g0 all (es++[e]) s m') o'=some lb/\∀ l,l≠lb->look l e'.wr=none:=fun hs=>by
   have Xc:=h.pS s hs
   rcases dM kM with kM | ⟨h1,_⟩
   .rcases dM iA with iA | ⟨h1,_⟩
    .rcases h.wld s hs o' m' e' kC kM iA with h3 | ⟨lb,h3,h4⟩
     .exact .inl h3
     .exact .inr ⟨lb,by rw [hgo (by omega) (h.lt s m' kM)];exact h3,h4⟩
    .rw [h.Jt] at h1;omega
   .rw [h.zG] at h1;omega
  rcases hw with ⟨_,rfl⟩ | ⟨rfl,hpo,_⟩
  .exact Fg hs
  .rcases List.mem_cons.1 hs with rfl | hs
   .rw [ho] at kC;cases kC
    rcases dM kM with kM | ⟨_,rfl⟩
    .have:=(List.getElem?_eq_some_iff.1 kM).1;rw [h.zG] at this;omega
    .rcases dM iA with iA | ⟨_,rfl⟩
     .have:=(List.getElem?_eq_some_iff.1 iA).1;rw [h.Jt] at this;omega
     .rcases hpo.2 with h3 | ⟨lb,h3,h4⟩
      .exact .inl h3
      .exact .inr ⟨lb,by rw [hgo (cT _) SU];exact h3,h4⟩
   .exact Fg hs
theorem filter_le {f f':Nat->Bool}:∀ (l:List Nat),(∀ j,f' j=true->f j=true)->(l.filter f').length<=(l.filter f).length
 | [],_=>by simp
 | x::r,h=>by
   have ih:=filter_le r h
   cases hx:f' x with
   | true=>simp [hx,h x hx,ih]
   | false=>
     cases hy:f x with
     | true=>simp [hx,hy];omega
     | false=>simp [hx,hy,ih]
theorem filter_lt {f f':Nat->Bool} {i:Nat}:∀ (l:List Nat),i∈l->(∀ j,f' j=true->f j=true)->f i=true->f' i=false->(l.filter f').length+1<=(l.filter f).length
 | [],h,_,_,_=>by simp at h
 | x::r,h,hm,h1,h2=>by
   by_cases e:x=i
   .subst e
    have:=filter_le r hm
    simp [h1,h2,this]
   .have hr:i∈r:=by
     rcases List.mem_cons.1 h with h | h
     .exact absurd h.symm e
     .exact h
    have ih:=filter_lt r hr hm h1 h2
    cases hx:f' x with
    | true=>simp [hx,hm x hx];omega
    | false=>
      cases hy:f x with
      | true=>simp [hx,hy];omega
      | false=>simp [hx,hy];omega
theorem tJ {Γ:Env} {g0:Nat->Option SV} {T0:aX} {lab0 n:Nat} {all:Array Oper}:∀ {r:List Oper} {i:Nat} {es es':List bK} {ms Wy:List Nat} {wi Ta:List Nat} {hs xX:List Bool},
 Fz Γ g0 T0 lab0 n all r i es ms wi hs=some (es',Wy,Ta,xX)->(∀ k,r[k]?=all[i+k]?)->zC Γ g0 T0 lab0 n all i es ms wi->zC Γ g0 T0 lab0 n all (i+r.length) es' Wy Ta
 | [],i,es,es',ms,Wy,wi,Ta,hs,xX,h,_,hd=>by
   simp only [Fz,aW,Prod.mk.injEq] at h
   obtain ⟨rfl,rfl,rfl,rfl⟩:=h
   exact hd
 | o::r,i,es,es',ms,Wy,wi,Ta,hs,xX,h,hr,hd=>by
   have ho:all[i]?=some o:=by have:=hr 0;simpa using this.symm
   have PW:∀ k,r[k]?=all[i+1+k]?:=fun k=>by
    have:=hr (k+1)
    rw [show i+1+k=i+(k+1) from by omega]
    simpa using this
   simp only [Fz] at h
   split at h
   .cases h
   .rename_i m hm
    split at h
    case h_2=>cases h
    rename_i e iK he TD
    have he:=AA he
    have aDk:∀ d,o.dst=some d->jT d all.toList 0=some i:=by
     intro d hd'
     rw [hd'] at TD
     simpa using TD
    split at h
    .rename_i Kh
     split at h
     case h_2=>cases h
     rename_i hn
     have hw:e.wr=[]:=by
      cases Xb:e.wr with
      | nil=>rfl
      | cons a b=>rw [Xb] at Kh;cases Kh
     have:=tJ h PW (hd.snoc ho hm he aDk (jX hn) (.inl ⟨hw,rfl⟩))
     rw [show i+(o::r).length=i+1+r.length from by simp;omega]
     exact this
    .split at h
     .rename_i kE
      simp only [iN,Bool.or_eq_true] at kE
      obtain ⟨⟨⟨c1,c2⟩,c3⟩,c4⟩:=kE
      have:=tJ h PW (hd.snoc ho hm he aDk (jX c1) (.inr ⟨rfl,⟨by simpa using c4.1,by
       rcases c4.2 with h1 | h1
       .exact .inl (by simpa using h1)
       .exact .inr (XV h1)⟩,fun j o' hj kC=>?_,fun l b hl=>?_⟩))
      .rw [show i+(o::r).length=i+1+r.length from by simp;omega]
       exact this
      .have:=Vq c2 j o' hj (by simpa using kC)
       simpa using this
      .have:=List.all_eq_true.1 c3 _ (gA hl)
       simp only [Bool.or_eq_true,iN] at this
       rcases this with h1 | ⟨h1,h2⟩
       .left;simpa [Nat.blt_eq] using h1
       .right;exact ⟨jX h1,h2⟩
     .cases h
def zY (es:List bK) (wi:List Nat) (S:Nat->Bool):List (Nat × SB):=iV es (wi.filter S)
structure Yg (P:Program) (Γ:Env) (w0:World) (M:Nat->Prop) (N:Nat) (df:List Deferred) (g0:Nat->Option SV) (T0:aX) (lab0:Nat) (all:Array Oper) (es:List bK) (wi:List Nat) (Vs:bA) (S:Nat->Bool) (V:bA) (a:Act) (w:World):Prop where
 tmp:cJ V (gS all.toList (fun j=>es[j]?) g0 S (fun j => !S j)) a
 size:N<=a.tmps.size
 defers:a.defers=df
 eW:aD w0 M V (TS T0 lab0 all.size (fun j=>es[j]?) (zY es wi S) S) w
 aO:bR Γ V
 top:V.top (lab0+8*all.size)
 fresh:∀ j,j<all.size->S j=false->V.fresh (lab0+8*j)
 le:Vs.le V
 low:∀ l,l<lab0->V.β l=Vs.β l/\V.σ l=Vs.σ l
theorem aJr {ops:List Oper} {E:Nat->Option bK} {g0:Nat->Option SV} {S S' O:Nat->Bool} (h:∀ j,S j=true->S' j=true) (hO:∀ j,O j=true->S' j=false) {t:Nat} {v:SV} (hv:gS ops E g0 S O t=some v):gS ops E g0 S' (fun j => !S' j) t=some v:=by
 unfold gS at *
 cases hd:jT t ops 0 with
 | none=>rw [hd] at hv;exact hv
 | some j=>
   rw [hd] at hv
   simp only at hv |-
   cases hs:S j with
   | false=>
     rw [hs] at hv
     simp only at hv
     cases ho:O j with
     | false=>rw [ho] at hv;cases hv
     | true=>rw [ho] at hv;rw [hO j ho];exact hv
   | true=>rw [hs] at hv;rw [h j hs];exact hv
theorem Rk {T0:aX} {lab0 n:Nat} {E:Nat->Option bK} {wr:List (Nat × SB)} {S S':Nat->Bool} (h:∀ j,S j=true->S' j=true) {l:Nat} {B:SB} (hv:TS T0 lab0 n E wr S l=some B):TS T0 lab0 n E wr S' l=some B:=by
 unfold TS at *
 cases hl:look l wr with
 | some b=>rw [hl] at hv;exact hv
 | none=>
   rw [hl] at hv
   simp only at hv |-
   unfold Bf at *
   split at hv
   .cases hs:S ((l-lab0)/8) with
    | false=>rw [hs] at hv;cases hv
    | true=>rw [hs] at hv;rw [h _ hs];exact hv
   .exact hv
theorem Mh {lab0 l n:Nat} (h1:lab0<=l) (h2:l<lab0+8*n):(Nat.ble lab0 l&&Nat.blt l (lab0+8*n))=true:=by
 rw [Nat.ble_eq_true_of_le h1];simpa [Nat.blt_eq] using h2
theorem Ge {lab0 l n:Nat} (h:¬ (lab0<=l/\l<lab0+8*n)):(Nat.ble lab0 l&&Nat.blt l (lab0+8*n))=false:=by
 cases hb:(Nat.ble lab0 l&&Nat.blt l (lab0+8*n)) with
 | false=>rfl
 | true=>
   simp only [iN] at hb
   exact absurd ⟨jX hb.1,by simpa [Nat.blt_eq] using hb.2⟩ h
theorem AZ {T0:aX} {lab0 n:Nat} {es:List bK} {S S':Nat->Bool} {i:Nat} {e:bK} (hi:i<n) (he:es[i]?=some e) (hS:S i=false) (Ou:∀ j,S' j=(S j||decide (j=i))) (hn:e.new.length<=8) (l:Nat) :
 Bf T0 lab0 n (fun j=>es[j]?) S' l=match look l (gE (lab0+8*i) e.new) with
  | some b=>some b
  | none=>Bf T0 lab0 n (fun j=>es[j]?) S l:=by
 rw [fD]
 unfold Bf
 by_cases h1:lab0<=l/\l<lab0+8*n
 .rw [Mh h1.1 h1.2]
  simp only
  by_cases h3:(l-lab0)/8=i
  .rw [h3,Ou i,hS]
   simp only [Bool.false_or,decide_true,he,lI]
   have h4:lab0+8*i<=l:=by omega
   rw [if_pos h4,show (l-lab0)%8=l-(lab0+8*i) from by omega]
   cases e.new[l-(lab0+8*i)]? <;> rfl
  .rw [Ou _,show decide ((l-lab0)/8=i)=false from by simpa using h3,Bool.or_false]
   have h5:(if lab0+8*i<=l then e.new[l-(lab0+8*i)]? else none)=none:=by
    split
    .apply List.getElem?_eq_none;omega
    .rfl
   rw [h5]
 .rw [Ge h1]
  have h5:(if lab0+8*i<=l then e.new[l-(lab0+8*i)]? else none)=none:=by
   split
   .apply List.getElem?_eq_none;omega
   .rfl
  rw [h5]
theorem Gm {es:List bK} {e:bK} {S S':Nat->Bool} {i:Nat} (he:es[i]?=some e) (hS:S i=false) (Ou:∀ j,S' j=(S j||decide (j=i))) {l:Nat}:∀ {L:List Nat},L.Pairwise (· > ·) ->
 (i∈L->∀ s∈L,S s=true->s<i\/∀ e',es[s]?=some e'->look l e.wr≠none->look l e'.wr=none) ->
 look l (iV es (L.filter S'))=if i∈L then (match look l e.wr with | some b=>some b | none=>look l (iV es (L.filter S))) else look l (iV es (L.filter S))
 | [],_,_=>by simp
 | x::r,hp,h=>by
   obtain ⟨BZ,PY⟩:=List.pairwise_cons.1 hp
   by_cases q:x=i
   .subst q
    have hr:r.filter S'=r.filter S:=by
     refine List.filter_congr fun s hs=>?_
     have:=BZ s hs
     rw [Ou,show decide (s=x)=false from by simp;omega,Bool.or_false]
    have h1:S' x=true:=by rw [Ou];simp
    rw [if_pos dC,List.filter_cons,if_pos h1,hr,List.filter_cons,if_neg (by rw [hS];simp)]
    simp only [iV,he,cE]
    cases look l e.wr <;> rfl
   .have hx:S' x=S x:=by rw [Ou,show decide (x=i)=false from by simpa using q,Bool.or_false]
    have ih:=Gm he hS Ou (l:=l) PY (fun hi s hs=>h (eM _ hi) s (eM _ hs))
    have aEs:i∈x::r<->i∈r:=by
     rw [List.mem_cons]
     exact ⟨fun h=>h.resolve_left fun w=>q w.symm,.inr⟩
    simp only [aEs]
    cases hb:S x with
    | false=>
      have f1:(x::r).filter S'=r.filter S':=by rw [List.filter_cons,hx,hb];rfl
      have f2:(x::r).filter S=r.filter S:=by rw [List.filter_cons,hb];rfl
      rw [f1,f2]
      exact ih
    | true=>
      have f1:(x::r).filter S'=x::r.filter S':=by rw [List.filter_cons,hx,hb];rfl
      have f2:(x::r).filter S=x::r.filter S:=by rw [List.filter_cons,hb];rfl
      rw [f1,f2]
      cases hes:es[x]? with
      | none=>simp only [iV,hes];exact ih
      | some ex=>
        simp only [iV,hes,cE]
        cases hk:look l ex.wr with
        | none=>simp only;exact ih
        | some b=>
          simp only
          by_cases hi:i∈r
          .rw [if_pos hi]
           have h2:=BZ i hi
           rcases h (eM _ hi) x dC hb with h3 | h3
           .omega
           .cases hw:look l e.wr with
            | none=>rfl
            | some b'=>
              have:=h3 ex hes (by rw [hw];simp)
              rw [hk] at this;cases this
          .rw [if_neg hi]
theorem Wv {T0:aX} {lab0 n:Nat} {es:List bK} {wi:List Nat} {S S':Nat->Bool} {i:Nat} {e:bK} (hi:i<n) (he:es[i]?=some e) (hS:S i=false) (Ou:∀ j,S' j=(S j||decide (j=i)))
 (hn:e.new.length<=8) (hw:e.wr≠[]->i∈wi) (hso:wi.Pairwise (· > ·)) (hnw:i∈wi->∀ s∈wi,S s=true->s<i\/∀ e',es[s]?=some e'->∀ l,look l e.wr≠none->look l e'.wr=none)
 (hwl:∀ s∈wi,S s=true->∀ e',es[s]?=some e'->∀ l b,look l e'.wr=some b->l<lab0\/(lab0<=l/\S ((l-lab0)/8)=true)) :
 TS T0 lab0 n (fun j=>es[j]?) (zY es wi S') S'=eT (TS T0 lab0 n (fun j=>es[j]?) (zY es wi S) S) (lab0+8*i) e:=by
 funext l
 have fF:=AZ (T0:=T0) (lab0:=lab0) hi he hS Ou hn
 have e0:look l (zY es wi S')=match look l e.wr with
   | some b=>some b
   | none=>look l (zY es wi S):=by
  unfold zY
  rw [Gm he hS Ou hso (fun hi s hs xY=>(hnw hi s hs xY).imp id fun h e' iA hl=>h e' iA l hl)]
  by_cases hm:i∈wi
  .rw [if_pos hm]
  .rw [if_neg hm]
   have:e.wr=[]:=by
    cases hk:e.wr with
    | nil=>rfl
    | cons x y=>exact absurd (hw (by rw [hk];simp)) hm
   rw [this]
   rfl
 unfold eT bK.eW
 rw [cE]
 show (match look l (zY es wi S') with
  | some b=>some b
  | none=>Bf T0 lab0 n (fun j=>es[j]?) S' l)=_
 rw [e0]
 cases hk:look l e.wr with
 | some b=>rfl
 | none=>
   simp only
   cases fJ:look l (zY es wi S) with
   | none=>
     simp only
     rw [fF l]
     cases look l (gE (lab0+8*i) e.new) with
     | some b=>rfl
     | none=>simp only [TS,fJ]
   | some b=>
     simp only
     have PZ:look l (gE (lab0+8*i) e.new)=none:=by
      rw [fD]
      split
      .rename_i QB
       obtain ⟨s,hs,e',iA,hl⟩:=Gl fJ
       rw [List.mem_filter] at hs
       rcases hwl s hs.1 hs.2 e' iA l b hl with h1 | ⟨h1,h2⟩
       .omega
       .apply List.getElem?_eq_none
        have:(l-lab0)/8≠i:=fun q=>by rw [q,hS] at h2;cases h2
        omega
      .rfl
     rw [PZ]
     simp only [TS,fJ]
section
variable {P:Program} {Γ:Env} {w0:World} {M:Nat->Prop} {N:Nat} {df:List Deferred} {g0:Nat->Option SV} {T0:aX} {lab0:Nat} {all:Array Oper} {es:List bK} {ms:List Nat} {wi:List Nat} {Vs:bA} {Q:Exit->Act->World->Prop}
theorem Yg.put {S S':Nat->Bool} {V V':bA} {a:Act} {w w':World} {i:Nat} {o:Oper} {e:bK} {x:Value} {m:Nat} (hd:zC Γ g0 T0 lab0 all.size all all.size es ms wi)
 (h:Yg P Γ w0 M N df g0 T0 lab0 all es wi Vs S V a w) (ho:all[i]?=some o) (he:es[i]?=some e) (hm:ms[i]?=some m) (hS:S i=false) (Ou:∀ j,S' j=(S j||decide (j=i)))
 (hN:∀ d,o.dst=some d->d<N) (rV:∀ s,S s=true->∀ m,ms[s]?=some m->∀ k,m.testBit k=true->S k=true)
 (hV:V.ext (lab0+8*i) V') (hx:o.dst.isSome=true->den V' e.val=some x) (hT:aD w0 M V' (eT (TS T0 lab0 all.size (fun j=>es[j]?) (zY es wi S) S) (lab0+8*i) e) w') :
 Yg P Γ w0 M N df g0 T0 lab0 all es wi Vs S' V' (a.put o.dst x) w':=by
 have hi:i<all.size:=(Array.getElem?_eq_some_iff.1 ho).1
 have FQ:=Wv (T0:=T0) (lab0:=lab0) (n:=all.size) (wi:=wi) hi he hS Ou (hd.new i e he) (hd.wrt i e he) hd.wso (fun hiw s hs xY=>by
  by_cases cM:s<i
  .exact .inl cM
  .right
   have Jy:=hd.pS s hs
   obtain ⟨Wy,Ki⟩:∃ q,ms[s]?=some q:=⟨_,List.getElem?_eq_getElem (by rw [hd.zG];exact Jy)⟩
   by_cases Xc:s=i
   .subst Xc;rw [hS] at xY;cases xY
   .rcases hd.wnp s hs Wy Ki i o (by omega) ho with (h3 | h3) | ⟨mj,lb,e',k1,k2,h3,h4⟩
    .rw [hd.wim i hiw o ho] at h3;cases h3
    .have:=rV s xY Wy Ki i h3
     rw [hS] at this;cases this
    .intro e2 mX l hl
     rw [k2] at mX;cases mX
     rcases hd.wld i hiw o mj e ho k1 he with h5 | ⟨lb',h5,h6⟩
     .rw [JV h3] at h5;cases h5
     .rw [h3] at h5;cases h5
      by_cases QV:l=lb
      .subst QV;exact h4
      .exact absurd (h6 l QV) hl) (fun s hs xY e' iA l b hl=>by
  have Jy:=hd.pS s hs
  obtain ⟨Wy,Ki⟩:∃ q,ms[s]?=some q:=⟨_,List.getElem?_eq_getElem (by rw [hd.zG];exact Jy)⟩
  rcases hd.wlb s hs Wy Ki e' iA l b hl with h1 | ⟨h1,h2⟩
  .exact .inl h1
  .exact .inr ⟨h1,rV s xY Wy Ki _ h2⟩)
 refine ⟨fun t v hv=>?_,?_,?_,by rw [FQ];exact hT,fun n l hl=>hV.1.1 _ _ (h.aO n l hl),fun l hl=>?_,fun j hj hSj=>?_,bA.le_trans h.le hV.1,fun l hl=>?_⟩
 .unfold gS at hv
  cases Jv:jT t all.toList 0 with
  | none=>
    rw [Jv] at hv
    have dI:∀ d,o.dst=some d->(Operand.tmp t) ≠ .tmp d:=by
     intro d zJ hq
     cases hq
     have:=hd.dst i o t hi ho zJ
     rw [this] at Jv;cases Jv
    rw [Act.eval_put dI]
    exact oH hV.1 (h.tmp t v (by unfold gS;rw [Jv];exact hv))
  | some j=>
    rw [Jv] at hv
    simp only at hv
    by_cases Ka:j=i
    .subst Ka
     have hSt:S' j=true:=by rw [Ou];simp
     rw [hSt] at hv
     simp only [he,gL,aW] at hv
     subst hv
     obtain ⟨o',_,kC,zJ⟩:=mR Jv
     have:o'=o:=by
      have h1:all[j]?=some o':=by simpa using kC
      rw [ho] at h1;cases h1;rfl
     subst this
     have cM:t<a.tmps.size:=Nat.lt_of_lt_of_le (hN t zJ) h.size
     rw [zJ] at hx |-
     rw [hx rfl]
     simp [Act.eval,Act.put,Array.getD_eq_getD_getElem?,cM]
    .have hSj:S' j=S j:=by rw [Ou];simp [Ka]
     rw [hSj] at hv
     have dI:∀ d,o.dst=some d->(Operand.tmp t) ≠ .tmp d:=by
      intro d zJ hq
      cases hq
      have:=hd.dst i o t hi ho zJ
      rw [this] at Jv;cases Jv;exact Ka rfl
     rw [Act.eval_put dI]
     exact oH hV.1 (h.tmp t v (by unfold gS;rw [Jv];exact hv))
 .cases zJ:o.dst with
  | none=>exact h.size
  | some d=>simpa [Act.put] using h.size
 .cases o.dst <;> exact h.defers
 .have:=hV.2 l (.inr (by omega))
  rw [this.1,this.2]
  exact h.top l hl
 .rw [Ou] at hSj
  simp only [Bool.or_eq_false_iff,decide_eq_false_iff_not] at hSj
  intro l h1 h2
  have:=hV.2 l (by
   rcases Nat.lt_or_ge j i with cM | QB
   .left;omega
   .right;omega)
  rw [this.1,this.2]
  exact h.fresh j hj hSj.1 l h1 h2
 .have:=hV.2 l (.inl (by omega))
  rw [this.1,this.2]
  exact h.low l hl
theorem bAc (aU:cD P Γ) (aV:cF P Γ) (hd:zC Γ g0 T0 lab0 all.size all all.size es ms wi) (hN:∀ (i:Nat) (o:Oper) (d:Tmp),all[i]?=some o->o.dst=some d->d<N)
 (rT:∀ e∈es,∀ q∈e.bO,q) (zK:∀ d v,g0 d=some v->d<N)
 (hQ:∀ (S:Nat->Bool) V a w,(∀ j,j<all.size->S j=true)->Yg P Γ w0 M N df g0 T0 lab0 all es wi Vs S V a w->Q .normal a w) :
 ∀ (fuel:Nat) (listed:Array Bool) (V:bA) (a:Act) (w:World),listed.size=all.size->((List.range all.size).filter fun j => !listed.getD j false).length<=fuel ->
   (∀ s,listed.getD s false=true->∀ m,ms[s]?=some m->∀ k,m.testBit k=true->listed.getD k false=true) ->
   Yg P Γ w0 M N df g0 T0 lab0 all es wi Vs (fun j=>listed.getD j false) V a w->wpAny P .any all Q fuel listed a w:=by
 have done:∀ (listed:Array Bool),listed.size=all.size->Region.ready .any all listed=[]->∀ j,j<all.size->listed.getD j false=true:=by
  intro listed hl hr j
  induction j using Nat.strongRecOn with
  | ind j ih=>
    intro hj
    cases hb:listed.getD j false with
    | true=>rfl
    | false=>
      exfalso
      obtain ⟨o,ho⟩:∃ o,all[j]?=some o:=⟨_,Array.getElem?_eq_getElem hj⟩
      obtain ⟨m,hm⟩:∃ m,ms[j]?=some m:=⟨_,List.getElem?_eq_getElem (by rw [hd.zG];exact hj)⟩
      have:j∈Region.ready .any all listed:=by
       rw [mem_ready]
       refine ⟨?_,o,ho,fun e he hbd=>?_⟩
       .have cM:j<listed.size:=by omega
        simp [cM] at hb |-
        exact hb
       .have:=(hd.aft j m o hm ho e he hbd).1
        exact ih e.on this (by omega)
      rw [hr] at this
      cases this
 intro fuel
 induction fuel with
 | zero=>
   intro listed V a w hl hc rV hi
   have fR:∀ j,j<all.size->listed.getD j false=true:=by
    intro j hj
    cases hb:listed.getD j false with
    | true=>rfl
    | false=>
      exfalso
      have:j∈(List.range all.size).filter fun j => !listed.getD j false:=by
       rw [List.mem_filter]
       exact ⟨List.mem_range.2 hj,by simp only [hb,Bool.not_false]⟩
      have h0:=List.eq_nil_of_length_eq_zero (Nat.le_zero.1 hc)
      rw [h0] at this
      cases this
   refine ⟨?_,hQ _ V a w fR hi⟩
   cases hr:Region.ready .any all listed with
   | nil=>rfl
   | cons x xs=>
     exfalso
     have hx:x∈Region.ready .any all listed:=by rw [hr];simp
     obtain ⟨h1,o,ho,_⟩:=mem_ready.1 hx
     have cM:=(Array.getElem?_eq_some_iff.1 ho).1
     have h2:=fR x cM
     have hls:x<listed.size:=by omega
     simp [hls] at h1 h2
     rw [h1] at h2;cases h2
 | succ fuel ih=>
   intro listed V a w hl hc rV hi
   refine ⟨fun hr=>hQ _ V a w (done listed hl hr) hi,fun i hir=>?_⟩
   obtain ⟨h1,o,ho,aXk⟩:=mem_ready.1 hir
   have cM:=(Array.getElem?_eq_some_iff.1 ho).1
   have hls:i<listed.size:=by omega
   have hSi:listed.getD i false=false:=by simp [hls] at h1 |-;exact h1
   obtain ⟨m,hm⟩:∃ m,ms[i]?=some m:=⟨_,List.getElem?_eq_getElem (by rw [hd.zG];exact cM)⟩
   obtain ⟨e,he⟩:∃ e,es[i]?=some e:=⟨_,List.getElem?_eq_getElem (by rw [hd.Jt];exact cM)⟩
   have hmS:∀ k,m.testBit k=true->listed.getD k false=true:=by
    intro k hk
    obtain ⟨ed,BI,hb,fJ⟩:=hd.aOh i m o hm ho k hk
    have hon:=aXk ed BI hb
    rcases fJ with rfl | ⟨me,Ti,fJ⟩
    .exact hon
    .exact rV ed.on hon me Ti k fJ
   have oP:∀ j,(listed.setIfInBounds i true).getD j false=(listed.getD j false||decide (j=i)):=by
    intro j
    by_cases Ka:j=i
    .subst Ka
     have:(listed.setIfInBounds j true).getD j false=true:=by simp [hls]
     rw [this];simp
    .rw [getD_set_ne false (Ne.symm Ka)];simp [Ka]
   have aRp:∀ V' a' w',Yg P Γ w0 M N df g0 T0 lab0 all es wi Vs (fun j=>(listed.setIfInBounds i true).getD j false) V' a' w'->wpAny P .any all Q fuel (listed.setIfInBounds i true) a' w':=by
    intro V' a' w' fV
    refine ih _ V' a' w' (by simpa using hl) ?_ (fun s hs m' kM k hk=>?_) fV
    .have:=filter_lt (f:=fun j => !listed.getD j false) (f':=fun j => !(listed.setIfInBounds i true).getD j false) (i:=i) (List.range all.size) (List.mem_range.2 cM) (fun j hj=>by
      rw [oP] at hj
      simp only [Bool.not_eq_true',Bool.or_eq_false_iff] at hj
      simp only [hj.1,Bool.not_false]) (by simp only [hSi,Bool.not_false]) (by rw [oP];simp)
     omega
    .rw [oP] at hs |-
     simp only [Bool.or_eq_true,decide_eq_true_eq] at hs |-
     rcases hs with hs | rfl
     .exact .inl (rV s hs m' kM k hk)
     .rw [hm] at kM;cases kM
      exact .inl (hmS k hk)
   obtain ⟨b0,nV⟩:=hd.eff i m o e hm ho he
   have aRo:∀ q∈e.bO,q:=rT e (List.mem_of_getElem? he)
   unfold Es at nV
   split at nV
   case h_2=>cases nV
   rename_i e1 aRu
   simp only [aW] at nV
   obtain ⟨aXa,Hb,wO,hv1⟩:(∀ q∈e1.bO,q)/\e.new=e1.new/\e.wr=e1.wr/\∀ V,den V e.val=den V e1.val:=by subst nV;exact Ym aRo
   have aWr:∀ T:aX,∀ l,eT T l e=eT T l e1:=fun T l=>by unfold eT bK.eW;rw [Hb,wO]
   have hwf:∀ j,vP all i j=true->listed.getD j false=false:=by
    intro j hj
    cases hb:listed.getD j false with
    | false=>rfl
    | true=>
      exfalso
      unfold vP at hj
      split at hj
      case h_2=>cases hj
      rename_i oj hoj
      obtain ⟨ed,BI,hq⟩:=List.any_eq_true.1 hj
      simp only [iN] at hq
      have hjl:=(Array.getElem?_eq_some_iff.1 hoj).1
      obtain ⟨mj,hmj⟩:∃ m,ms[j]?=some m:=⟨_,List.getElem?_eq_getElem (by rw [hd.zG];exact hjl)⟩
      have h3:=(hd.aft j mj oj hmj hoj ed (by simpa using BI) hq.2).2
      rw [cP hq.1] at h3
      have:=rV j hb mj hmj i h3
      rw [hSi] at this;cases this
   have aRs:∀ {t v},wS g0 all es i m t=some v->gS all.toList (fun j=>es[j]?) g0 (fun j=>listed.getD j false) (fun j => !listed.getD j false) t=some v:=fun hv=>aJr hmS hwf hv
   have htm:cJ V (wS g0 all es i m) a:=fun t v hv=>hi.tmp t v (aRs hv)
   have aDi:∀ d v,wS g0 all es i m d=some v->d<a.tmps.size:=by
    intro d v hv
    refine Nat.lt_of_lt_of_le ?_ hi.size
    unfold wS gS at hv
    cases Jv:jT d all.toList 0 with
    | none=>rw [Jv] at hv;exact zK d v hv
    | some j=>
      obtain ⟨o',_,kC,zJ⟩:=mR Jv
      exact hN j o' d (by simpa using kC) zJ
   have Ax:∀ {V' x w'},V.ext (lab0+8*i) V'->(o.dst.isSome=true->den V' e1.val=some x)->aD w0 M V' (eT (TS T0 lab0 all.size (fun j=>es[j]?) (zY es wi (fun j=>listed.getD j false)) (fun j=>listed.getD j false)) (lab0+8*i) e1) w' ->
    wpAny P .any all Q fuel (listed.setIfInBounds i true) (a.put o.dst x) w':=fun hV hx hT=>
    aRp _ _ _ (hi.put hd ho he hm hSi oP (fun d zJ=>hN i o d ho zJ) rV hV (fun hs=>by rw [hv1];exact hx hs) (by rw [aWr];exact hT))
   unfold wpOp
   simp only [ho]
   have nV:=aRu
   unfold TR at nV
   split at nV
   .rename_i hw
    have hw:=pE htm aDi hw
    rw [if_neg (by rw [hw];simp)]
    simp only [aW] at nV
    subst nV
    refine Ax (V.cO _) (fun _=>rfl) ?_
    rw [jN _ _ rfl rfl]
    exact hi.eW
   .rename_i hw
    have hw:=pE htm aDi hw
    rw [if_pos hw]
    left
    have sim:∀ {T':aX},(∀ l B,T' l=some B->TS T0 lab0 all.size (fun j=>es[j]?) (zY es wi (fun j=>listed.getD j false)) (fun j=>listed.getD j false) l=some B) ->
     Bk Γ (wS g0 all es i m) T' (lab0+8*i) (lab0+8*all.size) none o=some e1 ->
     o.wp P a w (wpAny P .any all Q fuel (listed.setIfInBounds i true)) Q:=fun aR iA=>
     Mk aU aV htm hi.aO aR hi.eW (hi.fresh i cM hSi) hi.top iA aXa _ Q fun V' x w' hV hx hT=>Ax hV (fun _=>hx) hT
    split at nV
    .exact sim (fun l B hB=>by cases hB) nV
    .rename_i aRj
     have late:∀ s∈wi,listed.getD s false=true->¬ s<i->∃ lb e',es[s]?=some e'/\Oh Γ (wS g0 all es i m) o=some lb/\look lb e'.wr=none:=by
      intro s hs xY Xc
      have Jy:=hd.pS s hs
      obtain ⟨m',kM⟩:∃ q,ms[s]?=some q:=⟨_,List.getElem?_eq_getElem (by rw [hd.zG];exact Jy)⟩
      have dI:s≠i:=fun q=>by subst q;rw [hSi] at xY;cases xY
      rcases hd.wnp s hs m' kM i o (by omega) ho with (h3 | h3) | ⟨mj,lb,e',k1,k2,k3,k4⟩
      .rw [aRj] at h3;cases h3
      .have:=rV s xY m' kM i h3
       rw [hSi] at this;cases this
      .rw [hm] at k1;cases k1
       exact ⟨lb,e',k2,k3,k4⟩
     split at nV
     .rename_i lb hlb
      split at nV
      case h_2=>cases nV
      rename_i Xx
      have Xx:=It Xx
      refine sim (fun l B hB=>?_) nV
      obtain ⟨rfl,hB⟩:=KC hB
      have aRi:look l (zY es wi (fun j=>listed.getD j false))=look l (iV es ((pS i wi).filter fun s=>m.testBit s)):=by
       unfold zY
       have gen:∀ L:List Nat,(∀ s∈L,s∈wi)->look l (iV es (L.filter fun j=>listed.getD j false))=look l (iV es ((pS i L).filter fun s=>m.testBit s)):=by
        intro L
        induction L with
        | nil=>intro _;rfl
        | cons s r ih=>
          intro hL
          have ih:=ih (fun q hq=>hL q (eM _ hq))
          have hs:=hL s dC
          have Jy:=hd.pS s hs
          obtain ⟨es',SZ⟩:∃ q,es[s]?=some q:=⟨_,List.getElem?_eq_getElem (by rw [hd.Jt];exact Jy)⟩
          have aMu:look l es'.wr=none->look l (iV es (s::r.filter fun j=>listed.getD j false))=look l (iV es (r.filter fun j=>listed.getD j false)):=by
           intro hn
           simp only [iV,SZ,cE,hn]
          by_cases Xc:s<i
          .have hb:Nat.blt s i=true:=by simpa [Nat.blt_eq] using Xc
           simp only [pS,hb]
           cases Ot:m.testBit s with
           | true=>
             have xY:=hmS s Ot
             rw [List.filter_cons,if_pos xY,List.filter_cons,if_pos Ot]
             simp only [iV,SZ,cE,ih]
           | false=>
             rw [List.filter_cons (p:=fun s=>m.testBit s),if_neg (by rw [Ot];simp),<- ih]
             cases xY:listed.getD s false with
             | false=>rw [List.filter_cons,if_neg (by rw [xY];simp)]
             | true=>
               rw [List.filter_cons,if_pos xY]
               rcases Xx s (by rw [mP,List.mem_filter];exact ⟨hs,hb⟩) with h4 | ⟨e',h4,h5⟩
               .rw [Ot] at h4;cases h4
               .rw [SZ] at h4;cases h4;exact aMu h5
          .have hb:Nat.blt s i=false:=by
            cases hb:Nat.blt s i with
            | false=>rfl
            | true=>exact absurd (by simpa [Nat.blt_eq] using hb) Xc
           simp only [pS,hb]
           rw [<- ih]
           cases xY:listed.getD s false with
           | false=>rw [List.filter_cons,if_neg (by rw [xY];simp)]
           | true=>
             rw [List.filter_cons,if_pos xY]
             obtain ⟨lb',e',k2,k3,k4⟩:=late s hs xY Xc
             rw [hlb] at k3;cases k3
             rw [SZ] at k2;cases k2
             exact aMu k4
       exact gen wi (fun s hs=>hs)
      have hB2:=Rk (S':=fun j=>listed.getD j false) hmS hB
      unfold TS at hB2 |-
      rw [aRi];exact hB2
     .rename_i CA
      split at nV
      case h_2=>cases nV
      rename_i Ju
      refine sim (fun l B hB=>?_) nV
      have hB2:=Rk (S':=fun j=>listed.getD j false) hmS hB
      have Xb:iV es (pS i wi)=zY es wi (fun j=>listed.getD j false):=by
       unfold zY
       rw [mP]
       congr 1
       refine List.filter_congr fun s hs=>?_
       by_cases Xc:s<i
       .have hb:Nat.blt s i=true:=by simpa [Nat.blt_eq] using Xc
        rw [hb]
        exact (hmS s (II Ju s (by rw [mP,List.mem_filter];exact ⟨hs,hb⟩))).symm
       .have hb:Nat.blt s i=false:=by
         cases hb:Nat.blt s i with
         | false=>rfl
         | true=>exact absurd (by simpa [Nat.blt_eq] using hb) Xc
        rw [hb]
        cases xY:listed.getD s false with
        | false=>rfl
        | true=>
          obtain ⟨lb',e',k2,k3,k4⟩:=late s hs xY Xc
          rw [CA] at k3;cases k3
      rw [<- Xb]
      exact hB2
   .cases nV
end
noncomputable def nF (F0 N lab0 nx:Nat):List Oper->List bK->Nat->St->Option St
 | [],_,_,s=>some s
 | o::r,e::es,i,s=>match s.step F0 N o.dst e (lab0+8*i) nx with
   | some s'=>nF F0 N lab0 nx r es (i+1) s'
   | none=>none
 | _::_,[],_,_=>none
noncomputable def Ga (Γ:Env) (B:aX) (F0 N:Nat) (ops:Array Oper) (s:St):Option St:=
 match Fz Γ s.g.get (s.T B) s.nx ops.size ops ops.toList 0 [] [] [] s.hs with
 | some (es,_,_,hs)=>match nF F0 N s.nx (s.nx+8*ops.size) ops.toList es 0 s with
   | some s'=>some { g:=s'.g,tb:=s'.tb,nx:=s'.nx,ws:=s'.ws,ob:=s'.ob,df:=s'.df,hs:=hs }
   | none=>none
 | none=>none
theorem Mt {F0 N lab0 nx:Nat}:∀ {r:List Oper} {er:List bK} {i:Nat} {s s':St},nF F0 N lab0 nx r er i s=some s'->s'.df=s.df
 | [],er,i,s,s',h=>by simp only [nF,aW] at h;subst h;rfl
 | o::r,[],i,s,s',h=>by simp [nF] at h
 | o::r,e::er,i,s,s',h=>by
   simp only [nF] at h
   split at h
   .rename_i s1 h1;rw [Mt h,St.Uy h1]
   .cases h
structure aFt (B:aX) (F0 N lab0 nx:Nat) (all:Array Oper) (es:List bK) (wi:List Nat) (s0:St) (i:Nat) (s:St):Prop where
 T:s.T B=TS (s0.T B) lab0 all.size (fun j=>es[j]?) (zY es wi (fun j=>decide (j<i))) (fun j=>decide (j<i))
 g:∀ t v,s.g.get t=some v->(∃ j e,jT t all.toList 0=some j/\j<i/\es[j]?=some e/\e.val=v)\/((∀ j,jT t all.toList 0=some j->i<=j)/\s0.g.get t=some v)
 keys:∀ t v,s.g.get t=some v->t<N
 hi:∀ l,nx<=l->s.T B l=none
 ch:∀ l,l<F0->l ∉ s.ws->s.tb.get l=none
 ob0:∀ q∈s0.ob,q∈s.ob
 ob:∀ j e,j<i->es[j]?=some e->∀ q∈e.bO,q∈s.ob
 dN:∀ j o d,j<i->all[j]?=some o->o.dst=some d->d<N
 nxe:(s.nx=s0.nx/\i=0)\/s.nx=nx
theorem Mr {Γ:Env} {B:aX} {F0 N lab0 nx:Nat} {all:Array Oper} {es:List bK} {ms:List Nat} {wi:List Nat} {s0:St} {g0:Nat->Option SV} (hd:zC Γ g0 (s0.T B) lab0 all.size all all.size es ms wi) (hnx:nx=lab0+8*all.size) :
 ∀ {r:List Oper} {er:List bK} {i:Nat} {s s':St},nF F0 N lab0 nx r er i s=some s'->(∀ k,r[k]?=all[i+k]?)->(∀ k,er[k]?=es[i+k]?)->i+r.length=all.size ->
   aFt B F0 N lab0 nx all es wi s0 i s->aFt B F0 N lab0 nx all es wi s0 all.size s'
 | [],er,i,s,s',h,hr,he,hl,hf=>by
   simp only [nF,aW] at h
   subst h
   have:i=all.size:=by simpa using hl
   rw [<- this];exact hf
 | o::r,[],i,s,s',h,hr,he,hl,hf=>by simp [nF] at h
 | o::r,e::er,i,s,s',h,hr,he,hl,hf=>by
   have ho:all[i]?=some o:=by have:=hr 0;simpa using this.symm
   have RB:es[i]?=some e:=by have:=he 0;simpa using this.symm
   have hi:i<all.size:=(Array.getElem?_eq_some_iff.1 ho).1
   have PW:∀ k,r[k]?=all[i+1+k]?:=fun k=>by
    have:=hr (k+1)
    rw [show i+1+k=i+(k+1) from by omega]
    simpa using this
   have iA:∀ k,er[k]?=es[i+1+k]?:=fun k=>by
    have:=he (k+1)
    rw [show i+1+k=i+(k+1) from by omega]
    simpa using this
   simp only [nF] at h
   split at h
   case h_2=>cases h
   rename_i s1 h1
   obtain ⟨k1,k2,k3,k4,k5,k6,k7,k8,k9⟩:=St.dP B h1
   refine Mr hd hnx h PW iA (by simp at hl;omega) ?_
   have DC:∀ j,decide (j<i+1)=(decide (j<i)||decide (j=i)):=by
    intro j
    by_cases h1:j<i
    .simp [h1];omega
    .by_cases h2:j=i
     .simp [h2]
     .simp [h1,h2];omega
   have FQ:=Wv (T0:=s0.T B) (lab0:=lab0) (n:=all.size) (wi:=wi) (S:=fun j=>decide (j<i)) (S':=fun j=>decide (j<i+1)) hi RB (by simp) DC (hd.new i e RB) (hd.wrt i e RB) hd.wso (fun _ s _ xY=>.inl (by simpa using xY)) (fun s hs xY e' iA l b hlk=>by
    have Jy:=hd.pS s hs
    obtain ⟨Wy,Ki⟩:∃ q,ms[s]?=some q:=⟨_,List.getElem?_eq_getElem (by rw [hd.zG];exact Jy)⟩
    rcases hd.wlb s hs Wy Ki e' iA l b hlk with h1 | ⟨h1,h2⟩
    .exact .inl h1
    .have:=hd.lt s Wy Ki _ h2
     simp only [decide_eq_true_eq] at xY
     exact .inr ⟨h1,by simp only [decide_eq_true_eq];omega⟩)
   refine ⟨?_,fun t v hv=>?_,fun t v hv=>?_,fun l hl=>?_,fun l hl hw=>?_,fun q hq=>?_,fun j e' hj hje q hq=>?_,fun j o' d hj kC zJ=>?_,.inr k2⟩
   .rw [k1,hf.T,FQ]
   .rw [k6] at hv
    by_cases zJ:o.dst=some t
    .rw [if_pos zJ] at hv
     cases hv
     exact .inl ⟨i,e,hd.dst i o t hi ho zJ,by omega,RB,rfl⟩
    .rw [if_neg zJ] at hv
     rcases hf.g t v hv with ⟨j,e',h2,h3,h4,h5⟩ | ⟨h2,h3⟩
     .exact .inl ⟨j,e',h2,by omega,h4,h5⟩
     .refine .inr ⟨fun j hj=>?_,h3⟩
      have:=h2 j hj
      have dI:j≠i:=by
       intro q
       subst q
       obtain ⟨o',_,kC,aWz⟩:=mR hj
       have:o'=o:=by
        have h1:all[j]?=some o':=by simpa using kC
        rw [ho] at h1;cases h1;rfl
       subst this
       exact zJ aWz
      omega
   .rw [k6] at hv
    by_cases zJ:o.dst=some t
    .exact k7 t zJ
    .rw [if_neg zJ] at hv;exact hf.keys t v hv
   .rw [k1]
    unfold eT bK.eW
    rw [cE]
    cases hk:look l e.wr with
    | some b=>have:=k9 l b hk;omega
    | none=>
      have:look l (gE (lab0+8*i) e.new)=none:=by
       rw [fD]
       split
       .apply List.getElem?_eq_none;omega
       .rfl
      simp only [this]
      exact hf.hi l hl
   .exact k5 l hl hw (hf.ch l hl (fun q=>hw (k4 l q)))
   .rw [k3];exact List.mem_append_right _ (hf.ob0 q hq)
   .rw [k3]
    by_cases Ka:j=i
    .subst Ka;rw [RB] at hje;cases hje;exact List.mem_append_left _ hq
    .exact List.mem_append_right _ (hf.ob j e' (by omega) hje q hq)
   .by_cases Ka:j=i
    .subst Ka;rw [ho] at kC;cases kC;exact k7 d zJ
    .exact hf.dN j o' d (by omega) kC zJ
theorem Nb {P:Program} {Γ:Env} {w0:World} {M:Nat->Prop} {B:aX} {N F0:Nat} {V0:bA} (aU:cD P Γ) (aV:cF P Γ) (gZ:P.follows .mixedOrders=true) {id:Nat} {ops:Array Oper} {Q:Exit->Act->World->Prop}
 {s s':St} {V:bA} {a:Act} {w:World} (h:Ga Γ B F0 N ops s=some s') (ho:∀ q∈s'.ob,q) (hi:Inv P Γ w0 M B N F0 V0 s V a w)
 (hQ:∀ V' a' w',Inv P Γ w0 M B N F0 V0 s' V' a' w'->Q .normal a' w'):(Code.region id ops true).wp P Q a w:=by
 unfold Ga at h
 split at h
 case h_2=>cases h
 rename_i es ms wi wR he
 split at h
 case h_2=>cases h
 rename_i s1 h1
 cases h
 have h:=h1
 have hd:zC Γ s.g.get (s.T B) s.nx ops.size ops ops.size es ms wi:=by
  have:=tJ he (fun k=>by simp) zC.nil
  simpa using this
 have hF0:aFt B F0 N s.nx (s.nx+8*ops.size) ops es wi s 0 s:=by
  refine ⟨?_,fun t v hv=>.inr ⟨fun j _=>Nat.zero_le _,hv⟩,hi.keys,fun l hl=>hi.hi l (by omega),hi.ch,fun q hq=>hq,fun j e hj=>by omega,fun j o d hj=>by omega,.inl ⟨rfl,rfl⟩⟩
  funext l
  have hw:zY es wi (fun j=>decide (j<0))=[]:=by
   unfold zY
   rw [List.filter_eq_nil_iff.2 (fun s _=>by simp)]
   rfl
  simp only [TS,hw,look,Bf]
  by_cases hl:s.nx<=l/\l<s.nx+8*ops.size
  .rw [Mh hl.1 hl.2]
   simp [hi.hi l hl.1]
  .rw [Ge hl]
 have hF:=Mr hd rfl h (fun k=>by simp) (fun k=>by simp) (by simp) hF0
 refine wp_region_any gZ ?_
 refine bAc (M:=M) (w0:=w0) (N:=N) (df:=a.defers) (Vs:=V) aU aV hd (fun i o d fV zJ=>hF.dN i o d (Array.getElem?_eq_some_iff.1 fV).1 fV zJ) (fun e RB q hq=>?_) hi.keys (fun S V' a' w' fR hr=>?_) ops.size _ V a _ (by simp) ?_ ?_ ?_
 .obtain ⟨j,hj,hje⟩:=List.getElem_of_mem RB
  have hjl:j<ops.size:=by rw [hd.Jt] at hj;exact hj
  exact ho q (hF.ob j e hjl (by rw [List.getElem?_eq_getElem hj,hje]) q hq)
 .refine hQ V' a' w' ⟨fun t v hv=>?_,hF.keys,hr.size,(by obtain ⟨xs,fW,mW⟩:=hi.defers;exact ⟨xs,by rw [Mt h];exact cV hr.le fW,hr.defers.trans mW⟩),?_,hr.aO,?_,bA.le_trans hi.le hr.le,fun l hl=>?_,hF.ch,?_,fun l hl=>?_⟩
  .refine hr.tmp t v ?_
   unfold gS
   rcases hF.g t v hv with ⟨j,e,h2,h3,h4,h5⟩ | ⟨h2,h3⟩
   .rw [h2]
    simp only [fR j h3,h4,gL,h5]
   .cases Jv:jT t ops.toList 0 with
    | none=>exact h3
    | some j=>
      have:=h2 j Jv
      obtain ⟨o',_,kC,_⟩:=mR Jv
      have cM:=(List.getElem?_eq_some_iff.1 kC).1
      simp at cM
      omega
  .refine hr.eW.sub fun l b hl=>?_
   have hl:s1.T B l=some b:=hl
   rw [hF.T] at hl
   have hw:zY es wi (fun j=>decide (j<ops.size))=zY es wi S:=by
    unfold zY
    congr 1
    refine List.filter_congr fun q hq=>?_
    have:=hd.pS q hq
    rw [fR q this]
    simpa using this
   rw [hw] at hl
   refine Rk (fun j hj=>?_) hl
   exact fR j (by simpa using hj)
  .refine hr.top.mono ?_
   rcases hF.nxe with ⟨h1,h2⟩ | h2
   .rw [h1,h2];exact cT _
   .rw [h2];exact cT _
  .have h1:=hr.low l (Nat.lt_of_lt_of_le hl hi.nx)
   rw [h1.1,h1.2]
   exact hi.low l hl
  .rcases hF.nxe with ⟨h1,_⟩ | h2
   .rw [h1];exact hi.nx
   .rw [h2];have:=hi.nx;omega
  .rcases hF.nxe with ⟨h1,h2⟩ | h2
   .exact hF.hi l (by rw [h1] at hl;rw [h2];exact hl)
   .exact hF.hi l (by rw [h2] at hl;exact hl)
 .have:=List.length_filter_le (fun j => !(Array.replicate ops.size false).getD j false) (List.range ops.size)
  simpa using this
 .intro q hq
  exfalso
  simp [Array.getElem?_replicate] at hq
  split at hq <;> simp at hq
 .have hS:∀ j,(Array.replicate ops.size false).getD j false=false:=by
   intro j
   simp [Array.getElem?_replicate]
   split <;> rfl
  refine ⟨fun t v hv=>?_,hi.size,rfl,?_,hi.aO,hi.top.mono (by omega),fun j _ _=>fun l h1 _=>hi.top l (by omega),bA.le_refl V,fun l _=>⟨rfl,rfl⟩⟩
  .unfold gS at hv
   cases Jv:jT t ops.toList 0 with
   | none=>rw [Jv] at hv;exact hi.tmp t v hv
   | some j=>rw [Jv] at hv;simp only [hS j,Bool.not_false] at hv;exact hi.tmp t v hv
  .have hT0:aD w0 M V (s.T B) { w with drawn:=w.drawn+1 }:=hi.eW.aSq rfl rfl rfl rfl
   refine hT0.sub fun l b hl=>?_
   have hw:zY es wi (fun j=>(Array.replicate ops.size false).getD j false)=[]:=by
    unfold zY
    rw [List.filter_eq_nil_iff.2 (fun s _=>by simp only [hS s];simp)]
    rfl
   simp only [TS,hw,look,Bf] at hl
   split at hl
   .simp only [hS] at hl;cases hl
   .exact hl
inductive Ex where
 | normal
 | exit (id:Nat)
 | ret
def Ex.to:Ex->Exit
 | .normal=>.normal
 | .exit id=>.exit id
 | .ret=>.ret
noncomputable def Lo (Γ:Env) (B:aX) (F0 N:Nat) (rec:Code->St->Option (St × Ex)) (c:Code) (s:St):Option (St × Ex):=
 match c with
 | .skip=>some (s,.normal)
 | .label _=>some (s,.normal)
 | .region _ ops d=>match d with
   | true=>match Ga Γ B F0 N ops s with
     | some s'=>some (s',.normal)
     | none=>none
   | false=>match Hh Γ B F0 N ops ops.toList s with
     | some s'=>some (s',.normal)
     | none=>none
 | .seq x y=>match rec x s with
   | some (s',.normal)=>rec y s'
   | r=>r
 | .cond c x y=>match ev Γ s.g.get c with
   | some (.bool true true)=>rec x s
   | some (.bool true false)=>rec y s
   | some (.bool false b)=>match s.hs with
     | true::r=>rec x { s with ob:=(b=true)::s.ob,hs:=r }
     | false::r=>rec y { s with ob:=(b=false)::s.ob,hs:=r }
     | []=>none
   | _=>none
 | .block id c=>match rec c s with
   | some (s',.exit Jx)=>match Nat.beq Jx id with
     | true=>some (s',.normal)
     | false=>some (s',.exit Jx)
   | r=>r
 | .loop c=>match rec c s with
   | some (s',.normal)=>rec (.loop c) s'
   | r=>r
 | .exit id=>some (s,.exit id)
 | .ret=>some (s,.ret)
 | .scope c=>rec c s
 | _=>none
noncomputable def exec (Γ:Env) (B:aX) (F0 N:Nat) (n:Nat):Code->St->Option (St × Ex):=
 Nat.rec (fun _ _=>none) (fun _ ih=>Lo Γ B F0 N ih) n
theorem xO {Γ:Env} {B:aX} {F0 N:Nat} (c:Code) (s:St):exec Γ B F0 N 0 c s=none:=rfl
theorem xP {Γ:Env} {B:aX} {F0 N:Nat} (n:Nat) (c:Code) (s:St):exec Γ B F0 N (n+1) c s=Lo Γ B F0 N (exec Γ B F0 N n) c s:=rfl
theorem Ms {F0 N lab0 nx:Nat}:∀ {r:List Oper} {er:List bK} {i:Nat} {s s':St},nF F0 N lab0 nx r er i s=some s'->∀ q∈s.ob,q∈s'.ob
 | [],er,i,s,s',h,q,hq=>by simp only [nF,aW] at h;subst h;exact hq
 | o::r,[],i,s,s',h,q,hq=>by simp [nF] at h
 | o::r,e::er,i,s,s',h,q,hq=>by
   simp only [nF] at h
   split at h
   .rename_i s1 h1
    have:=(St.dP (fun _=>none) h1).2.2.1
    exact Ms h q (by rw [this];exact List.mem_append_right _ hq)
   .cases h
theorem Nc {Γ:Env} {B:aX} {F0 N:Nat} {ops:Array Oper} {s s':St} (h:Ga Γ B F0 N ops s=some s'):∀ q∈s.ob,q∈s'.ob:=by
 unfold Ga at h
 split at h
 .split at h
  .rename_i s1 h1
   cases h
   exact Ms (s':=s1) h1
  .cases h
 .cases h
theorem zU {Γ:Env} {B:aX} {F0 N:Nat}:∀ {n:Nat} {c:Code} {s s':St} {x:Ex},exec Γ B F0 N n c s=some (s',x)->∀ q∈s.ob,q∈s'.ob:=by
 intro n
 induction n with
 | zero=>intro c s s' x h;rw [xO] at h;cases h
 | succ n ih=>
   intro c s s' x h q hq
   rw [xP] at h
   unfold Lo at h
   split at h
   .cases h;exact hq
   .cases h;exact hq
   .split at h
    .split at h
     .rename_i s1 h1;cases h;exact Nc h1 q hq
     .cases h
    .split at h
     .rename_i s1 h1;cases h;exact uM h1 q hq
     .cases h
   .split at h
    .rename_i s1 h1;exact ih h q (ih h1 q hq)
    .exact ih h q hq
   .split at h
    .exact ih h q hq
    .exact ih h q hq
    .split at h
     .exact ih h q (eM _ hq)
     .exact ih h q (eM _ hq)
     .cases h
    .cases h
   .split at h
    .rename_i s1 Jx h1
     split at h <;> (cases h;exact ih h1 q hq)
    .exact ih h q hq
   .split at h
    .rename_i s1 h1;exact ih h q (ih h1 q hq)
    .exact ih h q hq
   .cases h;exact hq
   .cases h;exact hq
   .exact ih h q hq
   .cases h
theorem aAn {P:Program} {Γ:Env} {w0:World} {M:Nat->Prop} {B:aX} {N F0:Nat} {V0:bA} (aU:cD P Γ) (aV:cF P Γ) (gZ:P.follows .mixedOrders=true) :
 ∀ (n:Nat),(∀ {c:Code} {s s':St} {x:Ex} {V:bA} {a:Act} {w:World} {Q:Exit->Act->World->Prop},exec Γ B F0 N n c s=some (s',x)->(∀ q∈s'.ob,q)->Inv P Γ w0 M B N F0 V0 s V a w ->
   (∀ V' a' w',Inv P Γ w0 M B N F0 V0 s' V' a' w'->Q x.to a' w')->c.wp P Q a w) /\
 (∀ {c:Code} {s s':St} {x:Ex} {V:bA} {a:Act} {w:World} {Q:Exit->Act->World->Prop},exec Γ B F0 N n (.loop c) s=some (s',x)->(∀ q∈s'.ob,q)->Inv P Γ w0 M B N F0 V0 s V a w ->
  (∀ V' a' w',Inv P Γ w0 M B N F0 V0 s' V' a' w'->Q x.to a' w')->Code.rounds P c Q n a w):=by
 intro n
 induction n with
 | zero=>exact ⟨fun h=>(by rw [xO] at h;cases h),fun h=>(by rw [xO] at h;cases h)⟩
 | succ n ih=>
   obtain ⟨ih,il⟩:=ih
   have loop:∀ {c:Code} {s s':St} {x:Ex} {V:bA} {a:Act} {w:World} {Q:Exit->Act->World->Prop},exec Γ B F0 N (n+1) (.loop c) s=some (s',x)->(∀ q∈s'.ob,q)->Inv P Γ w0 M B N F0 V0 s V a w ->
    (∀ V' a' w',Inv P Γ w0 M B N F0 V0 s' V' a' w'->Q x.to a' w')->Code.rounds P c Q (n+1) a w:=by
    intro c s s' x V a w Q h ho hi hQ
    rw [xP] at h
    simp only [Lo] at h
    rw [rounds_succ]
    split at h
    .rename_i s1 h1
     exact ih h1 (fun q hq=>ho q (zU h q hq)) hi fun V' a' w' fV=>il h ho fV hQ
    .rename_i dI
     refine ih h ho hi fun V' a' w' fV=>?_
     have:=hQ V' a' w' fV
     cases x with
     | normal=>exact absurd h (fun q=>dI _ q)
     | exit id=>exact this
     | ret=>exact this
   refine ⟨?_,loop⟩
   intro c s s' x V a w Q h ho hi hQ
   have h0:=h
   rw [xP] at h
   unfold Lo at h
   split at h
   .cases h;exact wp_skip (hQ V a w hi)
   .cases h;exact wp_label (hQ V a w hi)
   .split at h
    .split at h
     .rename_i s1 h1;cases h;exact Nb aU aV gZ h1 ho hi hQ
     .cases h
    .split at h
     .rename_i s1 h1;cases h;exact wp_region_list (uL aU aV h1 ho hi hQ)
     .cases h
   .refine wp_seq ?_
    split at h
    .rename_i s1 h1
     exact ih h1 (fun q hq=>ho q (zU h q hq)) hi fun V' a' w' fV=>ih h ho fV hQ
    .rename_i dI
     refine ih h ho hi fun V' a' w' fV=>?_
     have:=hQ V' a' w' fV
     cases x with
     | normal=>exact absurd h (fun q=>dI _ q)
     | exit id=>exact this
     | ret=>exact this
   .split at h
    .rename_i hc
     have hc:=bI hi.tmp hi.aO hc
     simp only [den,aW] at hc
     exact wp_cond_true hc.symm (ih h ho hi hQ)
    .rename_i hc
     have hc:=bI hi.tmp hi.aO hc
     simp only [den,aW] at hc
     exact wp_cond_false hc.symm (ih h ho hi hQ)
    .rename_i b hc
     have hc:=bI hi.tmp hi.aO hc
     simp only [den,aW] at hc
     split at h
     .have hb:b=true:=ho _ (zU h _ dC)
      rw [hb] at hc
      exact wp_cond_true hc.symm (ih h ho ⟨hi.tmp,hi.keys,hi.size,hi.defers,hi.eW,hi.aO,hi.top,hi.le,hi.low,hi.ch,hi.nx,hi.hi⟩ hQ)
     .have hb:b=false:=ho _ (zU h _ dC)
      rw [hb] at hc
      exact wp_cond_false hc.symm (ih h ho ⟨hi.tmp,hi.keys,hi.size,hi.defers,hi.eW,hi.aO,hi.top,hi.le,hi.low,hi.ch,hi.nx,hi.hi⟩ hQ)
     .cases h
    .cases h
   .refine wp_block ?_
    split at h
    .rename_i bid _ _ s1 Jx h1
     split at h
     .rename_i hb
      cases h
      refine ih h1 ho hi fun V' a' w' fV=>?_
      show (if Jx=bid then Q .normal a' w' else Q (.exit Jx) a' w')
      rw [if_pos (cP hb)]
      exact hQ V' a' w' fV
     .rename_i hb
      cases h
      refine ih h1 ho hi fun V' a' w' fV=>?_
      show (if Jx=bid then Q .normal a' w' else Q (.exit Jx) a' w')
      rw [if_neg (beq_false hb)]
      exact hQ V' a' w' fV
    .rename_i dI
     refine ih h ho hi fun V' a' w' fV=>?_
     have:=hQ V' a' w' fV
     cases x with
     | normal=>exact this
     | exit id=>exact absurd h (fun q=>dI _ _ q)
     | ret=>exact this
   .exact wp_loop_rounds (n+1) (loop h0 ho hi hQ)
   .cases h;exact wp_exit (hQ V a w hi)
   .cases h;exact wp_ret (hQ V a w hi)
   .refine wp_scope_straight (ih h ho hi fun V' a' w' fV=>?_)
    have:=hQ V' a' w' fV
    cases x <;> exact this
   .cases h
mutual
def Ab (ρ : Nat->Option Nat):SV->Option SV
 | .int s k n=>some (.int s k n)
 | .bool s b=>some (.bool s b)
 | .ptr l s off=>match ρ l with
   | some l=>some (.ptr l s off)
   | none=>none
 | .aH l s off len cap=>match ρ l with
   | some l=>some (.aH l s off len cap)
   | none=>none
 | .agg vs=>match Ar ρ vs with
   | some vs=>some (.agg vs)
   | none=>none
 | .eD vs=>match Ar ρ vs with
   | some vs=>some (.eD vs)
   | none=>none
 | .fn f xs ys=>match Ar ρ xs,Ar ρ ys with
   | some xs,some ys=>some (.fn f xs ys)
   | _,_=>none
 | .pX t v=>match Ab ρ v with
   | some v=>some (.pX t v)
   | none=>none
 | .raw v=>some (.raw v)
 | .ai k xs=>some (.ai k xs)
 | .buf l=>match ρ l with
   | some l=>some (.buf l)
   | none=>none
 | .iZ l off=>match ρ l with
   | some l=>some (.iZ l off)
   | none=>none
 | .mG l lo hi=>match ρ l with
   | some l=>some (.mG l lo hi)
   | none=>none
 | .iH l n=>match ρ l with
   | some l=>some (.iH l n)
   | none=>none
 | .dJ l off len lo=>match ρ l with
   | some l=>some (.dJ l off len lo)
   | none=>none
 | .pT l n cap sz j le=>match ρ l,ρ le with
   | some l,some le=>some (.pT l n cap sz j le)
   | _,_=>none
def Ar (ρ : Nat->Option Nat):List SV->Option (List SV)
 | []=>some []
 | v::r=>match Ab ρ v,Ar ρ r with
   | some v,some r=>some (v::r)
   | _,_=>none
end
def Bz (ρ : Nat->Option Nat) (V V':bA):Prop:=∀ l l',ρ l=some l'->(∀ p,V.β l=some p->V'.β l'=some p)/\(∀ v,V.σ l=some v->V'.σ l'=some v)
mutual
theorem Ce {ρ : Nat->Option Nat} {V V':bA} (h:Bz ρ V V'):∀ {v v':SV} {x:Value},Ab ρ v=some v'->den V v=some x->den V' v'=some x
 | .int ..,v',x,hr,hd=>by simp only [Ab,aW] at hr;subst hr;exact hd
 | .bool ..,v',x,hr,hd=>by simp only [Ab,aW] at hr;subst hr;exact hd
 | .ai ..,v',x,hr,hd=>by simp only [Ab,aW] at hr;subst hr;exact hd
 | .ptr l s off,v',x,hr,hd=>by
   simp only [Ab] at hr
   split at hr
   .rename_i l' hl
    cases hr
    simp only [den,dH] at hd |-
    obtain ⟨p,hp,rfl⟩:=hd
    exact ⟨p,(h l l' hl).1 p hp,rfl⟩
   .cases hr
 | .aH l s off len cap,v',x,hr,hd=>by
   simp only [Ab] at hr
   split at hr
   .rename_i l' hl
    cases hr
    simp only [den,dH] at hd |-
    obtain ⟨p,hp,rfl⟩:=hd
    exact ⟨p,(h l l' hl).1 p hp,rfl⟩
   .cases hr
 | .agg vs,v',x,hr,hd=>by
   simp only [Ab] at hr
   split at hr
   .rename_i Jr hl
    cases hr
    simp only [den,dH] at hd |-
    obtain ⟨p,hp,rfl⟩:=hd
    exact ⟨p,nG h hl hp,rfl⟩
   .cases hr
 | .eD vs,v',x,hr,hd=>by
   simp only [Ab] at hr
   split at hr
   .rename_i Jr hl
    cases hr
    simp only [den,dH] at hd |-
    obtain ⟨p,hp,rfl⟩:=hd
    exact ⟨p,nG h hl hp,rfl⟩
   .cases hr
 | .fn f xs ys,v',x,hr,hd=>by
   simp only [Ab] at hr
   split at hr
   .rename_i iJ ys' h1 h2
    cases hr
    simp only [den,dH,gM] at hd |-
    obtain ⟨p,hp,q,hq,rfl⟩:=hd
    exact ⟨p,nG h h1 hp,q,nG h h2 hq,rfl⟩
   .cases hr
 | .pX t v,v',x,hr,hd=>by
   simp only [Ab] at hr
   split at hr
   .rename_i u hl
    cases hr
    simp only [den,dH] at hd |-
    obtain ⟨p,hp,rfl⟩:=hd
    exact ⟨p,Ce h hl hp,rfl⟩
   .cases hr
 | .raw v,v',x,hr,hd=>by simp only [Ab,aW] at hr;subst hr;exact hd
 | .pT l n cap sz j le,v',x,hr,hd=>by
   simp only [Ab] at hr
   split at hr
   .rename_i l1 l2 QA rU
    cases hr
    simp only [den,gM] at hd |-
    obtain ⟨p,hp,q,hq,e⟩:=hd
    exact ⟨p,(h l l1 QA).1 p hp,q,(h le l2 rU).1 q hq,e⟩
   .cases hr
 | .buf l,v',x,hr,hd=>by
   simp only [Ab] at hr
   split at hr
   .rename_i l' hl;cases hr;simp only [den] at hd |-;exact (h l l' hl).2 x hd
   .cases hr
 | .iZ l off,v',x,hr,hd=>by
   simp only [Ab] at hr
   split at hr
   .rename_i l' hl
    cases hr
    simp only [den] at hd |-
    split at hd
    .rename_i hs;rw [(h l l' hl).2 _ hs];exact hd
    .cases hd
   .cases hr
 | .mG l lo hi,v',x,hr,hd=>by
   simp only [Ab] at hr
   split at hr
   .rename_i l' hl
    cases hr
    simp only [den] at hd |-
    split at hd
    .rename_i hs;rw [(h l l' hl).2 _ hs];exact hd
    .cases hd
   .cases hr
 | .iH l n,v',x,hr,hd=>by
   simp only [Ab] at hr
   split at hr
   .rename_i l' hl
    cases hr
    simp only [den,gM] at hd |-
    obtain ⟨v,hv,hx⟩:=hd
    exact ⟨v,(h l l' hl).2 _ hv,hx⟩
   .cases hr
 | .dJ l off len lo,v',x,hr,hd=>by
   simp only [Ab] at hr
   split at hr
   .rename_i l' hl
    cases hr
    simp only [den,dH,gM] at hd |-
    obtain ⟨p,hp,c,hc,rfl⟩:=hd
    refine ⟨p,(h l l' hl).1 p hp,c,?_,rfl⟩
    cases hs:V.σ l with
    | none=>rw [hs] at hc;cases hc
    | some v=>rw [(h l l' hl).2 v hs,<- hs];exact hc
   .cases hr
theorem nG {ρ : Nat->Option Nat} {V V':bA} (h:Bz ρ V V'):∀ {vs Jr:List SV} {xs:List Value},Ar ρ vs=some Jr->aJ V vs=some xs->aJ V' Jr=some xs
 | [],Jr,xs,hr,hd=>by simp only [Ar,aW] at hr;subst hr;simpa [aJ] using hd
 | v::r,Jr,xs,hr,hd=>by
   simp only [Ar] at hr
   split at hr
   .rename_i v' r' h1 h2
    cases hr
    simp only [aJ,dH,gM] at hd |-
    obtain ⟨x,hx,ys,hy,rfl⟩:=hd
    exact ⟨x,Ce h h1 hx,ys,nG h h2 hy,rfl⟩
   .cases hr
end
def yU (ρ : Nat->Option Nat):SB->Option SB
 | .own cs ty=>match Ar ρ cs with
   | some cs=>some (.own cs ty)
   | none=>none
 | .row sz cs ty=>match Ar ρ cs with
   | some cs=>some (.row sz cs ty)
   | none=>none
 | .ints k xs ty=>some (.ints k xs ty)
 | .dF k xs ty=>some (.dF k xs ty)
 | .fQ sz n ty=>some (.fQ sz n ty)
 | .eK xs ty=>some (.eK xs ty)
 | .eN vs ty=>some (.eN vs ty)
 | .gone=>some .gone
 | _=>none
theorem qQ {ρ : Nat->Option Nat} {V V':bA} (h:Bz ρ V V') {w:World} {l l':Nat} {B B':SB} (hl : ρ l=some l') (hr:yU ρ B=some B') (kX:okB V w l B) :
 okB V' w l' B'/\(∀ n,B'.aT V' l'=some n->B.aT V l=some n)/\(∀ n,B.aT V l=some n->B'.aT V' l'=some n)/\B'.owned=B.owned:=by
 obtain ⟨h1,h2⟩:=h l l' hl
 obtain ⟨cs,hc,hk⟩:=kX
 cases B with
 | own cells ty=>
   simp only [yU] at hr
   split at hr
   .rename_i cs' kD
    cases hr
    obtain ⟨b,hb,hh⟩:=hk
    have iL:=h1 _ hb
    exact ⟨⟨cs,nG h kD hc,b,iL,hh⟩,fun n hn=>by simpa [SB.aT,hb,iL] using hn,fun n hn=>by simpa [SB.aT,hb,iL] using hn,rfl⟩
   .cases hr
 | row sz cells ty=>
   simp only [yU] at hr
   split at hr
   .rename_i cs' kD
    cases hr
    obtain ⟨b,cap,cur,hb,hσ,r⟩:=hk
    have iL:=h1 _ hb
    exact ⟨⟨cs,nG h kD hc,b,cap,cur,iL,h2 _ hσ,r⟩,fun n hn=>by simpa [SB.aT,hb,iL] using hn,fun n hn=>by simpa [SB.aT,hb,iL] using hn,rfl⟩
   .cases hr
 | ints k xs ty=>
   cases hr
   obtain ⟨b,hb,hh⟩:=hk
   have iL:=h1 _ hb
   exact ⟨⟨cs,hc,b,iL,hh⟩,fun n hn=>by simpa [SB.aT,hb,iL] using hn,fun n hn=>by simpa [SB.aT,hb,iL] using hn,rfl⟩
 | eN vs ty=>
   cases hr
   obtain ⟨b,hb,hh⟩:=hk
   have iL:=h1 _ hb
   exact ⟨⟨cs,hc,b,iL,hh⟩,fun n hn=>by simpa [SB.aT,hb,iL] using hn,fun n hn=>by simpa [SB.aT,hb,iL] using hn,rfl⟩
 | dF k xs ty=>
   cases hr
   obtain ⟨v,hσ,hh⟩:=hk
   have gN:=h2 _ hσ
   exact ⟨⟨cs,hc,v,gN,hh⟩,fun n hn=>by simpa [SB.aT,hσ,gN] using hn,fun n hn=>by simpa [SB.aT,hσ,gN] using hn,rfl⟩
 | fQ sz n ty=>
   cases hr
   obtain ⟨v,us,hσ,hh⟩:=hk
   have gN:=h2 _ hσ
   exact ⟨⟨cs,hc,v,us,gN,hh⟩,fun n hn=>by simpa [SB.aT,hσ,gN] using hn,fun n hn=>by simpa [SB.aT,hσ,gN] using hn,rfl⟩
 | eQ cells=>cases hr
 | nT k xs=>cases hr
 | gC k xs=>cases hr
 | rC xs=>cases hr
 | eK xs ty=>
   cases hr
   obtain ⟨v,hσ,hh⟩:=hk
   have gN:=h2 _ hσ
   exact ⟨⟨cs,hc,v,gN,hh⟩,fun n hn=>by simpa [SB.aT,hσ,gN] using hn,fun n hn=>by simpa [SB.aT,hσ,gN] using hn,rfl⟩
 | gone=>
   cases hr
   exact ⟨⟨[],rfl,trivial⟩,fun n hn=>by simp [SB.aT] at hn,fun n hn=>by simp [SB.aT] at hn,rfl⟩
theorem vS {ρ : Nat->Option Nat} {B B':SB} (h:yU ρ B=some B'):B'.owned=true\/B' = .gone:=by
 cases B <;> simp only [yU] at h <;> (try split at h) <;> first | (cases h;done) | (cases h;first | exact .inl rfl | exact .inr rfl)
def jM (V:bA) (T:aX) (n:Nat):Prop:=∃ l B,T l=some B/\B.owned=true/\B.aT V l=some n
theorem aD.part {w0 w:World} {M:Nat->Prop} {V:bA} {T T2:aX} (h:aD w0 M V T2 w) (aR:∀ l B,T l=some B->T2 l=some B):aD w (jM V T) V T w:=
 ⟨fun l B hl=>h.ok l B (aR l B hl),fun l B l' B' n dI hl sL=>h.iY l B l' B' n dI (aR l B hl) (aR l' B' sL),fun l B _ hl ho hb=>.inr ⟨l,B,hl,ho,hb⟩,gR.refl w _⟩
theorem aD.called {w0 w w':World} {M:Nat->Prop} {V V1 V2:bA} {T T2 Tf T':aX} (h:aD w0 M V T2 w) (aR:∀ l B,T l=some B->T2 l=some B)
 (hf:aD w (jM V T) V1 Tf w') (hV:V.le V2) (src:Nat->Option Nat)
 (pU:∀ l B,T' l=some B->(∃ k,src l=some k/\∃ C,Tf k=some C/\okB V2 w' l B/\(∀ n,B.aT V2 l=some n->C.aT V1 k=some n)/\B.owned=C.owned/\(B.owned=true\/B = .gone\/T2 l=some B))\/(src l=none/\T l=none/\T2 l=some B))
 (aXe:∀ l l' k,src l=some k->src l'=some k->l=l'):aD w0 M V2 T' w':=by
 have fF:∀ l B n,T2 l=some B->B.aT V2 l=some n->B.aT V l=some n:=fun l B n hl hb=>by rwa [(h.ok l B hl).tE hV] at hb
 have PZ:∀ l B n,T l=none->T2 l=some B->B.aT V l=some n->¬ jM V T n:=by
  rintro l B n h1 h2 h3 ⟨l1,B1,h4,h5,h6⟩
  have dI:l1≠l:=fun e=>by subst e;rw [h1] at h4;cases h4
  exact h.iY l1 B1 l B n dI (aR l1 B1 h4) h2 h5 h6 h3
 have Xx:∀ l B n,T l=none->T2 l=some B->B.aT V l=some n->∀ k C,Tf k=some C->C.owned=true->C.aT V1 k≠some n:=by
  intro l B n h1 h2 h3 k C hk ho hb
  have cM:=(h.ok l B h2).lt h3
  rcases hf.perm k C n hk ho hb with QB | hm
  .omega
  .exact PZ l B n h1 h2 h3 hm
 refine ⟨fun l B hl=>?_,fun l B l' B' n dI hl sL ho hb iL=>?_,fun l B n hl ho hb=>?_,?_⟩
 .rcases pU l B hl with ⟨k,_,C,_,kX,_⟩ | ⟨_,h1,h2⟩
  .exact kX
  .refine (h.ok l B h2).qD hV hf.frame.size fun n hn=>?_
   exact hf.frame.block n ((h.ok l B h2).lt hn) (PZ l B n h1 h2 hn)
 .rcases pU l B hl with ⟨k,hk,C,hC,_,Fj,hoC,fH⟩ | ⟨hk,h1,h2⟩ <;> rcases pU l' B' sL with ⟨k',gX,C',hC',_,Xy,aXc,FT⟩ | ⟨gX,Ov,BL⟩
  .have Ad:k≠k':=fun e=>dI (aXe l l' k hk (e ▸ gX))
   exact hf.iY k C k' C' n Ad hC hC' (hoC ▸ ho) (Fj n hb) (Xy n iL)
  .exact Xx l' B' n Ov BL (fF l' B' n BL iL) k C hC (hoC ▸ ho) (Fj n hb)
  .rcases FT with FT | rfl | aNq
   .exact Xx l B n h1 h2 (fF l B n h2 hb) k' C' hC' (aXc ▸ FT) (Xy n iL)
   .simp [SB.aT] at iL
   .exact h.iY l B l' B' n dI h2 aNq ho (fF l B n h2 hb) (fF l' B' n aNq iL)
  .exact h.iY l B l' B' n dI h2 BL ho (fF l B n h2 hb) (fF l' B' n BL iL)
 .rcases pU l B hl with ⟨k,hk,C,hC,_,Fj,hoC,fH⟩ | ⟨hk,h1,h2⟩
  .rcases hf.perm k C n hC (hoC ▸ ho) (Fj n hb) with QB | ⟨l1,B1,h4,h5,h6⟩
   .have:=h.frame.size;left;omega
   .exact h.perm l1 B1 n (aR l1 B1 h4) h5 h6
  .exact h.perm l B n h2 ho (fF l B n h2 hb)
 .refine h.frame.trans hf.frame fun n hn ⟨l1,B1,h4,h5,h6⟩=>?_
  rcases h.perm l1 B1 n (aR l1 B1 h4) h5 h6 with QB | hm
  .omega
  .exact hm
def aZ (F:Nat) (T:aX):aX:=fun l=>match Nat.blt l F with
 | true=>T l
 | false=>none
theorem kK {F:Nat} {T:aX} {l:Nat} {B:SB} (h:aZ F T l=some B):l<F/\T l=some B:=by
 unfold aZ at h
 split at h
 .rename_i hb;exact ⟨by simpa [Nat.blt_eq] using hb,h⟩
 .cases h
noncomputable def Br:List SV->Nat->Tr SV->Option (Tr SV)
 | [],_,t=>some t
 | v::r,i,t=>match Tr.put v 64 t i with
   | some t=>Br r (i+1) t
   | none=>none
theorem xN:∀ {vs:List SV} {i:Nat} {t t':Tr SV},Br vs i t=some t'->∀ m,t'.get m=if i<=m/\m<i+vs.length then vs[m-i]? else t.get m
 | [],i,t,t',h,m=>by
   simp only [Br,aW] at h
   subst h
   rw [if_neg (by simp)]
 | v::r,i,t,t',h,m=>by
   simp only [Br] at h
   split at h
   .rename_i t1 h1
    rw [xN h m]
    by_cases e:m=i
    .subst e
     rw [if_neg (by omega),Tr.gQ _ _ _ _ _ h1,if_pos rfl,if_pos (by simp)]
     simp
    .by_cases e2:i+1<=m/\m<i+1+r.length
     .rw [if_pos e2,if_pos (by simp;omega),show m-i=(m-(i+1))+1 from by omega]
      simp
     .rw [if_neg e2,Tr.gQ _ _ _ _ _ h1,if_neg e,if_neg (by simp;omega)]
   .cases h
mutual
def fG:SV->List Nat
 | .ptr l _ _=>[l]
 | .aH l _ _ _ _=>[l]
 | .agg vs=>Bp vs
 | .eD vs=>Bp vs
 | .fn _ xs ys=>Bp xs++Bp ys
 | .pX _ v=>fG v
 | .buf l=>[l]
 | .iZ l _=>[l]
 | .mG l _ _=>[l]
 | .iH l _=>[l]
 | .pT l _ _ _ _ le=>[l,le]
 | .dJ l _ _ _=>[l]
 | _=>[]
def Bp:List SV->List Nat
 | []=>[]
 | v::r=>fG v++Bp r
end
def FO:SB->List Nat
 | .own cs _=>Bp cs
 | .row _ cs _=>Bp cs
 | _=>[]
noncomputable def reach (F:Nat) (tb:Tr SB):Nat->List Nat->List Nat->List Nat
 | 0,_,acc=>acc
 | _+1,[],acc=>acc
 | f+1,l::r,acc=>match Nat.blt l F||acc.elem l with
   | true=>reach F tb f r acc
   | false=>match tb.get l with
     | some B=>reach F tb f (FO B++r) (acc++[l])
     | none=>reach F tb f r acc
def Em (l:Nat):List Nat->Nat->Option Nat
 | [],_=>none
 | k::r,i=>match Nat.beq k l with
   | true=>some i
   | false=>Em l r (i+1)
theorem uS {l:Nat}:∀ {ls:List Nat} {i j:Nat},Em l ls i=some j->i<=j/\ls[j-i]?=some l
 | [],i,j,h=>by cases h
 | k::r,i,j,h=>by
   simp only [Em] at h
   split at h
   .rename_i hb
    cases h
    have:=cP hb
    subst this
    simp
   .obtain ⟨h1,h2⟩:=uS h
    refine ⟨by omega,?_⟩
    rw [show j-i=(j-(i+1))+1 from by omega]
    simpa using h2
def Fs:List Nat->Bool
 | []=>true
 | k::r=>match r.elem k with
   | true=>false
   | false=>Fs r
theorem vU:∀ {ls:List Nat},Fs ls=true->∀ {i j k:Nat},ls[i]?=some k->ls[j]?=some k->i=j
 | [],_,i,j,k,hi,_=>by simp at hi
 | a::r,h,i,j,k,hi,hj=>by
   simp only [Fs] at h
   split at h
   .cases h
   .rename_i hn
    have hn:a ∉ r:=by simpa using hn
    cases i with
    | zero=>
      simp only [List.getElem?_cons_zero,aW] at hi
      subst hi
      cases j with
      | zero=>rfl
      | succ j=>simp only [List.getElem?_cons_succ] at hj;exact absurd (List.mem_of_getElem? hj) hn
    | succ i=>
      simp only [List.getElem?_cons_succ] at hi
      cases j with
      | zero=>simp only [List.getElem?_cons_zero,aW] at hj;subst hj;exact absurd (List.mem_of_getElem? hi) hn
      | succ j=>simp only [List.getElem?_cons_succ] at hj;rw [vU h hi hj]
def nm (F lab:Nat) (ls:List Nat) (l:Nat):Option Nat:=match Nat.blt l F with
 | true=>some l
 | false=>match Em l ls 0 with
   | some i=>some (lab+i)
   | none=>none
noncomputable def sV (ρ : Nat->Option Nat) (tb:Tr SB):List Nat->Option (List SB)
 | []=>some []
 | l::r=>match tb.get l with
   | some B=>match yU ρ B,sV ρ tb r with
     | some B,some bs=>some (B::bs)
     | _,_=>none
   | none=>none
theorem tI {ρ : Nat->Option Nat} {tb:Tr SB}:∀ {ls:List Nat} {bs:List SB},sV ρ tb ls=some bs->bs.length=ls.length/\∀ (i:Nat) (B:SB),bs[i]?=some B->∃ (l:Nat) (C:SB),ls[i]?=some l/\tb.get l=some C/\yU ρ C=some B
 | [],bs,h=>by simp only [sV,aW] at h;subst h;simp
 | l::r,bs,h=>by
   simp only [sV] at h
   split at h
   .rename_i C hC
    split at h
    .rename_i B' bs' hB QD
     cases h
     obtain ⟨h1,h2⟩:=tI QD
     refine ⟨by simp [h1],fun i B hi=>?_⟩
     cases i with
     | zero=>simp only [List.getElem?_cons_zero,aW] at hi;subst hi;exact ⟨l,C,rfl,hC,hB⟩
     | succ i=>simpa using h2 i B (by simpa using hi)
    .cases h
   .cases h
def nY:List Nat->List SB->List (Nat × SB)
 | l::ls,b::bs=>(l,b)::nY ls bs
 | _,_=>[]
theorem mQ:∀ {ls:List Nat} {bs:List SB} {l:Nat} {B:SB},look l (nY ls bs)=some B->∃ i:Nat,ls[i]?=some l/\bs[i]?=some B
 | [],_,l,B,h=>by simp [nY,look] at h
 | _::_,[],l,B,h=>by simp [nY,look] at h
 | k::ls,b::bs,l,B,h=>by
   simp only [nY] at h
   by_cases e:k=l
   .subst e;rw [aI] at h;cases h;exact ⟨0,rfl,rfl⟩
   .rw [aE e] at h
    obtain ⟨i,h1,h2⟩:=mQ h
    exact ⟨i+1,by simpa using h1,by simpa using h2⟩
theorem kW:∀ {ls:List Nat} {bs:List SB} {l:Nat},bs.length=ls.length->look l (nY ls bs)=none->l ∉ ls
 | [],_,l,_,_=>by simp
 | _::_,[],l,hl,_=>by simp at hl
 | k::ls,b::bs,l,hl,h=>by
   simp only [nY] at h
   by_cases e:k=l
   .subst e;rw [aI] at h;cases h
   .rw [aE e] at h
    have:=kW (by simpa using hl) h
    simp only [List.mem_cons,not_or]
    exact ⟨fun q=>e q.symm,this⟩
def SH (Γ:Env) (g:Nat->Option SV) (T:aX):ResultVar->Option (List Prop × SV)
 | .tmp t=>(g t).map fun v=>([],v)
 | .cell a t=>match g a,Γ.ty t with
   | some (.ptr l true off),some ti=>match T l with
     | some B=>match DQ Γ ti.desc,B,Nat.beq off 0 with
       | some _,.ints k xs _,true=>some ([xs.length=ti.size],.ai k xs)
       | _,_,_=>match Tc B true off ti.size with
         | some (ob,r)=>match sP ti.desc with
           | true=>some (ob,.agg r)
           | false=>match r with
             | [v]=>some (ob,v)
             | _=>none
         | none=>none
     | none=>none
   | _,_=>none
def Aq (Γ:Env) (g:Nat->Option SV) (T:aX):List ResultVar->Option (List Prop × List SV)
 | []=>some ([],[])
 | r::rs=>match SH Γ g T r,Aq Γ g T rs with
   | some (a,v),some (b,vs)=>some (a++b,v::vs)
   | _,_=>none
noncomputable def St.PM (s:St) (ob:List Prop):St:={ s with ob:=ob++s.ob }
def res (vs:List SV):SV:=match vs with
 | [v]=>v
 | _=>.eD vs
noncomputable def finish (F lab:Nat) (s:St) (v:SV):Option bK:=
 match sV some s.tb s.ws with
 | none=>none
 | some bs0=>
   let ls:=reach F s.tb 4096 (fG v++(bs0.map FO).flatten) []
   match Ab (nm F lab ls) v,sV (nm F lab ls) s.tb ls,sV (nm F lab ls) s.tb s.ws,Nat.ble ls.length 8&&(Fs ls&&(ls.all (fun l=>Nat.ble F l)&&s.ws.all (fun l=>Nat.blt l F))) with
   | some v,some new,some wr,true=>some { bO:=s.ob,val:=v,new:=new,wr:=nY s.ws wr }
   | _,_,_,_=>none
noncomputable def kH (Γ:Env) (B:aX) (F0 N:Nat):List SV->St->Option St
 | [],s=>some s
 | v::r,s=>match v with
   | .fn (.func id) args Hr=>match Γ.TT id with
     | some S=>match S (args++Hr) (s.T B) s.nx (s.nx+8) with
       | some e=>match s.step F0 N none e s.nx (s.nx+8) with
         | some s'=>kH Γ B F0 N r s'
         | none=>none
       | none=>none
     | none=>none
   | _=>none
def rdS (dd:Bool) (o:Option St) (df:List SV) (s:St):Option St:=match dd with
 | true=>o
 | false=>match df with
   | []=>some s
   | _=>none
noncomputable def aK (Γ:Env) (fn:Func) (dd:Bool) (hs:List Bool) (fuel:Nat):Sum:=fun vs T lab F=>
 match fn.body,Nat.ble vs.length fn.ntmps,Br vs 0 .lf with
 | some c,true,some g=>match exec Γ (aZ F T) F fn.ntmps fuel c { g:=g,tb:=.lf,nx:=F,ws:=[],ob:=[],hs:=hs } with
   | some (s,x)=>match x with
     | .exit _=>none
     | _=>match rdS dd (kH Γ (aZ F T) F fn.ntmps s.df s) s.df s with
       | some s=>match Aq Γ s.g.get (s.T (aZ F T)) fn.results.toList with
         | some (ob,rs)=>finish F lab (s.PM ob) (res rs)
         | none=>none
       | none=>none
   | none=>none
 | _,_,_=>none
def Pg (tmps:Array Value):ResultVar->Sem Value
 | .tmp t=>pure (tmps.getD t undef)
 | .cell b t=>do loadVar t (<- asAddr (tmps.getD b undef))
theorem XF {P:Program} {Γ:Env} {w0 w:World} {M:Nat->Prop} {V:bA} {T:aX} {g:Nat->Option SV} {a:Act} (aU:cD P Γ) (ht:cJ V g a) (hT:aD w0 M V T w) {r:ResultVar} {v:SV} {ob:List Prop} (h:SH Γ g T r=some (ob,v)) (ho:∀ q∈ob,q) :
 ∃ x,den V v=some x/\(Pg a.tmps r).run P w = .ok x w:=by
 cases r with
 | tmp t=>
   simp only [SH,dH,Prod.mk.injEq] at h
   obtain ⟨u,hu,_,rfl⟩:=h
   exact ⟨_,ht t u hu,rfl⟩
 | cell b t=>
   simp only [SH] at h
   split at h
   case h_2=>cases h
   rename_i l off ti hb eA
   have ex:=ht b _ hb
   simp only [den,dH] at ex
   obtain ⟨⟨bk,base⟩,hβ,ex⟩:=ex
   obtain ⟨hu,i,z,hi,gF,_⟩:=aU t ti eA
   have ex':a.tmps.getD b undef = .pointer (some ⟨bk,base+off,none⟩):=ex.symm
   split at h
   case h_2=>cases h
   rename_i B hB
   have kX:=hT.ok l B hB
   split at h
   .rename_i k0 k xs ty ha h0
    cases h
    have h0:=cP h0
    subst h0
    have hlen:xs.length=ti.size:=ho _ (by simp)
    have gH:sP ti.desc=true:=by
     unfold DQ at ha
     split at ha
     .rename_i hd;rw [hd];rfl
     .cases ha
    have hr:Tc (.ints k xs ty) false 0 ti.size=some ([0+ti.size<=xs.length],(List.range ti.size).map fun j=>.int false k (xs.getD (0+j) 0)):=rfl
    obtain ⟨zs,g1,g2,g3⟩:=oX kX hβ hr (by intro q hq;simp only [List.mem_singleton] at hq;subst hq;omega)
    rw [fM (V:=V) ti.size (fun j=>.int false k (xs.getD (0+j) 0)) (fun j=>.int k (xs.getD (0+j) 0)) (fun j _=>rfl),pO xs 0 ti.size (by omega) k] at g1
    cases g1
    have:=(dS hu hi bk (base+0) _ (by rw [g2,gF]) g3).1 gH
    refine ⟨.agg (((xs.drop 0).take ti.size).map (Value.int k)).toArray,by rw [List.drop_zero,<- hlen,List.take_length];rfl,?_⟩
    simp only [Pg,ex',asAddr,Sem.run_bind,Sem.run_pure,Result.andThen_ok,this]
   .split at h
    case h_2=>cases h
    rename_i ob' r hr
    split at h
    .rename_i gH
     cases h
     obtain ⟨xs,h1,h2,h3⟩:=oX kX hβ hr ho
     have:=(dS hu hi bk (base+off) xs (by rw [h2,gF]) h3).1 gH
     refine ⟨.agg xs.toArray,by simp [den,h1],?_⟩
     simp only [Pg,ex',asAddr,Sem.run_bind,Sem.run_pure,Result.andThen_ok,this]
    .rename_i gH
     split at h
     case h_2=>cases h
     rename_i v'
     cases h
     obtain ⟨xs,h1,h2,h3⟩:=oX kX hβ hr ho
     obtain ⟨y,rfl,hy⟩:=qS h1
     have:=(dS hu hi bk (base+off) [y] (by rw [h2,gF]) h3).2 gH y rfl
     refine ⟨y,hy,?_⟩
     simp only [Pg,ex',asAddr,Sem.run_bind,Sem.run_pure,Result.andThen_ok,this]
theorem XE {P:Program} {Γ:Env} {w0 w:World} {M:Nat->Prop} {V:bA} {T:aX} {g:Nat->Option SV} {a:Act} (aU:cD P Γ) (ht:cJ V g a) (hT:aD w0 M V T w) {l:List ResultVar} {vs:List SV} {ob:List Prop} (h:Aq Γ g T l=some (ob,vs)) (ho:∀ q∈ob,q) :
 ∃ xs,aJ V vs=some xs/\(l.mapM (Pg a.tmps)).run P w = .ok xs w:=by
 induction l generalizing vs ob with
 | nil=>simp only [Aq,aW,Prod.mk.injEq] at h;obtain ⟨_,rfl⟩:=h;exact ⟨[],rfl,by simp⟩
 | cons r l ih=>
   simp only [Aq] at h
   split at h
   .rename_i oa v ob' us hv Dy
    cases h
    obtain ⟨x,hx,hrx⟩:=XF aU ht hT hv (fun q hq=>ho q (List.mem_append_left _ hq))
    obtain ⟨xs,nL,Xd⟩:=ih Dy (fun q hq=>ho q (List.mem_append_right _ hq))
    refine ⟨x::xs,by simp [aJ,hx,nL],?_⟩
    rw [List.mapM_cons]
    simp only [Sem.run_bind]
    rw [hrx]
    simp only [Result.andThen_ok,Xd,Sem.run_pure]
   .cases h
theorem Dm {P:Program} {Γ:Env} {w0 w:World} {M:Nat->Prop} {V:bA} {T:aX} {g:Nat->Option SV} {a:Act} (aU:cD P Γ) (ht:cJ V g a) (hT:aD w0 M V T w) {fn:Func} {vs:List SV} {ob:List Prop} (h:Aq Γ g T fn.results.toList=some (ob,vs)) (ho:∀ q∈ob,q) :
 ∃ x,den V (res vs)=some x/\(results fn a.tmps).run P w = .ok x w:=by
 obtain ⟨xs,h1,h2⟩:=XE (P:=P) aU ht hT h ho
 have h3:(fn.results.mapM (Pg a.tmps)).run P w = .ok xs.toArray w:=by
  rw [Array.mapM_eq_mapM_toList]
  simp only [Sem.run_map,h2]
  rfl
 have h4:results fn a.tmps=(do let vs <- fn.results.mapM (Pg a.tmps);pure (if h:vs.size=1 then vs[0] else .tuple vs)):=by
  unfold results
  congr 1
 rw [h4]
 simp only [Sem.run_bind,h3,Result.andThen_ok,Sem.run_pure]
 unfold res
 split
 .rename_i v
  obtain ⟨x,rfl,hx⟩:=qS h1
  exact ⟨x,hx,by simp⟩
 .rename_i dI
  refine ⟨.tuple xs.toArray,by simp [den,h1],?_⟩
  have hl:=bH h1
  have:xs.toArray.size≠1:=by
   simp only [List.size_toArray,hl]
   intro q
   match vs,q with
   | [v],_=>exact dI v rfl
  rw [dif_neg this]
theorem Inv.PM {P:Program} {Γ:Env} {w0:World} {M:Nat->Prop} {B:aX} {N F0:Nat} {V0:bA} {s:St} {V:bA} {a:Act} {w:World} (hi:Inv P Γ w0 M B N F0 V0 s V a w) (ob:List Prop):Inv P Γ w0 M B N F0 V0 (s.PM ob) V a w:=
 ⟨hi.tmp,hi.keys,hi.size,hi.defers,hi.eW,hi.aO,hi.top,hi.le,hi.low,hi.ch,hi.nx,hi.hi⟩
theorem Gr {P:Program} {Γ:Env} {w0 w w':World} {M:Nat->Prop} {V V1:bA} {T T2:aX} {N F lab:Nat} {s:St} {a':Act} {v:SV} {e:bK} {x:Value}
 (hT2:aD w0 M V T2 w) (aR:∀ l B,T l=some B->T2 l=some B) (hf:V.fresh lab)
 (hI:Inv P Γ w (jM V (aZ F T)) (aZ F T) N F V s V1 a' w') (hx:den V1 v=some x) (h:finish F lab s v=some e) :
 e.bO=s.ob/\∃ V2,V.ext lab V2/\den V2 e.val=some x/\aD w0 M V2 (eT T2 lab e) w':=by
 unfold finish at h
 split at h
 case h_1=>cases h
 rename_i bs0 _
 obtain ⟨ls,hls⟩:∃ ls,ls=reach F s.tb 4096 (fG v++(bs0.map FO).flatten) []:=⟨_,rfl⟩
 simp only [<- hls] at h
 split at h
 case h_2=>cases h
 rename_i v' new wr hv CY Xb kE
 cases h
 simp only [iN] at kE
 obtain ⟨BK,tV,hc3,hc4⟩:=kE
 have hlen:=jX BK
 have SX:∀ (i k:Nat),ls[i]?=some k->F<=k:=fun i k hk=>jX (List.all_eq_true.1 hc3 k (List.mem_of_getElem? hk))
 have CU:∀ (i k:Nat),s.ws[i]?=some k->k<F:=fun i k hk=>by have:=List.all_eq_true.1 hc4 k (List.mem_of_getElem? hk);simpa [Nat.blt_eq] using this
 obtain ⟨CA,hng⟩:=tI CY
 obtain ⟨hwl,hwg⟩:=tI Xb
 refine ⟨rfl,⟨fun l=>if lab<=l/\l<lab+ls.length then (ls[l-lab]?).bind V1.β else V.β l,fun l=>if lab<=l/\l<lab+ls.length then (ls[l-lab]?).bind V1.σ else V.σ l⟩,?_⟩
 generalize hV2:(⟨fun l=>if lab<=l/\l<lab+ls.length then (ls[l-lab]?).bind V1.β else V.β l,fun l=>if lab<=l/\l<lab+ls.length then (ls[l-lab]?).bind V1.σ else V.σ l⟩:bA)=V2
 have out:∀ l,¬ (lab<=l/\l<lab+ls.length)->V2.β l=V.β l/\V2.σ l=V.σ l:=fun l hl=>by
  subst hV2;exact ⟨if_neg hl,if_neg hl⟩
 have inn:∀ i k,ls[i]?=some k->V2.β (lab+i)=V1.β k/\V2.σ (lab+i)=V1.σ k:=fun i k hk=>by
  have hi:=(List.getElem?_eq_some_iff.1 hk).1
  have hr:lab<=lab+i/\lab+i<lab+ls.length:=⟨by omega,by omega⟩
  subst hV2
  refine ⟨(if_pos hr).trans ?_,(if_pos hr).trans ?_⟩ <;> (rw [show lab+i-lab=i from by omega,hk];rfl)
 have bU:V.ext lab V2:=by
  refine ⟨⟨fun l p hp=>?_,fun l p hp=>?_⟩,fun l hl=>out l (by omega)⟩
  .rw [(out l (fun hr=>by have:=(hf l hr.1 (by omega)).1;rw [this] at hp;cases hp)).1];exact hp
  .rw [(out l (fun hr=>by have:=(hf l hr.1 (by omega)).2;rw [this] at hp;cases hp)).2];exact hp
 have yX:Bz (nm F lab ls) V1 V2:=by
  intro l l' hl
  unfold nm at hl
  split at hl
  .rename_i hb
   cases hl
   have hlF:l<F:=by simpa [Nat.blt_eq] using hb
   have nU:=hI.low l hlF
   rw [nU.1,nU.2]
   exact ⟨fun p hp=>bU.1.1 l p hp,fun p hp=>bU.1.2 l p hp⟩
  .split at hl
   .rename_i i hi
    cases hl
    obtain ⟨_,h2⟩:=uS hi
    have:=inn i l (by simpa using h2)
    rw [this.1,this.2]
    exact ⟨fun p hp=>hp,fun p hp=>hp⟩
   .cases hl
 refine ⟨bU,Ce yX hv hx,?_⟩
 have aNk:∀ l B,aZ F T l=some B->T2 l=some B:=fun l B hl=>aR l B (kK hl).2
 refine aD.called hT2 aNk hI.eW bU.1 (fun l=>if l∈s.ws then some l else if lab<=l/\l<lab+ls.length then ls[l-lab]? else (aZ F T l).map fun _=>l) (fun l B hl=>?_) (fun l l' k hk gX=>?_)
 .unfold eT bK.eW at hl
  simp only at hl
  rw [cE] at hl
  cases hw:look l (nY s.ws wr) with
  | some b=>
    rw [hw] at hl
    cases hl
    obtain ⟨i,h1,h2⟩:=mQ hw
    obtain ⟨k,C,h3,h4,h5⟩:=hwg i _ h2
    rw [h1] at h3;cases h3
    have aEs:l∈s.ws:=List.mem_of_getElem? h1
    have Ag:s.T (aZ F T) l=some C:=by simp only [St.T,h4]
    have QT:nm F lab ls l=some l:=by
     unfold nm
     have:Nat.blt l F=true:=by simpa [Nat.blt_eq] using CU i l h1
     rw [this]
    obtain ⟨r1,r2,r3,r4⟩:=qQ yX QT h5 (hI.eW.ok l C Ag)
    refine .inl ⟨l,if_pos aEs,C,Ag,r1,r2,r4,?_⟩
    rcases vS h5 with q | q
    .exact .inl q
    .exact .inr (.inl q)
  | none=>
    rw [hw] at hl
    have SS:=kW hwl hw
    rw [fD] at hl
    by_cases hr:lab<=l/\l<lab+ls.length
    .have cM:l-lab<new.length:=by rw [CA];omega
     rw [if_pos hr.1,List.getElem?_eq_getElem cM] at hl
     cases hl
     obtain ⟨k,C,h3,h4,h5⟩:=hng (l-lab) _ (List.getElem?_eq_getElem cM)
     have Ag:s.T (aZ F T) k=some C:=by simp only [St.T,h4]
     have QT:nm F lab ls k=some l:=by
      unfold nm
      have hb:Nat.blt k F=false:=by
       cases hb:Nat.blt k F with
       | false=>rfl
       | true=>have:=SX _ _ h3;have:k<F:=by simpa [Nat.blt_eq] using hb
               omega
      rw [hb]
      simp only
      cases QX:Em k ls 0 with
      | none=>
        exfalso
        have:∀ (ms:List Nat) (i:Nat),Em k ms i=none->k ∉ ms:=by
         intro ms
         induction ms with
         | nil=>intro i _;simp
         | cons a r ih=>
           intro i hi
           simp only [Em] at hi
           split at hi
           .cases hi
           .rename_i hb
            have:=beq_false hb
            simp only [List.mem_cons,not_or]
            exact ⟨fun q=>this q.symm,ih _ hi⟩
        exact this ls 0 QX (List.mem_of_getElem? h3)
      | some i=>
        simp only
        obtain ⟨_,h6⟩:=uS QX
        have:=vU tV h3 (by simpa using h6)
        congr 1
        omega
     obtain ⟨r1,r2,r3,r4⟩:=qQ yX QT h5 (hI.eW.ok k C Ag)
     refine .inl ⟨k,(if_neg SS).trans ((if_pos hr).trans h3),C,Ag,r1,r2,r4,?_⟩
     rcases vS h5 with q | q
     .exact .inl q
     .exact .inr (.inl q)
    .have PZ:(if lab<=l then new[l-lab]? else none)=none:=by
      split
      .apply List.getElem?_eq_none;rw [CA];omega
      .rfl
     rw [PZ] at hl
     simp only at hl
     cases hc:aZ F T l with
     | none=>exact .inr ⟨(if_neg SS).trans ((if_neg hr).trans (rfl)),rfl,hl⟩
     | some B0=>
       have hB0:=aNk l B0 hc
       rw [hl] at hB0;cases hB0
       have hlF:=(kK hc).1
       have Ag:s.T (aZ F T) l=some B:=by simp only [St.T,hI.ch l hlF SS,hc]
       have aWy:=hI.eW.ok l B Ag
       have aNg:=hT2.ok l B hl
       refine .inl ⟨l,(if_neg SS).trans ((if_neg hr).trans (rfl)),B,Ag,?_,fun n hn=>?_,rfl,.inr (.inr hl)⟩
       .obtain ⟨cs,d1,d2⟩:=aWy
        obtain ⟨cs0,d3,_⟩:=aNg
        have:=SB.iM hI.le d3
        rw [d1] at this;cases this
        refine ⟨cs,SB.iM bU.1 d3,?_⟩
        have e1:=(hI.low l hlF).1
        have e2:=(hI.low l hlF).2
        cases B with
        | own cells ty=>obtain ⟨b,hb,hh⟩:=d2;exact ⟨b,bU.1.1 _ _ (e1 ▸ hb),hh⟩
        | ints k xs ty=>obtain ⟨b,hb,hh⟩:=d2;exact ⟨b,bU.1.1 _ _ (e1 ▸ hb),hh⟩
        | eN vs ty=>obtain ⟨b,hb,hh⟩:=d2;exact ⟨b,bU.1.1 _ _ (e1 ▸ hb),hh⟩
        | eQ cells=>obtain ⟨b,o,hb,hh⟩:=d2;exact ⟨b,o,bU.1.1 _ _ (e1 ▸ hb),hh⟩
        | nT k xs=>obtain ⟨b,o,hb,hh⟩:=d2;exact ⟨b,o,bU.1.1 _ _ (e1 ▸ hb),hh⟩
        | dF k xs ty=>obtain ⟨v,hv,hh⟩:=d2;exact ⟨v,bU.1.2 _ _ (e2 ▸ hv),hh⟩
        | fQ sz n ty=>obtain ⟨v,us,hv,hh⟩:=d2;exact ⟨v,us,bU.1.2 _ _ (e2 ▸ hv),hh⟩
        | row sz cells ty=>obtain ⟨b,cap,cur,hb,hσ,r⟩:=d2;exact ⟨b,cap,cur,bU.1.1 _ _ (e1 ▸ hb),bU.1.2 _ _ (e2 ▸ hσ),r⟩
        | gC k xs=>obtain ⟨v,hv,hh⟩:=d2;exact ⟨v,bU.1.2 _ _ (e2 ▸ hv),hh⟩
        | eK xs ty=>obtain ⟨v,hv,hh⟩:=d2;exact ⟨v,bU.1.2 _ _ (e2 ▸ hv),hh⟩
        | rC xs=>obtain ⟨v,hv,hh⟩:=d2;exact ⟨v,bU.1.2 _ _ (e2 ▸ hv),hh⟩
        | gone=>trivial
       .have h0:=aNg.tE bU.1
        rw [h0] at hn
        exact SB.aLw hI.le hn
 .have Fg:∀ (l k:Nat),(if l∈s.ws then some l else if lab<=l/\l<lab+ls.length then ls[l-lab]? else (aZ F T l).map fun _=>l)=some k ->
   (k=l/\l<F)\/(lab<=l/\ls[l-lab]?=some k/\F<=k):=by
   intro l k hk
   split at hk
   .rename_i hm
    cases hk
    obtain ⟨i,hi,hie⟩:=List.getElem_of_mem hm
    exact .inl ⟨rfl,CU i l (by rw [List.getElem?_eq_getElem hi,hie])⟩
   .split at hk
    .rename_i hr
     exact .inr ⟨hr.1,hk,SX _ _ hk⟩
    .simp only [dH] at hk
     obtain ⟨B,hB,rfl⟩:=hk
     exact .inl ⟨rfl,(kK hB).1⟩
  rcases Fg l k hk with ⟨h1,h2⟩ | ⟨h1,h2,h3⟩ <;> rcases Fg l' k gX with ⟨Ov,BL⟩ | ⟨Ov,BL,h3'⟩
  .omega
  .omega
  .omega
  .have:=vU tV h2 BL
   omega
theorem vR {Γ:Env} {B:aX} {F0 N:Nat}:∀ {l:List SV} {s s':St},kH Γ B F0 N l s=some s'->∀ q∈s.ob,q∈s'.ob
 | [],s,s',h,q,hq=>by simp only [kH,aW] at h;subst h;exact hq
 | v::r,s,s',h,q,hq=>by
   unfold kH at h
   split at h
   .split at h
    .split at h
     .split at h
      .rename_i s1 h1
       have:=(St.dP B h1).2.2.1
       exact vR h q (by rw [this];exact List.mem_append_right _ hq)
      .cases h
     .cases h
    .cases h
   .cases h
theorem Cu {P:Program} {Γ:Env} {w0:World} {M:Nat->Prop} {B:aX} {N F0:Nat} {V0:bA} (aV:cF P Γ) {fn:Func} {R:Ending->World->Prop} {tmps:Array Value} :
 ∀ {l:List SV} {s s':St} {V:bA} {a:Act} {w:World} {xs:List Value},kH Γ B F0 N l s=some s'->(∀ q∈s'.ob,q)->Inv P Γ w0 M B N F0 V0 s V a w->a.tmps=tmps->aJ V l=some xs ->
   (∀ V' a' w',Inv P Γ w0 M B N F0 V0 s' V' a' w'->a'.tmps=tmps->∃ v,(results fn tmps).run P w' = .ok v w'/\R (.returned v) w')->Leaves P fn tmps R (xs.map toD) .returning w
 | [],s,s',V,a,w,xs,h,ho,hi,ha,hx,hQ=>by
   simp only [kH,aW] at h
   subst h
   simp only [aJ,aW] at hx
   subst hx
   exact hQ V a w hi ha
 | v::r,s,s',V,a,w,xs,h,ho,hi,ha,hx,hQ=>by
   unfold kH at h
   split at h
   case h_2=>cases h
   rename_i id args Hr
   split at h
   case h_2=>cases h
   rename_i S hS
   split at h
   case h_2=>cases h
   rename_i e he
   split at h
   case h_2=>cases h
   rename_i s1 h1
   simp only [aJ,dH,gM] at hx
   obtain ⟨x,hx,ys,hy,rfl⟩:=hx
   simp only [den,gM,dH] at hx
   obtain ⟨aS,has,cs,kD,rfl⟩:=hx
   have rT:∀ q∈e.bO,q:=fun q hq=>ho q (vR h q (by rw [(St.dP B h1).2.2.1];exact List.mem_append_left _ hq))
   simp only [List.map_cons,toD]
   refine aV.2.1 id S hS _ _ _ _ _ he rT w0 M V _ w _ (fun _ _ hl=>hl) hi.eW hi.aO hi.top.fresh (hi.top.mono (by omega)) (cK has kD) fn tmps _ R (fun V' w' hV hT=>?_) aS.toArray cs.toArray (by simp)
   have fV:=hi.step (a:=a) (x:=undef) h1 (cT _) (cT _) hV (fun hd=>by cases hd) hT
   exact Cu aV h ho fV ha (cV hV.1 hy) hQ
theorem Yq {Γ:Env} {B:aX} {F0 N:Nat} {s s':St} (h:kH Γ B F0 N [] s=some s'):s'=s:=by
 simp only [kH,aW] at h;exact h.symm
theorem HN {o:Option St} {df:List SV} {s s2:St} (h:rdS false o df s=some s2):df=[]:=by
 unfold rdS at h
 split at h
 .rename_i h0;cases h0
 .split at h
  .rfl
  .cases h
theorem aHw {dd:Bool} {Γ:Env} {B:aX} {F0 N:Nat} {s s2:St} (h:rdS dd (kH Γ B F0 N s.df s) s.df s=some s2):kH Γ B F0 N s.df s=some s2:=by
 cases dd with
 | true=>exact h
 | false=>have:=HN h;unfold rdS at h;rw [this] at h |-;exact h
theorem yJ {P:Program} {Γ:Env} (aU:cD P Γ) (aV:cF P Γ) (gZ:P.follows .mixedOrders=true) {fn:Func} {dd:Bool} {hs:List Bool} {fuel:Nat} {vs:List SV} {T T2:aX} {lab F:Nat} {e:bK} {w0:World} {M:Nat->Prop} {V:bA} {w:World} {xs:List Value}
 (h:aK Γ fn dd hs fuel vs T lab F=some e) (ho:∀ q∈e.bO,q) (aR:∀ l B,T l=some B->T2 l=some B) (hT:aD w0 M V T2 w) (hg:bR Γ V) (hf:V.fresh lab) (hF:V.top F) (hx:aJ V vs=some xs)
 {R:Ending->World->Prop} (hR:∀ V' x w',V.ext lab V'->den V' e.val=some x->aD w0 M V' (eT T2 lab e) w'->R (.returned x) w') :
 ∃ c,fn.body=some c/\c.wp P (fun x a w=>bodyPostD P fn R x a w/\(dd=false->bodyPost P fn R x a w)) { tmps:=xs.toArray++Array.replicate (fn.ntmps-xs.toArray.size) undef,defers:=[] } w:=by
 unfold aK at h
 split at h
 case h_2=>cases h
 rename_i c g hb hn zK
 split at h
 case h_2=>cases h
 rename_i s x hex
 have hn:=jX hn
 have hlen:=bH hx
 have Lm:=xN zK
 have nL:xs.length=vs.length:=hlen
 have QY:Inv P Γ w (jM V (aZ F T)) (aZ F T) fn.ntmps F V { g:=g,tb:=.lf,nx:=F,ws:=[],ob:=[],hs:=hs } V { tmps:=xs.toArray++Array.replicate (fn.ntmps-xs.toArray.size) undef,defers:=[] } w:=by
  refine ⟨fun t v hv=>?_,fun d v hv=>?_,?_,⟨[],rfl,rfl⟩,?_,hg,hF,V.le_refl,fun l _=>⟨rfl,rfl⟩,fun l _ _=>rfl,cT _,fun l hl=>?_⟩
  .have:=Lm t
   simp only at hv
   rw [hv] at this
   split at this
   .rename_i hr
    obtain ⟨y,h1,h2⟩:=dR hx t v (by simpa using this.symm)
    rw [h2]
    have cM:t<xs.length:=by omega
    have rZ:xs[t]?=some y:=h1
    simp [Act.eval,Array.getD_eq_getD_getElem?,Array.getElem?_append,cM] at rZ |-
    exact rZ.symm
   .cases this
  .have:=Lm d
   simp only at hv
   rw [hv] at this
   split at this
   .omega
   .cases this
  .simp
   omega
  .have hp:=aD.part hT (T:=aZ F T) (fun l B hl=>aR l B (kK hl).2)
   have:St.T (aZ F T) { g:=g,tb:=.lf,nx:=F,ws:=[],ob:=[],hs:=hs }=aZ F T:=by funext l;rfl
   rw [this]
   exact hp
  .show (match Tr.get .lf l with | some b=>some b | none=>aZ F T l)=none
   simp only [Tr.kT]
   cases hc:aZ F T l with
   | none=>rfl
   | some B=>have:=(kK hc).1;simp only at hl;omega
 have fin:∀ s2,rdS dd (kH Γ (aZ F T) F fn.ntmps s.df s) s.df s=some s2->(match Aq Γ s2.g.get (s2.T (aZ F T)) fn.results.toList with
   | some (ob,rs)=>finish F lab (s2.PM ob) (res rs)
   | none=>none)=some e ->
   (∀ q∈s2.ob,q)/\∀ V' a' w',Inv P Γ w (jM V (aZ F T)) (aZ F T) fn.ntmps F V s2 V' a' w'->∃ v,(results fn a'.tmps).run P w' = .ok v w'/\R (.returned v) w':=by
  intro s2 h2 h3
  split at h3
  case h_2=>cases h3
  rename_i obr rs Xd
  have CD:e.bO=obr++s2.ob:=by
   unfold finish at h3
   split at h3
   .cases h3
   .simp only at h3
    split at h3
    .cases h3;rfl
    .cases h3
  refine ⟨fun q hq=>ho q (CD ▸ List.mem_append_right _ hq),fun V' a' w' fV=>?_⟩
  obtain ⟨v,hv1,hv2⟩:=Dm (P:=P) (fn:=fn) aU fV.tmp fV.eW Xd (fun q hq=>ho q (CD ▸ List.mem_append_left _ hq))
  obtain ⟨_,V2,k1,k2,k3⟩:=Gr hT aR hf (fV.PM obr) hv1 h3
  exact ⟨v,hv2,hR V2 v w' k1 k2 k3⟩
 have main:∀ s2,x.to = .normal\/x.to = .ret->rdS dd (kH Γ (aZ F T) F fn.ntmps s.df s) s.df s=some s2->(match Aq Γ s2.g.get (s2.T (aZ F T)) fn.results.toList with
   | some (ob,rs)=>finish F lab (s2.PM ob) (res rs)
   | none=>none)=some e->∃ c,fn.body=some c/\c.wp P (fun x a w=>bodyPostD P fn R x a w/\(dd=false->bodyPost P fn R x a w)) { tmps:=xs.toArray++Array.replicate (fn.ntmps-xs.toArray.size) undef,defers:=[] } w:=by
  intro s2 hxn h2 h3
  obtain ⟨rT,TB⟩:=fin s2 h2 h3
  have dY:=aHw h2
  refine ⟨c,hb,(aAn aU aV gZ fuel).1 hex (fun q hq=>rT q (vR dY q hq)) QY fun V' a' w' fV=>?_⟩
  obtain ⟨ys,gW,Fh⟩:=fV.defers
  have hl:Leaves P fn a'.tmps R a'.defers .returning w':=by
   rw [Fh]
   exact Cu aV dY rT fV rfl gW fun V3 a3 w3 hi3 ha3=>by
    obtain ⟨v,q1,q2⟩:=TB V3 a3 w3 hi3
    exact ⟨v,ha3 ▸ q1,q2⟩
  have hp:dd=false->a'.defers=[]/\∃ v,(results fn a'.tmps).run P w' = .ok v w'/\R (.returned v) w':=by
   intro hD
   have hdf:s.df=[]:=HN (hD ▸ h2)
   rw [hdf] at gW dY
   simp only [aJ,aW] at gW
   subst gW
   have:=Yq dY
   subst this
   exact ⟨Fh,TB V' a' w' fV⟩
  rcases hxn with q | q <;> (rw [q];exact ⟨hl,hp⟩)
 cases x with
 | exit id=>simp only at h;cases h
 | normal=>
   simp only at h
   split at h
   .rename_i s2 h2;exact main s2 (.inl rfl) h2 h
   .cases h
 | ret=>
   simp only at h
   split at h
   .rename_i s2 h2;exact main s2 (.inr rfl) h2 h
   .cases h
theorem gK {P:Program} {f:FuncId} {fn:Func} {c:Code} {args:Array Value} {w:World} (tU:P.funcs[f]?=some fn) (hb:fn.body=some c) (dI:(fn.name == "runtime.NumGoroutine")=false):(callFunc f args).run P w = .ok (.enter f args) w:=by
 unfold callFunc
 have yY:¬ fn.name = "runtime.NumGoroutine" := by simpa using dI
 simp [tU,hb,yY]
theorem aN {P:Program} {Γ:Env} (aU:cD P Γ) (aV:cF P Γ) (gZ:P.follows .mixedOrders=true) {f:FuncId} {fn:Func} (tU:P.funcs[f]?=some fn) (dI:(fn.name == "runtime.NumGoroutine")=false) (dd:Bool) (hs:List Bool) (fuel:Nat):aG P Γ f (aK Γ fn dd hs fuel):=by
 intro vs T lab F e h ho w0 M V T2 w xs aR hT hg hf hF hx o a K Q hK
 obtain ⟨c,hb,hwp⟩:=yJ aU aV gZ h ho aR hT hg hf hF hx (R:=fun
   | .returned v,QJ=>K (a.put o.dst v) QJ
   | .panicked chain,QJ=>Q (.panic chain) a QJ
   | .outgrown,_=>LetsOut Q) (fun V' x w' h1 h2 h3=>hK V' x w' h1 h2 h3)
 rw [gK tU hb dI,Oper.upon_enter]
 exact calls_of_wp_defers tU hb (wp_mono hwp fun x a w h=>h.1)
theorem Sb {P:Program} {Γ:Env} (aU:cD P Γ) (aV:cF P Γ) (gZ:P.follows .mixedOrders=true) {f:FuncId} {fn:Func} (tU:P.funcs[f]?=some fn) (dI:(fn.name == "runtime.NumGoroutine")=false) (hs:List Bool) (fuel:Nat):Cp P Γ f (aK Γ fn false hs fuel):=by
 intro vs T lab F e h ho w0 M V T2 w xs aR hT hg hf hF hx fn0 tmps ds R hK aS cs hac
 obtain ⟨c,hb,hwp⟩:=yJ aU aV gZ h ho aR hT hg hf hF hx (R:=fun e' QJ=>match e' with
   | .returned _=>Leaves P fn0 tmps R ds .returning QJ
   | _=>False) (fun V' x w' h1 _ h3=>hK V' w' h1 h3)
 have nL:xs.toArray=aS++cs:=by apply Array.ext';simp [<- hac]
 refine leaves_cons (by simp) (f:=f) (args:=aS++cs) ?_ ?_
 .show (callFunc f (aS++cs)).run P w=_
  rw [gK tU hb dI]
 .rw [<- nL]
  refine (callsD_of_wp (u:=.returning) tU hb (wp_mono hwp fun x a w h=>h.2 rfl)).mono fun e' u' w' h=>?_
  obtain ⟨rfl,h⟩:=h
  cases e' with
  | returned v=>exact h
  | panicked chain=>exact h.elim
  | outgrown=>exact h.elim
theorem aG.env {P:Program} {Γ Γ':Env} (h:Γ'.aO=Γ.aO) {f:FuncId} {S:Sum} (hs:aG P Γ f S):aG P Γ' f S:=
 fun vs T lab F e he ho w0 M V T2 w xs aR hT hg=>hs vs T lab F e he ho w0 M V T2 w xs aR hT (fun n l hn=>hg n l (h ▸ hn))
theorem Cp.env {P:Program} {Γ Γ':Env} (h:Γ'.aO=Γ.aO) {f:FuncId} {S:Sum} (hs:Cp P Γ f S):Cp P Γ' f S:=
 fun vs T lab F e he ho w0 M V T2 w xs aR hT hg=>hs vs T lab F e he ho w0 M V T2 w xs aR hT (fun n l hn=>hg n l (h ▸ hn))
noncomputable def Kn (P:Program) (aO:List (Nat × Nat)) (cmp:List Nat) (ex:Nat->Option Sum) (tw:List (Nat × Nat)) (fuel:Nat) (n:Nat):Env:=
 Nat.rec { ty:=tiP P,aO:=aO,sum:=ex,TT:=fun _=>none,cmp:=cmp }
  (fun _ Γ=>{ ty:=tiP P,aO:=aO,cmp:=cmp
              sum:=fun f=>match ex f with
               | some S=>some S
               | none=>match P.funcs[(look f tw).getD f]? with
                 | some fn=>some (aK Γ fn true [] fuel)
                 | none=>none
              TT:=fun f=>match P.funcs[f]? with
               | some fn=>some (aK Γ fn false [] fuel)
               | none=>none }) n
theorem pC {P:Program} {aO:List (Nat × Nat)} {cmp:List Nat} {ex:Nat->Option Sum} {tw:List (Nat × Nat)} {fuel n:Nat}:(Kn P aO cmp ex tw fuel n).ty=tiP P/\(Kn P aO cmp ex tw fuel n).aO=aO/\(Kn P aO cmp ex tw fuel n).cmp=cmp:=by
 cases n <;> exact ⟨rfl,rfl,rfl⟩
structure JD (P:Program) (aO:List (Nat × Nat)) (cmp:List Nat) (ex:Nat->Option Sum) (tw:List (Nat × Nat)):Prop where
 mix:P.follows .mixedOrders=true
 names:∀ (f:Nat) (fn:Func),P.funcs[f]?=some fn->(fn.name == "runtime.NumGoroutine")=false
 cmp:∀ t:Nat,cmp.elem t=true->(∀ i,P.info? t=some i->i.comparable=true)/\P.stoodInHeld t=false
 depth:∃ d,P.depth=d+2
 tw:∀ f g:Nat,look f tw=some g->∀ (args:Array Value) (w:World),(callFunc f args).run P w=(callFunc g args).run P w
 ex:∀ f S,ex f=some S->∀ Γ:Env,Γ.aO=aO->aG P Γ f S
theorem aBb {P:Program} {aO:List (Nat × Nat)} {cmp:List Nat} {ex:Nat->Option Sum} {tw:List (Nat × Nat)} (h:JD P aO cmp ex tw) (fuel:Nat):∀ n,cF P (Kn P aO cmp ex tw fuel n):=by
 intro n
 induction n with
 | zero=>exact ⟨fun f S hS=>h.ex f S hS _ rfl,fun f S hS=>(by cases hS),h.cmp,h.depth⟩
 | succ n ih=>
   refine ⟨fun f S hS=>?_,fun f S hS=>?_,h.cmp,h.depth⟩
   .have hS:(match ex f with
     | some S=>some S
     | none=>match P.funcs[(look f tw).getD f]? with
       | some fn=>some (aK (Kn P aO cmp ex tw fuel n) fn true [] fuel)
       | none=>none)=some S:=hS
    split at hS
    .rename_i S' hx;cases hS;exact h.ex f S hx _ rfl
    .split at hS
     .rename_i fn tU
      cases hS
      have hs:=(aN (cD.prog pC.1) ih h.mix tU (h.names _ fn tU) true [] fuel).env (Γ':=Kn P aO cmp ex tw fuel (n+1)) (by rw [pC.2.1,pC.2.1])
      cases htw:look f tw with
      | none=>rw [htw] at hs;exact hs
      | some g=>
        rw [htw] at hs
        intro vs T lab F e he ho w0 M V T2 w xs aR hT hg hf hF hx o a K Q hK
        rw [h.tw f g htw]
        exact hs vs T lab F e he ho w0 M V T2 w xs aR hT hg hf hF hx o a K Q hK
     .cases hS
   .have hS:(match P.funcs[f]? with
      | some fn=>some (aK (Kn P aO cmp ex tw fuel n) fn false [] fuel)
      | none=>none)=some S:=hS
    split at hS
    .rename_i fn tU
     cases hS
     exact (Sb (cD.prog pC.1) ih h.mix tU (h.names f fn tU) [] fuel).env (by rw [pC.2.1,pC.2.1])
    .cases hS
theorem cD.env {P:Program} {Γ Γ':Env} (h:Γ'.ty=Γ.ty) (hs:cD P Γ):cD P Γ':=fun t ti ht=>hs t ti (h ▸ ht)
def Ku (a b:Int):Bool:=match a,b with
 | .ofNat m,.ofNat n=>Nat.beq m n
 | .negSucc m,.negSucc n=>Nat.beq m n
 | _,_=>false
theorem Wr {a b:Int} (h:Ku a b=true):a=b:=by
 unfold Ku at h
 split at h
 .rw [cP h]
 .rw [cP h]
 .cases h
def qG (a b:IntKind):Bool:=decide (a=b)
def Pt (a b:Bool):Bool:=match a,b with
 | true,true=>true
 | false,false=>true
 | _,_=>false
theorem rL {a b:Bool} (h:Pt a b=true):a=b:=by cases a <;> cases b <;> first | rfl | cases h
mutual
def pR:SV->SV->Bool
 | .int s k n,.int s' k' n'=>Pt s s'&&(qG k k'&&Ku n n')
 | .bool s b,.bool s' b'=>Pt s s'&&Pt b b'
 | .agg vs,.agg us=>Kt vs us
 | .eD vs,.eD us=>Kt vs us
 | .ptr l s o,.ptr l' s' o'=>Nat.beq l l'&&(Pt s s'&&Nat.beq o o')
 | .aH l s o n c,.aH l' s' o' n' c'=>Nat.beq l l'&&(Pt s s'&&(Nat.beq o o'&&(Nat.beq n n'&&Nat.beq c c')))
 | _,_=>false
def Kt:List SV->List SV->Bool
 | [],[]=>true
 | v::r,u::t=>match pR v u with
   | true=>Kt r t
   | false=>false
 | _,_=>false
end
mutual
theorem aBy:∀ {v u:SV},pR v u=true->v=u
 | .int s k n,u,h=>by
   cases u <;> simp only [pR,iN] at h <;> first | (cases h;done) | skip
   obtain ⟨h1,h2,h3⟩:=h
   rw [rL h1,jP h2,Wr h3]
 | .bool s b,u,h=>by
   cases u <;> simp only [pR,iN] at h <;> first | (cases h;done) | skip
   rw [rL h.1,rL h.2]
 | .agg vs,u,h=>by
   cases u <;> simp only [pR] at h <;> first | (cases h;done) | skip
   rw [zW h]
 | .eD vs,u,h=>by
   cases u <;> simp only [pR] at h <;> first | (cases h;done) | skip
   rw [zW h]
 | .ptr l s o,u,h=>by
   cases u <;> simp only [pR,iN] at h <;> first | (cases h;done) | skip
   obtain ⟨h1,h2,h3⟩:=h
   rw [cP h1,rL h2,cP h3]
 | .aH l s o n c,u,h=>by
   cases u <;> simp only [pR,iN] at h <;> first | (cases h;done) | skip
   obtain ⟨h1,h2,h3,h4,h5⟩:=h
   rw [cP h1,rL h2,cP h3,cP h4,cP h5]
 | .fn ..,u,h=>by simp [pR] at h
 | .pX ..,u,h=>by simp [pR] at h
 | .raw ..,u,h=>by simp [pR] at h
 | .buf ..,u,h=>by simp [pR] at h
 | .iZ ..,u,h=>by simp [pR] at h
 | .pT ..,u,h=>by simp [pR] at h
 | .mG ..,u,h=>by simp [pR] at h
 | .iH ..,u,h=>by simp [pR] at h
 | .ai ..,u,h=>by simp [pR] at h
 | .dJ ..,u,h=>by simp [pR] at h
theorem zW:∀ {vs us:List SV},Kt vs us=true->vs=us
 | [],us,h=>by cases us <;> simp [Kt] at h |-
 | v::r,us,h=>by
   cases us with
   | nil=>simp [Kt] at h
   | cons u t=>
     simp only [Kt] at h
     split at h
     .rename_i h1;rw [aBy h1,zW h]
     .cases h
end
mutual
def fK:SV->Bool
 | .int .. | .bool .. | .raw _ | .ai .. => true
 | .agg vs=>Lb vs
 | .eD vs=>Lb vs
 | _=>false
def Lb:List SV->Bool
 | []=>true
 | v::r=>match fK v with
   | true=>Lb r
   | false=>false
end
mutual
theorem mK {V V':bA}:∀ {v:SV},fK v=true->den V v=den V' v
 | .int ..,_=>rfl
 | .bool ..,_=>rfl
 | .raw _,_=>rfl
 | .agg vs,h=>by simp only [den,Cw (V:=V) (V':=V') (vs:=vs) h]
 | .eD vs,h=>by simp only [den,Cw (V:=V) (V':=V') (vs:=vs) h]
 | .fn ..,h=>by cases h
 | .pX ..,h=>by cases h
 | .ptr ..,h=>by cases h
 | .aH ..,h=>by cases h
 | .buf ..,h=>by cases h
 | .iZ ..,h=>by cases h
 | .pT ..,h=>by cases h
 | .mG ..,h=>by cases h
 | .iH ..,h=>by cases h
 | .ai ..,_=>rfl
 | .dJ ..,h=>by cases h
theorem Cw {V V':bA}:∀ {vs:List SV},Lb vs=true->aJ V vs=aJ V' vs
 | [],_=>rfl
 | v::r,h=>by
   simp only [Lb] at h
   split at h
   .rename_i h1;simp only [aJ,mK (V:=V) (V':=V') h1,Cw (V:=V) (V':=V') h]
   .cases h
end
def orS (A B:Sum):Sum:=fun vs T lab F=>match A vs T lab F with
 | some e=>some e
 | none=>B vs T lab F
theorem HT {P:Program} {Γ:Env} {f:FuncId} {A B:Sum} (ha:aG P Γ f A) (hb:aG P Γ f B):aG P Γ f (orS A B):=by
 intro vs T lab F e he
 unfold orS at he
 split at he
 .rename_i e' h;cases he;exact ha vs T lab F _ h
 .exact hb vs T lab F e he
theorem rF {P:Program} {f g:FuncId} {fn fg:Func} {c:Code} {twin:String} (hf:P.funcs[f]?=some fn) (hg:P.funcs[g]?=some fg) (hb:fn.body=none) (hc:fg.body=some c)
 (hn:(fn.name == "runtime.NumGoroutine")=false) (hn2:(fg.name == "runtime.NumGoroutine")=false) (he:Extern.findNext fn=some (Extern.Twins.call twin fn.params fn.resultTypes))
 (hi:P.funcs.findIdx? (·.name==twin)=some g) (hp:fg.params=fn.params) (hr:fg.resultTypes=fn.resultTypes) (args:Array Value) (w:World) :
 (callFunc f args).run P w=(callFunc g args).run P w:=by
 rw [gK hg hc hn2]
 have Oc:¬ fn.name = "runtime.NumGoroutine" := by simpa using hn
 unfold callFunc
 simp [hf,hb,Oc,he,Extern.Twins.call,hi,hg,hp,hr,hc]
def xG (sub:Bool):Sum:=fun vs _ _ _=>match vs with
 | [.int sx .u64 x,.int sy .u64 y,.int sc .u64 c]=>match rY (sx&&(sy&&sc)) (0<=x/\0<=y/\0<=c/\c<=1) with
   | some l=>match sub with
     | false=>some { bO:=l,val:=.eD [.int (sx&&(sy&&sc)) .u64 ((x+y+c)%18446744073709551616),.int (sx&&(sy&&sc)) .u64 ((x+y+c)/18446744073709551616)] }
     | true=>some { bO:=l,val:=.eD [.int (sx&&(sy&&sc)) .u64 ((((x.toNat+18446744073709551616-y.toNat-c.toNat)%18446744073709551616:Nat):Int)),.int (sx&&(sy&&sc)) .u64 ((if x<y+c then 1 else 0))] }
   | none=>none
 | _=>none
def Qa:Array Value->Sem Value:=fun args=>do
 let (x,y,b) <- Extern.MathBitsCarry.three "Sub64" args
 pure (Extern.MathBitsCarry.pair ((x+Extern.MathBitsCarry.m64-y-b)%Extern.MathBitsCarry.m64) (if x<y+b then 1 else 0))
theorem Rr {P:Program} (x y b:Nat) (hb:b<=1) (w:World) :
 (Qa #[.int .u64 x,.int .u64 y,.int .u64 b]).run P w =
  .ok (.tuple #[.int .u64 (((x+18446744073709551616-y-b)%18446744073709551616:Nat):Int),.int .u64 ((if x<y+b then 1 else 0:Nat):Int)]) w:=by
 have:b=0\/b=1:=by omega
 rcases this with rfl | rfl <;> rfl
theorem Gw {P:Program} {Γ:Env} {f:FuncId} (sub:Bool)
 (dY:∀ (args:Array Value) (w:World),(callFunc f args).run P w=(do pure (.value (<- (match sub with | false=>add64Entry args | true=>Qa args))):Sem Next).run P w):aG P Γ f (xG sub):=by
 intro vs T lab F e he ho w0 M V T2 w xs aR hT hg hf hF hx o a K Q hK
 unfold xG at he
 split at he
 case h_2=>cases he
 rename_i sx x sy y sc c
 split at he
 case h_2=>cases he
 rename_i l hl
 simp only [aJ,den,lI,gL,aW] at hx
 subst hx
 have rT:∀ q∈l,q:=by cases sub <;> (simp only [aW] at he;subst he;exact ho)
 obtain ⟨h1,h2,h3,h4⟩:=gO hl rT
 rw [dY]
 obtain ⟨x',rfl⟩:=pW h1
 obtain ⟨y',rfl⟩:=pW h2
 obtain ⟨c',rfl⟩:=pW h3
 cases sub with
 | false=>
   simp only [aW] at he
   subst he
   have:=run_add64 (P:=P) x' y' c' h1 h2 h3 h4 w
   simp only [Sem.run_bind,this,Result.andThen_ok,Sem.run_pure,Oper.upon_value]
   exact hK V _ w (V.cO lab) (by simp [den,aJ]) (by rw [jN _ _ rfl rfl];exact hT)
 | true=>
   simp only [aW] at he
   subst he
   have:=Rr (P:=P) x' y' c' (by omega) w
   simp only [Sem.run_bind,this,Result.andThen_ok,Sem.run_pure,Oper.upon_value]
   refine hK V _ w (V.cO lab) ?_ (by rw [jN _ _ rfl rfl];exact hT)
   have e1:(if (x':Int)<(y':Int)+(c':Int) then (1:Int) else 0)=((if x'<y'+c' then 1 else 0:Nat):Int):=by
    split <;> split <;> first | rfl | omega
   simp only [den,aJ,lI,gL,sJ,e1]
end Go.Proofs.YtnodfocobmghiaaGreatDoor.Sx
section
namespace Go.Proofs.YtnodfocobmghiaaGreatDoor.Sx
end Go.Proofs.YtnodfocobmghiaaGreatDoor.Sx
end
section
namespace Go.Proofs.YtnodfocobmghiaaGreatDoor.Sx
end Go.Proofs.YtnodfocobmghiaaGreatDoor.Sx
end
namespace Go.Proofs.YtnodfocobmghiaaGreatDoor.Sx
def aF (P:Program) (Γ:Env) (f:FuncId) (vs:List SV) (T:aX) (lab F:Nat) (e:bK):Prop:=
 ∀ (w0:World) (M:Nat->Prop) (V:bA) (T2:aX) (w:World) (xs:List Value),
   (∀ l B,T l=some B->T2 l=some B)->aD w0 M V T2 w->bR Γ V->V.fresh lab->V.top F->aJ V vs=some xs ->
   ∀ (o:Oper) (a:Act) K Q,(∀ V' x w',V.ext lab V'->den V' e.val=some x->aD w0 M V' (eT T2 lab e) w'->K (a.put o.dst x) w') ->
     o.upon P a K Q ((callFunc f xs.toArray).run P w)
theorem aG.call {P:Program} {Γ:Env} {f:FuncId} {S:Sum} (h:aG P Γ f S) {vs:List SV} {T:aX} {lab F:Nat} {e:bK} (he:S vs T lab F=some e) (ho:∀ q∈e.bO,q):aF P Γ f vs T lab F e:=h vs T lab F e he ho
theorem aG.Mm {P:Program} {Γ:Env} {f:FuncId} {S:Sum} (h:∀ vs T lab F e,S vs T lab F=some e->(∀ q∈e.bO,q)->aF P Γ f vs T lab F e):aG P Γ f S:=h
inductive Src where
 | lab (l off:Nat)
 | val (v:SV)
 | BE (v:SV) (cs:List SV)
abbrev Vw:=Nat->Option Src
def seen (vw:Vw) (V:bA):bA:=
 ⟨fun l0=>match vw l0 with
  | some (.lab l off)=>(V.β l).map fun p=>(p.1,p.2+off)
  | _=>none,
  fun l0=>match vw l0 with
   | some (.lab l _)=>V.σ l
   | some (.val v)=>den V v
   | some (.BE v cs)=>(den V v).bind fun x=>(aJ V cs).map fun us=>.tuple (x::us).toArray
   | none=>none⟩
theorem lD {vw:Vw} {V:bA} {l0 l off:Nat} (h:vw l0=some (.lab l off)):(seen vw V).β l0=(V.β l).map (fun p=>(p.1,p.2+off))/\(seen vw V).σ l0=V.σ l:=by
 simp [seen,h]
theorem vQ {vw:Vw} {V:bA} {l0:Nat} {v:SV} (h:vw l0=some (.val v)):(seen vw V).σ l0=den V v:=by
 simp [seen,h]
def tW (vw:Vw) (F0 lab l0:Nat):Option Nat:=match Nat.blt l0 F0 with
 | true=>match vw l0 with
   | some (.lab l 0)=>some l
   | _=>none
 | false=>match Nat.blt l0 (F0+8) with
   | true=>some (lab+(l0-F0))
   | false=>none
def Kz (ρ : Nat->Option Nat):List SB->Option (List SB)
 | []=>some []
 | B::r=>match yU ρ B,Kz ρ r with
   | some B,some r=>some (B::r)
   | _,_=>none
def Ky (ρ : Nat->Option Nat):List (Nat × SB)->Option (List (Nat × SB))
 | []=>some []
 | (l,B)::r=>match ρ l,yU ρ B,Ky ρ r with
   | some l,some B,some r=>some ((l,B)::r)
   | _,_,_=>none
def Ui (ρ : Nat->Option Nat) (e:bK):Option bK:=match Ab ρ e.val,Kz ρ e.new,Ky ρ e.wr with
 | some v,some n,some w=>some { bO:=e.bO,val:=v,new:=n,wr:=w }
 | _,_,_=>none
theorem Gg {ρ : Nat->Option Nat}:∀ {bs cs:List SB},Kz ρ bs=some cs->cs.length=bs.length/\∀ (i:Nat) (B:SB),cs[i]?=some B->∃ C,bs[i]?=some C/\yU ρ C=some B
 | [],cs,h=>by simp only [Kz,aW] at h;subst h;simp
 | b::r,cs,h=>by
   simp only [Kz] at h
   split at h
   .rename_i B' r' hB hr
    cases h
    obtain ⟨h1,h2⟩:=Gg hr
    refine ⟨by simp [h1],fun i B hi=>?_⟩
    cases i with
    | zero=>simp only [List.getElem?_cons_zero,aW] at hi;subst hi;exact ⟨b,rfl,hB⟩
    | succ i=>simpa using h2 i B (by simpa using hi)
   .cases h
def yT (ρ : Nat->Option Nat) (l:Nat):List (Nat × SB)->Option Nat
 | []=>none
 | (k,_)::r=>if ρ k=some l then some k else yT ρ l r
theorem zO {ρ : Nat->Option Nat} {l:Nat}:∀ {r:List (Nat × SB)} {k:Nat},yT ρ l r=some k -> ρ k=some l
 | [],k,h=>by cases h
 | (j,B)::r,k,h=>by
   simp only [yT] at h
   split at h
   .rename_i hj;cases h;exact hj
   .exact zO h
theorem Gf {ρ : Nat->Option Nat} {l:Nat}:∀ {r s:List (Nat × SB)},Ky ρ r=some s ->
 (∀ B,look l s=some B->∃ k C,yT ρ l r=some k/\look k r=some C/\yU ρ C=some B)/\(look l s=none->yT ρ l r=none)
 | [],s,h=>by simp only [Ky,aW] at h;subst h;exact ⟨fun B hB=>(by simp [look] at hB),fun _=>rfl⟩
 | (k,C)::r,s,h=>by
   simp only [Ky] at h
   split at h
   .rename_i l' B' r' h1 h2 h3
    cases h
    obtain ⟨i1,i2⟩:=Gf (l:=l) h3
    by_cases e:l'=l
    .subst e
     refine ⟨fun B hB=>?_,fun hn=>?_⟩
     .rw [aI] at hB
      cases hB
      exact ⟨k,C,by simp [yT,h1],aI _ _ _,h2⟩
     .rw [aI] at hn;cases hn
    .have hk : ρ k≠some l:=by rw [h1];exact fun q=>e (by cases q;rfl)
     refine ⟨fun B hB=>?_,fun hn=>?_⟩
     .rw [aE e] at hB
      obtain ⟨k2,C2,j1,j2,j3⟩:=i1 B hB
      have dI:k≠k2:=fun q=>hk (q ▸ zO j1)
      exact ⟨k2,C2,by simp [yT,hk,j1],by rw [aE dI];exact j2,j3⟩
     .rw [aE e] at hn
      simp [yT,hk,i2 hn]
   .cases h
structure JG (vw:Vw) (vs:List SV) (T:aX) (eL:List SV) (T0:List (Nat × SB)) (V:bA) (w:World):Prop where
 val:∀ xs,aJ V vs=some xs->aJ (seen vw V) eL=some xs
 ok:∀ l0 B0,look l0 T0=some B0->okB (seen vw V) w l0 B0
 iY:∀ l0 B0 l1 B1 n,l0≠l1->look l0 T0=some B0->look l1 T0=some B1->B0.owned=true->B0.aT (seen vw V) l0=some n->B1.aT (seen vw V) l1≠some n
 own:∀ l0 B0 n,look l0 T0=some B0->B0.owned=true->B0.aT (seen vw V) l0=some n->∃ l B,vw l0=some (.lab l 0)/\T l=some B/\B.owned=true/\B.aT V l=some n
def aMf (P:Program) (f:FuncId) (xs:List Value) (T2:aX) (lab:Nat) (e:bK) (w0:World) (M:Nat->Prop) (V:bA) (w:World):Prop:=
 ∀ (o:Oper) (a:Act) K Q,(∀ V' x w',V.ext lab V'->den V' e.val=some x->aD w0 M V' (eT T2 lab e) w'->K (a.put o.dst x) w')->o.upon P a K Q ((callFunc f xs.toArray).run P w)
theorem PB {P:Program} {Γ:Env} {f:FuncId} {vs eL:List SV} {T:aX} {T0:List (Nat × SB)} {F0 lab:Nat} {e0 e:bK} {vw:Vw} (hC:aF P Γ f eL (fun l=>look l T0) F0 F0 e0)
 (hvw:∀ l0,F0<=l0->vw l0=none) (Xf:∀ n l,look n Γ.aO=some l->vw l=some (.lab l 0))
 (fH:∀ l0 B0,look l0 T0=some B0->B0.owned=true->l0<F0/\look l0 e0.wr≠none)
 (hlen:e0.new.length<=8) (Xb:∀ l0 B0,look l0 e0.wr=some B0->l0<F0)
 (he:Ui (tW vw F0 lab) e0=some e) {w0:World} {M:Nat->Prop} {V:bA} {T2:aX} {w:World} {xs:List Value}
 (aR:∀ l B,T l=some B->T2 l=some B) (hT:aD w0 M V T2 w) (hg:bR Γ V) (hf:V.fresh lab) (hx:aJ V vs=some xs) (fit:JG vw vs T eL T0 V w):aMf P f xs T2 lab e w0 M V w:=by
 intro o a K Q hK
 unfold Ui at he
 split at he
 case h_2=>cases he
 rename_i v' new wr hv CY aWo
 cases he
 obtain ⟨CA,hng⟩:=Gg CY
 obtain ⟨Th,hTh⟩:∃ Th:aX,Th=fun l=>open Classical in if ∃ l0 B0,look l0 T0=some B0/\B0.owned=true/\vw l0=some (.lab l 0) then T l else none:=⟨_,rfl⟩
 have aXm:∀ l B,Th l=some B->T2 l=some B:=fun l B hl=>by
  rw [hTh] at hl
  simp only at hl
  split at hl
  .exact aR l B hl
  .cases hl
 have aDg:∀ l0,F0<=l0->(seen vw V).β l0=none/\(seen vw V).σ l0=none:=fun l0 h=>by simp [seen,hvw l0 h]
 have Hm:aD w (jM V Th) (seen vw V) (fun l=>look l T0) w:=by
  refine ⟨fun l B hl=>fit.ok l B hl,fun l B l' B' n dI hl sL ho hb=>fit.iY l B l' B' n dI hl sL ho hb,fun l B n hl ho hb=>.inr ?_,gR.refl w _⟩
  .obtain ⟨l1,B1,h1,h2,h3,h4⟩:=fit.own l B n hl ho hb
   refine ⟨l1,B1,?_,h3,h4⟩
   rw [hTh]
   simp only
   rw [if_pos ⟨l,B,hl,ho,h1⟩]
   exact h2
 refine hC w (jM V Th) (seen vw V) (fun l=>look l T0) w xs (fun _ _ h=>h) Hm (fun n l hl=>?_) (fun l h1 h2=>aDg l h1) (fun l h1=>aDg l h1) (fit.val xs hx) o a K Q (fun V' x w' Od hx' pU=>?_)
 .rw [(lD (Xf n l hl)).1,hg n l hl];rfl
 obtain ⟨V2,hV2⟩:∃ V2:bA,V2=⟨fun l=>if lab<=l/\l<lab+8 then V'.β (F0+(l-lab)) else V.β l,fun l=>if lab<=l/\l<lab+8 then V'.σ (F0+(l-lab)) else V.σ l⟩:=⟨_,rfl⟩
 have out:∀ l,¬ (lab<=l/\l<lab+8)->V2.β l=V.β l/\V2.σ l=V.σ l:=fun l hl=>by
  subst hV2;exact ⟨if_neg hl,if_neg hl⟩
 have inn:∀ i,i<8->V2.β (lab+i)=V'.β (F0+i)/\V2.σ (lab+i)=V'.σ (F0+i):=fun i hi=>by
  have hr:lab<=lab+i/\lab+i<lab+8:=⟨by omega,by omega⟩
  subst hV2
  refine ⟨(if_pos hr).trans ?_,(if_pos hr).trans ?_⟩ <;> rw [show lab+i-lab=i from by omega]
 have bU:V.ext lab V2:=by
  refine ⟨⟨fun l p hp=>?_,fun l p hp=>?_⟩,fun l hl=>out l (by omega)⟩
  .rw [(out l (fun hr=>by have:=(hf l hr.1 (by omega)).1;rw [this] at hp;cases hp)).1];exact hp
  .rw [(out l (fun hr=>by have:=(hf l hr.1 (by omega)).2;rw [this] at hp;cases hp)).2];exact hp
 have yX:Bz (tW vw F0 lab) V' V2:=by
  intro l l' hl
  unfold tW at hl
  split at hl
  .rename_i hb
   have hlF:l<F0:=by simpa [Nat.blt_eq] using hb
   split at hl
   .rename_i l1 hq
    cases hl
    have h0:=Od.2 l (.inl hlF)
    have h1:=lD (V:=V) hq
    rw [h0.1,h0.2,h1.1,h1.2]
    refine ⟨fun p hp=>?_,fun v hv=>bU.1.2 _ v hv⟩
    simp only [dH] at hp
    obtain ⟨q,zH,rfl⟩:=hp
    exact bU.1.1 _ _ zH
   .cases hl
  .split at hl
   .rename_i pM lA
    cases hl
    have h1:F0<=l:=by
     apply Nat.le_of_not_lt
     intro q
     have q2:Nat.blt l F0=true:=by simpa [Nat.blt_eq] using q
     simp_all
    have h2:l<F0+8:=by simpa [Nat.blt_eq] using lA
    have:=inn (l-F0) (by omega)
    rw [show F0+(l-F0)=l from by omega] at this
    rw [this.1,this.2]
    exact ⟨fun p hp=>hp,fun p hp=>hp⟩
   .cases hl
 refine hK V2 x w' bU (Ce yX hv hx') ?_
 refine aD.called hT aXm pU bU.1 (fun l=>match yT (tW vw F0 lab) l e0.wr with
  | some k=>some k
  | none=>if lab<=l/\l<lab+e0.new.length then some (F0+(l-lab)) else none) (fun l B hl=>?_) (fun l l' k hk gX=>?_)
 .unfold eT bK.eW at hl
  simp only at hl
  rw [cE] at hl
  obtain ⟨g1,g2⟩:=Gf (l:=l) aWo
  cases hw:look l wr with
  | some b=>
    rw [hw] at hl
    cases hl
    obtain ⟨k,C,h1,h2,h3⟩:=g1 _ hw
    have Ag:eT (fun l=>look l T0) F0 e0 k=some C:=by
     unfold eT bK.eW
     rw [cE,h2]
    obtain ⟨r1,r2,r3,r4⟩:=qQ yX (zO h1) h3 (pU.ok k C Ag)
    refine .inl ⟨k,by simp only [h1],C,Ag,r1,r2,r4,?_⟩
    rcases vS h3 with q | q
    .exact .inl q
    .exact .inr (.inl q)
  | none=>
    rw [hw] at hl
    have Fi:=g2 hw
    rw [fD] at hl
    by_cases hr:lab<=l/\l<lab+e0.new.length
    .have cM:l-lab<new.length:=by rw [CA];omega
     rw [if_pos hr.1,List.getElem?_eq_getElem cM] at hl
     cases hl
     obtain ⟨C,h3,h4⟩:=hng (l-lab) _ (List.getElem?_eq_getElem cM)
     have Ag:eT (fun l=>look l T0) F0 e0 (F0+(l-lab))=some C:=by
      unfold eT bK.eW
      rw [cE]
      cases hq:look (F0+(l-lab)) e0.wr with
      | some b=>have:=Xb _ b hq;omega
      | none=>
        simp only
        rw [fD,if_pos (by omega),show F0+(l-lab)-F0=l-lab from by omega,h3]
     have aEr:tW vw F0 lab (F0+(l-lab))=some l:=by
      unfold tW
      have b1:Nat.blt (F0+(l-lab)) F0=false:=by
       cases hb:Nat.blt (F0+(l-lab)) F0 with
       | false=>rfl
       | true=>have:F0+(l-lab)<F0:=by simpa [Nat.blt_eq] using hb
               omega
      have b2:Nat.blt (F0+(l-lab)) (F0+8)=true:=by simp [Nat.blt_eq];omega
      rw [b1,b2]
      simp only
      congr 1
      omega
     obtain ⟨r1,r2,r3,r4⟩:=qQ yX aEr h4 (pU.ok _ C Ag)
     refine .inl ⟨F0+(l-lab),by simp only [Fi,if_pos hr],C,Ag,r1,r2,r4,?_⟩
     rcases vS h4 with q | q
     .exact .inl q
     .exact .inr (.inl q)
    .have PZ:(if lab<=l then new[l-lab]? else none)=none:=by
      split
      .apply List.getElem?_eq_none;rw [CA];omega
      .rfl
     rw [PZ] at hl
     simp only at hl
     refine .inr ⟨by simp only [Fi,if_neg hr],?_,hl⟩
     rw [hTh]
     simp only
     split
     .rename_i hex
      obtain ⟨l0,B0,h1,h2,h3⟩:=hex
      obtain ⟨cM,hnn⟩:=fH l0 B0 h1 h2
      have aEr:tW vw F0 lab l0=some l:=by
       unfold tW
       have b1:Nat.blt l0 F0=true:=by simpa [Nat.blt_eq] using cM
       simp only [b1,h3]
      exfalso
      have:∀ {r:List (Nat × SB)},look l0 r≠none->yT (tW vw F0 lab) l r≠none:=by
       intro r
       induction r with
       | nil=>intro h;exact (h rfl).elim
       | cons p r ih=>
         obtain ⟨k,C⟩:=p
         intro h
         simp only [yT]
         split
         .simp
         .rename_i dI
          refine ih ?_
          by_cases e:k=l0
          .subst e;exact (dI aEr).elim
          .rwa [aE e] at h
      exact this hnn Fi
     .rfl
 .have Fg:∀ (l k:Nat),(match yT (tW vw F0 lab) l e0.wr with
    | some k=>some k
    | none=>if lab<=l/\l<lab+e0.new.length then some (F0+(l-lab)) else none)=some k->tW vw F0 lab k=some l:=by
   intro l k hk
   split at hk
   .rename_i k' gX
    cases hk
    exact zO gX
   .split at hk
    .rename_i hr
     cases hk
     unfold tW
     have b1:Nat.blt (F0+(l-lab)) F0=false:=by
      cases hb:Nat.blt (F0+(l-lab)) F0 with
      | false=>rfl
      | true=>have:F0+(l-lab)<F0:=by simpa [Nat.blt_eq] using hb
              omega
     have b2:Nat.blt (F0+(l-lab)) (F0+8)=true:=by simp [Nat.blt_eq];omega
     rw [b1,b2]
     simp only
     congr 1
     omega
    .cases hk
  have e1:=Fg l k hk
  have e2:=Fg l' k gX
  rw [e1] at e2
  cases e2
  rfl
theorem PA {P:Program} {Γ:Env} {f:FuncId} {vs eL:List SV} {T:aX} {T0:List (Nat × SB)} {F0 lab F:Nat} {e0 e:bK} {vw:Vw} (hC:aF P Γ f eL (fun l=>look l T0) F0 F0 e0)
 (hvw:∀ l0,F0<=l0->vw l0=none) (Xf:∀ n l,look n Γ.aO=some l->vw l=some (.lab l 0))
 (aXg:∀ w0 M V w xs,aD w0 M V T w->aJ V vs=some xs->JG vw vs T eL T0 V w)
 (fH:∀ l0 B0,look l0 T0=some B0->B0.owned=true->l0<F0/\look l0 e0.wr≠none)
 (hlen:e0.new.length<=8) (Xb:∀ l0 B0,look l0 e0.wr=some B0->l0<F0)
 (he:Ui (tW vw F0 lab) e0=some e):aF P Γ f vs T lab F e:=by
 intro w0 M V T2 w xs aR hT hg hf _ hx
 exact PB hC hvw Xf fH hlen Xb he aR hT hg hf hx (aXg _ _ V w xs (aD.part hT aR) hx)
inductive Fr where
 | seq (y:Code)
 | aT (id:Nat)
 | loop (n:Nat) (c:Code)
 | scope
inductive Cf where
 | go (c:Code)
 | at (x:Ex)
def KQ (P:Program):List Fr->(Exit->Act->World->Prop)->Exit->Act->World->Prop
 | [],Q=>Q
 | .seq y::K,Q=>Exit.then (y.wp P (KQ P K Q)) (KQ P K Q)
 | .aT id::K,Q=>Exit.inBlock id (KQ P K Q)
 | .loop n c::K,Q=>Exit.then (Code.rounds P c (KQ P K Q) n) (KQ P K Q)
 | .scope::K,Q=>Exit.noGoto (KQ P K Q)
def DF:Code->Nat
 | .region n _ _=>n
 | .seq x _=>DF x
 | .block _ c=>DF c
 | .loop c=>DF c
 | .scope c=>DF c
 | _=>0
structure nM where
 cf:Cf
 fr:List Fr
 st:St
noncomputable def Fu (Γ:Env) (B:aX) (F0 N:Nat) (stops:List Nat) (lf:Nat) (rec:Cf->List Fr->St->Option nM) (cf:Cf) (K:List Fr) (s:St):Option nM:=
 match cf with
 | .at x=>match K with
   | []=>some ⟨.at x,[],s⟩
   | .seq y::K=>match x with
     | .normal=>rec (.go y) K s
     | x=>rec (.at x) K s
   | .aT id::K=>match x with
     | .exit Jx=>match Nat.beq Jx id with
       | true=>rec (.at .normal) K s
       | false=>rec (.at (.exit Jx)) K s
     | x=>rec (.at x) K s
   | .loop n c::K=>match x with
     | .normal=>match n with
       | m+1=>rec (.go c) (.loop m c::K) s
       | 0=>none
     | x=>rec (.at x) K s
   | .scope::K=>rec (.at x) K s
 | .go c=>match c with
   | .skip=>rec (.at .normal) K s
   | .label _=>rec (.at .normal) K s
   | .region _ ops d=>match d with
     | true=>match Ga Γ B F0 N ops s with
       | some s'=>rec (.at .normal) K s'
       | none=>none
     | false=>match Hh Γ B F0 N ops ops.toList s with
       | some s'=>rec (.at .normal) K s'
       | none=>none
   | .seq x y=>rec (.go x) (.seq y::K) s
   | .cond c x y=>match ev Γ s.g.get c with
     | some (.bool true true)=>rec (.go x) K s
     | some (.bool true false)=>rec (.go y) K s
     | some (.bool false b)=>match s.hs with
       | true::r=>rec (.go x) K { s with ob:=(b=true)::s.ob,hs:=r }
       | false::r=>rec (.go y) K { s with ob:=(b=false)::s.ob,hs:=r }
       | []=>none
     | _=>none
   | .block id c=>rec (.go c) (.aT id::K) s
   | .loop c=>match stops.elem (DF c) with
     | true=>some ⟨.go (.loop c),K,s⟩
     | false=>rec (.go c) (.loop lf c::K) s
   | .exit id=>rec (.at (.exit id)) K s
   | .ret=>rec (.at .ret) K s
   | .scope c=>rec (.go c) (.scope::K) s
   | _=>none
noncomputable def fX (Γ:Env) (B:aX) (F0 N:Nat) (stops:List Nat) (lf n:Nat):Cf->List Fr->St->Option nM:=
 Nat.rec (fun cf K s=>some ⟨cf,K,s⟩) (fun _ ih=>Fu Γ B F0 N stops lf ih) n
def G (P:Program) (Γ:Env) (w0:World) (M:Nat->Prop) (B:aX) (N F0:Nat) (V0:bA) (cf:Cf) (K:List Fr) (s:St) (Q:Exit->Act->World->Prop):Prop:=
 ∀ V a w,Inv P Γ w0 M B N F0 V0 s V a w->match cf with
   | .go c=>c.wp P (KQ P K Q) a w
   | .at x=>KQ P K Q x.to a w
section
variable {P:Program} {Γ:Env} {w0:World} {M:Nat->Prop} {B:aX} {N F0:Nat} {V0:bA}
theorem Inv.hints {s:St} {V:bA} {a:Act} {w:World} (hi:Inv P Γ w0 M B N F0 V0 s V a w) (ob:List Prop) (hs:List Bool):Inv P Γ w0 M B N F0 V0 { s with ob:=ob,hs:=hs } V a w:=
 ⟨hi.tmp,hi.keys,hi.size,hi.defers,hi.eW,hi.aO,hi.top,hi.le,hi.low,hi.ch,hi.nx,hi.hi⟩
theorem zS {stops:List Nat} {lf:Nat}:∀ {n:Nat} {cf:Cf} {K:List Fr} {s:St} {r:nM},fX Γ B F0 N stops lf n cf K s=some r->∀ q∈s.ob,q∈r.st.ob:=by
 intro n
 induction n with
 | zero=>intro cf K s r h q hq;cases h;exact hq
 | succ n ih=>
   intro cf K s r h q hq
   have h:Fu Γ B F0 N stops lf (fX Γ B F0 N stops lf n) cf K s=some r:=h
   unfold Fu at h
   split at h
   .split at h
    .cases h;exact hq
    .split at h <;> exact ih h q hq
    .split at h
     .split at h <;> exact ih h q hq
     .exact ih h q hq
    .split at h
     .split at h
      .exact ih h q hq
      .cases h
     .exact ih h q hq
    .exact ih h q hq
   .split at h
    .exact ih h q hq
    .exact ih h q hq
    .split at h
     .split at h
      .rename_i s1 h1;exact ih h q (Nc h1 q hq)
      .cases h
     .split at h
      .rename_i s1 h1;exact ih h q (uM h1 q hq)
      .cases h
    .exact ih h q hq
    .split at h
     .exact ih h q hq
     .exact ih h q hq
     .split at h
      .exact ih h q (eM _ hq)
      .exact ih h q (eM _ hq)
      .cases h
     .cases h
    .exact ih h q hq
    .split at h
     .cases h;exact hq
     .exact ih h q hq
    .exact ih h q hq
    .exact ih h q hq
    .exact ih h q hq
    .cases h
theorem G.run (aU:cD P Γ) (aV:cF P Γ) (gZ:P.follows .mixedOrders=true) {stops:List Nat} {lf:Nat} {Q:Exit->Act->World->Prop}:∀ {n:Nat} {cf:Cf} {K:List Fr} {s:St} {r:nM},
 fX Γ B F0 N stops lf n cf K s=some r->(∀ q∈r.st.ob,q)->G P Γ w0 M B N F0 V0 r.cf r.fr r.st Q->G P Γ w0 M B N F0 V0 cf K s Q:=by
 intro n
 induction n with
 | zero=>intro cf K s r h ho hr;cases h;exact hr
 | succ n ih=>
   intro cf K s r h ho hr V a w hi
   have h:Fu Γ B F0 N stops lf (fX Γ B F0 N stops lf n) cf K s=some r:=h
   cases cf with
   | «at» x=>
     cases K with
     | nil=>cases h;exact hr V a w hi
     | cons fr K'=>
       cases fr with
       | seq y=>cases x <;> exact ih h ho hr V a w hi
       | aT id=>
         cases x with
         | normal=>exact ih h ho hr V a w hi
         | ret=>exact ih h ho hr V a w hi
         | exit Jx=>
           simp only [Fu] at h
           split at h
           .rename_i hb
            have:=ih h ho hr V a w hi
            show (if Jx=id then KQ P K' Q .normal a w else KQ P K' Q (.exit Jx) a w)
            rw [if_pos (cP hb)]
            exact this
           .rename_i hb
            have:=ih h ho hr V a w hi
            show (if Jx=id then KQ P K' Q .normal a w else KQ P K' Q (.exit Jx) a w)
            rw [if_neg (beq_false hb)]
            exact this
       | loop m c=>
         cases x with
         | normal=>
           cases m with
           | zero=>cases h
           | succ m'=>exact ih h ho hr V a w hi
         | ret=>exact ih h ho hr V a w hi
         | exit Jx=>exact ih h ho hr V a w hi
       | scope=>
         have:=ih h ho hr V a w hi
         cases x <;> exact this
   | go c=>
     simp only [Fu] at h
     split at h
     .exact wp_skip (ih h ho hr V a w hi)
     .exact wp_label (ih h ho hr V a w hi)
     .split at h
      .split at h
       .rename_i s1 h1
        exact Nb aU aV gZ h1 (fun q hq=>ho q (zS h q hq)) hi fun V' a' w' fV=>ih h ho hr V' a' w' fV
       .cases h
      .split at h
       .rename_i s1 h1
        exact wp_region_list (uL aU aV h1 (fun q hq=>ho q (zS h q hq)) hi fun V' a' w' fV=>ih h ho hr V' a' w' fV)
       .cases h
     .exact wp_seq (ih h ho hr V a w hi)
     .split at h
      .rename_i hc
       have hc:=bI hi.tmp hi.aO hc
       simp only [den,aW] at hc
       exact wp_cond_true hc.symm (ih h ho hr V a w hi)
      .rename_i hc
       have hc:=bI hi.tmp hi.aO hc
       simp only [den,aW] at hc
       exact wp_cond_false hc.symm (ih h ho hr V a w hi)
      .rename_i b hc
       have hc:=bI hi.tmp hi.aO hc
       simp only [den,aW] at hc
       split at h
       .have hb:b=true:=ho _ (zS h _ dC)
        rw [hb] at hc
        exact wp_cond_true hc.symm (ih h ho hr V a w (hi.hints _ _))
       .have hb:b=false:=ho _ (zS h _ dC)
        rw [hb] at hc
        exact wp_cond_false hc.symm (ih h ho hr V a w (hi.hints _ _))
       .cases h
      .cases h
     .exact wp_block (ih h ho hr V a w hi)
     .split at h
      .cases h;exact hr V a w hi
      .exact wp_loop_rounds (lf+1) (ih h ho hr V a w hi)
     .exact wp_exit (ih h ho hr V a w hi)
     .exact wp_ret (ih h ho hr V a w hi)
     .exact wp_scope_straight (ih h ho hr V a w hi)
     .cases h
theorem G.loop {L:Code} {K:List Fr} {Q:Exit->Act->World->Prop} (S:Nat->St->Prop) {r0:Nat} {s0:St} (h0:S r0 s0)
 (aJm:∀ r s,S r s->G P Γ w0 M B N F0 V0 (.go L) [] s (Exit.then (fun a w=>∃ r',r'<r/\∃ s',S r' s'/\∃ V,Inv P Γ w0 M B N F0 V0 s' V a w) (KQ P K Q))) :
 G P Γ w0 M B N F0 V0 (.go (.loop L)) K s0 Q:=by
 intro V a w hi
 refine wp_loop_ghost (fun r a w=>∃ s,S r s/\∃ V,Inv P Γ w0 M B N F0 V0 s V a w) r0 ⟨s0,h0,V,hi⟩ ?_
 rintro r a w ⟨s,hs,V,hi⟩
 exact aJm r s hs V a w hi
theorem G.again {K:List Fr} {Q:Exit->Act->World->Prop} {S:Nat->St->Prop} {r:Nat} {s:St}
 (h:∀ V a w,Inv P Γ w0 M B N F0 V0 s V a w->∃ r',r'<r/\∃ s',S r' s'/\∃ V,Inv P Γ w0 M B N F0 V0 s' V a w) :
 G P Γ w0 M B N F0 V0 (.at .normal) [] s (Exit.then (fun a w=>∃ r',r'<r/\∃ s',S r' s'/\∃ V,Inv P Γ w0 M B N F0 V0 s' V a w) (KQ P K Q)):=
 fun V a w hi=>h V a w hi
theorem G.leave {K:List Fr} {Q:Exit->Act->World->Prop} {J:Act->World->Prop} {x:Ex} {s:St} (hx:x ≠ .normal) (h:G P Γ w0 M B N F0 V0 (.at x) K s Q) :
 G P Γ w0 M B N F0 V0 (.at x) [] s (Exit.then J (KQ P K Q)):=by
 intro V a w hi
 have:=h V a w hi
 cases x with
 | normal=>exact (hx rfl).elim
 | exit id=>exact this
 | ret=>exact this
end
def La (ρ : Nat->Option Nat):SB->Option SB
 | .gC k xs=>some (.gC k xs)
 | .rC xs=>some (.rC xs)
 | B=>yU ρ B
theorem Gh {ρ : Nat->Option Nat} {V V':bA} (h:Bz ρ V V') {w:World} {l l':Nat} {B B':SB} (hl : ρ l=some l') (hr:La ρ B=some B') (kX:okB V w l B) :
 okB V' w l' B'/\(∀ n,B'.aT V' l'=some n->B.aT V l=some n)/\(∀ n,B.aT V l=some n->B'.aT V' l'=some n)/\B'.owned=B.owned:=by
 cases B with
 | gC k xs=>
   simp only [La,aW] at hr
   subst hr
   obtain ⟨cs,hc,v,hσ,hh⟩:=kX
   have gN:=(h l l' hl).2 _ hσ
   exact ⟨⟨cs,hc,v,gN,hh⟩,fun n hn=>by simpa [SB.aT,hσ,gN] using hn,fun n hn=>by simpa [SB.aT,hσ,gN] using hn,rfl⟩
 | rC xs=>
   simp only [La,aW] at hr
   subst hr
   obtain ⟨cs,hc,v,hσ,hh⟩:=kX
   have gN:=(h l l' hl).2 _ hσ
   exact ⟨⟨cs,hc,v,gN,hh⟩,fun n hn=>by simpa [SB.aT,hσ,gN] using hn,fun n hn=>by simpa [SB.aT,hσ,gN] using hn,rfl⟩
 | _=>exact qQ h hl hr kX
noncomputable def rG (ρ : Nat->Option Nat) (tb:Tr SB):List Nat->Option (List SB)
 | []=>some []
 | l::r=>match tb.get l with
   | some B=>match La ρ B,rG ρ tb r with
     | some B,some bs=>some (B::bs)
     | _,_=>none
   | none=>none
theorem qV {ρ : Nat->Option Nat} {tb:Tr SB}:∀ {ls:List Nat} {bs:List SB},rG ρ tb ls=some bs->bs.length=ls.length/\∀ (i:Nat) (B:SB),bs[i]?=some B->∃ (l:Nat) (C:SB),ls[i]?=some l/\tb.get l=some C/\La ρ C=some B
 | [],bs,h=>by simp only [rG,aW] at h;subst h;simp
 | l::r,bs,h=>by
   simp only [rG] at h
   split at h
   .rename_i C hC
    split at h
    .rename_i B' bs' hB QD
     cases h
     obtain ⟨h1,h2⟩:=qV QD
     refine ⟨by simp [h1],fun i B hi=>?_⟩
     cases i with
     | zero=>simp only [List.getElem?_cons_zero,aW] at hi;subst hi;exact ⟨l,C,rfl,hC,hB⟩
     | succ i=>simpa using h2 i B (by simpa using hi)
    .cases h
   .cases h
noncomputable def Lg (ρ : Nat->Option Nat) (g:Tr SV):List Nat->Option (Tr SV)
 | []=>some .lf
 | t::r=>match Lg ρ g r,g.get t with
   | some g',some v=>match Ab ρ v with
     | some v=>Tr.put v 64 g' t
     | none=>none
   | _,_=>none
noncomputable def CP:List (Nat × SB)->Option (Tr SB)
 | []=>some .lf
 | (l,B)::r=>match CP r with
   | some t=>Tr.put B 64 t l
   | none=>none
noncomputable def Tw (F0:Nat) (qD fG:List Nat) (hs:List Bool) (s:St):Option St:=
 match Lg (nm F0 F0 fG) s.g qD,rG (nm F0 F0 fG) s.tb s.ws,rG (nm F0 F0 fG) s.tb fG with
 | some g,some wr,some nw=>match CP (nY s.ws wr++gE F0 nw),Ar (nm F0 F0 fG) s.df with
   | some tb,some df=>match Fs fG&&(fG.all (fun l=>Nat.ble F0 l)&&s.ws.all (fun l=>Nat.blt l F0)) with
     | true=>some { g:=g,tb:=tb,nx:=F0+fG.length,ws:=s.ws,ob:=[],df:=df,hs:=hs }
     | false=>none
   | _,_=>none
 | _,_,_=>none
theorem xM {ρ : Nat->Option Nat} {g:Tr SV}:∀ {ks:List Nat} {g':Tr SV},Lg ρ g ks=some g'->∀ t v,g'.get t=some v->∃ u,g.get t=some u/\Ab ρ u=some v
 | [],g',h,t,v,hv=>by simp only [Lg,aW] at h;subst h;rw [Tr.kT] at hv;cases hv
 | k::r,g',h,t,v,hv=>by
   simp only [Lg] at h
   split at h
   case h_2=>cases h
   rename_i g1 u h1 hu
   split at h
   case h_2=>cases h
   rename_i v1 hr
   rw [Tr.gQ _ _ _ _ _ h t] at hv
   split at hv
   .rename_i e;subst e;cases hv;exact ⟨u,hu,hr⟩
   .exact xM h1 t v hv
theorem Mi:∀ {r:List (Nat × SB)} {t:Tr SB},CP r=some t->∀ l,t.get l=look l r
 | [],t,h,l=>by simp only [CP,aW] at h;subst h;rfl
 | (k,B)::r,t,h,l=>by
   simp only [CP] at h
   split at h
   case h_2=>cases h
   rename_i t1 h1
   rw [Tr.gQ _ _ _ _ _ h l]
   split
   .rename_i e;subst e;rw [aI]
   .rename_i e;rw [aE (fun q=>e q.symm)];exact Mi h1 l
structure nP (Γ:Env) (B:aX) (F0:Nat) (V0:bA):Prop where
 top:V0.top F0
 aO:bR Γ V0
 cut:∀ l,F0<=l->B l=none
 cells:∀ l b,B l=some b->∃ cs,b.cells V0=some cs
theorem FD {F lab l:Nat} {ls:List Nat} (h:l<F):nm F lab ls l=some l:=by
 unfold nm
 have:Nat.blt l F=true:=by simpa [Nat.blt_eq] using h
 rw [this]
theorem aQi {F lab l i:Nat} {ls:List Nat} (h:F<=l) (hd:Fs ls=true) (hi:ls[i]?=some l):nm F lab ls l=some (lab+i):=by
 unfold nm
 have hb:Nat.blt l F=false:=by
  cases hb:Nat.blt l F with
  | false=>rfl
  | true=>have:l<F:=by simpa [Nat.blt_eq] using hb
          omega
 rw [hb]
 simp only
 cases QX:Em l ls 0 with
 | none=>
   exfalso
   have:∀ (ms:List Nat) (i:Nat),Em l ms i=none->l ∉ ms:=by
    intro ms
    induction ms with
    | nil=>intro i _;simp
    | cons a r ih=>
      intro i hi
      simp only [Em] at hi
      split at hi
      .cases hi
      .rename_i hb
       have:=beq_false hb
       simp only [List.mem_cons,not_or]
       exact ⟨fun q=>this q.symm,ih _ hi⟩
   exact this ls 0 QX (List.mem_of_getElem? hi)
 | some j=>
   simp only
   obtain ⟨_,h6⟩:=uS QX
   have:=vU hd hi (by simpa using h6)
   congr 1
   omega
section
variable {P:Program} {Γ:Env} {w0:World} {M:Nat->Prop} {B:aX} {N F0:Nat} {V0:bA}
theorem Inv.norm (hb:nP Γ B F0 V0) {qD fG:List Nat} {hs:List Bool} {s s':St} (h:Tw F0 qD fG hs s=some s') {V:bA} {a:Act} {w:World} (hi:Inv P Γ w0 M B N F0 V0 s V a w) :
 ∃ V',Inv P Γ w0 M B N F0 V0 s' V' a w:=by
 unfold Tw at h
 split at h
 case h_2=>cases h
 rename_i g wr nw hg Xb hnw
 split at h
 case h_2=>cases h
 rename_i tb df htb hdf
 split at h
 case h_2=>cases h
 rename_i kE
 cases h
 simp only [iN] at kE
 obtain ⟨tV,hc3,hc4⟩:=kE
 have SX:∀ (i k:Nat),fG[i]?=some k->F0<=k:=fun i k hk=>jX (List.all_eq_true.1 hc3 k (List.mem_of_getElem? hk))
 have CU:∀ k,k∈s.ws->k<F0:=fun k hk=>by have:=List.all_eq_true.1 hc4 k hk;simpa [Nat.blt_eq] using this
 obtain ⟨CA,hng⟩:=qV hnw
 obtain ⟨hwl,hwg⟩:=qV Xb
 have rZ:=Mi htb
 obtain ⟨V',Od⟩:∃ V':bA,V'=⟨fun l=>if l<F0 then V.β l else (fG[l-F0]?).bind V.β,fun l=>if l<F0 then V.σ l else (fG[l-F0]?).bind V.σ⟩:=⟨_,rfl⟩
 have Kc:∀ l,l<F0->V'.β l=V.β l/\V'.σ l=V.σ l:=fun l hl=>by subst Od;exact ⟨if_pos hl,if_pos hl⟩
 have vhi:∀ i,V'.β (F0+i)=(fG[i]?).bind V.β/\V'.σ (F0+i)=(fG[i]?).bind V.σ:=fun i=>by
  subst Od
  refine ⟨(if_neg (by omega)).trans ?_,(if_neg (by omega)).trans ?_⟩ <;> rw [show F0+i-F0=i from by omega]
 have aTq:∀ l,F0<=l->V'.β l=(fG[l-F0]?).bind V.β/\V'.σ l=(fG[l-F0]?).bind V.σ:=fun l hl=>by
  have:=vhi (l-F0);rwa [show F0+(l-F0)=l from by omega] at this
 have hle:V0.le V':=by
  refine ⟨fun l p hp=>?_,fun l p hp=>?_⟩
  .by_cases hl:l<F0
   .rw [(Kc l hl).1,(hi.low l hl).1];exact hp
   .rw [(hb.top l (by omega)).1] at hp;cases hp
  .by_cases hl:l<F0
   .rw [(Kc l hl).2,(hi.low l hl).2];exact hp
   .rw [(hb.top l (by omega)).2] at hp;cases hp
 have yX:Bz (nm F0 F0 fG) V V':=by
  intro l l' hl
  by_cases cM:l<F0
  .rw [FD cM] at hl
   cases hl
   rw [(Kc l cM).1,(Kc l cM).2]
   exact ⟨fun p hp=>hp,fun p hp=>hp⟩
  .unfold nm at hl
   split at hl
   .rename_i Tk
    exact absurd (by simpa [Nat.blt_eq] using Tk) cM
   .split at hl
    .rename_i i QX
     cases hl
     obtain ⟨_,h2⟩:=uS QX
     have h2:fG[i]?=some l:=by simpa using h2
     rw [(vhi i).1,(vhi i).2,h2]
     exact ⟨fun p hp=>hp,fun p hp=>hp⟩
    .cases hl
 have src:∀ l b,St.T B { g:=g,tb:=tb,nx:=F0+fG.length,ws:=s.ws,ob:=[],df:=df,hs:=hs } l=some b ->
  ∃ k C,s.T B k=some C/\nm F0 F0 fG k=some l/\okB V' w l b/\(∀ n,b.aT V' l=some n->C.aT V k=some n)/\b.owned=C.owned:=by
  intro l b hl
  simp only [St.T,rZ l] at hl
  rw [cE] at hl
  cases hw:look l (nY s.ws wr) with
  | some b1=>
    rw [hw] at hl
    cases hl
    obtain ⟨i,h1,h2⟩:=mQ hw
    obtain ⟨k,C,h3,h4,h5⟩:=hwg i _ h2
    rw [h1] at h3;cases h3
    have Ag:s.T B l=some C:=by simp only [St.T,h4]
    have QT:nm F0 F0 fG l=some l:=FD (CU l (List.mem_of_getElem? h1))
    obtain ⟨r1,r2,r3,r4⟩:=Gh yX QT h5 (hi.eW.ok l C Ag)
    exact ⟨l,C,Ag,QT,r1,r2,r4⟩
  | none=>
    rw [hw] at hl
    have En:=kW hwl hw
    simp only at hl
    rw [fD] at hl
    by_cases hr:F0<=l
    .rw [if_pos hr] at hl
     cases hn:nw[l-F0]? with
     | some b1=>
       rw [hn] at hl
       cases hl
       obtain ⟨k,C,h3,h4,h5⟩:=hng (l-F0) _ hn
       have Ag:s.T B k=some C:=by simp only [St.T,h4]
       have QT:nm F0 F0 fG k=some l:=by
        rw [aQi (SX _ _ h3) tV h3]
        congr 1
        omega
       obtain ⟨r1,r2,r3,r4⟩:=Gh yX QT h5 (hi.eW.ok k C Ag)
       exact ⟨k,C,Ag,QT,r1,r2,r4⟩
     | none=>
       rw [hn] at hl
       simp only at hl
       rw [hb.cut l hr] at hl
       cases hl
    .rw [if_neg hr] at hl
     simp only at hl
     have cM:l<F0:=by omega
     have Ag:s.T B l=some b:=by simp only [St.T,hi.ch l cM En,hl]
     obtain ⟨cs,c1,c2⟩:=hi.eW.ok l b Ag
     obtain ⟨cs0,c3⟩:=hb.cells l b hl
     have:=SB.iM hi.le c3
     rw [c1] at this
     cases this
     have e1:=(Kc l cM).1
     have e2:=(Kc l cM).2
     refine ⟨l,b,Ag,FD cM,⟨cs,SB.iM hle c3,?_⟩,fun n hn=>?_,rfl⟩
     .cases b with
      | own cells ty=>obtain ⟨b,hb,hh⟩:=c2;exact ⟨b,e1.trans hb,hh⟩
      | ints k xs ty=>obtain ⟨b,hb,hh⟩:=c2;exact ⟨b,e1.trans hb,hh⟩
      | eN vs ty=>obtain ⟨b,hb,hh⟩:=c2;exact ⟨b,e1.trans hb,hh⟩
      | eQ cells=>obtain ⟨b,o,hb,hh⟩:=c2;exact ⟨b,o,e1.trans hb,hh⟩
      | nT k xs=>obtain ⟨b,o,hb,hh⟩:=c2;exact ⟨b,o,e1.trans hb,hh⟩
      | dF k xs ty=>obtain ⟨v,hv,hh⟩:=c2;exact ⟨v,e2.trans hv,hh⟩
      | fQ sz n ty=>obtain ⟨v,us,hv,hh⟩:=c2;exact ⟨v,us,e2.trans hv,hh⟩
      | row sz cells ty=>obtain ⟨b,cap,cur,hb,hσ,r⟩:=c2;exact ⟨b,cap,cur,e1.trans hb,e2.trans hσ,r⟩
      | gC k xs=>obtain ⟨v,hv,hh⟩:=c2;exact ⟨v,e2.trans hv,hh⟩
      | eK xs ty=>obtain ⟨v,hv,hh⟩:=c2;exact ⟨v,e2.trans hv,hh⟩
      | rC xs=>obtain ⟨v,hv,hh⟩:=c2;exact ⟨v,e2.trans hv,hh⟩
      | gone=>trivial
     .cases b <;> simp only [SB.aT,e1,e2] at hn |- <;> exact hn
 refine ⟨V',fun t v hv=>?_,fun d v hv=>?_,hi.size,?_,⟨fun l b hl=>?_,fun l b l' b' n dI hl sL ho Fj Xy=>?_,fun l b n hl ho Fj=>?_,hi.eW.frame⟩,fun n l hl=>hle.1 _ _ (hb.aO n l hl),fun l hl=>?_,hle,fun l hl=>?_,fun l hl hn=>?_,?_,fun l hl=>?_⟩
 .obtain ⟨u,h1,h2⟩:=xM hg t v hv
  exact Ce yX h2 (hi.tmp t u h1)
 .obtain ⟨u,h1,_⟩:=xM hg d v hv
  exact hi.keys d u h1
 .obtain ⟨xs,h1,h2⟩:=hi.defers
  exact ⟨xs,nG yX hdf h1,h2⟩
 .obtain ⟨_,_,_,_,h,_⟩:=src l b hl;exact h
 .obtain ⟨k,C,h1,h2,_,h4,h5⟩:=src l b hl
  obtain ⟨k',C',Ov,BL,_,h4',_⟩:=src l' b' sL
  have Ad:k≠k':=fun e=>by subst e;rw [h2] at BL;cases BL;exact dI rfl
  exact hi.eW.iY k C k' C' n Ad h1 Ov (h5 ▸ ho) (h4 n Fj) (h4' n Xy)
 .obtain ⟨k,C,h1,h2,_,h4,h5⟩:=src l b hl
  exact hi.eW.perm k C n h1 (h5 ▸ ho) (h4 n Fj)
 .have hl:F0+fG.length<=l:=hl
  have:=aTq l (by omega)
  rw [this.1,this.2,List.getElem?_eq_none (by omega)]
  exact ⟨rfl,rfl⟩
 .rw [(Kc l hl).1,(Kc l hl).2];exact hi.low l hl
 .show tb.get l=none
  rw [rZ l,cE]
  cases hw:look l (nY s.ws wr) with
  | some b=>
    obtain ⟨i,h1,_⟩:=mQ hw
    exact absurd (List.mem_of_getElem? h1) hn
  | none=>
    simp only
    rw [fD,if_neg (by omega)]
 .exact Nat.le_add_right _ _
 .have hl:F0+fG.length<=l:=hl
  have h1:tb.get l=none:=by
   rw [rZ l,cE]
   cases hw:look l (nY s.ws wr) with
   | some b=>
     obtain ⟨i,h1,_⟩:=mQ hw
     have:=CU l (List.mem_of_getElem? h1)
     omega
   | none=>
     simp only
     rw [fD,if_pos (by omega)]
     exact List.getElem?_eq_none (by rw [CA];omega)
  show (match tb.get l with | some b=>some b | none=>B l)=none
  rw [h1]
  exact hb.cut l (by omega)
theorem G.norm (hb:nP Γ B F0 V0) {qD fG:List Nat} {hs:List Bool} {s s':St} (h:Tw F0 qD fG hs s=some s') {cf:Cf} {K:List Fr} {Q:Exit->Act->World->Prop}
 (hG:G P Γ w0 M B N F0 V0 cf K s' Q):G P Γ w0 M B N F0 V0 cf K s Q:=by
 intro V a w hi
 obtain ⟨V',fV⟩:=hi.norm hb h
 exact hG V' a w fV
end
noncomputable def Kp (Γ:Env) (T:aX) (lab F:Nat) (fn:Func) (x:Ex) (s:St):Option bK:=match x with
 | .exit _=>none
 | _=>match kH Γ (aZ F T) F fn.ntmps s.df s with
   | some s=>match Aq Γ s.g.get (s.T (aZ F T)) fn.results.toList with
     | some (ob,rs)=>finish F lab (s.PM ob) (res rs)
     | none=>none
   | none=>none
theorem aBc {P:Program} {Γ:Env} (aU:cD P Γ) (aV:cF P Γ) {fn:Func} {T T2:aX} {lab F:Nat} {e e':bK} {w0 w:World} {M:Nat->Prop} {V:bA} {x:Ex} {s:St}
 (aR:∀ l B,T l=some B->T2 l=some B) (hT:aD w0 M V T2 w) (hf:V.fresh lab) (h:Kp Γ T lab F fn x s=some e') (ho:∀ q∈e'.bO,q) (hev:e'.val=e.val) (hen:e'.new=e.new) (hew:e'.wr=e.wr)
 {R:Ending->World->Prop} (hR:∀ V' x w',V.ext lab V'->den V' e.val=some x->aD w0 M V' (eT T2 lab e) w'->R (.returned x) w') :
 G P Γ w (jM V (aZ F T)) (aZ F T) fn.ntmps F V (.at x) [] s (bodyPostD P fn R):=by
 intro V' a' w' fV
 have main:∀ y:Ex,y.to = .normal\/y.to = .ret->(match kH Γ (aZ F T) F fn.ntmps s.df s with
   | some s=>match Aq Γ s.g.get (s.T (aZ F T)) fn.results.toList with
     | some (ob,rs)=>finish F lab (s.PM ob) (res rs)
     | none=>none
   | none=>none)=some e'->bodyPostD P fn R y.to a' w':=by
  intro y hy h
  split at h
  case h_2=>cases h
  rename_i s2 h2
  split at h
  case h_2=>cases h
  rename_i obr rs Xd
  have CD:e'.bO=obr++s2.ob:=by
   unfold finish at h
   split at h
   .cases h
   .simp only at h
    split at h
    .cases h;rfl
    .cases h
  obtain ⟨ys,gW,Fh⟩:=fV.defers
  have hl:Leaves P fn a'.tmps R a'.defers .returning w':=by
   rw [Fh]
   refine Cu aV h2 (fun q hq=>ho q (CD ▸ List.mem_append_right _ hq)) fV rfl gW fun V3 a3 w3 hi3 ha3=>?_
   obtain ⟨v,hv1,hv2⟩:=Dm (P:=P) (fn:=fn) aU hi3.tmp hi3.eW Xd (fun q hq=>ho q (CD ▸ List.mem_append_left _ hq))
   obtain ⟨_,V2,k1,k2,k3⟩:=Gr hT aR hf (hi3.PM obr) hv1 h
   refine ⟨v,ha3 ▸ hv2,hR V2 v w3 k1 (hev ▸ k2) ?_⟩
   have:eT T2 lab e=eT T2 lab e':=by
    funext l;simp only [eT,bK.eW,hen,hew]
   rw [this]
   exact k3
  rcases hy with q | q <;> (rw [q];exact hl)
 cases x with
 | exit id=>cases h
 | normal=>exact main .normal (.inl rfl) h
 | ret=>exact main .ret (.inr rfl) h
theorem fS {P:Program} {Γ:Env} (aU:cD P Γ) (aV:cF P Γ) {f:FuncId} {fn:Func} {c:Code} (tU:P.funcs[f]?=some fn) (dI:(fn.name == "runtime.NumGoroutine")=false) (hc:fn.body=some c)
 {vs:List SV} {T:aX} {lab F:Nat} {e:bK} (hn:vs.length<=fn.ntmps) {g:Tr SV} (zK:Br vs 0 .lf=some g) (hs:List Bool)
 (H:∀ (w0:World) (M:Nat->Prop) (V0:bA) (Q:Exit->Act->World->Prop),nP Γ (aZ F T) F V0 ->
  (∀ x s e',Kp Γ T lab F fn x s=some e'->(∀ q∈e'.bO,q)->e'.val=e.val->e'.new=e.new->e'.wr=e.wr->G P Γ w0 M (aZ F T) fn.ntmps F V0 (.at x) [] s Q) ->
  G P Γ w0 M (aZ F T) fn.ntmps F V0 (.go c) [] { g:=g,tb:=.lf,nx:=F,ws:=[],ob:=[],hs:=hs } Q):aF P Γ f vs T lab F e:=by
 intro w0 M V T2 w xs aR hT hg hf hF hx o a K Q hK
 have hlen:=bH hx
 have Lm:=xN zK
 have nL:xs.length=vs.length:=hlen
 have eC:nP Γ (aZ F T) F V:=by
  refine ⟨hF,hg,fun l hl=>?_,fun l b hl=>?_⟩
  .cases hc:aZ F T l with
   | none=>rfl
   | some b=>have:=(kK hc).1;omega
  .obtain ⟨cs,h1,_⟩:=hT.ok l b (aR l b (kK hl).2)
   exact ⟨cs,h1⟩
 have QY:Inv P Γ w (jM V (aZ F T)) (aZ F T) fn.ntmps F V { g:=g,tb:=.lf,nx:=F,ws:=[],ob:=[],hs:=hs } V { tmps:=xs.toArray++Array.replicate (fn.ntmps-xs.toArray.size) undef,defers:=[] } w:=by
  refine ⟨fun t v hv=>?_,fun d v hv=>?_,?_,⟨[],rfl,rfl⟩,?_,hg,hF,V.le_refl,fun l _=>⟨rfl,rfl⟩,fun l _ _=>rfl,cT _,fun l hl=>?_⟩
  .have:=Lm t
   simp only at hv
   rw [hv] at this
   split at this
   .rename_i hr
    obtain ⟨y,h1,h2⟩:=dR hx t v (by simpa using this.symm)
    rw [h2]
    have cM:t<xs.length:=by omega
    have rZ:xs[t]?=some y:=h1
    simp [Act.eval,Array.getD_eq_getD_getElem?,Array.getElem?_append,cM] at rZ |-
    exact rZ.symm
   .cases this
  .have:=Lm d
   simp only at hv
   rw [hv] at this
   split at this
   .omega
   .cases this
  .simp
   omega
  .have hp:=aD.part hT (T:=aZ F T) (fun l B hl=>aR l B (kK hl).2)
   have:St.T (aZ F T) { g:=g,tb:=.lf,nx:=F,ws:=[],ob:=[],hs:=hs }=aZ F T:=by funext l;rfl
   rw [this]
   exact hp
  .show (match Tr.get .lf l with | some b=>some b | none=>aZ F T l)=none
   simp only [Tr.kT]
   exact eC.cut l hl
 rw [gK tU hc dI,Oper.upon_enter]
 refine calls_of_wp_defers tU hc ?_
 exact H w (jM V (aZ F T)) V (bodyPostD P fn _) eC (fun x s e' h ho h1 h2 h3=>aBc aU aV aR hT hf h ho h1 h2 h3 (R:=fun
   | .returned v,QJ=>K (a.put o.dst v) QJ
   | .panicked chain,QJ=>Q (.panic chain) a QJ
   | .outgrown,_=>LetsOut Q) (fun V' x w' h1 h2 h3=>hK V' x w' h1 h2 h3)) V _ w QY
end Go.Proofs.YtnodfocobmghiaaGreatDoor.Sx
