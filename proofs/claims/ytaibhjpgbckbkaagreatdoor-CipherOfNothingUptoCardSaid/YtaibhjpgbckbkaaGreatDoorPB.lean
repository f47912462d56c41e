/- A part of the proof of CipherOfNothing: Sx16 to Call. -/
import Derived.Test.YtaibhjpgbckbkaaGreatDoorPA
import Derived.LoopN
import Derived.Scope
import Derived.Laws.Externs
import Derived.Deep.LoopGhost
import Derived.Test.YtaibhjpgbckbkaaGreatDoorChecked
import Derived.KernelRfl
open Go
set_option maxRecDepth 100000
namespace Go.Proofs.YtaibhjpgbckbkaaGreatDoor.Sx
def nY:Op->Bool
 | .binOp .eql t .. | .binOp .neq t .. => Nat.blt t 6||(Nat.beq t 26||Nat.beq t 100)
 | .move _ | .assign _ | .pick .. | .alloc _ | .box .. | .build .. | .buildSlice .. | .nilCheck _ | .binOp .. | .unOp .. | .convert .. | .sliceToArrayPointer .. | .makeInterface .. | .makeFunc .. | .makeSlice .. | .fieldAddr .. | .field .. | .indexAddr .. | .index .. | .extract .. => true
 | _=>false
def nA (ms:List Nat):List Edge->Option Nat
 | []=>some 0
 | e::r=>match Region.binds .any e with
   | true=>match ms[e.on]?,nA ms r with
     | some m,some k=>some ((m ||| (1 <<< e.on)) ||| k)
     | _,_=>none
   | false=>nA ms r
theorem vP (i k:Nat):(1 <<< i).testBit k=decide (k=i):=by
 rw [Nat.one_shiftLeft,Nat.testBit_two_pow]
 simp [eq_comm]
theorem jY {ms:List Nat}:∀ {es:List Edge} {m:Nat},nA ms es=some m->∀ k,m.testBit k=true ->
 ∃ e∈es,Region.binds .any e=true/\(k=e.on\/∃ me,ms[e.on]?=some me/\me.testBit k=true)
 | [],m,h,k,hk=>by simp only [nA,Option.some.injEq] at h;subst h;simp at hk
 | e::r,m,h,k,hk=>by
   simp only [nA] at h
   split at h
   .rename_i hb
    split at h
    .rename_i me mr Sa hmr
     simp only [Option.some.injEq] at h
     subst h
     simp only [Nat.testBit_or,Bool.or_eq_true,vP,decide_eq_true_eq] at hk
     rcases hk with (hk | hk) | hk
     .exact ⟨e,by simp,hb,.inr ⟨me,Sa,hk⟩⟩
     .exact ⟨e,by simp,hb,.inl hk⟩
     .obtain ⟨e',lE,h1,h2⟩:=jY hmr k hk
      exact ⟨e',by simp [lE],h1,h2⟩
    .cases h
   .obtain ⟨e',lE,h1,h2⟩:=jY h k hk
    exact ⟨e',by simp [lE],h1,h2⟩
theorem rR {ms:List Nat}:∀ {es:List Edge} {m:Nat},nA ms es=some m->∀ e∈es,Region.binds .any e=true->e.on<ms.length/\m.testBit e.on=true
 | [],m,h,e,he,_=>by cases he
 | e0::r,m,h,e,he,hb=>by
   simp only [nA] at h
   split at h
   .split at h
    .rename_i me mr Sa hmr
     simp only [Option.some.injEq] at h
     subst h
     rcases List.mem_cons.1 he with rfl | he
     .refine ⟨(List.getElem?_eq_some_iff.1 Sa).1,?_⟩
      simp [Nat.testBit_or]
     .obtain ⟨h1,h2⟩:=rR hmr e he hb
      exact ⟨h1,by simp [Nat.testBit_or,h2]⟩
    .cases h
   .rename_i OZ
    rcases List.mem_cons.1 he with rfl | he
    .rw [hb] at OZ;cases OZ
    .exact rR h e he hb
theorem pN {ms:List Nat}:∀ {es:List Edge} {m:Nat},nA ms es=some m->∀ e∈es,Region.binds .any e=true->∀ {me:Nat},ms[e.on]?=some me->∀ q,me.testBit q=true->m.testBit q=true
 | [],m,h,e,he,_,_,_,_,_=>by cases he
 | e0::r,m,h,e,he,hb,me,Sa,q,hq=>by
   simp only [nA] at h
   split at h
   .split at h
    .rename_i me' mr aLv hmr
     simp only [Option.some.injEq] at h
     subst h
     rcases List.mem_cons.1 he with rfl | he
     .rw [Sa] at aLv;cases aLv
      simp [Nat.testBit_or,hq]
     .simp [Nat.testBit_or,pN hmr e he hb Sa q hq]
    .cases h
   .rename_i OZ
    rcases List.mem_cons.1 he with rfl | he
    .rw [hb] at OZ;cases OZ
    .exact pN h e he hb Sa q hq
def jQ (t:Nat):List Oper->Nat->Option Nat
 | [],_=>none
 | o::r,i=>match o.dst with
   | some d=>match Nat.beq d t with
     | true=>some i
     | false=>jQ t r (i+1)
   | none=>jQ t r (i+1)
theorem nG {t:Nat}:∀ {l:List Oper} {i j:Nat},jQ t l i=some j->∃ o,i<=j/\l[j-i]?=some o/\o.dst=some t
 | [],i,j,h=>by cases h
 | o::r,i,j,h=>by
   simp only [jQ] at h
   have Ko:jQ t r (i+1)=some j->∃ o',i<=j/\(o::r)[j-i]?=some o'/\o'.dst=some t:=by
    intro h
    obtain ⟨o',h1,h2,h3⟩:=nG h
    refine ⟨o',by omega,?_,h3⟩
    rw [show j-i=(j-(i+1))+1 from by omega]
    simpa using h2
   split at h
   .rename_i d hd
    split at h
    .rename_i hb
     have:=Nat.eq_of_beq_eq_true hb
     subst this
     cases h
     exact ⟨o,Nat.le_refl _,by simp,hd⟩
    .exact Ko h
   .exact Ko h
def gS (ops:List Oper) (E:Nat->Option bR) (g0:Nat->Option SV) (S O:Nat->Bool) (t:Nat):Option SV:=
 match jQ t ops 0 with
 | none=>g0 t
 | some j=>match S j with
   | true=>(E j).map (·.val)
   | false=>match O j with
     | true=>g0 t
     | false=>none
def vA (all:Array Oper) (i j:Nat):Bool:=match all[j]? with
 | some o=>o.after.toList.any fun e=>Nat.beq e.on i&&Region.binds .any e
 | none=>false
def Aw (T0:bA) (lab0 n:Nat) (E:Nat->Option bR) (S:Nat->Bool):bA:=fun l=>
 match Nat.ble lab0 l&&Nat.blt l (lab0+8*n) with
 | true=>match S ((l-lab0)/8) with
   | true=>(E ((l-lab0)/8)).bind fun e=>e.new[(l-lab0)%8]?
   | false=>none
 | false=>T0 l
def TS (T0:bA) (lab0 n:Nat) (E:Nat->Option bR) (wr:List (Nat × SB)) (S:Nat->Bool):bA:=fun l=>
 match look l wr with
 | some b=>some b
 | none=>Aw T0 lab0 n E S l
def xD:Op->Bool
 | .load .. => true
 | .slice .. => true
 | .call c=>match c.callee with
   | .builtin .len=>true
   | .builtin .cap=>true
   | _=>false
 | _=>false
def aCg:SV->Nat
 | .buf l=>l
 | .dO l _ _ _=>l
 | .dX l _=>l
 | _=>1000000000
def NI (Γ:Env) (g:Nat->Option SV) (o:Oper):Option Nat:=match o.op with
 | .load _ x=>match ev Γ g x with
   | some (.ptr l _ _)=>some l
   | some (.mT l _)=>some l
   | _=>none
 | .slice _ x _ _ _=>(ev Γ g x).map aCg
 | .call c=>match c.callee,c.args.toList with
   | .builtin .len,[x]=>(ev Γ g x).map aCg
   | .builtin .cap,[x]=>(ev Γ g x).map aCg
   | _,_=>none
 | _=>none
theorem IA {Γ:Env} {g:Nat->Option SV} {o:Oper} {l:Nat} (h:NI Γ g o=some l):xD o.op=true:=by
 unfold NI at h
 split at h
 .rename_i cM;rw [cM];rfl
 .rename_i cM;rw [cM];rfl
 .rename_i c cM
  rw [cM]
  split at h
  .rename_i hc _;simp only [xD,hc]
  .rename_i hc _;simp only [xD,hc]
  .cases h
 .cases h
def aCc (l:Nat) (T:bA):bA:=fun k=>match Nat.beq k l with
 | true=>T k
 | false=>none
theorem ID {l k:Nat} {T:bA} {B:SB} (h:aCc l T k=some B):k=l/\T l=some B:=by
 unfold aCc at h
 split at h
 .rename_i hb
  have:=Nat.eq_of_beq_eq_true hb
  subst this
  exact ⟨rfl,h⟩
 .cases h
def Ef (l m:Nat) (es:List bR):List Nat->Bool
 | []=>true
 | s::r=>match m.testBit s with
   | true=>Ef l m es r
   | false=>match es[s]? with
     | some e=>match look l e.wr with
       | none=>Ef l m es r
       | some _=>false
     | none=>false
theorem Iw {l m:Nat} {es:List bR}:∀ {L:List Nat},Ef l m es L=true->∀ s∈L,m.testBit s=true\/∃ e,es[s]?=some e/\look l e.wr=none
 | [],_,s,hs=>by cases hs
 | k::r,h,s,hs=>by
   simp only [Ef] at h
   split at h
   .rename_i hk
    rcases List.mem_cons.1 hs with rfl | hs
    .exact .inl hk
    .exact Iw h s hs
   .split at h
    case h_2=>cases h
    rename_i e he
    split at h
    .rename_i hl
     rcases List.mem_cons.1 hs with rfl | hs
     .exact .inr ⟨e,he,hl⟩
     .exact Iw h s hs
    .cases h
theorem yI {l m:Nat} {es:List bR} {e:bR}:∀ {L:List Nat},(∀ s∈L,s<es.length)->Ef l m (es++[e]) L=Ef l m es L
 | [],_=>rfl
 | s::r,h=>by
   have ih:=yI (l:=l) (m:=m) (es:=es) (e:=e) (L:=r) (fun s hs=>h s (List.mem_cons_of_mem _ hs))
   simp only [Ef,ih,List.getElem?_append_left (h s List.mem_cons_self)]
def Dq (g0:Nat->Option SV) (all:Array Oper) (es:List bR) (j m:Nat):Nat->Option SV:=
 gS all.toList (fun j=>es[j]?) g0 (fun k=>m.testBit k) (vA all j)
def Wb (Γ:Env) (g0:Nat->Option SV) (all:Array Oper) (es:List bR) (ms:List Nat) (wr:List (Nat × SB)) (m:Nat):List Oper->Nat->Nat->Bool
 | _,_,0=>true
 | [],_,_=>true
 | o::r,j,k+1=>match nY o.op||m.testBit j with
   | true=>Wb Γ g0 all es ms wr m r (j+1) k
   | false=>match ms[j]? with
     | some mj=>match NI Γ (Dq g0 all es j mj) o with
       | some l=>match look l wr with
         | none=>Wb Γ g0 all es ms wr m r (j+1) k
         | some _=>false
       | none=>false
     | none=>false
theorem Ui {Γ:Env} {g0:Nat->Option SV} {all:Array Oper} {es:List bR} {ms:List Nat} {wr:List (Nat × SB)} {m:Nat}:∀ {l:List Oper} {j k:Nat},Wb Γ g0 all es ms wr m l j k=true->∀ (i:Nat) (o:Oper),i<k->l[i]?=some o ->
 (nY o.op=true\/m.testBit (j+i)=true)\/∃ mj lb,ms[j+i]?=some mj/\NI Γ (Dq g0 all es (j+i) mj) o=some lb/\look lb wr=none
 | _,_,0,_,i,o,hi,_=>by omega
 | [],_,k+1,_,i,o,_,ho=>by simp at ho
 | o'::r,j,k+1,h,i,o,hi,ho=>by
   have Ko:Wb Γ g0 all es ms wr m r (j+1) k=true->∀ i',i=i'+1->(nY o.op=true\/m.testBit (j+i)=true)\/∃ mj lb,ms[j+i]?=some mj/\NI Γ (Dq g0 all es (j+i) mj) o=some lb/\look lb wr=none:=by
    rintro h i' rfl
    simp only [List.getElem?_cons_succ] at ho
    have:=Ui h i' o (by omega) ho
    rw [show j+(i'+1)=j+1+i' from by omega]
    exact this
   simp only [Wb] at h
   cases i with
   | zero=>
     simp only [List.getElem?_cons_zero,Option.some.injEq] at ho
     subst ho
     split at h
     .rename_i hb
      left
      simpa using hb
     .split at h
      case h_2=>cases h
      rename_i mj hmj
      split at h
      case h_2=>cases h
      rename_i lb dH
      split at h
      .rename_i hl
       exact .inr ⟨mj,lb,hmj,dH,hl⟩
      .cases h
   | succ i=>
     split at h
     .exact Ko h i rfl
     .split at h
      case h_2=>cases h
      split at h
      case h_2=>cases h
      split at h
      .exact Ko h i rfl
      .cases h
def kT (es:List bR):List Nat->List (Nat × SB)
 | []=>[]
 | s::r=>match es[s]? with
   | some e=>e.wr++kT es r
   | none=>kT es r
theorem Gc {es:List bR} {l:Nat} {b:SB}:∀ {L:List Nat},look l (kT es L)=some b->∃ s∈L,∃ e,es[s]?=some e/\look l e.wr=some b
 | [],h=>by simp [kT,look] at h
 | s::r,h=>by
   simp only [kT] at h
   have Ko:look l (kT es r)=some b->∃ s'∈s::r,∃ e,es[s']?=some e/\look l e.wr=some b:=fun h=>by
    obtain ⟨s',h1,h2⟩:=Gc h
    exact ⟨s',List.mem_cons_of_mem _ h1,h2⟩
   split at h
   .rename_i e he
    rw [cI] at h
    cases hk:look l e.wr with
    | some b'=>rw [hk] at h;cases h;exact ⟨s,List.mem_cons_self,e,he,hk⟩
    | none=>rw [hk] at h;exact Ko h
   .exact Ko h
theorem qY {es:List bR} {e:bR}:∀ {L:List Nat},(∀ s∈L,s<es.length)->kT (es++[e]) L=kT es L
 | [],_=>rfl
 | s::r,h=>by
   have ih:=qY (es:=es) (e:=e) (L:=r) (fun s hs=>h s (List.mem_cons_of_mem _ hs))
   simp only [kT,ih,List.getElem?_append_left (h s List.mem_cons_self)]
def inM (m:Nat):List Nat->Bool
 | []=>true
 | s::r=>match m.testBit s with
   | true=>inM m r
   | false=>false
theorem HA {m:Nat}:∀ {L:List Nat},inM m L=true->∀ s∈L,m.testBit s=true
 | [],_,s,hs=>by cases hs
 | k::r,h,s,hs=>by
   simp only [inM] at h
   split at h
   .rename_i hk
    rcases List.mem_cons.1 hs with rfl | hs
    .exact hk
    .exact HA h s hs
   .cases h
def isNil {α:Type}:List α->Bool
 | []=>true
 | _=>false
def qF (i:Nat):List Nat->List Nat
 | []=>[]
 | s::r=>match Nat.blt s i with
   | true=>s::qF i r
   | false=>qF i r
theorem nE (i:Nat):∀ L:List Nat,qF i L=L.filter fun s=>Nat.blt s i
 | []=>rfl
 | s::r=>by
   simp only [qF,List.filter_cons,nE i r]
   cases Nat.blt s i <;> rfl
def Pw:List Oper->Nat->Bool
 | [],_=>false
 | o::r,i=>match o.guard with
   | some (j,_)=>match Nat.beq j i with
     | true=>true
     | false=>Pw r i
   | none=>Pw r i
def wZ (all:Array Oper) (i:Nat) (e:bR):bR:=match e.val with
 | .bool false c=>match Pw all.toList i with
   | true=>{ e with val:=.bool true true,bV:=(c=true)::e.bV }
   | false=>e
 | _=>e
theorem Ww {all:Array Oper} {i:Nat} {e:bR} (ho:∀ q∈(wZ all i e).bV,q):(∀ q∈e.bV,q)/\(wZ all i e).new=e.new/\(wZ all i e).wr=e.wr/\∀ V,den V (wZ all i e).val=den V e.val:=by
 unfold wZ at ho |-
 split
 .rename_i c hc
  rw [hc] at ho
  simp only at ho
  split
  .rename_i hg
   rw [hg] at ho
   refine ⟨fun q hq=>ho q (List.mem_cons_of_mem _ hq),rfl,rfl,fun V=>?_⟩
   have:c=true:=ho _ List.mem_cons_self
   subst this
   rw [hc];rfl
  .rename_i hg
   rw [hg] at ho
   exact ⟨ho,rfl,rfl,fun _=>rfl⟩
 .rename_i dP
  refine ⟨?_,rfl,rfl,fun _=>rfl⟩
  split at ho
  .rename_i c hc;exact (dP c hc).elim
  .exact ho
def aCz (Γ:Env) (g0:Nat->Option SV) (T0:bA) (lab0 n:Nat) (all:Array Oper) (o:Oper) (i m:Nat) (es:List bR) (wi:List Nat):Option bR:=
 match zJ all (Dq g0 all es i m) o with
 | some false=>some { val:=.raw undef }
 | some true=>match nY o.op with
   | true=>Bd Γ (Dq g0 all es i m) (fun _=>none) (lab0+8*i) (lab0+8*n) none o
   | false=>match NI Γ (Dq g0 all es i m) o with
     | some l=>match Ef l m es (qF i wi) with
       | true=>Bd Γ (Dq g0 all es i m) (aCc l (TS T0 lab0 n (fun j=>es[j]?) (kT es ((qF i wi).filter fun s=>m.testBit s)) (fun j=>m.testBit j))) (lab0+8*i) (lab0+8*n) none o
       | false=>none
     | none=>match inM m (qF i wi) with
       | true=>Bd Γ (Dq g0 all es i m) (TS T0 lab0 n (fun j=>es[j]?) (kT es (qF i wi)) (fun j=>m.testBit j)) (lab0+8*i) (lab0+8*n) none o
       | false=>none
 | none=>none
def Hj (Γ:Env) (g0:Nat->Option SV) (T0:bA) (lab0 n:Nat) (all:Array Oper) (o:Oper) (i m:Nat) (es:List bR) (wi:List Nat):Option bR:=
 match aCz Γ g0 T0 lab0 n all o i m es wi with
 | some e=>some (wZ all i e)
 | none=>none
def Fg (Γ:Env) (g0:Nat->Option SV) (T0:bA) (lab0 n:Nat) (all:Array Oper):List Oper->Nat->List bR->List Nat->List Nat->Option (List bR × List Nat × List Nat)
 | [],_,es,ms,wi=>some (es,ms,wi)
 | o::r,i,es,ms,wi=>match nA ms o.after.toList with
   | none=>none
   | some m=>match Hj Γ g0 T0 lab0 n all o i m es wi,(match o.dst with | some d=>jQ d all.toList 0==some i | none=>true) with
     | some e,true=>match isNil e.wr with
       | true=>match Nat.ble e.new.length 8 with
         | true=>Fg Γ g0 T0 lab0 n all r (i+1) (es++[e]) (ms++[m]) wi
         | false=>none
       | false=>match Nat.ble e.new.length 8&&Wb Γ g0 all es ms e.wr m all.toList 0 i&&e.wr.all (fun p=>Nat.blt p.1 lab0||(Nat.ble lab0 p.1&&m.testBit ((p.1-lab0)/8)))&&(!nY o.op && !xD o.op) with
         | true=>Fg Γ g0 T0 lab0 n all r (i+1) (es++[e]) (ms++[m]) (i::wi)
         | false=>none
     | _,_=>none
structure zA (Γ:Env) (g0:Nat->Option SV) (T0:bA) (lab0 n:Nat) (all:Array Oper) (i:Nat) (es:List bR) (ms:List Nat) (wi:List Nat):Prop where
 On:es.length=i
 De:ms.length=i
 lt:∀ (j m:Nat),ms[j]?=some m->∀ k,m.testBit k=true->k<j
 cl:∀ (j m:Nat),ms[j]?=some m->∀ k mk,m.testBit k=true->ms[k]?=some mk->∀ q,mk.testBit q=true->m.testBit q=true
 aft:∀ (j m:Nat) (o:Oper),ms[j]?=some m->all[j]?=some o->∀ e∈o.after,Region.binds .any e=true->e.on<j/\m.testBit e.on=true
 aMq:∀ (j m:Nat) (o:Oper),ms[j]?=some m->all[j]?=some o->∀ k,m.testBit k=true->∃ e∈o.after,Region.binds .any e=true/\(k=e.on\/∃ me,ms[e.on]?=some me/\me.testBit k=true)
 dst:∀ (j:Nat) (o:Oper) (d:Tmp),j<i->all[j]?=some o->o.dst=some d->jQ d all.toList 0=some j
 new:∀ (j:Nat) (e:bR),es[j]?=some e->e.new.length<=8
 wrt:∀ (j:Nat) (e:bR),es[j]?=some e->e.wr≠[]->j∈wi
 qF:∀ s∈wi,s<i
 wso:wi.Pairwise (· > ·)
 wim:∀ s∈wi,∀ (o:Oper),all[s]?=some o->nY o.op=false/\xD o.op=false
 wnp:∀ s∈wi,∀ (m:Nat),ms[s]?=some m->∀ (j:Nat) (o:Oper),j<s->all[j]?=some o->(nY o.op=true\/m.testBit j=true)\/∃ mj lb e,ms[j]?=some mj/\es[s]?=some e/\NI Γ (Dq g0 all es j mj) o=some lb/\look lb e.wr=none
 wlb:∀ s∈wi,∀ (m:Nat),ms[s]?=some m->∀ (e:bR),es[s]?=some e->∀ l b,look l e.wr=some b->l<lab0\/(lab0<=l/\m.testBit ((l-lab0)/8)=true)
 eff:∀ (j m:Nat) (o:Oper) (e:bR),ms[j]?=some m->all[j]?=some o->es[j]?=some e->Hj Γ g0 T0 lab0 n all o j m es wi=some e
theorem Mw {ops:List Oper} {E E':Nat->Option bR} {g0:Nat->Option SV} {S O:Nat->Bool} (h:∀ j,S j=true->E j=E' j):gS ops E g0 S O=gS ops E' g0 S O:=by
 funext t
 unfold gS
 cases jQ t ops 0 with
 | none=>rfl
 | some j=>
   cases hs:S j with
   | false=>simp [hs]
   | true=>simp [hs,h j hs]
theorem Rv {T0:bA} {lab0 n:Nat} {E E':Nat->Option bR} {S:Nat->Bool} (h:∀ j,S j=true->E j=E' j):Aw T0 lab0 n E S=Aw T0 lab0 n E' S:=by
 funext l
 unfold Aw
 split
 .cases hs:S ((l-lab0)/8) with
  | false=>rfl
  | true=>simp only [h _ hs]
 .rfl
theorem ND {T0:bA} {lab0 n:Nat} {E E':Nat->Option bR} {wr:List (Nat × SB)} {S:Nat->Bool} (h:∀ j,S j=true->E j=E' j):TS T0 lab0 n E wr S=TS T0 lab0 n E' wr S:=by
 funext l
 unfold TS
 rw [Rv h]
theorem Nd {Γ:Env} {g0:Nat->Option SV} {T0:bA} {lab0 n:Nat} {all:Array Oper} {o:Oper} {j m:Nat} {es:List bR} {wi Rw:List Nat} (e:bR) (hm:∀ k,m.testBit k=true->k<es.length) (hj:j<=es.length)
 (hw:Rw=wi\/(∃ s,Rw=s::wi/\j<=s)):Hj Γ g0 T0 lab0 n all o j m (es++[e]) Rw=Hj Γ g0 T0 lab0 n all o j m es wi:=by
 have hE:∀ k,m.testBit k=true->(es++[e])[k]?=es[k]?:=fun k hk=>List.getElem?_append_left (hm k hk)
 have hg:Dq g0 all (es++[e]) j m=Dq g0 all es j m:=Mw (ops:=all.toList) (E:=fun k=>(es++[e])[k]?) (E':=fun k=>es[k]?) (g0:=g0) (S:=fun k=>m.testBit k) (O:=vA all j) hE
 have hwl:qF j Rw=qF j wi:=by
  rcases hw with rfl | ⟨s,rfl,hs⟩
  .rfl
  .have:Nat.blt s j=false:=by
    cases hb:Nat.blt s j with
    | false=>rfl
    | true=>simp [Nat.blt_eq] at hb;omega
   simp [qF,this]
 have cK:∀ s∈qF j wi,s<es.length:=fun s hs=>by
  rw [nE,List.mem_filter] at hs
  have:s<j:=by simpa [Nat.blt_eq] using hs.2
  omega
 have AL:kT (es++[e]) (qF j wi)=kT es (qF j wi):=qY cK
 have aXn:kT (es++[e]) ((qF j wi).filter fun s=>m.testBit s)=kT es ((qF j wi).filter fun s=>m.testBit s):=qY fun s hs=>cK s (List.mem_filter.1 hs).1
 have hfw:∀ l,Ef l m (es++[e]) (qF j wi)=Ef l m es (qF j wi):=fun l=>yI cK
 have hT:=fun wr=>ND (T0:=T0) (lab0:=lab0) (n:=n) (E:=fun k=>(es++[e])[k]?) (E':=fun k=>es[k]?) (wr:=wr) (S:=fun k=>m.testBit k) hE
 unfold Hj aCz
 simp only [hg,hwl,AL,aXn,hT,hfw]
theorem eP {α:Type} {l:List α} {x y:α} {j:Nat} (h:(l++[x])[j]?=some y):l[j]?=some y\/(j=l.length/\x=y):=by
 by_cases hj:j<l.length
 .rw [List.getElem?_append_left hj] at h;exact .inl h
 .have:j=l.length:=by
   have:=(List.getElem?_eq_some_iff.1 h).1
   simp at this;omega
  subst this
  simp at h
  exact .inr ⟨rfl,h⟩
theorem zA.nil {Γ:Env} {g0:Nat->Option SV} {T0:bA} {lab0 n:Nat} {all:Array Oper}:zA Γ g0 T0 lab0 n all 0 [] [] []:=
 ⟨rfl,rfl,(fun j m h=>by simp at h),(fun j m h=>by simp at h),(fun j m o h=>by simp at h),(fun j m o h=>by simp at h),(fun j o d h=>by omega),(fun j e h=>by simp at h),(fun j e h=>by simp at h),
  (fun s h=>by cases h),List.Pairwise.nil,(fun s h=>by cases h),(fun s h=>by cases h),(fun s h=>by cases h),(fun j m o e h=>by simp at h)⟩
theorem zA.snoc {Γ:Env} {g0:Nat->Option SV} {T0:bA} {lab0 n:Nat} {all:Array Oper} {i:Nat} {es:List bR} {ms:List Nat} {wi Rw:List Nat} (h:zA Γ g0 T0 lab0 n all i es ms wi) {o:Oper} {m:Nat} {e:bR}
 (ho:all[i]?=some o) (hm:nA ms o.after.toList=some m) (he:Hj Γ g0 T0 lab0 n all o i m es wi=some e) (hd:∀ d,o.dst=some d->jQ d all.toList 0=some i) (hn:e.new.length<=8)
 (hw:(e.wr=[]/\Rw=wi)\/(Rw=i::wi/\(nY o.op=false/\xD o.op=false)/\(∀ (j:Nat) (o:Oper),j<i->all[j]?=some o->(nY o.op=true\/m.testBit j=true)\/∃ mj lb,ms[j]?=some mj/\NI Γ (Dq g0 all es j mj) o=some lb/\look lb e.wr=none)/\∀ l b,look l e.wr=some b->l<lab0\/(lab0<=l/\m.testBit ((l-lab0)/8)=true))) :
 zA Γ g0 T0 lab0 n all (i+1) (es++[e]) (ms++[m]) Rw:=by
 have aCm:∀ k,m.testBit k=true->k<i:=by
  intro k hk
  obtain ⟨ed,Zx,hb,hk⟩:=jY hm k hk
  have h1:=(rR hm ed Zx hb).1
  rw [h.De] at h1
  rcases hk with rfl | ⟨me,Sa,hk⟩
  .exact h1
  .have:=h.lt _ _ Sa k hk;omega
 have bW:∀ (j m':Nat) (o':Oper),ms[j]?=some m'->Hj Γ g0 T0 lab0 n all o' j m' (es++[e]) Rw=Hj Γ g0 T0 lab0 n all o' j m' es wi:=by
  intro j m' o' hj
  have hjl:=(List.getElem?_eq_some_iff.1 hj).1
  rw [h.De] at hjl
  refine Nd e (fun k hk=>?_) (by rw [h.On];omega) ?_
  .have:=h.lt j m' hj k hk;rw [h.On];omega
  .rcases hw with ⟨_,rfl⟩ | ⟨rfl,_⟩
   .exact .inl rfl
   .exact .inr ⟨i,rfl,by omega⟩
 have PA:∀ {j m':Nat},ms[j]?=some m'->(ms++[m])[j]?=some m':=fun {j m'} hj=>by
  rw [List.getElem?_append_left (List.getElem?_eq_some_iff.1 hj).1];exact hj
 refine ⟨by simp [h.On],by simp [h.De],fun j m' hj k hk=>?_,fun j m' hj k mk hk Gq q hq=>?_,fun j m' o' hj lI ed Zx hb=>?_,fun j m' o' hj lI k hk=>?_,fun j o' d hj lI ZH=>?_,fun j e' lE=>?_,fun j e' lE dP=>?_,fun s hs=>?_,?_,fun s hs o' lI=>?_,fun s hs m' vV j o' hj lI=>?_,fun s hs m' vV e' lE l b hl=>?_,fun j m' o' e' hj lI lE=>?_⟩
 .rcases eP hj with hj | ⟨rfl,rfl⟩
  .exact h.lt j m' hj k hk
  .rw [h.De];exact aCm k hk
 .have Wi:ms[k]?=some mk\/k=i:=by
   rcases eP Gq with h1 | ⟨h1,_⟩
   .exact .inl h1
   .right;rw [h1,h.De]
  rcases eP hj with hj | ⟨rfl,rfl⟩
  .have hki:=h.lt j m' hj k hk
   have Ke:=(List.getElem?_eq_some_iff.1 hj).1
   rw [h.De] at Ke
   rcases Wi with Wi | rfl
   .exact h.cl j m' hj k mk hk Wi q hq
   .omega
  .have hki:=aCm k hk
   rcases Wi with Wi | rfl
   .obtain ⟨ed,Zx,hb,fU⟩:=jY hm k hk
    have key:∀ k mk,m.testBit k=true->ms[k]?=some mk->mk.testBit q=true->m.testBit q=true:=by
     intro k mk hk Gq hq
     obtain ⟨ed,Zx,hb,fU⟩:=jY hm k hk
     rcases fU with rfl | ⟨me,Sa,fU⟩
     .exact pN hm ed Zx hb Gq q hq
     .exact pN hm ed Zx hb Sa q (h.cl _ me Sa k mk fU Gq q hq)
    exact key k mk hk Wi hq
   .omega
 .rcases eP hj with hj | ⟨rfl,rfl⟩
  .exact h.aft j m' o' hj lI ed Zx hb
  .rw [h.De] at lI
   rw [ho] at lI;cases lI
   obtain ⟨h1,h2⟩:=rR hm ed (by simpa using Zx) hb
   exact ⟨h1,h2⟩
 .rcases eP hj with hj | ⟨rfl,rfl⟩
  .obtain ⟨ed,h1,h2,h3⟩:=h.aMq j m' o' hj lI k hk
   refine ⟨ed,h1,h2,?_⟩
   rcases h3 with h3 | ⟨me,h3,h4⟩
   .exact .inl h3
   .exact .inr ⟨me,PA h3,h4⟩
  .rw [h.De] at lI
   rw [ho] at lI;cases lI
   obtain ⟨ed,h1,h2,h3⟩:=jY hm k hk
   refine ⟨ed,by simpa using h1,h2,?_⟩
   rcases h3 with h3 | ⟨me,h3,h4⟩
   .exact .inl h3
   .exact .inr ⟨me,PA h3,h4⟩
 .by_cases Ke:j=i
  .subst Ke;rw [ho] at lI;cases lI;exact hd d ZH
  .exact h.dst j o' d (by omega) lI ZH
 .rcases eP lE with lE | ⟨_,rfl⟩
  .exact h.new j e' lE
  .exact hn
 .rcases eP lE with lE | ⟨rfl,rfl⟩
  .have:=h.wrt j e' lE dP
   rcases hw with ⟨_,rfl⟩ | ⟨rfl,_⟩
   .exact this
   .exact List.mem_cons_of_mem _ this
  .rcases hw with ⟨hw,_⟩ | ⟨rfl,_⟩
   .exact absurd hw dP
   .rw [h.On];exact List.mem_cons_self
 .rcases hw with ⟨_,rfl⟩ | ⟨rfl,_⟩
  .have:=h.qF s hs;omega
  .rcases List.mem_cons.1 hs with rfl | hs
   .omega
   .have:=h.qF s hs;omega
 .rcases hw with ⟨_,rfl⟩ | ⟨rfl,_⟩
  .exact h.wso
  .exact List.pairwise_cons.2 ⟨fun s hs=>h.qF s hs,h.wso⟩
 .rcases hw with ⟨_,rfl⟩ | ⟨rfl,hpo,_⟩
  .exact h.wim s hs o' lI
  .rcases List.mem_cons.1 hs with rfl | hs
   .rw [ho] at lI;cases lI;exact hpo
   .exact h.wim s hs o' lI
 .have hes:∀ {k e'},es[k]?=some e'->(es++[e])[k]?=some e':=fun {k e'} hk=>by
   rw [List.getElem?_append_left (List.getElem?_eq_some_iff.1 hk).1];exact hk
  have hgo:∀ {k mk},ms[k]?=some mk->Dq g0 all (es++[e]) k mk=Dq g0 all es k mk:=fun {k mk} hk=>by
   refine Mw fun q hq=>List.getElem?_append_left ?_
   have h1:=h.lt k mk hk q hq
   have h2:=(List.getElem?_eq_some_iff.1 hk).1
   rw [h.De] at h2
   rw [h.On]
   omega
  have Jz:s∈wi->(nY o'.op=true\/m'.testBit j=true)\/∃ mj lb e',(ms++[m])[j]?=some mj/\(es++[e])[s]?=some e'/\NI Γ (Dq g0 all (es++[e]) j mj) o'=some lb/\look lb e'.wr=none:=fun hs=>by
   have Zt:=h.qF s hs
   rcases eP vV with vV | ⟨h1,_⟩
   .rcases h.wnp s hs m' vV j o' hj lI with h3 | ⟨mj,lb,e',k1,k2,k3,k4⟩
    .exact .inl h3
    .exact .inr ⟨mj,lb,e',PA k1,hes k2,by rw [hgo k1];exact k3,k4⟩
   .rw [h.De] at h1;omega
  rcases hw with ⟨_,rfl⟩ | ⟨rfl,_,hnp,_⟩
  .exact Jz hs
  .rcases List.mem_cons.1 hs with rfl | hs
   .rcases eP vV with vV | ⟨_,rfl⟩
    .have:=(List.getElem?_eq_some_iff.1 vV).1;rw [h.De] at this;omega
    .rcases hnp j o' hj lI with h3 | ⟨mj,lb,k1,k3,k4⟩
     .exact .inl h3
     .exact .inr ⟨mj,lb,e,PA k1,by rw [<- h.On];simp,by rw [hgo k1];exact k3,k4⟩
   .exact Jz hs
 .have Jz:s∈wi->l<lab0\/(lab0<=l/\m'.testBit ((l-lab0)/8)=true):=fun hs=>by
   have Zt:=h.qF s hs
   rcases eP vV with vV | ⟨h1,_⟩
   .rcases eP lE with lE | ⟨h1,_⟩
    .exact h.wlb s hs m' vV e' lE l b hl
    .rw [h.On] at h1;omega
   .rw [h.De] at h1;omega
  rcases hw with ⟨_,rfl⟩ | ⟨rfl,_,_,dH⟩
  .exact Jz hs
  .rcases List.mem_cons.1 hs with rfl | hs
   .rcases eP vV with vV | ⟨_,rfl⟩
    .have:=(List.getElem?_eq_some_iff.1 vV).1;rw [h.De] at this;omega
    .rcases eP lE with lE | ⟨_,rfl⟩
     .have:=(List.getElem?_eq_some_iff.1 lE).1;rw [h.On] at this;omega
     .exact dH l b hl
   .exact Jz hs
 .rcases eP hj with hj | ⟨rfl,rfl⟩
  .have Ke:=(List.getElem?_eq_some_iff.1 hj).1
   rw [h.De] at Ke
   rw [bW j m' o' hj]
   rcases eP lE with lE | ⟨h1,_⟩
   .exact h.eff j m' o' e' hj lI lE
   .rw [h.On] at h1;omega
  .rw [h.De] at lI lE |-
   rw [ho] at lI;cases lI
   rcases eP lE with lE | ⟨_,rfl⟩
   .have:=(List.getElem?_eq_some_iff.1 lE).1;rw [h.On] at this;omega
   .rw [Nd e (fun k hk=>by rw [h.On];exact aCm k hk) (by rw [h.On];exact Nat.le_refl _) ?_]
    .exact he
    .rcases hw with ⟨_,rfl⟩ | ⟨rfl,_⟩
     .exact .inl rfl
     .exact .inr ⟨i,rfl,Nat.le_refl _⟩
theorem filter_le {f f':Nat->Bool}:∀ (l:List Nat),(∀ j,f' j=true->f j=true)->(l.filter f').length<=(l.filter f).length
 | [],_=>by simp
 | x::r,h=>by
   have ih:=filter_le r h
   cases hx:f' x with
   | true=>simp [hx,h x hx,ih]
   | false=>
     cases hy:f x with
     | true=>simp [hx,hy];omega
     | false=>simp [hx,hy,ih]
theorem filter_lt {f f':Nat->Bool} {i:Nat}:∀ (l:List Nat),i∈l->(∀ j,f' j=true->f j=true)->f i=true->f' i=false->(l.filter f').length+1<=(l.filter f).length
 | [],h,_,_,_=>by simp at h
 | x::r,h,hm,h1,h2=>by
   by_cases e:x=i
   .subst e
    have:=filter_le r hm
    simp [h1,h2,this]
   .have hr:i∈r:=by
     rcases List.mem_cons.1 h with h | h
     .exact absurd h.symm e
     .exact h
    have ih:=filter_lt r hr hm h1 h2
    cases hx:f' x with
    | true=>simp [hx,hm x hx];omega
    | false=>
      cases hy:f x with
      | true=>simp [hx,hy];omega
      | false=>simp [hx,hy];omega
theorem tF {Γ:Env} {g0:Nat->Option SV} {T0:bA} {lab0 n:Nat} {all:Array Oper}:∀ {r:List Oper} {i:Nat} {es es':List bR} {ms Vh:List Nat} {wi Rw:List Nat},
 Fg Γ g0 T0 lab0 n all r i es ms wi=some (es',Vh,Rw)->(∀ k,r[k]?=all[i+k]?)->zA Γ g0 T0 lab0 n all i es ms wi->zA Γ g0 T0 lab0 n all (i+r.length) es' Vh Rw
 | [],i,es,es',ms,Vh,wi,Rw,h,_,hd=>by
   simp only [Fg,Option.some.injEq,Prod.mk.injEq] at h
   obtain ⟨rfl,rfl,rfl⟩:=h
   exact hd
 | o::r,i,es,es',ms,Vh,wi,Rw,h,hr,hd=>by
   have ho:all[i]?=some o:=by have:=hr 0;simpa using this.symm
   have hr':∀ k,r[k]?=all[i+1+k]?:=fun k=>by
    have:=hr (k+1)
    rw [show i+1+k=i+(k+1) from by omega]
    simpa using this
   simp only [Fg] at h
   split at h
   .cases h
   .rename_i m hm
    split at h
    case h_2=>cases h
    rename_i e he QP
    have aBn:∀ d,o.dst=some d->jQ d all.toList 0=some i:=by
     intro d ZH
     rw [ZH] at QP
     simpa using QP
    split at h
    .rename_i Wh
     split at h
     case h_2=>cases h
     rename_i hn
     have hw:e.wr=[]:=by
      cases AL:e.wr with
      | nil=>rfl
      | cons a b=>rw [AL] at Wh;cases Wh
     have:=tF h hr' (hd.snoc ho hm he aBn (Nat.le_of_ble_eq_true hn) (.inl ⟨hw,rfl⟩))
     rw [show i+(o::r).length=i+1+r.length from by simp;omega]
     exact this
    .split at h
     .rename_i oF
      simp only [Bool.and_eq_true] at oF
      obtain ⟨⟨⟨c1,c2⟩,c3⟩,c4⟩:=oF
      have:=tF h hr' (hd.snoc ho hm he aBn (Nat.le_of_ble_eq_true c1) (.inr ⟨rfl,by simpa using c4,fun j o' hj lI=>?_,fun l b hl=>?_⟩))
      .rw [show i+(o::r).length=i+1+r.length from by simp;omega]
       exact this
      .have:=Ui c2 j o' hj (by simpa using lI)
       simpa using this
      .have:=List.all_eq_true.1 c3 _ (gQ hl)
       simp only [Bool.or_eq_true,Bool.and_eq_true] at this
       rcases this with h1 | ⟨h1,h2⟩
       .left;simpa [Nat.blt_eq] using h1
       .right;exact ⟨Nat.le_of_ble_eq_true h1,h2⟩
     .cases h
def zW (es:List bR) (wi:List Nat) (S:Nat->Bool):List (Nat × SB):=kT es (wi.filter S)
structure Wv (P:Program) (Γ:Env) (w0:World) (M:Nat->Prop) (N:Nat) (df:List Deferred) (g0:Nat->Option SV) (T0:bA) (lab0:Nat) (all:Array Oper) (es:List bR) (wi:List Nat) (Vs:bF) (S:Nat->Bool) (V:bF) (a:Act) (w:World):Prop where
 tmp:dG V (gS all.toList (fun j=>es[j]?) g0 S (fun j => !S j)) a
 size:N<=a.tmps.size
 defers:a.defers=df
 fM:aG w0 M V (TS T0 lab0 all.size (fun j=>es[j]?) (zW es wi S) S) w
 aU:cC Γ V
 top:V.top (lab0+8*all.size)
 fresh:∀ j,j<all.size->S j=false->V.fresh (lab0+8*j)
 le:Vs.le V
 low:∀ l,l<lab0->V.β l=Vs.β l/\V.σ l=Vs.σ l
theorem aHs {ops:List Oper} {E:Nat->Option bR} {g0:Nat->Option SV} {S S' O:Nat->Bool} (h:∀ j,S j=true->S' j=true) (hO:∀ j,O j=true->S' j=false) {t:Nat} {v:SV} (hv:gS ops E g0 S O t=some v):gS ops E g0 S' (fun j => !S' j) t=some v:=by
 unfold gS at *
 cases hd:jQ t ops 0 with
 | none=>rw [hd] at hv;exact hv
 | some j=>
   rw [hd] at hv
   simp only at hv |-
   cases hs:S j with
   | false=>
     rw [hs] at hv
     simp only at hv
     cases ho:O j with
     | false=>rw [ho] at hv;cases hv
     | true=>rw [ho] at hv;rw [hO j ho];exact hv
   | true=>rw [hs] at hv;rw [h j hs];exact hv
theorem Qq {T0:bA} {lab0 n:Nat} {E:Nat->Option bR} {wr:List (Nat × SB)} {S S':Nat->Bool} (h:∀ j,S j=true->S' j=true) {l:Nat} {B:SB} (hv:TS T0 lab0 n E wr S l=some B):TS T0 lab0 n E wr S' l=some B:=by
 unfold TS at *
 cases hl:look l wr with
 | some b=>rw [hl] at hv;exact hv
 | none=>
   rw [hl] at hv
   simp only at hv |-
   unfold Aw at *
   split at hv
   .cases hs:S ((l-lab0)/8) with
    | false=>rw [hs] at hv;cases hv
    | true=>rw [hs] at hv;rw [h _ hs];exact hv
   .exact hv
theorem Ml {lab0 l n:Nat} (h1:lab0<=l) (h2:l<lab0+8*n):(Nat.ble lab0 l&&Nat.blt l (lab0+8*n))=true:=by
 rw [Nat.ble_eq_true_of_le h1];simpa [Nat.blt_eq] using h2
theorem Fq {lab0 l n:Nat} (h:¬ (lab0<=l/\l<lab0+8*n)):(Nat.ble lab0 l&&Nat.blt l (lab0+8*n))=false:=by
 cases hb:(Nat.ble lab0 l&&Nat.blt l (lab0+8*n)) with
 | false=>rfl
 | true=>
   simp only [Bool.and_eq_true] at hb
   exact absurd ⟨Nat.le_of_ble_eq_true hb.1,by simpa [Nat.blt_eq] using hb.2⟩ h
theorem Zm {T0:bA} {lab0 n:Nat} {es:List bR} {S S':Nat->Bool} {i:Nat} {e:bR} (hi:i<n) (he:es[i]?=some e) (hS:S i=false) (Oh:∀ j,S' j=(S j||decide (j=i))) (hn:e.new.length<=8) (l:Nat) :
 Aw T0 lab0 n (fun j=>es[j]?) S' l=match look l (iE (lab0+8*i) e.new) with
  | some b=>some b
  | none=>Aw T0 lab0 n (fun j=>es[j]?) S l:=by
 rw [fD]
 unfold Aw
 by_cases h1:lab0<=l/\l<lab0+8*n
 .rw [Ml h1.1 h1.2]
  simp only
  by_cases h3:(l-lab0)/8=i
  .rw [h3,Oh i,hS]
   simp only [Bool.false_or,decide_true,he,Option.bind_some]
   have h4:lab0+8*i<=l:=by omega
   rw [if_pos h4,show (l-lab0)%8=l-(lab0+8*i) from by omega]
   cases e.new[l-(lab0+8*i)]? <;> rfl
  .rw [Oh _,show decide ((l-lab0)/8=i)=false from by simpa using h3,Bool.or_false]
   have h5:(if lab0+8*i<=l then e.new[l-(lab0+8*i)]? else none)=none:=by
    split
    .apply List.getElem?_eq_none;omega
    .rfl
   rw [h5]
 .rw [Fq h1]
  have h5:(if lab0+8*i<=l then e.new[l-(lab0+8*i)]? else none)=none:=by
   split
   .apply List.getElem?_eq_none;omega
   .rfl
  rw [h5]
theorem rA {S S':Nat->Bool} {i:Nat} (hS:S i=false) (Oh:∀ j,S' j=(S j||decide (j=i))):∀ {L:List Nat},L.Pairwise (· > ·)->(i∈L->∀ s∈L,S s=true->s<i)->L.filter S'=if i∈L then i::L.filter S else L.filter S
 | [],_,_=>by simp
 | x::r,hp,h=>by
   obtain ⟨Oq,AM⟩:=List.pairwise_cons.1 hp
   by_cases e:x=i
   .subst e
    have hr:r.filter S'=r.filter S:=by
     refine List.filter_congr fun s hs=>?_
     have:=Oq s hs
     rw [Oh,show decide (s=x)=false from by simp;omega,Bool.or_false]
    have h1:S' x=true:=by rw [Oh];simp
    rw [if_pos List.mem_cons_self,List.filter_cons,if_pos h1,hr,List.filter_cons,if_neg (by rw [hS];simp)]
   .have hx:S' x=S x:=by rw [Oh,show decide (x=i)=false from by simpa using e,Bool.or_false]
    by_cases hi:i∈r
    .have hxf:S x=false:=by
      cases hb:S x with
      | false=>rfl
      | true=>have h1:=h (List.mem_cons_of_mem _ hi) x List.mem_cons_self hb
              have h2:=Oq i hi
              omega
     have ih:=rA hS Oh AM (fun _ s hs=>h (List.mem_cons_of_mem _ hi) s (List.mem_cons_of_mem _ hs))
     rw [if_pos hi] at ih
     rw [if_pos (List.mem_cons_of_mem _ hi),List.filter_cons,if_neg (by rw [hx,hxf];simp),List.filter_cons,if_neg (by rw [hxf];simp),ih]
    .have ih:=rA hS Oh AM (fun fZ=>absurd fZ hi)
     rw [if_neg hi] at ih
     have hni:¬ i∈x::r:=by simp [hi];exact fun q=>e q.symm
     rw [if_neg hni,List.filter_cons,List.filter_cons,ih,hx]
theorem Vf {T0:bA} {lab0 n:Nat} {es:List bR} {wi:List Nat} {S S':Nat->Bool} {i:Nat} {e:bR} (hi:i<n) (he:es[i]?=some e) (hS:S i=false) (Oh:∀ j,S' j=(S j||decide (j=i)))
 (hn:e.new.length<=8) (hw:e.wr≠[]->i∈wi) (hso:wi.Pairwise (· > ·)) (vU:i∈wi->∀ s∈wi,S s=true->s<i)
 (hwl:∀ s∈wi,S s=true->∀ e',es[s]?=some e'->∀ l b,look l e'.wr=some b->l<lab0\/(lab0<=l/\S ((l-lab0)/8)=true)) :
 TS T0 lab0 n (fun j=>es[j]?) (zW es wi S') S'=fL (TS T0 lab0 n (fun j=>es[j]?) (zW es wi S) S) (lab0+8*i) e:=by
 funext l
 have gA:=Zm (T0:=T0) (lab0:=lab0) hi he hS Oh hn
 have e0:zW es wi S'=e.wr++zW es wi S:=by
  unfold zW
  rw [rA hS Oh hso vU]
  by_cases hm:i∈wi
  .rw [if_pos hm];simp only [kT,he]
  .rw [if_neg hm]
   have:e.wr=[]:=by
    cases hk:e.wr with
    | nil=>rfl
    | cons x y=>exact absurd (hw (by rw [hk];simp)) hm
   rw [this,List.nil_append]
 unfold fL bR.fM
 rw [cI]
 show (match look l (zW es wi S') with
  | some b=>some b
  | none=>Aw T0 lab0 n (fun j=>es[j]?) S' l)=_
 rw [e0,cI]
 cases hk:look l e.wr with
 | some b=>rfl
 | none=>
   simp only
   cases fU:look l (zW es wi S) with
   | none=>
     simp only
     rw [gA l]
     cases look l (iE (lab0+8*i) e.new) with
     | some b=>rfl
     | none=>simp only [TS,fU]
   | some b=>
     simp only
     have NS:look l (iE (lab0+8*i) e.new)=none:=by
      rw [fD]
      split
      .rename_i AP
       obtain ⟨s,hs,e',lE,hl⟩:=Gc fU
       rw [List.mem_filter] at hs
       rcases hwl s hs.1 hs.2 e' lE l b hl with h1 | ⟨h1,h2⟩
       .omega
       .apply List.getElem?_eq_none
        have:(l-lab0)/8≠i:=fun q=>by rw [q,hS] at h2;cases h2
        omega
      .rfl
     rw [NS]
     simp only [TS,fU]
section
variable {P:Program} {Γ:Env} {w0:World} {M:Nat->Prop} {N:Nat} {df:List Deferred} {g0:Nat->Option SV} {T0:bA} {lab0:Nat} {all:Array Oper} {es:List bR} {ms:List Nat} {wi:List Nat} {Vs:bF} {Q:Exit->Act->World->Prop}
theorem Wv.put {S S':Nat->Bool} {V V':bF} {a:Act} {w w':World} {i:Nat} {o:Oper} {e:bR} {x:Value} {m:Nat} (hd:zA Γ g0 T0 lab0 all.size all all.size es ms wi)
 (h:Wv P Γ w0 M N df g0 T0 lab0 all es wi Vs S V a w) (ho:all[i]?=some o) (he:es[i]?=some e) (hm:ms[i]?=some m) (hS:S i=false) (Oh:∀ j,S' j=(S j||decide (j=i)))
 (hN:∀ d,o.dst=some d->d<N) (sK:∀ s,S s=true->∀ m,ms[s]?=some m->∀ k,m.testBit k=true->S k=true)
 (hV:V.ext (lab0+8*i) V') (hx:o.dst.isSome=true->den V' e.val=some x) (hT:aG w0 M V' (fL (TS T0 lab0 all.size (fun j=>es[j]?) (zW es wi S) S) (lab0+8*i) e) w') :
 Wv P Γ w0 M N df g0 T0 lab0 all es wi Vs S' V' (a.put o.dst x) w':=by
 have hi:i<all.size:=(Array.getElem?_eq_some_iff.1 ho).1
 have EG:=Vf (T0:=T0) (lab0:=lab0) (n:=all.size) (wi:=wi) hi he hS Oh (hd.new i e he) (hd.wrt i e he) hd.wso (fun hiw s hs zG=>by
  by_cases cK:s<i
  .exact cK
  .exfalso
   have Dk:=hd.qF s hs
   obtain ⟨Vh,Kt⟩:∃ q,ms[s]?=some q:=⟨_,List.getElem?_eq_getElem (by rw [hd.De];exact Dk)⟩
   by_cases Zt:s=i
   .subst Zt;rw [hS] at zG;cases zG
   .rcases hd.wnp s hs Vh Kt i o (by omega) ho with (h3 | h3) | ⟨mj,lb,e',_,_,h3,_⟩
    .rw [(hd.wim i hiw o ho).1] at h3;cases h3
    .have:=sK s zG Vh Kt i h3
     rw [hS] at this;cases this
    .have:=IA h3
     rw [(hd.wim i hiw o ho).2] at this;cases this) (fun s hs zG e' lE l b hl=>by
  have Dk:=hd.qF s hs
  obtain ⟨Vh,Kt⟩:∃ q,ms[s]?=some q:=⟨_,List.getElem?_eq_getElem (by rw [hd.De];exact Dk)⟩
  rcases hd.wlb s hs Vh Kt e' lE l b hl with h1 | ⟨h1,h2⟩
  .exact .inl h1
  .exact .inr ⟨h1,sK s zG Vh Kt _ h2⟩)
 refine ⟨fun t v hv=>?_,?_,?_,by rw [EG];exact hT,fun n l hl=>hV.1.1 _ _ (h.aU n l hl),fun l hl=>?_,fun j hj hSj=>?_,bF.le_trans h.le hV.1,fun l hl=>?_⟩
 .unfold gS at hv
  cases Jv:jQ t all.toList 0 with
  | none=>
    rw [Jv] at hv
    have dP:∀ d,o.dst=some d->(Operand.tmp t) ≠ .tmp d:=by
     intro d zF hq
     cases hq
     have:=hd.dst i o t hi ho zF
     rw [this] at Jv;cases Jv
    rw [Act.eval_put dP]
    exact kO hV.1 (h.tmp t v (by unfold gS;rw [Jv];exact hv))
  | some j=>
    rw [Jv] at hv
    simp only at hv
    by_cases Ke:j=i
    .subst Ke
     have hSt:S' j=true:=by rw [Oh];simp
     rw [hSt] at hv
     simp only [he,Option.map_some,Option.some.injEq] at hv
     subst hv
     obtain ⟨o',_,lI,zF⟩:=nG Jv
     have:o'=o:=by
      have h1:all[j]?=some o':=by simpa using lI
      rw [ho] at h1;cases h1;rfl
     subst this
     have cK:t<a.tmps.size:=Nat.lt_of_lt_of_le (hN t zF) h.size
     rw [zF] at hx |-
     rw [hx rfl]
     simp [Act.eval,Act.put,Array.getD_eq_getD_getElem?,cK]
    .have hSj:S' j=S j:=by rw [Oh];simp [Ke]
     rw [hSj] at hv
     have dP:∀ d,o.dst=some d->(Operand.tmp t) ≠ .tmp d:=by
      intro d zF hq
      cases hq
      have:=hd.dst i o t hi ho zF
      rw [this] at Jv;cases Jv;exact Ke rfl
     rw [Act.eval_put dP]
     exact kO hV.1 (h.tmp t v (by unfold gS;rw [Jv];exact hv))
 .cases zF:o.dst with
  | none=>exact h.size
  | some d=>simpa [Act.put] using h.size
 .cases o.dst <;> exact h.defers
 .have:=hV.2 l (.inr (by omega))
  rw [this.1,this.2]
  exact h.top l hl
 .rw [Oh] at hSj
  simp only [Bool.or_eq_false_iff,decide_eq_false_iff_not] at hSj
  intro l h1 h2
  have:=hV.2 l (by
   rcases Nat.lt_or_ge j i with cK | AP
   .left;omega
   .right;omega)
  rw [this.1,this.2]
  exact h.fresh j hj hSj.1 l h1 h2
 .have:=hV.2 l (.inl (by omega))
  rw [this.1,this.2]
  exact h.low l hl
theorem bBx (aM:cG P Γ) (aE:bX P Γ) (hd:zA Γ g0 T0 lab0 all.size all all.size es ms wi) (hN:∀ (i:Nat) (o:Oper) (d:Tmp),all[i]?=some o->o.dst=some d->d<N)
 (tN:∀ e∈es,∀ q∈e.bV,q) (Kf:∀ d v,g0 d=some v->d<N)
 (hQ:∀ (S:Nat->Bool) V a w,(∀ j,j<all.size->S j=true)->Wv P Γ w0 M N df g0 T0 lab0 all es wi Vs S V a w->Q .normal a w) :
 ∀ (fuel:Nat) (listed:Array Bool) (V:bF) (a:Act) (w:World),listed.size=all.size->((List.range all.size).filter fun j => !listed.getD j false).length<=fuel ->
   (∀ s,listed.getD s false=true->∀ m,ms[s]?=some m->∀ k,m.testBit k=true->listed.getD k false=true) ->
   Wv P Γ w0 M N df g0 T0 lab0 all es wi Vs (fun j=>listed.getD j false) V a w->wpAny P .any all Q fuel listed a w:=by
 have done:∀ (listed:Array Bool),listed.size=all.size->Region.ready .any all listed=[]->∀ j,j<all.size->listed.getD j false=true:=by
  intro listed hl hr j
  induction j using Nat.strongRecOn with
  | ind j ih=>
    intro hj
    cases hb:listed.getD j false with
    | true=>rfl
    | false=>
      exfalso
      obtain ⟨o,ho⟩:∃ o,all[j]?=some o:=⟨_,Array.getElem?_eq_getElem hj⟩
      obtain ⟨m,hm⟩:∃ m,ms[j]?=some m:=⟨_,List.getElem?_eq_getElem (by rw [hd.De];exact hj)⟩
      have:j∈Region.ready .any all listed:=by
       rw [mem_ready]
       refine ⟨?_,o,ho,fun e he hbd=>?_⟩
       .have cK:j<listed.size:=by omega
        simp [cK] at hb |-
        exact hb
       .have:=(hd.aft j m o hm ho e he hbd).1
        exact ih e.on this (by omega)
      rw [hr] at this
      cases this
 intro fuel
 induction fuel with
 | zero=>
   intro listed V a w hl hc sK hi
   have jN:∀ j,j<all.size->listed.getD j false=true:=by
    intro j hj
    cases hb:listed.getD j false with
    | true=>rfl
    | false=>
      exfalso
      have:j∈(List.range all.size).filter fun j => !listed.getD j false:=by
       rw [List.mem_filter]
       exact ⟨List.mem_range.2 hj,by simp only [hb,Bool.not_false]⟩
      have h0:=List.eq_nil_of_length_eq_zero (Nat.le_zero.1 hc)
      rw [h0] at this
      cases this
   refine ⟨?_,hQ _ V a w jN hi⟩
   cases hr:Region.ready .any all listed with
   | nil=>rfl
   | cons x xs=>
     exfalso
     have hx:x∈Region.ready .any all listed:=by rw [hr];simp
     obtain ⟨h1,o,ho,_⟩:=mem_ready.1 hx
     have cK:=(Array.getElem?_eq_some_iff.1 ho).1
     have h2:=jN x cK
     have AN:x<listed.size:=by omega
     simp [AN] at h1 h2
     rw [h1] at h2;cases h2
 | succ fuel ih=>
   intro listed V a w hl hc sK hi
   refine ⟨fun hr=>hQ _ V a w (done listed hl hr) hi,fun i hir=>?_⟩
   obtain ⟨h1,o,ho,aYm⟩:=mem_ready.1 hir
   have cK:=(Array.getElem?_eq_some_iff.1 ho).1
   have AN:i<listed.size:=by omega
   have hSi:listed.getD i false=false:=by simp [AN] at h1 |-;exact h1
   obtain ⟨m,hm⟩:∃ m,ms[i]?=some m:=⟨_,List.getElem?_eq_getElem (by rw [hd.De];exact cK)⟩
   obtain ⟨e,he⟩:∃ e,es[i]?=some e:=⟨_,List.getElem?_eq_getElem (by rw [hd.On];exact cK)⟩
   have hmS:∀ k,m.testBit k=true->listed.getD k false=true:=by
    intro k hk
    obtain ⟨ed,Zx,hb,fU⟩:=hd.aMq i m o hm ho k hk
    have hon:=aYm ed Zx hb
    rcases fU with rfl | ⟨me,Sa,fU⟩
    .exact hon
    .exact sK ed.on hon me Sa k fU
   have qJ:∀ j,(listed.setIfInBounds i true).getD j false=(listed.getD j false||decide (j=i)):=by
    intro j
    by_cases Ke:j=i
    .subst Ke
     have:(listed.setIfInBounds j true).getD j false=true:=by simp [AN]
     rw [this];simp
    .rw [getD_set_ne false (Ne.symm Ke)];simp [Ke]
   have aQm:∀ V' a' w',Wv P Γ w0 M N df g0 T0 lab0 all es wi Vs (fun j=>(listed.setIfInBounds i true).getD j false) V' a' w'->wpAny P .any all Q fuel (listed.setIfInBounds i true) a' w':=by
    intro V' a' w' fZ
    refine ih _ V' a' w' (by simpa using hl) ?_ (fun s hs m' vV k hk=>?_) fZ
    .have:=filter_lt (f:=fun j => !listed.getD j false) (f':=fun j => !(listed.setIfInBounds i true).getD j false) (i:=i) (List.range all.size) (List.mem_range.2 cK) (fun j hj=>by
      rw [qJ] at hj
      simp only [Bool.not_eq_true',Bool.or_eq_false_iff] at hj
      simp only [hj.1,Bool.not_false]) (by simp only [hSi,Bool.not_false]) (by rw [qJ];simp)
     omega
    .rw [qJ] at hs |-
     simp only [Bool.or_eq_true,decide_eq_true_eq] at hs |-
     rcases hs with hs | rfl
     .exact .inl (sK s hs m' vV k hk)
     .rw [hm] at vV;cases vV
      exact .inl (hmS k hk)
   have oI:=hd.eff i m o e hm ho he
   have aQl:∀ q∈e.bV,q:=tN e (List.mem_of_getElem? he)
   unfold Hj at oI
   split at oI
   case h_2=>cases oI
   rename_i e1 aQr
   simp only [Option.some.injEq] at oI
   obtain ⟨aXw,Kc,tL,hv1⟩:(∀ q∈e1.bV,q)/\e.new=e1.new/\e.wr=e1.wr/\∀ V,den V e.val=den V e1.val:=by subst oI;exact Ww aQl
   have aXo:∀ T:bA,∀ l,fL T l e=fL T l e1:=fun T l=>by unfold fL bR.fM;rw [Kc,tL]
   have hwf:∀ j,vA all i j=true->listed.getD j false=false:=by
    intro j hj
    cases hb:listed.getD j false with
    | false=>rfl
    | true=>
      exfalso
      unfold vA at hj
      split at hj
      case h_2=>cases hj
      rename_i oj hoj
      obtain ⟨ed,Zx,hq⟩:=List.any_eq_true.1 hj
      simp only [Bool.and_eq_true] at hq
      have hjl:=(Array.getElem?_eq_some_iff.1 hoj).1
      obtain ⟨mj,hmj⟩:∃ m,ms[j]?=some m:=⟨_,List.getElem?_eq_getElem (by rw [hd.De];exact hjl)⟩
      have h3:=(hd.aft j mj oj hmj hoj ed (by simpa using Zx) hq.2).2
      rw [Nat.eq_of_beq_eq_true hq.1] at h3
      have:=sK j hb mj hmj i h3
      rw [hSi] at this;cases this
   have aQp:∀ {t v},Dq g0 all es i m t=some v->gS all.toList (fun j=>es[j]?) g0 (fun j=>listed.getD j false) (fun j => !listed.getD j false) t=some v:=fun hv=>aHs hmS hwf hv
   have htm:dG V (Dq g0 all es i m) a:=fun t v hv=>hi.tmp t v (aQp hv)
   have aBk:∀ d v,Dq g0 all es i m d=some v->d<a.tmps.size:=by
    intro d v hv
    refine Nat.lt_of_lt_of_le ?_ hi.size
    unfold Dq gS at hv
    cases Jv:jQ d all.toList 0 with
    | none=>rw [Jv] at hv;exact Kf d v hv
    | some j=>
      obtain ⟨o',_,lI,zF⟩:=nG Jv
      exact hN j o' d (by simpa using lI) zF
   have Ap:∀ {V' x w'},V.ext (lab0+8*i) V'->(o.dst.isSome=true->den V' e1.val=some x)->aG w0 M V' (fL (TS T0 lab0 all.size (fun j=>es[j]?) (zW es wi (fun j=>listed.getD j false)) (fun j=>listed.getD j false)) (lab0+8*i) e1) w' ->
    wpAny P .any all Q fuel (listed.setIfInBounds i true) (a.put o.dst x) w':=fun hV hx hT=>
    aQm _ _ _ (hi.put hd ho he hm hSi qJ (fun d zF=>hN i o d ho zF) sK hV (fun hs=>by rw [hv1];exact hx hs) (by rw [aXo];exact hT))
   unfold wpOp
   simp only [ho]
   have oI:=aQr
   unfold aCz at oI
   split at oI
   .rename_i hw
    have hw:=pK htm aBk hw
    rw [if_neg (by rw [hw];simp)]
    simp only [Option.some.injEq] at oI
    subst oI
    refine Ap (V.dR _) (fun _=>rfl) ?_
    rw [kL _ _ rfl rfl]
    exact hi.fM
   .rename_i hw
    have hw:=pK htm aBk hw
    rw [if_pos hw]
    left
    have sim:∀ {T':bA},(∀ l B,T' l=some B->TS T0 lab0 all.size (fun j=>es[j]?) (zW es wi (fun j=>listed.getD j false)) (fun j=>listed.getD j false) l=some B) ->
     Bd Γ (Dq g0 all es i m) T' (lab0+8*i) (lab0+8*all.size) none o=some e1 ->
     o.wp P a w (wpAny P .any all Q fuel (listed.setIfInBounds i true)) Q:=fun bC lE=>
     Mp aM aE htm hi.aU bC hi.fM (hi.fresh i cK hSi) hi.top lE aXw _ Q fun V' x w' hV hx hT=>Ap hV (fun _=>hx) hT
    split at oI
    .exact sim (fun l B hB=>by cases hB) oI
    .rename_i aQg
     have late:∀ s∈wi,listed.getD s false=true->¬ s<i->∃ lb e',es[s]?=some e'/\NI Γ (Dq g0 all es i m) o=some lb/\look lb e'.wr=none:=by
      intro s hs zG Zt
      have Dk:=hd.qF s hs
      obtain ⟨m',vV⟩:∃ q,ms[s]?=some q:=⟨_,List.getElem?_eq_getElem (by rw [hd.De];exact Dk)⟩
      have dP:s≠i:=fun q=>by subst q;rw [hSi] at zG;cases zG
      rcases hd.wnp s hs m' vV i o (by omega) ho with (h3 | h3) | ⟨mj,lb,e',k1,k2,k3,k4⟩
      .rw [aQg] at h3;cases h3
      .have:=sK s zG m' vV i h3
       rw [hSi] at this;cases this
      .rw [hm] at k1;cases k1
       exact ⟨lb,e',k2,k3,k4⟩
     split at oI
     .rename_i lb dH
      split at oI
      case h_2=>cases oI
      rename_i Wk
      have Wk:=Iw Wk
      refine sim (fun l B hB=>?_) oI
      obtain ⟨rfl,hB⟩:=ID hB
      have aQf:look l (zW es wi (fun j=>listed.getD j false))=look l (kT es ((qF i wi).filter fun s=>m.testBit s)):=by
       unfold zW
       have gen:∀ L:List Nat,(∀ s∈L,s∈wi)->look l (kT es (L.filter fun j=>listed.getD j false))=look l (kT es ((qF i L).filter fun s=>m.testBit s)):=by
        intro L
        induction L with
        | nil=>intro _;rfl
        | cons s r ih=>
          intro hL
          have ih:=ih (fun q hq=>hL q (List.mem_cons_of_mem _ hq))
          have hs:=hL s List.mem_cons_self
          have Dk:=hd.qF s hs
          obtain ⟨es',QN⟩:∃ q,es[s]?=some q:=⟨_,List.getElem?_eq_getElem (by rw [hd.On];exact Dk)⟩
          have aLk:look l es'.wr=none->look l (kT es (s::r.filter fun j=>listed.getD j false))=look l (kT es (r.filter fun j=>listed.getD j false)):=by
           intro hn
           simp only [kT,QN,cI,hn]
          by_cases Zt:s<i
          .have hb:Nat.blt s i=true:=by simpa [Nat.blt_eq] using Zt
           simp only [qF,hb]
           cases PA:m.testBit s with
           | true=>
             have zG:=hmS s PA
             rw [List.filter_cons,if_pos zG,List.filter_cons,if_pos PA]
             simp only [kT,QN,cI,ih]
           | false=>
             rw [List.filter_cons (p:=fun s=>m.testBit s),if_neg (by rw [PA];simp),<- ih]
             cases zG:listed.getD s false with
             | false=>rw [List.filter_cons,if_neg (by rw [zG];simp)]
             | true=>
               rw [List.filter_cons,if_pos zG]
               rcases Wk s (by rw [nE,List.mem_filter];exact ⟨hs,hb⟩) with h4 | ⟨e',h4,h5⟩
               .rw [PA] at h4;cases h4
               .rw [QN] at h4;cases h4;exact aLk h5
          .have hb:Nat.blt s i=false:=by
            cases hb:Nat.blt s i with
            | false=>rfl
            | true=>exact absurd (by simpa [Nat.blt_eq] using hb) Zt
           simp only [qF,hb]
           rw [<- ih]
           cases zG:listed.getD s false with
           | false=>rw [List.filter_cons,if_neg (by rw [zG];simp)]
           | true=>
             rw [List.filter_cons,if_pos zG]
             obtain ⟨lb',e',k2,k3,k4⟩:=late s hs zG Zt
             rw [dH] at k3;cases k3
             rw [QN] at k2;cases k2
             exact aLk k4
       exact gen wi (fun s hs=>hs)
      have hB2:=Qq (S':=fun j=>listed.getD j false) hmS hB
      unfold TS at hB2 |-
      rw [aQf];exact hB2
     .rename_i OY
      split at oI
      case h_2=>cases oI
      rename_i NW
      refine sim (fun l B hB=>?_) oI
      have hB2:=Qq (S':=fun j=>listed.getD j false) hmS hB
      have AL:kT es (qF i wi)=zW es wi (fun j=>listed.getD j false):=by
       unfold zW
       rw [nE]
       congr 1
       refine List.filter_congr fun s hs=>?_
       by_cases Zt:s<i
       .have hb:Nat.blt s i=true:=by simpa [Nat.blt_eq] using Zt
        rw [hb]
        exact (hmS s (HA NW s (by rw [nE,List.mem_filter];exact ⟨hs,hb⟩))).symm
       .have hb:Nat.blt s i=false:=by
         cases hb:Nat.blt s i with
         | false=>rfl
         | true=>exact absurd (by simpa [Nat.blt_eq] using hb) Zt
        rw [hb]
        cases zG:listed.getD s false with
        | false=>rfl
        | true=>
          obtain ⟨lb',e',k2,k3,k4⟩:=late s hs zG Zt
          rw [OY] at k3;cases k3
      rw [<- AL]
      exact hB2
   .cases oI
end
noncomputable def nO (F0 N lab0 nx:Nat):List Oper->List bR->Nat->St->Option St
 | [],_,_,s=>some s
 | o::r,e::es,i,s=>match s.step F0 N o.dst e (lab0+8*i) nx with
   | some s'=>nO F0 N lab0 nx r es (i+1) s'
   | none=>none
 | _::_,[],_,_=>none
noncomputable def Fh (Γ:Env) (B:bA) (F0 N:Nat) (ops:Array Oper) (s:St):Option St:=
 match Fg Γ s.g.get (s.T B) s.nx ops.size ops ops.toList 0 [] [] [] with
 | some (es,_,_)=>nO F0 N s.nx (s.nx+8*ops.size) ops.toList es 0 s
 | none=>none
theorem Na {F0 N lab0 nx:Nat}:∀ {r:List Oper} {er:List bR} {i:Nat} {s s':St},nO F0 N lab0 nx r er i s=some s'->s'.df=s.df
 | [],er,i,s,s',h=>by simp only [nO,Option.some.injEq] at h;subst h;rfl
 | o::r,[],i,s,s',h=>by simp [nO] at h
 | o::r,e::er,i,s,s',h=>by
   simp only [nO] at h
   split at h
   .rename_i s1 h1;rw [Na h,St.Tt h1]
   .cases h
structure aDj (B:bA) (F0 N lab0 nx:Nat) (all:Array Oper) (es:List bR) (wi:List Nat) (s0:St) (i:Nat) (s:St):Prop where
 T:s.T B=TS (s0.T B) lab0 all.size (fun j=>es[j]?) (zW es wi (fun j=>decide (j<i))) (fun j=>decide (j<i))
 g:∀ t v,s.g.get t=some v->(∃ j e,jQ t all.toList 0=some j/\j<i/\es[j]?=some e/\e.val=v)\/((∀ j,jQ t all.toList 0=some j->i<=j)/\s0.g.get t=some v)
 keys:∀ t v,s.g.get t=some v->t<N
 hi:∀ l,nx<=l->s.T B l=none
 ch:∀ l,l<F0->l ∉ s.ws->s.tb.get l=none
 ob0:∀ q∈s0.ob,q∈s.ob
 ob:∀ j e,j<i->es[j]?=some e->∀ q∈e.bV,q∈s.ob
 dN:∀ j o d,j<i->all[j]?=some o->o.dst=some d->d<N
 nxe:(s.nx=s0.nx/\i=0)\/s.nx=nx
theorem My {Γ:Env} {B:bA} {F0 N lab0 nx:Nat} {all:Array Oper} {es:List bR} {ms:List Nat} {wi:List Nat} {s0:St} {g0:Nat->Option SV} (hd:zA Γ g0 (s0.T B) lab0 all.size all all.size es ms wi) (hnx:nx=lab0+8*all.size) :
 ∀ {r:List Oper} {er:List bR} {i:Nat} {s s':St},nO F0 N lab0 nx r er i s=some s'->(∀ k,r[k]?=all[i+k]?)->(∀ k,er[k]?=es[i+k]?)->i+r.length=all.size ->
   aDj B F0 N lab0 nx all es wi s0 i s->aDj B F0 N lab0 nx all es wi s0 all.size s'
 | [],er,i,s,s',h,hr,he,hl,hf=>by
   simp only [nO,Option.some.injEq] at h
   subst h
   have:i=all.size:=by simpa using hl
   rw [<- this];exact hf
 | o::r,[],i,s,s',h,hr,he,hl,hf=>by simp [nO] at h
 | o::r,e::er,i,s,s',h,hr,he,hl,hf=>by
   have ho:all[i]?=some o:=by have:=hr 0;simpa using this.symm
   have PF:es[i]?=some e:=by have:=he 0;simpa using this.symm
   have hi:i<all.size:=(Array.getElem?_eq_some_iff.1 ho).1
   have hr':∀ k,r[k]?=all[i+1+k]?:=fun k=>by
    have:=hr (k+1)
    rw [show i+1+k=i+(k+1) from by omega]
    simpa using this
   have lE:∀ k,er[k]?=es[i+1+k]?:=fun k=>by
    have:=he (k+1)
    rw [show i+1+k=i+(k+1) from by omega]
    simpa using this
   simp only [nO] at h
   split at h
   case h_2=>cases h
   rename_i s1 h1
   obtain ⟨k1,k2,k3,k4,k5,k6,k7,k8,k9⟩:=St.eJ B h1
   refine My hd hnx h hr' lE (by simp at hl;omega) ?_
   have BT:∀ j,decide (j<i+1)=(decide (j<i)||decide (j=i)):=by
    intro j
    by_cases h1:j<i
    .simp [h1];omega
    .by_cases h2:j=i
     .simp [h2]
     .simp [h1,h2];omega
   have EG:=Vf (T0:=s0.T B) (lab0:=lab0) (n:=all.size) (wi:=wi) (S:=fun j=>decide (j<i)) (S':=fun j=>decide (j<i+1)) hi PF (by simp) BT (hd.new i e PF) (hd.wrt i e PF) hd.wso (fun _ s _ zG=>by simpa using zG) (fun s hs zG e' lE l b hlk=>by
    have Dk:=hd.qF s hs
    obtain ⟨Vh,Kt⟩:∃ q,ms[s]?=some q:=⟨_,List.getElem?_eq_getElem (by rw [hd.De];exact Dk)⟩
    rcases hd.wlb s hs Vh Kt e' lE l b hlk with h1 | ⟨h1,h2⟩
    .exact .inl h1
    .have:=hd.lt s Vh Kt _ h2
     simp only [decide_eq_true_eq] at zG
     exact .inr ⟨h1,by simp only [decide_eq_true_eq];omega⟩)
   refine ⟨?_,fun t v hv=>?_,fun t v hv=>?_,fun l hl=>?_,fun l hl hw=>?_,fun q hq=>?_,fun j e' hj hje q hq=>?_,fun j o' d hj lI zF=>?_,.inr k2⟩
   .rw [k1,hf.T,EG]
   .rw [k6] at hv
    by_cases zF:o.dst=some t
    .rw [if_pos zF] at hv
     cases hv
     exact .inl ⟨i,e,hd.dst i o t hi ho zF,by omega,PF,rfl⟩
    .rw [if_neg zF] at hv
     rcases hf.g t v hv with ⟨j,e',h2,h3,h4,h5⟩ | ⟨h2,h3⟩
     .exact .inl ⟨j,e',h2,by omega,h4,h5⟩
     .refine .inr ⟨fun j hj=>?_,h3⟩
      have:=h2 j hj
      have dP:j≠i:=by
       intro q
       subst q
       obtain ⟨o',_,lI,aXv⟩:=nG hj
       have:o'=o:=by
        have h1:all[j]?=some o':=by simpa using lI
        rw [ho] at h1;cases h1;rfl
       subst this
       exact zF aXv
      omega
   .rw [k6] at hv
    by_cases zF:o.dst=some t
    .exact k7 t zF
    .rw [if_neg zF] at hv;exact hf.keys t v hv
   .rw [k1]
    unfold fL bR.fM
    rw [cI]
    cases hk:look l e.wr with
    | some b=>have:=k9 l b hk;omega
    | none=>
      have:look l (iE (lab0+8*i) e.new)=none:=by
       rw [fD]
       split
       .apply List.getElem?_eq_none;omega
       .rfl
      simp only [this]
      exact hf.hi l hl
   .exact k5 l hl hw (hf.ch l hl (fun q=>hw (k4 l q)))
   .rw [k3];exact List.mem_append_right _ (hf.ob0 q hq)
   .rw [k3]
    by_cases Ke:j=i
    .subst Ke;rw [PF] at hje;cases hje;exact List.mem_append_left _ hq
    .exact List.mem_append_right _ (hf.ob j e' (by omega) hje q hq)
   .by_cases Ke:j=i
    .subst Ke;rw [ho] at lI;cases lI;exact k7 d zF
    .exact hf.dN j o' d (by omega) lI zF
theorem Nh {P:Program} {Γ:Env} {w0:World} {M:Nat->Prop} {B:bA} {N F0:Nat} {V0:bF} (aM:cG P Γ) (aE:bX P Γ) (iF:P.follows .mixedOrders=true) {id:Nat} {ops:Array Oper} {Q:Exit->Act->World->Prop}
 {s s':St} {V:bF} {a:Act} {w:World} (h:Fh Γ B F0 N ops s=some s') (ho:∀ q∈s'.ob,q) (hi:Inv P Γ w0 M B N F0 V0 s V a w)
 (hQ:∀ V' a' w',Inv P Γ w0 M B N F0 V0 s' V' a' w'->Q .normal a' w'):(Code.region id ops true).wp P Q a w:=by
 unfold Fh at h
 split at h
 case h_2=>cases h
 rename_i es ms wi he
 have hd:zA Γ s.g.get (s.T B) s.nx ops.size ops ops.size es ms wi:=by
  have:=tF he (fun k=>by simp) zA.nil
  simpa using this
 have hF0:aDj B F0 N s.nx (s.nx+8*ops.size) ops es wi s 0 s:=by
  refine ⟨?_,fun t v hv=>.inr ⟨fun j _=>Nat.zero_le _,hv⟩,hi.keys,fun l hl=>hi.hi l (by omega),hi.ch,fun q hq=>hq,fun j e hj=>by omega,fun j o d hj=>by omega,.inl ⟨rfl,rfl⟩⟩
  funext l
  have hw:zW es wi (fun j=>decide (j<0))=[]:=by
   unfold zW
   rw [List.filter_eq_nil_iff.2 (fun s _=>by simp)]
   rfl
  simp only [TS,hw,look,Aw]
  by_cases hl:s.nx<=l/\l<s.nx+8*ops.size
  .rw [Ml hl.1 hl.2]
   simp [hi.hi l hl.1]
  .rw [Fq hl]
 have hF:=My hd rfl h (fun k=>by simp) (fun k=>by simp) (by simp) hF0
 refine wp_region_any iF ?_
 refine bBx (M:=M) (w0:=w0) (N:=N) (df:=a.defers) (Vs:=V) aM aE hd (fun i o d fZ zF=>hF.dN i o d (Array.getElem?_eq_some_iff.1 fZ).1 fZ zF) (fun e PF q hq=>?_) hi.keys (fun S V' a' w' jN hr=>?_) ops.size _ V a _ (by simp) ?_ ?_ ?_
 .obtain ⟨j,hj,hje⟩:=List.getElem_of_mem PF
  have hjl:j<ops.size:=by rw [hd.On] at hj;exact hj
  exact ho q (hF.ob j e hjl (by rw [List.getElem?_eq_getElem hj,hje]) q hq)
 .refine hQ V' a' w' ⟨fun t v hv=>?_,hF.keys,hr.size,(by obtain ⟨xs,gL,oV⟩:=hi.defers;exact ⟨xs,by rw [Na h];exact dI hr.le gL,hr.defers.trans oV⟩),?_,hr.aU,?_,bF.le_trans hi.le hr.le,fun l hl=>?_,hF.ch,?_,fun l hl=>?_⟩
  .refine hr.tmp t v ?_
   unfold gS
   rcases hF.g t v hv with ⟨j,e,h2,h3,h4,h5⟩ | ⟨h2,h3⟩
   .rw [h2]
    simp only [jN j h3,h4,Option.map_some,h5]
   .cases Jv:jQ t ops.toList 0 with
    | none=>exact h3
    | some j=>
      have:=h2 j Jv
      obtain ⟨o',_,lI,_⟩:=nG Jv
      have cK:=(List.getElem?_eq_some_iff.1 lI).1
      simp at cK
      omega
  .refine hr.fM.sub fun l b hl=>?_
   rw [hF.T] at hl
   have hw:zW es wi (fun j=>decide (j<ops.size))=zW es wi S:=by
    unfold zW
    congr 1
    refine List.filter_congr fun q hq=>?_
    have:=hd.qF q hq
    rw [jN q this]
    simpa using this
   rw [hw] at hl
   refine Qq (fun j hj=>?_) hl
   exact jN j (by simpa using hj)
  .refine hr.top.mono ?_
   rcases hF.nxe with ⟨h1,h2⟩ | h2
   .rw [h1,h2];exact Nat.le_refl _
   .rw [h2];exact Nat.le_refl _
  .have h1:=hr.low l (Nat.lt_of_lt_of_le hl hi.nx)
   rw [h1.1,h1.2]
   exact hi.low l hl
  .rcases hF.nxe with ⟨h1,_⟩ | h2
   .rw [h1];exact hi.nx
   .rw [h2];have:=hi.nx;omega
  .rcases hF.nxe with ⟨h1,h2⟩ | h2
   .exact hF.hi l (by rw [h1] at hl;rw [h2];exact hl)
   .exact hF.hi l (by rw [h2] at hl;exact hl)
 .have:=List.length_filter_le (fun j => !(Array.replicate ops.size false).getD j false) (List.range ops.size)
  simpa using this
 .intro q hq
  exfalso
  simp [Array.getElem?_replicate] at hq
  split at hq <;> simp at hq
 .have hS:∀ j,(Array.replicate ops.size false).getD j false=false:=by
   intro j
   simp [Array.getElem?_replicate]
   split <;> rfl
  refine ⟨fun t v hv=>?_,hi.size,rfl,?_,hi.aU,hi.top.mono (by omega),fun j _ _=>fun l h1 _=>hi.top l (by omega),bF.le_refl V,fun l _=>⟨rfl,rfl⟩⟩
  .unfold gS at hv
   cases Jv:jQ t ops.toList 0 with
   | none=>rw [Jv] at hv;exact hi.tmp t v hv
   | some j=>rw [Jv] at hv;simp only [hS j,Bool.not_false] at hv;exact hi.tmp t v hv
  .have hT0:aG w0 M V (s.T B) { w with drawn:=w.drawn+1 }:=hi.fM.aRy rfl rfl rfl rfl
   refine hT0.sub fun l b hl=>?_
   have hw:zW es wi (fun j=>(Array.replicate ops.size false).getD j false)=[]:=by
    unfold zW
    rw [List.filter_eq_nil_iff.2 (fun s _=>by simp only [hS s];simp)]
    rfl
   simp only [TS,hw,look,Aw] at hl
   split at hl
   .simp only [hS] at hl;cases hl
   .exact hl
inductive Ex where
 | normal
 | exit (id:Nat)
 | ret
def Ex.to:Ex->Exit
 | .normal=>.normal
 | .exit id=>.exit id
 | .ret=>.ret
noncomputable def Lo (Γ:Env) (B:bA) (F0 N:Nat) (rec:Code->St->Option (St × Ex)) (c:Code) (s:St):Option (St × Ex):=
 match c with
 | .skip=>some (s,.normal)
 | .label _=>some (s,.normal)
 | .region _ ops d=>match d with
   | true=>match Fh Γ B F0 N ops s with
     | some s'=>some (s',.normal)
     | none=>none
   | false=>match Gz Γ B F0 N ops ops.toList s with
     | some s'=>some (s',.normal)
     | none=>none
 | .seq x y=>match rec x s with
   | some (s',.normal)=>rec y s'
   | r=>r
 | .cond c x y=>match ev Γ s.g.get c with
   | some (.bool true true)=>rec x s
   | some (.bool true false)=>rec y s
   | some (.bool false b)=>match s.hs with
     | true::r=>rec x { s with ob:=(b=true)::s.ob,hs:=r }
     | false::r=>rec y { s with ob:=(b=false)::s.ob,hs:=r }
     | []=>none
   | _=>none
 | .block id c=>match rec c s with
   | some (s',.exit Kb)=>match Nat.beq Kb id with
     | true=>some (s',.normal)
     | false=>some (s',.exit Kb)
   | r=>r
 | .loop c=>match rec c s with
   | some (s',.normal)=>rec (.loop c) s'
   | r=>r
 | .exit id=>some (s,.exit id)
 | .ret=>some (s,.ret)
 | .scope c=>rec c s
 | _=>none
noncomputable def exec (Γ:Env) (B:bA) (F0 N:Nat) (n:Nat):Code->St->Option (St × Ex):=
 Nat.rec (fun _ _=>none) (fun _ ih=>Lo Γ B F0 N ih) n
theorem xN {Γ:Env} {B:bA} {F0 N:Nat} (c:Code) (s:St):exec Γ B F0 N 0 c s=none:=rfl
theorem xO {Γ:Env} {B:bA} {F0 N:Nat} (n:Nat) (c:Code) (s:St):exec Γ B F0 N (n+1) c s=Lo Γ B F0 N (exec Γ B F0 N n) c s:=rfl
theorem Mz {F0 N lab0 nx:Nat}:∀ {r:List Oper} {er:List bR} {i:Nat} {s s':St},nO F0 N lab0 nx r er i s=some s'->∀ q∈s.ob,q∈s'.ob
 | [],er,i,s,s',h,q,hq=>by simp only [nO,Option.some.injEq] at h;subst h;exact hq
 | o::r,[],i,s,s',h,q,hq=>by simp [nO] at h
 | o::r,e::er,i,s,s',h,q,hq=>by
   simp only [nO] at h
   split at h
   .rename_i s1 h1
    have:=(St.eJ (fun _=>none) h1).2.2.1
    exact Mz h q (by rw [this];exact List.mem_append_right _ hq)
   .cases h
theorem Ni {Γ:Env} {B:bA} {F0 N:Nat} {ops:Array Oper} {s s':St} (h:Fh Γ B F0 N ops s=some s'):∀ q∈s.ob,q∈s'.ob:=by
 unfold Fh at h
 split at h
 .exact Mz h
 .cases h
theorem zQ {Γ:Env} {B:bA} {F0 N:Nat}:∀ {n:Nat} {c:Code} {s s':St} {x:Ex},exec Γ B F0 N n c s=some (s',x)->∀ q∈s.ob,q∈s'.ob:=by
 intro n
 induction n with
 | zero=>intro c s s' x h;rw [xN] at h;cases h
 | succ n ih=>
   intro c s s' x h q hq
   rw [xO] at h
   unfold Lo at h
   split at h
   .cases h;exact hq
   .cases h;exact hq
   .split at h
    .split at h
     .rename_i s1 h1;cases h;exact Ni h1 q hq
     .cases h
    .split at h
     .rename_i s1 h1;cases h;exact uC h1 q hq
     .cases h
   .split at h
    .rename_i s1 h1;exact ih h q (ih h1 q hq)
    .exact ih h q hq
   .split at h
    .exact ih h q hq
    .exact ih h q hq
    .split at h
     .exact ih h q (List.mem_cons_of_mem _ hq)
     .exact ih h q (List.mem_cons_of_mem _ hq)
     .cases h
    .cases h
   .split at h
    .rename_i s1 Kb h1
     split at h <;> (cases h;exact ih h1 q hq)
    .exact ih h q hq
   .split at h
    .rename_i s1 h1;exact ih h q (ih h1 q hq)
    .exact ih h q hq
   .cases h;exact hq
   .cases h;exact hq
   .exact ih h q hq
   .cases h
theorem XG {P:Program} {Γ:Env} {w0:World} {M:Nat->Prop} {B:bA} {N F0:Nat} {V0:bF} (aM:cG P Γ) (aE:bX P Γ) (iF:P.follows .mixedOrders=true) :
 ∀ (n:Nat),(∀ {c:Code} {s s':St} {x:Ex} {V:bF} {a:Act} {w:World} {Q:Exit->Act->World->Prop},exec Γ B F0 N n c s=some (s',x)->(∀ q∈s'.ob,q)->Inv P Γ w0 M B N F0 V0 s V a w ->
   (∀ V' a' w',Inv P Γ w0 M B N F0 V0 s' V' a' w'->Q x.to a' w')->c.wp P Q a w) /\
 (∀ {c:Code} {s s':St} {x:Ex} {V:bF} {a:Act} {w:World} {Q:Exit->Act->World->Prop},exec Γ B F0 N n (.loop c) s=some (s',x)->(∀ q∈s'.ob,q)->Inv P Γ w0 M B N F0 V0 s V a w ->
  (∀ V' a' w',Inv P Γ w0 M B N F0 V0 s' V' a' w'->Q x.to a' w')->Code.rounds P c Q n a w):=by
 intro n
 induction n with
 | zero=>exact ⟨fun h=>(by rw [xN] at h;cases h),fun h=>(by rw [xN] at h;cases h)⟩
 | succ n ih=>
   obtain ⟨ih,il⟩:=ih
   have loop:∀ {c:Code} {s s':St} {x:Ex} {V:bF} {a:Act} {w:World} {Q:Exit->Act->World->Prop},exec Γ B F0 N (n+1) (.loop c) s=some (s',x)->(∀ q∈s'.ob,q)->Inv P Γ w0 M B N F0 V0 s V a w ->
    (∀ V' a' w',Inv P Γ w0 M B N F0 V0 s' V' a' w'->Q x.to a' w')->Code.rounds P c Q (n+1) a w:=by
    intro c s s' x V a w Q h ho hi hQ
    rw [xO] at h
    simp only [Lo] at h
    rw [rounds_succ]
    split at h
    .rename_i s1 h1
     exact ih h1 (fun q hq=>ho q (zQ h q hq)) hi fun V' a' w' fZ=>il h ho fZ hQ
    .rename_i dP
     refine ih h ho hi fun V' a' w' fZ=>?_
     have:=hQ V' a' w' fZ
     cases x with
     | normal=>exact absurd h (fun q=>dP _ q)
     | exit id=>exact this
     | ret=>exact this
   refine ⟨?_,loop⟩
   intro c s s' x V a w Q h ho hi hQ
   have h0:=h
   rw [xO] at h
   unfold Lo at h
   split at h
   .cases h;exact wp_skip (hQ V a w hi)
   .cases h;exact wp_label (hQ V a w hi)
   .split at h
    .split at h
     .rename_i s1 h1;cases h;exact Nh aM aE iF h1 ho hi hQ
     .cases h
    .split at h
     .rename_i s1 h1;cases h;exact wp_region_list (uB aM aE h1 ho hi hQ)
     .cases h
   .refine wp_seq ?_
    split at h
    .rename_i s1 h1
     exact ih h1 (fun q hq=>ho q (zQ h q hq)) hi fun V' a' w' fZ=>ih h ho fZ hQ
    .rename_i dP
     refine ih h ho hi fun V' a' w' fZ=>?_
     have:=hQ V' a' w' fZ
     cases x with
     | normal=>exact absurd h (fun q=>dP _ q)
     | exit id=>exact this
     | ret=>exact this
   .split at h
    .rename_i hc
     have hc:=bT hi.tmp hi.aU hc
     simp only [den,Option.some.injEq] at hc
     exact wp_cond_true hc.symm (ih h ho hi hQ)
    .rename_i hc
     have hc:=bT hi.tmp hi.aU hc
     simp only [den,Option.some.injEq] at hc
     exact wp_cond_false hc.symm (ih h ho hi hQ)
    .rename_i b hc
     have hc:=bT hi.tmp hi.aU hc
     simp only [den,Option.some.injEq] at hc
     split at h
     .have hb:b=true:=ho _ (zQ h _ List.mem_cons_self)
      rw [hb] at hc
      exact wp_cond_true hc.symm (ih h ho ⟨hi.tmp,hi.keys,hi.size,hi.defers,hi.fM,hi.aU,hi.top,hi.le,hi.low,hi.ch,hi.nx,hi.hi⟩ hQ)
     .have hb:b=false:=ho _ (zQ h _ List.mem_cons_self)
      rw [hb] at hc
      exact wp_cond_false hc.symm (ih h ho ⟨hi.tmp,hi.keys,hi.size,hi.defers,hi.fM,hi.aU,hi.top,hi.le,hi.low,hi.ch,hi.nx,hi.hi⟩ hQ)
     .cases h
    .cases h
   .refine wp_block ?_
    split at h
    .rename_i bid _ _ s1 Kb h1
     split at h
     .rename_i hb
      cases h
      refine ih h1 ho hi fun V' a' w' fZ=>?_
      show (if Kb=bid then Q .normal a' w' else Q (.exit Kb) a' w')
      rw [if_pos (Nat.eq_of_beq_eq_true hb)]
      exact hQ V' a' w' fZ
     .rename_i hb
      cases h
      refine ih h1 ho hi fun V' a' w' fZ=>?_
      show (if Kb=bid then Q .normal a' w' else Q (.exit Kb) a' w')
      rw [if_neg (beq_false hb)]
      exact hQ V' a' w' fZ
    .rename_i dP
     refine ih h ho hi fun V' a' w' fZ=>?_
     have:=hQ V' a' w' fZ
     cases x with
     | normal=>exact this
     | exit id=>exact absurd h (fun q=>dP _ _ q)
     | ret=>exact this
   .exact wp_loop_rounds (n+1) (loop h0 ho hi hQ)
   .cases h;exact wp_exit (hQ V a w hi)
   .cases h;exact wp_ret (hQ V a w hi)
   .refine wp_scope_straight (ih h ho hi fun V' a' w' fZ=>?_)
    have:=hQ V' a' w' fZ
    cases x <;> exact this
   .cases h
mutual
def zZ (ρ : Nat->Option Nat):SV->Option SV
 | .int s k n=>some (.int s k n)
 | .bool s b=>some (.bool s b)
 | .ptr l s off=>match ρ l with
   | some l=>some (.ptr l s off)
   | none=>none
 | .aI l s off len cap=>match ρ l with
   | some l=>some (.aI l s off len cap)
   | none=>none
 | .agg vs=>match Am ρ vs with
   | some vs=>some (.agg vs)
   | none=>none
 | .eD vs=>match Am ρ vs with
   | some vs=>some (.eD vs)
   | none=>none
 | .fn f xs ys=>match Am ρ xs,Am ρ ys with
   | some xs,some ys=>some (.fn f xs ys)
   | _,_=>none
 | .jS t v=>match zZ ρ v with
   | some v=>some (.jS t v)
   | none=>none
 | .raw v=>some (.raw v)
 | .ai k xs=>some (.ai k xs)
 | .buf l=>match ρ l with
   | some l=>some (.buf l)
   | none=>none
 | .mT l off=>match ρ l with
   | some l=>some (.mT l off)
   | none=>none
 | .mS l lo hi=>match ρ l with
   | some l=>some (.mS l lo hi)
   | none=>none
 | .dX l n=>match ρ l with
   | some l=>some (.dX l n)
   | none=>none
 | .dO l off len lo=>match ρ l with
   | some l=>some (.dO l off len lo)
   | none=>none
 | .rT l n cap sz j le=>match ρ l,ρ le with
   | some l,some le=>some (.rT l n cap sz j le)
   | _,_=>none
def Am (ρ : Nat->Option Nat):List SV->Option (List SV)
 | []=>some []
 | v::r=>match zZ ρ v,Am ρ r with
   | some v,some r=>some (v::r)
   | _,_=>none
end
def Bp (ρ : Nat->Option Nat) (V V':bF):Prop:=∀ l l',ρ l=some l'->(∀ p,V.β l=some p->V'.β l'=some p)/\(∀ v,V.σ l=some v->V'.σ l'=some v)
mutual
theorem Bs {ρ : Nat->Option Nat} {V V':bF} (h:Bp ρ V V'):∀ {v v':SV} {x:Value},zZ ρ v=some v'->den V v=some x->den V' v'=some x
 | .int ..,v',x,hr,hd=>by simp only [zZ,Option.some.injEq] at hr;subst hr;exact hd
 | .bool ..,v',x,hr,hd=>by simp only [zZ,Option.some.injEq] at hr;subst hr;exact hd
 | .ai ..,v',x,hr,hd=>by simp only [zZ,Option.some.injEq] at hr;subst hr;exact hd
 | .ptr l s off,v',x,hr,hd=>by
   simp only [zZ] at hr
   split at hr
   .rename_i l' hl
    cases hr
    simp only [den,Option.map_eq_some_iff] at hd |-
    obtain ⟨p,hp,rfl⟩:=hd
    exact ⟨p,(h l l' hl).1 p hp,rfl⟩
   .cases hr
 | .aI l s off len cap,v',x,hr,hd=>by
   simp only [zZ] at hr
   split at hr
   .rename_i l' hl
    cases hr
    simp only [den,Option.map_eq_some_iff] at hd |-
    obtain ⟨p,hp,rfl⟩:=hd
    exact ⟨p,(h l l' hl).1 p hp,rfl⟩
   .cases hr
 | .agg vs,v',x,hr,hd=>by
   simp only [zZ] at hr
   split at hr
   .rename_i Jq hl
    cases hr
    simp only [den,Option.map_eq_some_iff] at hd |-
    obtain ⟨p,hp,rfl⟩:=hd
    exact ⟨p,nQ h hl hp,rfl⟩
   .cases hr
 | .eD vs,v',x,hr,hd=>by
   simp only [zZ] at hr
   split at hr
   .rename_i Jq hl
    cases hr
    simp only [den,Option.map_eq_some_iff] at hd |-
    obtain ⟨p,hp,rfl⟩:=hd
    exact ⟨p,nQ h hl hp,rfl⟩
   .cases hr
 | .fn f xs ys,v',x,hr,hd=>by
   simp only [zZ] at hr
   split at hr
   .rename_i OJ ys' h1 h2
    cases hr
    simp only [den,Option.map_eq_some_iff,Option.bind_eq_some_iff] at hd |-
    obtain ⟨p,hp,q,hq,rfl⟩:=hd
    exact ⟨p,nQ h h1 hp,q,nQ h h2 hq,rfl⟩
   .cases hr
 | .jS t v,v',x,hr,hd=>by
   simp only [zZ] at hr
   split at hr
   .rename_i u hl
    cases hr
    simp only [den,Option.map_eq_some_iff] at hd |-
    obtain ⟨p,hp,rfl⟩:=hd
    exact ⟨p,Bs h hl hp,rfl⟩
   .cases hr
 | .raw v,v',x,hr,hd=>by simp only [zZ,Option.some.injEq] at hr;subst hr;exact hd
 | .rT l n cap sz j le,v',x,hr,hd=>by
   simp only [zZ] at hr
   split at hr
   .rename_i l1 l2 NV Kd
    cases hr
    simp only [den,Option.bind_eq_some_iff] at hd |-
    obtain ⟨p,hp,q,hq,e⟩:=hd
    exact ⟨p,(h l l1 NV).1 p hp,q,(h le l2 Kd).1 q hq,e⟩
   .cases hr
 | .buf l,v',x,hr,hd=>by
   simp only [zZ] at hr
   split at hr
   .rename_i l' hl;cases hr;simp only [den] at hd |-;exact (h l l' hl).2 x hd
   .cases hr
 | .mT l off,v',x,hr,hd=>by
   simp only [zZ] at hr
   split at hr
   .rename_i l' hl
    cases hr
    simp only [den] at hd |-
    split at hd
    .rename_i hs;rw [(h l l' hl).2 _ hs];exact hd
    .cases hd
   .cases hr
 | .mS l lo hi,v',x,hr,hd=>by
   simp only [zZ] at hr
   split at hr
   .rename_i l' hl
    cases hr
    simp only [den] at hd |-
    split at hd
    .rename_i hs;rw [(h l l' hl).2 _ hs];exact hd
    .cases hd
   .cases hr
 | .dX l n,v',x,hr,hd=>by
   simp only [zZ] at hr
   split at hr
   .rename_i l' hl
    cases hr
    simp only [den,Option.bind_eq_some_iff] at hd |-
    obtain ⟨v,hv,hx⟩:=hd
    exact ⟨v,(h l l' hl).2 _ hv,hx⟩
   .cases hr
 | .dO l off len lo,v',x,hr,hd=>by
   simp only [zZ] at hr
   split at hr
   .rename_i l' hl
    cases hr
    simp only [den,Option.map_eq_some_iff,Option.bind_eq_some_iff] at hd |-
    obtain ⟨p,hp,c,hc,rfl⟩:=hd
    refine ⟨p,(h l l' hl).1 p hp,c,?_,rfl⟩
    cases hs:V.σ l with
    | none=>rw [hs] at hc;cases hc
    | some v=>rw [(h l l' hl).2 v hs,<- hs];exact hc
   .cases hr
theorem nQ {ρ : Nat->Option Nat} {V V':bF} (h:Bp ρ V V'):∀ {vs Jq:List SV} {xs:List Value},Am ρ vs=some Jq->aJ V vs=some xs->aJ V' Jq=some xs
 | [],Jq,xs,hr,hd=>by simp only [Am,Option.some.injEq] at hr;subst hr;simpa [aJ] using hd
 | v::r,Jq,xs,hr,hd=>by
   simp only [Am] at hr
   split at hr
   .rename_i v' r' h1 h2
    cases hr
    simp only [aJ,Option.map_eq_some_iff,Option.bind_eq_some_iff] at hd |-
    obtain ⟨x,hx,ys,hy,rfl⟩:=hd
    exact ⟨x,Bs h h1 hx,ys,nQ h h2 hy,rfl⟩
   .cases hr
end
def yS (ρ : Nat->Option Nat):SB->Option SB
 | .own cs ty=>match Am ρ cs with
   | some cs=>some (.own cs ty)
   | none=>none
 | .row sz cs ty=>match Am ρ cs with
   | some cs=>some (.row sz cs ty)
   | none=>none
 | .ints k xs ty=>some (.ints k xs ty)
 | .cD k xs ty=>some (.cD k xs ty)
 | .bO sz n ty=>some (.bO sz n ty)
 | .fV vs ty=>some (.fV vs ty)
 | .gone=>some .gone
 | _=>none
theorem qS {ρ : Nat->Option Nat} {V V':bF} (h:Bp ρ V V') {w:World} {l l':Nat} {B B':SB} (hl : ρ l=some l') (hr:yS ρ B=some B') (oW:okB V w l B) :
 okB V' w l' B'/\(∀ n,B'.bB V' l'=some n->B.bB V l=some n)/\(∀ n,B.bB V l=some n->B'.bB V' l'=some n)/\B'.owned=B.owned:=by
 obtain ⟨h1,h2⟩:=h l l' hl
 obtain ⟨cs,hc,hk⟩:=oW
 cases B with
 | own cells ty=>
   simp only [yS] at hr
   split at hr
   .rename_i cs' nK
    cases hr
    obtain ⟨b,hb,hh⟩:=hk
    have iZ:=h1 _ hb
    exact ⟨⟨cs,nQ h nK hc,b,iZ,hh⟩,fun n hn=>by simpa [SB.bB,hb,iZ] using hn,fun n hn=>by simpa [SB.bB,hb,iZ] using hn,rfl⟩
   .cases hr
 | row sz cells ty=>
   simp only [yS] at hr
   split at hr
   .rename_i cs' nK
    cases hr
    obtain ⟨b,cap,cur,hb,hσ,r⟩:=hk
    have iZ:=h1 _ hb
    exact ⟨⟨cs,nQ h nK hc,b,cap,cur,iZ,h2 _ hσ,r⟩,fun n hn=>by simpa [SB.bB,hb,iZ] using hn,fun n hn=>by simpa [SB.bB,hb,iZ] using hn,rfl⟩
   .cases hr
 | ints k xs ty=>
   cases hr
   obtain ⟨b,hb,hh⟩:=hk
   have iZ:=h1 _ hb
   exact ⟨⟨cs,hc,b,iZ,hh⟩,fun n hn=>by simpa [SB.bB,hb,iZ] using hn,fun n hn=>by simpa [SB.bB,hb,iZ] using hn,rfl⟩
 | fV vs ty=>
   cases hr
   obtain ⟨b,hb,hh⟩:=hk
   have iZ:=h1 _ hb
   exact ⟨⟨cs,hc,b,iZ,hh⟩,fun n hn=>by simpa [SB.bB,hb,iZ] using hn,fun n hn=>by simpa [SB.bB,hb,iZ] using hn,rfl⟩
 | cD k xs ty=>
   cases hr
   obtain ⟨v,hσ,hh⟩:=hk
   have mN:=h2 _ hσ
   exact ⟨⟨cs,hc,v,mN,hh⟩,fun n hn=>by simpa [SB.bB,hσ,mN] using hn,fun n hn=>by simpa [SB.bB,hσ,mN] using hn,rfl⟩
 | bO sz n ty=>
   cases hr
   obtain ⟨v,us,hσ,hh⟩:=hk
   have mN:=h2 _ hσ
   exact ⟨⟨cs,hc,v,us,mN,hh⟩,fun n hn=>by simpa [SB.bB,hσ,mN] using hn,fun n hn=>by simpa [SB.bB,hσ,mN] using hn,rfl⟩
 | eY cells=>cases hr
 | oD k xs=>cases hr
 | dK k xs=>cases hr
 | gone=>
   cases hr
   exact ⟨⟨[],rfl,trivial⟩,fun n hn=>by simp [SB.bB] at hn,fun n hn=>by simp [SB.bB] at hn,rfl⟩
theorem vC {ρ : Nat->Option Nat} {B B':SB} (h:yS ρ B=some B'):B'.owned=true\/B' = .gone:=by
 cases B <;> simp only [yS] at h <;> first | (cases h;done) | skip
 .split at h
  .cases h;exact .inl rfl
  .cases h
 .cases h;exact .inl rfl
 .cases h;exact .inl rfl
 .split at h
  .cases h;exact .inl rfl
  .cases h
 .cases h;exact .inl rfl
 .cases h;exact .inl rfl
 .cases h;exact .inr rfl
def jJ (V:bF) (T:bA) (n:Nat):Prop:=∃ l B,T l=some B/\B.owned=true/\B.bB V l=some n
theorem aG.part {w0 w:World} {M:Nat->Prop} {V:bF} {T T2:bA} (h:aG w0 M V T2 w) (bC:∀ l B,T l=some B->T2 l=some B):aG w (jJ V T) V T w:=
 ⟨fun l B hl=>h.ok l B (bC l B hl),fun l B l' B' n dP hl sB=>h.kF l B l' B' n dP (bC l B hl) (bC l' B' sB),fun l B _ hl ho hb=>.inr ⟨l,B,hl,ho,hb⟩,gZ.refl w _⟩
theorem aG.called {w0 w w':World} {M:Nat->Prop} {V V1 V2:bF} {T T2 Tf T':bA} (h:aG w0 M V T2 w) (bC:∀ l B,T l=some B->T2 l=some B)
 (hf:aG w (jJ V T) V1 Tf w') (hV:V.le V2) (src:Nat->Option Nat)
 (tQ:∀ l B,T' l=some B->(∃ k,src l=some k/\∃ C,Tf k=some C/\okB V2 w' l B/\(∀ n,B.bB V2 l=some n->C.bB V1 k=some n)/\B.owned=C.owned/\(B.owned=true\/B = .gone\/T2 l=some B))\/(src l=none/\T l=none/\T2 l=some B))
 (aYg:∀ l l' k,src l=some k->src l'=some k->l=l'):aG w0 M V2 T' w':=by
 have gA:∀ l B n,T2 l=some B->B.bB V2 l=some n->B.bB V l=some n:=fun l B n hl hb=>by rwa [(h.ok l B hl).tD hV] at hb
 have NS:∀ l B n,T l=none->T2 l=some B->B.bB V l=some n->¬ jJ V T n:=by
  rintro l B n h1 h2 h3 ⟨l1,B1,h4,h5,h6⟩
  have dP:l1≠l:=fun e=>by subst e;rw [h1] at h4;cases h4
  exact h.kF l1 B1 l B n dP (bC l1 B1 h4) h2 h5 h6 h3
 have Wk:∀ l B n,T l=none->T2 l=some B->B.bB V l=some n->∀ k C,Tf k=some C->C.owned=true->C.bB V1 k≠some n:=by
  intro l B n h1 h2 h3 k C hk ho hb
  have cK:=(h.ok l B h2).lt h3
  rcases hf.perm k C n hk ho hb with AP | hm
  .omega
  .exact NS l B n h1 h2 h3 hm
 refine ⟨fun l B hl=>?_,fun l B l' B' n dP hl sB ho hb iZ=>?_,fun l B n hl ho hb=>?_,?_⟩
 .rcases tQ l B hl with ⟨k,_,C,_,oW,_⟩ | ⟨_,h1,h2⟩
  .exact oW
  .refine (h.ok l B h2).rW hV hf.frame.size fun n hn=>?_
   exact hf.frame.block n ((h.ok l B h2).lt hn) (NS l B n h1 h2 hn)
 .rcases tQ l B hl with ⟨k,hk,C,hC,_,Of,hoC,jC⟩ | ⟨hk,h1,h2⟩ <;> rcases tQ l' B' sB with ⟨k',jK,C',hC',_,Wl,aXy,EH⟩ | ⟨jK,Ot,OB⟩
  .have Dm:k≠k':=fun e=>dP (aYg l l' k hk (e ▸ jK))
   exact hf.kF k C k' C' n Dm hC hC' (hoC ▸ ho) (Of n hb) (Wl n iZ)
  .exact Wk l' B' n Ot OB (gA l' B' n OB iZ) k C hC (hoC ▸ ho) (Of n hb)
  .rcases EH with EH | rfl | aMf
   .exact Wk l B n h1 h2 (gA l B n h2 hb) k' C' hC' (aXy ▸ EH) (Wl n iZ)
   .simp [SB.bB] at iZ
   .exact h.kF l B l' B' n dP h2 aMf ho (gA l B n h2 hb) (gA l' B' n aMf iZ)
  .exact h.kF l B l' B' n dP h2 OB ho (gA l B n h2 hb) (gA l' B' n OB iZ)
 .rcases tQ l B hl with ⟨k,hk,C,hC,_,Of,hoC,jC⟩ | ⟨hk,h1,h2⟩
  .rcases hf.perm k C n hC (hoC ▸ ho) (Of n hb) with AP | ⟨l1,B1,h4,h5,h6⟩
   .have:=h.frame.size;left;omega
   .exact h.perm l1 B1 n (bC l1 B1 h4) h5 h6
  .exact h.perm l B n h2 ho (gA l B n h2 hb)
 .refine h.frame.trans hf.frame fun n hn ⟨l1,B1,h4,h5,h6⟩=>?_
  rcases h.perm l1 B1 n (bC l1 B1 h4) h5 h6 with AP | hm
  .omega
  .exact hm
def aC (F:Nat) (T:bA):bA:=fun l=>match Nat.blt l F with
 | true=>T l
 | false=>none
theorem kP {F:Nat} {T:bA} {l:Nat} {B:SB} (h:aC F T l=some B):l<F/\T l=some B:=by
 unfold aC at h
 split at h
 .rename_i hb;exact ⟨by simpa [Nat.blt_eq] using hb,h⟩
 .cases h
noncomputable def Bj:List SV->Nat->Tr SV->Option (Tr SV)
 | [],_,t=>some t
 | v::r,i,t=>match Tr.put v 64 t i with
   | some t=>Bj r (i+1) t
   | none=>none
theorem xM:∀ {vs:List SV} {i:Nat} {t t':Tr SV},Bj vs i t=some t'->∀ m,t'.get m=if i<=m/\m<i+vs.length then vs[m-i]? else t.get m
 | [],i,t,t',h,m=>by
   simp only [Bj,Option.some.injEq] at h
   subst h
   rw [if_neg (by simp)]
 | v::r,i,t,t',h,m=>by
   simp only [Bj] at h
   split at h
   .rename_i t1 h1
    rw [xM h m]
    by_cases e:m=i
    .subst e
     rw [if_neg (by omega),Tr.gX _ _ _ _ _ h1,if_pos rfl,if_pos (by simp)]
     simp
    .by_cases e2:i+1<=m/\m<i+1+r.length
     .rw [if_pos e2,if_pos (by simp;omega),show m-i=(m-(i+1))+1 from by omega]
      simp
     .rw [if_neg e2,Tr.gX _ _ _ _ _ h1,if_neg e,if_neg (by simp;omega)]
   .cases h
mutual
def labs:SV->List Nat
 | .ptr l _ _=>[l]
 | .aI l _ _ _ _=>[l]
 | .agg vs=>Bi vs
 | .eD vs=>Bi vs
 | .fn _ xs ys=>Bi xs++Bi ys
 | .jS _ v=>labs v
 | .buf l=>[l]
 | .mT l _=>[l]
 | .mS l _ _=>[l]
 | .dX l _=>[l]
 | .rT l _ _ _ _ le=>[l,le]
 | .dO l _ _ _=>[l]
 | _=>[]
def Bi:List SV->List Nat
 | []=>[]
 | v::r=>labs v++Bi r
end
def EC:SB->List Nat
 | .own cs _=>Bi cs
 | .row _ cs _=>Bi cs
 | _=>[]
noncomputable def reach (F:Nat) (tb:Tr SB):Nat->List Nat->List Nat->List Nat
 | 0,_,acc=>acc
 | _+1,[],acc=>acc
 | f+1,l::r,acc=>match Nat.blt l F||acc.elem l with
   | true=>reach F tb f r acc
   | false=>match tb.get l with
     | some B=>reach F tb f (EC B++r) (acc++[l])
     | none=>reach F tb f r acc
def Eb (l:Nat):List Nat->Nat->Option Nat
 | [],_=>none
 | k::r,i=>match Nat.beq k l with
   | true=>some i
   | false=>Eb l r (i+1)
theorem uD {l:Nat}:∀ {ls:List Nat} {i j:Nat},Eb l ls i=some j->i<=j/\ls[j-i]?=some l
 | [],i,j,h=>by cases h
 | k::r,i,j,h=>by
   simp only [Eb] at h
   split at h
   .rename_i hb
    cases h
    have:=Nat.eq_of_beq_eq_true hb
    subst this
    simp
   .obtain ⟨h1,h2⟩:=uD h
    refine ⟨by omega,?_⟩
    rw [show j-i=(j-(i+1))+1 from by omega]
    simpa using h2
def Ey:List Nat->Bool
 | []=>true
 | k::r=>match r.elem k with
   | true=>false
   | false=>Ey r
theorem vE:∀ {ls:List Nat},Ey ls=true->∀ {i j k:Nat},ls[i]?=some k->ls[j]?=some k->i=j
 | [],_,i,j,k,hi,_=>by simp at hi
 | a::r,h,i,j,k,hi,hj=>by
   simp only [Ey] at h
   split at h
   .cases h
   .rename_i hn
    have hn:a ∉ r:=by simpa using hn
    cases i with
    | zero=>
      simp only [List.getElem?_cons_zero,Option.some.injEq] at hi
      subst hi
      cases j with
      | zero=>rfl
      | succ j=>simp only [List.getElem?_cons_succ] at hj;exact absurd (List.mem_of_getElem? hj) hn
    | succ i=>
      simp only [List.getElem?_cons_succ] at hi
      cases j with
      | zero=>simp only [List.getElem?_cons_zero,Option.some.injEq] at hj;subst hj;exact absurd (List.mem_of_getElem? hi) hn
      | succ j=>simp only [List.getElem?_cons_succ] at hj;rw [vE h hi hj]
def nm (F lab:Nat) (ls:List Nat) (l:Nat):Option Nat:=match Nat.blt l F with
 | true=>some l
 | false=>match Eb l ls 0 with
   | some i=>some (lab+i)
   | none=>none
noncomputable def sX (ρ : Nat->Option Nat) (tb:Tr SB):List Nat->Option (List SB)
 | []=>some []
 | l::r=>match tb.get l with
   | some B=>match yS ρ B,sX ρ tb r with
     | some B,some bs=>some (B::bs)
     | _,_=>none
   | none=>none
theorem tE {ρ : Nat->Option Nat} {tb:Tr SB}:∀ {ls:List Nat} {bs:List SB},sX ρ tb ls=some bs->bs.length=ls.length/\∀ (i:Nat) (B:SB),bs[i]?=some B->∃ (l:Nat) (C:SB),ls[i]?=some l/\tb.get l=some C/\yS ρ C=some B
 | [],bs,h=>by simp only [sX,Option.some.injEq] at h;subst h;simp
 | l::r,bs,h=>by
   simp only [sX] at h
   split at h
   .rename_i C hC
    split at h
    .rename_i B' bs' hB AS
     cases h
     obtain ⟨h1,h2⟩:=tE AS
     refine ⟨by simp [h1],fun i B hi=>?_⟩
     cases i with
     | zero=>simp only [List.getElem?_cons_zero,Option.some.injEq] at hi;subst hi;exact ⟨l,C,rfl,hC,hB⟩
     | succ i=>simpa using h2 i B (by simpa using hi)
    .cases h
   .cases h
def oL:List Nat->List SB->List (Nat × SB)
 | l::ls,b::bs=>(l,b)::oL ls bs
 | _,_=>[]
theorem nF:∀ {ls:List Nat} {bs:List SB} {l:Nat} {B:SB},look l (oL ls bs)=some B->∃ i:Nat,ls[i]?=some l/\bs[i]?=some B
 | [],_,l,B,h=>by simp [oL,look] at h
 | _::_,[],l,B,h=>by simp [oL,look] at h
 | k::ls,b::bs,l,B,h=>by
   simp only [oL] at h
   by_cases e:k=l
   .subst e;rw [aL] at h;cases h;exact ⟨0,rfl,rfl⟩
   .rw [aF e] at h
    obtain ⟨i,h1,h2⟩:=nF h
    exact ⟨i+1,by simpa using h1,by simpa using h2⟩
theorem lD:∀ {ls:List Nat} {bs:List SB} {l:Nat},bs.length=ls.length->look l (oL ls bs)=none->l ∉ ls
 | [],_,l,_,_=>by simp
 | _::_,[],l,hl,_=>by simp at hl
 | k::ls,b::bs,l,hl,h=>by
   simp only [oL] at h
   by_cases e:k=l
   .subst e;rw [aL] at h;cases h
   .rw [aF e] at h
    have:=lD (by simpa using hl) h
    simp only [List.mem_cons,not_or]
    exact ⟨fun q=>e q.symm,this⟩
def QC (Γ:Env) (g:Nat->Option SV) (T:bA):ResultVar->Option (List Prop × SV)
 | .tmp t=>(g t).map fun v=>([],v)
 | .cell a t=>match g a,Γ.ty t with
   | some (.ptr l true off),some ti=>match T l with
     | some B=>match CH Γ ti.desc,B,Nat.beq off 0 with
       | some _,.ints k xs _,true=>some ([xs.length=ti.size],.ai k xs)
       | _,_,_=>match Rz B true off ti.size with
         | some (ob,r)=>match wP ti.desc with
           | true=>some (ob,.agg r)
           | false=>match r with
             | [v]=>some (ob,v)
             | _=>none
         | none=>none
     | none=>none
   | _,_=>none
def Al (Γ:Env) (g:Nat->Option SV) (T:bA):List ResultVar->Option (List Prop × List SV)
 | []=>some ([],[])
 | r::rs=>match QC Γ g T r,Al Γ g T rs with
   | some (a,v),some (b,vs)=>some (a++b,v::vs)
   | _,_=>none
noncomputable def St.NK (s:St) (ob:List Prop):St:={ s with ob:=ob++s.ob }
def res (vs:List SV):SV:=match vs with
 | [v]=>v
 | _=>.eD vs
noncomputable def finish (F lab:Nat) (s:St) (v:SV):Option bR:=
 match sX some s.tb s.ws with
 | none=>none
 | some bs0=>
   let ls:=reach F s.tb 4096 (labs v++(bs0.map EC).flatten) []
   match zZ (nm F lab ls) v,sX (nm F lab ls) s.tb ls,sX (nm F lab ls) s.tb s.ws,Nat.ble ls.length 8&&(Ey ls&&(ls.all (fun l=>Nat.ble F l)&&s.ws.all (fun l=>Nat.blt l F))) with
   | some v,some new,some wr,true=>some { bV:=s.ob,val:=v,new:=new,wr:=oL s.ws wr }
   | _,_,_,_=>none
noncomputable def kI (Γ:Env) (B:bA) (F0 N:Nat):List SV->St->Option St
 | [],s=>some s
 | v::r,s=>match v with
   | .fn (.func id) args Hk=>match Γ.QW id with
     | some S=>match S (args++Hk) (s.T B) s.nx (s.nx+8) with
       | some e=>match s.step F0 N none e s.nx (s.nx+8) with
         | some s'=>kI Γ B F0 N r s'
         | none=>none
       | none=>none
     | none=>none
   | _=>none
def rdS (dd:Bool) (o:Option St) (df:List SV) (s:St):Option St:=match dd with
 | true=>o
 | false=>match df with
   | []=>some s
   | _=>none
noncomputable def aR (Γ:Env) (fn:Func) (dd:Bool) (hs:List Bool) (fuel:Nat):Sum:=fun vs T lab F=>
 match fn.body,Nat.ble vs.length fn.ntmps,Bj vs 0 .lf with
 | some c,true,some g=>match exec Γ (aC F T) F fn.ntmps fuel c { g:=g,tb:=.lf,nx:=F,ws:=[],ob:=[],hs:=hs } with
   | some (s,x)=>match x with
     | .exit _=>none
     | _=>match rdS dd (kI Γ (aC F T) F fn.ntmps s.df s) s.df s with
       | some s=>match Al Γ s.g.get (s.T (aC F T)) fn.results.toList with
         | some (ob,rs)=>finish F lab (s.NK ob) (res rs)
         | none=>none
       | none=>none
   | none=>none
 | _,_,_=>none
def Ow (tmps:Array Value):ResultVar->Sem Value
 | .tmp t=>pure (tmps.getD t undef)
 | .cell b t=>do loadVar t (<- asAddr (tmps.getD b undef))
theorem TZ {P:Program} {Γ:Env} {w0 w:World} {M:Nat->Prop} {V:bF} {T:bA} {g:Nat->Option SV} {a:Act} (aM:cG P Γ) (ht:dG V g a) (hT:aG w0 M V T w) {r:ResultVar} {v:SV} {ob:List Prop} (h:QC Γ g T r=some (ob,v)) (ho:∀ q∈ob,q) :
 ∃ x,den V v=some x/\(Ow a.tmps r).run P w = .ok x w:=by
 cases r with
 | tmp t=>
   simp only [QC,Option.map_eq_some_iff,Prod.mk.injEq] at h
   obtain ⟨u,hu,_,rfl⟩:=h
   exact ⟨_,ht t u hu,rfl⟩
 | cell b t=>
   simp only [QC] at h
   split at h
   case h_2=>cases h
   rename_i l off ti hb fN
   have ex:=ht b _ hb
   simp only [den,Option.map_eq_some_iff] at ex
   obtain ⟨⟨bk,base⟩,hβ,ex⟩:=ex
   obtain ⟨hu,i,z,hi,kD,_⟩:=aM t ti fN
   have ex':a.tmps.getD b undef = .pointer (some ⟨bk,base+off,none⟩):=ex.symm
   split at h
   case h_2=>cases h
   rename_i B hB
   have oW:=hT.ok l B hB
   split at h
   .rename_i k0 k xs ty ha h0
    cases h
    have h0:=Nat.eq_of_beq_eq_true h0
    subst h0
    have hlen:xs.length=ti.size:=ho _ (by simp)
    have iM:wP ti.desc=true:=by
     unfold CH at ha
     split at ha
     .rename_i hd;rw [hd];rfl
     .cases ha
    have hr:Rz (.ints k xs ty) false 0 ti.size=some ([0+ti.size<=xs.length],(List.range ti.size).map fun j=>.int false k (xs.getD (0+j) 0)):=rfl
    obtain ⟨zs,g1,g2,g3⟩:=pD oW hβ hr (by intro q hq;simp only [List.mem_singleton] at hq;subst hq;omega)
    rw [fT (V:=V) ti.size (fun j=>.int false k (xs.getD (0+j) 0)) (fun j=>.int k (xs.getD (0+j) 0)) (fun j _=>rfl),pS xs 0 ti.size (by omega) k] at g1
    cases g1
    have:=(eI hu hi bk (base+0) _ (by rw [g2,kD]) g3).1 iM
    refine ⟨.agg (((xs.drop 0).take ti.size).map (Value.int k)).toArray,by rw [List.drop_zero,<- hlen,List.take_length];rfl,?_⟩
    simp only [Ow,ex',asAddr,Sem.run_bind,Sem.run_pure,Result.andThen_ok,this]
   .split at h
    case h_2=>cases h
    rename_i ob' r hr
    split at h
    .rename_i iM
     cases h
     obtain ⟨xs,h1,h2,h3⟩:=pD oW hβ hr ho
     have:=(eI hu hi bk (base+off) xs (by rw [h2,kD]) h3).1 iM
     refine ⟨.agg xs.toArray,by simp [den,h1],?_⟩
     simp only [Ow,ex',asAddr,Sem.run_bind,Sem.run_pure,Result.andThen_ok,this]
    .rename_i iM
     split at h
     case h_2=>cases h
     rename_i v'
     cases h
     obtain ⟨xs,h1,h2,h3⟩:=pD oW hβ hr ho
     obtain ⟨y,rfl,hy⟩:=qW h1
     have:=(eI hu hi bk (base+off) [y] (by rw [h2,kD]) h3).2 iM y rfl
     refine ⟨y,hy,?_⟩
     simp only [Ow,ex',asAddr,Sem.run_bind,Sem.run_pure,Result.andThen_ok,this]
theorem TY {P:Program} {Γ:Env} {w0 w:World} {M:Nat->Prop} {V:bF} {T:bA} {g:Nat->Option SV} {a:Act} (aM:cG P Γ) (ht:dG V g a) (hT:aG w0 M V T w) {l:List ResultVar} {vs:List SV} {ob:List Prop} (h:Al Γ g T l=some (ob,vs)) (ho:∀ q∈ob,q) :
 ∃ xs,aJ V vs=some xs/\(l.mapM (Ow a.tmps)).run P w = .ok xs w:=by
 induction l generalizing vs ob with
 | nil=>simp only [Al,Option.some.injEq,Prod.mk.injEq] at h;obtain ⟨_,rfl⟩:=h;exact ⟨[],rfl,by simp⟩
 | cons r l ih=>
   simp only [Al] at h
   split at h
   .rename_i oa v ob' us hv Gm
    cases h
    obtain ⟨x,hx,hrx⟩:=TZ aM ht hT hv (fun q hq=>ho q (List.mem_append_left _ hq))
    obtain ⟨xs,qC,Vl⟩:=ih Gm (fun q hq=>ho q (List.mem_append_right _ hq))
    refine ⟨x::xs,by simp [aJ,hx,qC],?_⟩
    rw [List.mapM_cons]
    simp only [Sem.run_bind]
    rw [hrx]
    simp only [Result.andThen_ok,Vl,Sem.run_pure]
   .cases h
theorem Cx {P:Program} {Γ:Env} {w0 w:World} {M:Nat->Prop} {V:bF} {T:bA} {g:Nat->Option SV} {a:Act} (aM:cG P Γ) (ht:dG V g a) (hT:aG w0 M V T w) {fn:Func} {vs:List SV} {ob:List Prop} (h:Al Γ g T fn.results.toList=some (ob,vs)) (ho:∀ q∈ob,q) :
 ∃ x,den V (res vs)=some x/\(results fn a.tmps).run P w = .ok x w:=by
 obtain ⟨xs,h1,h2⟩:=TY (P:=P) aM ht hT h ho
 have h3:(fn.results.mapM (Ow a.tmps)).run P w = .ok xs.toArray w:=by
  rw [Array.mapM_eq_mapM_toList]
  simp only [Sem.run_map,h2]
  rfl
 have h4:results fn a.tmps=(do let vs <- fn.results.mapM (Ow a.tmps);pure (if h:vs.size=1 then vs[0] else .tuple vs)):=by
  unfold results
  congr 1
 rw [h4]
 simp only [Sem.run_bind,h3,Result.andThen_ok,Sem.run_pure]
 unfold res
 split
 .rename_i v
  obtain ⟨x,rfl,hx⟩:=qW h1
  exact ⟨x,hx,by simp⟩
 .rename_i dP
  refine ⟨.tuple xs.toArray,by simp [den,h1],?_⟩
  have hl:=bN h1
  have:xs.toArray.size≠1:=by
   simp only [List.size_toArray,hl]
   intro q
   match vs,q with
   | [v],_=>exact dP v rfl
  rw [dif_neg this]
theorem Inv.NK {P:Program} {Γ:Env} {w0:World} {M:Nat->Prop} {B:bA} {N F0:Nat} {V0:bF} {s:St} {V:bF} {a:Act} {w:World} (hi:Inv P Γ w0 M B N F0 V0 s V a w) (ob:List Prop):Inv P Γ w0 M B N F0 V0 (s.NK ob) V a w:=
 ⟨hi.tmp,hi.keys,hi.size,hi.defers,hi.fM,hi.aU,hi.top,hi.le,hi.low,hi.ch,hi.nx,hi.hi⟩
theorem Gf {P:Program} {Γ:Env} {w0 w w':World} {M:Nat->Prop} {V V1:bF} {T T2:bA} {N F lab:Nat} {s:St} {a':Act} {v:SV} {e:bR} {x:Value}
 (hT2:aG w0 M V T2 w) (bC:∀ l B,T l=some B->T2 l=some B) (hf:V.fresh lab)
 (hI:Inv P Γ w (jJ V (aC F T)) (aC F T) N F V s V1 a' w') (hx:den V1 v=some x) (h:finish F lab s v=some e) :
 e.bV=s.ob/\∃ V2,V.ext lab V2/\den V2 e.val=some x/\aG w0 M V2 (fL T2 lab e) w':=by
 unfold finish at h
 split at h
 case h_1=>cases h
 rename_i bs0 _
 obtain ⟨ls,AN⟩:∃ ls,ls=reach F s.tb 4096 (labs v++(bs0.map EC).flatten) []:=⟨_,rfl⟩
 simp only [<- AN] at h
 split at h
 case h_2=>cases h
 rename_i v' new wr hv BS AL oF
 cases h
 simp only [Bool.and_eq_true] at oF
 obtain ⟨AR,PI,hc3,hc4⟩:=oF
 have hlen:=Nat.le_of_ble_eq_true AR
 have QL:∀ (i k:Nat),ls[i]?=some k->F<=k:=fun i k hk=>Nat.le_of_ble_eq_true (List.all_eq_true.1 hc3 k (List.mem_of_getElem? hk))
 have BO:∀ (i k:Nat),s.ws[i]?=some k->k<F:=fun i k hk=>by have:=List.all_eq_true.1 hc4 k (List.mem_of_getElem? hk);simpa [Nat.blt_eq] using this
 obtain ⟨OY,hng⟩:=tE BS
 obtain ⟨hwl,hwg⟩:=tE AL
 refine ⟨rfl,⟨fun l=>if lab<=l/\l<lab+ls.length then (ls[l-lab]?).bind V1.β else V.β l,fun l=>if lab<=l/\l<lab+ls.length then (ls[l-lab]?).bind V1.σ else V.σ l⟩,?_⟩
 generalize hV2:(⟨fun l=>if lab<=l/\l<lab+ls.length then (ls[l-lab]?).bind V1.β else V.β l,fun l=>if lab<=l/\l<lab+ls.length then (ls[l-lab]?).bind V1.σ else V.σ l⟩:bF)=V2
 have out:∀ l,¬ (lab<=l/\l<lab+ls.length)->V2.β l=V.β l/\V2.σ l=V.σ l:=fun l hl=>by
  subst hV2;exact ⟨if_neg hl,if_neg hl⟩
 have inn:∀ i k,ls[i]?=some k->V2.β (lab+i)=V1.β k/\V2.σ (lab+i)=V1.σ k:=fun i k hk=>by
  have hi:=(List.getElem?_eq_some_iff.1 hk).1
  have hr:lab<=lab+i/\lab+i<lab+ls.length:=⟨by omega,by omega⟩
  subst hV2
  refine ⟨(if_pos hr).trans ?_,(if_pos hr).trans ?_⟩ <;> (rw [show lab+i-lab=i from by omega,hk];rfl)
 have bW:V.ext lab V2:=by
  refine ⟨⟨fun l p hp=>?_,fun l p hp=>?_⟩,fun l hl=>out l (by omega)⟩
  .rw [(out l (fun hr=>by have:=(hf l hr.1 (by omega)).1;rw [this] at hp;cases hp)).1];exact hp
  .rw [(out l (fun hr=>by have:=(hf l hr.1 (by omega)).2;rw [this] at hp;cases hp)).2];exact hp
 have yU:Bp (nm F lab ls) V1 V2:=by
  intro l l' hl
  unfold nm at hl
  split at hl
  .rename_i hb
   cases hl
   have hlF:l<F:=by simpa [Nat.blt_eq] using hb
   have jU:=hI.low l hlF
   rw [jU.1,jU.2]
   exact ⟨fun p hp=>bW.1.1 l p hp,fun p hp=>bW.1.2 l p hp⟩
  .split at hl
   .rename_i i hi
    cases hl
    obtain ⟨_,h2⟩:=uD hi
    have:=inn i l (by simpa using h2)
    rw [this.1,this.2]
    exact ⟨fun p hp=>hp,fun p hp=>hp⟩
   .cases hl
 refine ⟨bW,Bs yU hv hx,?_⟩
 have aLz:∀ l B,aC F T l=some B->T2 l=some B:=fun l B hl=>bC l B (kP hl).2
 refine aG.called hT2 aLz hI.fM bW.1 (fun l=>if l∈s.ws then some l else if lab<=l/\l<lab+ls.length then ls[l-lab]? else (aC F T l).map fun _=>l) (fun l B hl=>?_) (fun l l' k hk jK=>?_)
 .unfold fL bR.fM at hl
  simp only at hl
  rw [cI] at hl
  cases hw:look l (oL s.ws wr) with
  | some b=>
    rw [hw] at hl
    cases hl
    obtain ⟨i,h1,h2⟩:=nF hw
    obtain ⟨k,C,h3,h4,h5⟩:=hwg i _ h2
    rw [h1] at h3;cases h3
    have aYb:l∈s.ws:=List.mem_of_getElem? h1
    have Ae:s.T (aC F T) l=some C:=by simp only [St.T,h4]
    have OX:nm F lab ls l=some l:=by
     unfold nm
     have:Nat.blt l F=true:=by simpa [Nat.blt_eq] using BO i l h1
     rw [this]
    obtain ⟨r1,r2,r3,r4⟩:=qS yU OX h5 (hI.fM.ok l C Ae)
    refine .inl ⟨l,if_pos aYb,C,Ae,r1,r2,r4,?_⟩
    rcases vC h5 with q | q
    .exact .inl q
    .exact .inr (.inl q)
  | none=>
    rw [hw] at hl
    have QJ:=lD hwl hw
    rw [fD] at hl
    by_cases hr:lab<=l/\l<lab+ls.length
    .have cK:l-lab<new.length:=by rw [OY];omega
     rw [if_pos hr.1,List.getElem?_eq_getElem cK] at hl
     cases hl
     obtain ⟨k,C,h3,h4,h5⟩:=hng (l-lab) _ (List.getElem?_eq_getElem cK)
     have Ae:s.T (aC F T) k=some C:=by simp only [St.T,h4]
     have OX:nm F lab ls k=some l:=by
      unfold nm
      have hb:Nat.blt k F=false:=by
       cases hb:Nat.blt k F with
       | false=>rfl
       | true=>have:=QL _ _ h3;have:k<F:=by simpa [Nat.blt_eq] using hb
               omega
      rw [hb]
      simp only
      cases PC:Eb k ls 0 with
      | none=>
        exfalso
        have:∀ (ms:List Nat) (i:Nat),Eb k ms i=none->k ∉ ms:=by
         intro ms
         induction ms with
         | nil=>intro i _;simp
         | cons a r ih=>
           intro i hi
           simp only [Eb] at hi
           split at hi
           .cases hi
           .rename_i hb
            have:=beq_false hb
            simp only [List.mem_cons,not_or]
            exact ⟨fun q=>this q.symm,ih _ hi⟩
        exact this ls 0 PC (List.mem_of_getElem? h3)
      | some i=>
        simp only
        obtain ⟨_,h6⟩:=uD PC
        have:=vE PI h3 (by simpa using h6)
        congr 1
        omega
     obtain ⟨r1,r2,r3,r4⟩:=qS yU OX h5 (hI.fM.ok k C Ae)
     refine .inl ⟨k,(if_neg QJ).trans ((if_pos hr).trans h3),C,Ae,r1,r2,r4,?_⟩
     rcases vC h5 with q | q
     .exact .inl q
     .exact .inr (.inl q)
    .have NS:(if lab<=l then new[l-lab]? else none)=none:=by
      split
      .apply List.getElem?_eq_none;rw [OY];omega
      .rfl
     rw [NS] at hl
     simp only at hl
     cases hc:aC F T l with
     | none=>exact .inr ⟨(if_neg QJ).trans ((if_neg hr).trans (rfl)),rfl,hl⟩
     | some B0=>
       have hB0:=aLz l B0 hc
       rw [hl] at hB0;cases hB0
       have hlF:=(kP hc).1
       have Ae:s.T (aC F T) l=some B:=by simp only [St.T,hI.ch l hlF QJ,hc]
       have aXu:=hI.fM.ok l B Ae
       have aLt:=hT2.ok l B hl
       refine .inl ⟨l,(if_neg QJ).trans ((if_neg hr).trans (rfl)),B,Ae,?_,fun n hn=>?_,rfl,.inr (.inr hl)⟩
       .obtain ⟨cs,d1,d2⟩:=aXu
        obtain ⟨cs0,d3,_⟩:=aLt
        have:=SB.iU hI.le d3
        rw [d1] at this;cases this
        refine ⟨cs,SB.iU bW.1 d3,?_⟩
        have e1:=(hI.low l hlF).1
        have e2:=(hI.low l hlF).2
        cases B with
        | own cells ty=>obtain ⟨b,hb,hh⟩:=d2;exact ⟨b,bW.1.1 _ _ (e1 ▸ hb),hh⟩
        | ints k xs ty=>obtain ⟨b,hb,hh⟩:=d2;exact ⟨b,bW.1.1 _ _ (e1 ▸ hb),hh⟩
        | fV vs ty=>obtain ⟨b,hb,hh⟩:=d2;exact ⟨b,bW.1.1 _ _ (e1 ▸ hb),hh⟩
        | eY cells=>obtain ⟨b,o,hb,hh⟩:=d2;exact ⟨b,o,bW.1.1 _ _ (e1 ▸ hb),hh⟩
        | oD k xs=>obtain ⟨b,o,hb,hh⟩:=d2;exact ⟨b,o,bW.1.1 _ _ (e1 ▸ hb),hh⟩
        | cD k xs ty=>obtain ⟨v,hv,hh⟩:=d2;exact ⟨v,bW.1.2 _ _ (e2 ▸ hv),hh⟩
        | bO sz n ty=>obtain ⟨v,us,hv,hh⟩:=d2;exact ⟨v,us,bW.1.2 _ _ (e2 ▸ hv),hh⟩
        | row sz cells ty=>obtain ⟨b,cap,cur,hb,hσ,r⟩:=d2;exact ⟨b,cap,cur,bW.1.1 _ _ (e1 ▸ hb),bW.1.2 _ _ (e2 ▸ hσ),r⟩
        | dK k xs=>obtain ⟨v,hv,hh⟩:=d2;exact ⟨v,bW.1.2 _ _ (e2 ▸ hv),hh⟩
        | gone=>trivial
       .have h0:=aLt.tD bW.1
        rw [h0] at hn
        exact SB.aKb hI.le hn
 .have Jz:∀ (l k:Nat),(if l∈s.ws then some l else if lab<=l/\l<lab+ls.length then ls[l-lab]? else (aC F T l).map fun _=>l)=some k ->
   (k=l/\l<F)\/(lab<=l/\ls[l-lab]?=some k/\F<=k):=by
   intro l k hk
   split at hk
   .rename_i hm
    cases hk
    obtain ⟨i,hi,hie⟩:=List.getElem_of_mem hm
    exact .inl ⟨rfl,BO i l (by rw [List.getElem?_eq_getElem hi,hie])⟩
   .split at hk
    .rename_i hr
     exact .inr ⟨hr.1,hk,QL _ _ hk⟩
    .simp only [Option.map_eq_some_iff] at hk
     obtain ⟨B,hB,rfl⟩:=hk
     exact .inl ⟨rfl,(kP hB).1⟩
  rcases Jz l k hk with ⟨h1,h2⟩ | ⟨h1,h2,h3⟩ <;> rcases Jz l' k jK with ⟨Ot,OB⟩ | ⟨Ot,OB,h3'⟩
  .omega
  .omega
  .omega
  .have:=vE PI h2 OB
   omega
theorem vB {Γ:Env} {B:bA} {F0 N:Nat}:∀ {l:List SV} {s s':St},kI Γ B F0 N l s=some s'->∀ q∈s.ob,q∈s'.ob
 | [],s,s',h,q,hq=>by simp only [kI,Option.some.injEq] at h;subst h;exact hq
 | v::r,s,s',h,q,hq=>by
   unfold kI at h
   split at h
   .split at h
    .split at h
     .split at h
      .rename_i s1 h1
       have:=(St.eJ B h1).2.2.1
       exact vB h q (by rw [this];exact List.mem_append_right _ hq)
      .cases h
     .cases h
    .cases h
   .cases h
theorem Cc {P:Program} {Γ:Env} {w0:World} {M:Nat->Prop} {B:bA} {N F0:Nat} {V0:bF} (aE:bX P Γ) {fn:Func} {R:Ending->World->Prop} {tmps:Array Value} :
 ∀ {l:List SV} {s s':St} {V:bF} {a:Act} {w:World} {xs:List Value},kI Γ B F0 N l s=some s'->(∀ q∈s'.ob,q)->Inv P Γ w0 M B N F0 V0 s V a w->a.tmps=tmps->aJ V l=some xs ->
   (∀ V' a' w',Inv P Γ w0 M B N F0 V0 s' V' a' w'->a'.tmps=tmps->∃ v,(results fn tmps).run P w' = .ok v w'/\R (.returned v) w')->Leaves P fn tmps R (xs.map toD) .returning w
 | [],s,s',V,a,w,xs,h,ho,hi,ha,hx,hQ=>by
   simp only [kI,Option.some.injEq] at h
   subst h
   simp only [aJ,Option.some.injEq] at hx
   subst hx
   exact hQ V a w hi ha
 | v::r,s,s',V,a,w,xs,h,ho,hi,ha,hx,hQ=>by
   unfold kI at h
   split at h
   case h_2=>cases h
   rename_i id args Hk
   split at h
   case h_2=>cases h
   rename_i S hS
   split at h
   case h_2=>cases h
   rename_i e he
   split at h
   case h_2=>cases h
   rename_i s1 h1
   simp only [aJ,Option.map_eq_some_iff,Option.bind_eq_some_iff] at hx
   obtain ⟨x,hx,ys,hy,rfl⟩:=hx
   simp only [den,Option.bind_eq_some_iff,Option.map_eq_some_iff] at hx
   obtain ⟨aS,has,cs,nK,rfl⟩:=hx
   have tN:∀ q∈e.bV,q:=fun q hq=>ho q (vB h q (by rw [(St.eJ B h1).2.2.1];exact List.mem_append_left _ hq))
   simp only [List.map_cons,toD]
   refine aE.2.1 id S hS _ _ _ _ _ he tN w0 M V _ w _ (fun _ _ hl=>hl) hi.fM hi.aU hi.top.fresh (hi.top.mono (by omega)) (cJ has nK) fn tmps _ R (fun V' w' hV hT=>?_) aS.toArray cs.toArray (by simp)
   have fZ:=hi.step (a:=a) (x:=undef) h1 (Nat.le_refl _) (Nat.le_refl _) hV (fun hd=>by cases hd) hT
   exact Cc aE h ho fZ ha (dI hV.1 hy) hQ
theorem Xa {Γ:Env} {B:bA} {F0 N:Nat} {s s':St} (h:kI Γ B F0 N [] s=some s'):s'=s:=by
 simp only [kI,Option.some.injEq] at h;exact h.symm
theorem GM {o:Option St} {df:List SV} {s s2:St} (h:rdS false o df s=some s2):df=[]:=by
 unfold rdS at h
 split at h
 .rename_i h0;cases h0
 .split at h
  .rfl
  .cases h
theorem aGe {dd:Bool} {Γ:Env} {B:bA} {F0 N:Nat} {s s2:St} (h:rdS dd (kI Γ B F0 N s.df s) s.df s=some s2):kI Γ B F0 N s.df s=some s2:=by
 cases dd with
 | true=>exact h
 | false=>have:=GM h;unfold rdS at h;rw [this] at h |-;exact h
theorem yH {P:Program} {Γ:Env} (aM:cG P Γ) (aE:bX P Γ) (iF:P.follows .mixedOrders=true) {fn:Func} {dd:Bool} {hs:List Bool} {fuel:Nat} {vs:List SV} {T T2:bA} {lab F:Nat} {e:bR} {w0:World} {M:Nat->Prop} {V:bF} {w:World} {xs:List Value}
 (h:aR Γ fn dd hs fuel vs T lab F=some e) (ho:∀ q∈e.bV,q) (bC:∀ l B,T l=some B->T2 l=some B) (hT:aG w0 M V T2 w) (hg:cC Γ V) (hf:V.fresh lab) (hF:V.top F) (hx:aJ V vs=some xs)
 {R:Ending->World->Prop} (hR:∀ V' x w',V.ext lab V'->den V' e.val=some x->aG w0 M V' (fL T2 lab e) w'->R (.returned x) w') :
 ∃ c,fn.body=some c/\c.wp P (fun x a w=>bodyPostD P fn R x a w/\(dd=false->bodyPost P fn R x a w)) { tmps:=xs.toArray++Array.replicate (fn.ntmps-xs.toArray.size) undef,defers:=[] } w:=by
 unfold aR at h
 split at h
 case h_2=>cases h
 rename_i c g hb hn Kf
 split at h
 case h_2=>cases h
 rename_i s x hex
 have hn:=Nat.le_of_ble_eq_true hn
 have hlen:=bN hx
 have Ll:=xM Kf
 have qC:xs.length=vs.length:=hlen
 have Zw:Inv P Γ w (jJ V (aC F T)) (aC F T) fn.ntmps F V { g:=g,tb:=.lf,nx:=F,ws:=[],ob:=[],hs:=hs } V { tmps:=xs.toArray++Array.replicate (fn.ntmps-xs.toArray.size) undef,defers:=[] } w:=by
  refine ⟨fun t v hv=>?_,fun d v hv=>?_,?_,⟨[],rfl,rfl⟩,?_,hg,hF,V.le_refl,fun l _=>⟨rfl,rfl⟩,fun l _ _=>rfl,Nat.le_refl _,fun l hl=>?_⟩
  .have:=Ll t
   simp only at hv
   rw [hv] at this
   split at this
   .rename_i hr
    obtain ⟨y,h1,h2⟩:=eF hx t v (by simpa using this.symm)
    rw [h2]
    have cK:t<xs.length:=by omega
    have rX:xs[t]?=some y:=h1
    simp [Act.eval,Array.getD_eq_getD_getElem?,Array.getElem?_append,cK] at rX |-
    exact rX.symm
   .cases this
  .have:=Ll d
   simp only at hv
   rw [hv] at this
   split at this
   .omega
   .cases this
  .simp
   omega
  .have hp:=aG.part hT (T:=aC F T) (fun l B hl=>bC l B (kP hl).2)
   have:St.T (aC F T) { g:=g,tb:=.lf,nx:=F,ws:=[],ob:=[],hs:=hs }=aC F T:=by funext l;rfl
   rw [this]
   exact hp
  .show (match Tr.get .lf l with | some b=>some b | none=>aC F T l)=none
   simp only [Tr.kZ]
   cases hc:aC F T l with
   | none=>rfl
   | some B=>have:=(kP hc).1;simp only at hl;omega
 have fin:∀ s2,rdS dd (kI Γ (aC F T) F fn.ntmps s.df s) s.df s=some s2->(match Al Γ s2.g.get (s2.T (aC F T)) fn.results.toList with
  | some (ob,rs)=>finish F lab (s2.NK ob) (res rs)
  | none=>none)=some e ->
  (∀ q∈s2.ob,q)/\∀ V' a' w',Inv P Γ w (jJ V (aC F T)) (aC F T) fn.ntmps F V s2 V' a' w'->∃ v,(results fn a'.tmps).run P w' = .ok v w'/\R (.returned v) w':=by
  intro s2 h2 h3
  split at h3
  case h_2=>cases h3
  rename_i obr rs Vl
  have hfo:e.bV=obr++s2.ob:=by
   unfold finish at h3
   split at h3
   .cases h3
   .simp only at h3
    split at h3
    .cases h3;rfl
    .cases h3
  refine ⟨fun q hq=>ho q (hfo ▸ List.mem_append_right _ hq),fun V' a' w' fZ=>?_⟩
  obtain ⟨v,hv1,hv2⟩:=Cx (P:=P) (fn:=fn) aM fZ.tmp fZ.fM Vl (fun q hq=>ho q (hfo ▸ List.mem_append_left _ hq))
  obtain ⟨_,V2,k1,k2,k3⟩:=Gf hT bC hf (fZ.NK obr) hv1 h3
  exact ⟨v,hv2,hR V2 v w' k1 k2 k3⟩
 have main:∀ s2,x.to = .normal\/x.to = .ret->rdS dd (kI Γ (aC F T) F fn.ntmps s.df s) s.df s=some s2->(match Al Γ s2.g.get (s2.T (aC F T)) fn.results.toList with
  | some (ob,rs)=>finish F lab (s2.NK ob) (res rs)
  | none=>none)=some e->∃ c,fn.body=some c/\c.wp P (fun x a w=>bodyPostD P fn R x a w/\(dd=false->bodyPost P fn R x a w)) { tmps:=xs.toArray++Array.replicate (fn.ntmps-xs.toArray.size) undef,defers:=[] } w:=by
  intro s2 hxn h2 h3
  obtain ⟨tN,QO⟩:=fin s2 h2 h3
  have gG:=aGe h2
  refine ⟨c,hb,(XG aM aE iF fuel).1 hex (fun q hq=>tN q (vB gG q hq)) Zw fun V' a' w' fZ=>?_⟩
  obtain ⟨ys,iJ,Ab⟩:=fZ.defers
  have hl:Leaves P fn a'.tmps R a'.defers .returning w':=by
   rw [Ab]
   exact Cc aE gG tN fZ rfl iJ fun V3 a3 w3 hi3 ha3=>by
    obtain ⟨v,q1,q2⟩:=QO V3 a3 w3 hi3
    exact ⟨v,ha3 ▸ q1,q2⟩
  have hp:dd=false->a'.defers=[]/\∃ v,(results fn a'.tmps).run P w' = .ok v w'/\R (.returned v) w':=by
   intro hD
   have hdf:s.df=[]:=GM (hD ▸ h2)
   rw [hdf] at iJ gG
   simp only [aJ,Option.some.injEq] at iJ
   subst iJ
   have:=Xa gG
   subst this
   exact ⟨Ab,QO V' a' w' fZ⟩
  rcases hxn with q | q <;> (rw [q];exact ⟨hl,hp⟩)
 cases x with
 | exit id=>simp only at h;cases h
 | normal=>
   simp only at h
   split at h
   .rename_i s2 h2;exact main s2 (.inl rfl) h2 h
   .cases h
 | ret=>
   simp only at h
   split at h
   .rename_i s2 h2;exact main s2 (.inr rfl) h2 h
   .cases h
theorem gT {P:Program} {f:FuncId} {fn:Func} {c:Code} {args:Array Value} {w:World} (tP:P.funcs[f]?=some fn) (hb:fn.body=some c) (dP:(fn.name == "runtime.NumGoroutine")=false):(callFunc f args).run P w = .ok (.enter f args) w:=by
 unfold callFunc
 have Ks:¬ fn.name = "runtime.NumGoroutine" := by simpa using dP
 simp [tP,hb,Ks]
theorem aY {P:Program} {Γ:Env} (aM:cG P Γ) (aE:bX P Γ) (iF:P.follows .mixedOrders=true) {f:FuncId} {fn:Func} (tP:P.funcs[f]?=some fn) (dP:(fn.name == "runtime.NumGoroutine")=false) (dd:Bool) (hs:List Bool) (fuel:Nat):aH P Γ f (aR Γ fn dd hs fuel):=by
 intro vs T lab F e h ho w0 M V T2 w xs bC hT hg hf hF hx o a K Q hK
 obtain ⟨c,hb,hwp⟩:=yH aM aE iF h ho bC hT hg hf hF hx (R:=fun
  | .returned v,OM=>K (a.put o.dst v) OM
  | .panicked chain,OM=>Q (.panic chain) a OM
  | .outgrown,_=>LetsOut Q) (fun V' x w' h1 h2 h3=>hK V' x w' h1 h2 h3)
 rw [gT tP hb dP,Oper.upon_enter]
 exact calls_of_wp_defers tP hb (wp_mono hwp fun x a w h=>h.1)
theorem Ri {P:Program} {Γ:Env} (aM:cG P Γ) (aE:bX P Γ) (iF:P.follows .mixedOrders=true) {f:FuncId} {fn:Func} (tP:P.funcs[f]?=some fn) (dP:(fn.name == "runtime.NumGoroutine")=false) (hs:List Bool) (fuel:Nat):Bz P Γ f (aR Γ fn false hs fuel):=by
 intro vs T lab F e h ho w0 M V T2 w xs bC hT hg hf hF hx fn0 tmps ds R hK aS cs hac
 obtain ⟨c,hb,hwp⟩:=yH aM aE iF h ho bC hT hg hf hF hx (R:=fun e' OM=>match e' with
  | .returned _=>Leaves P fn0 tmps R ds .returning OM
  | _=>False) (fun V' x w' h1 _ h3=>hK V' w' h1 h3)
 have qC:xs.toArray=aS++cs:=by apply Array.ext';simp [<- hac]
 refine leaves_cons (by simp) (f:=f) (args:=aS++cs) ?_ ?_
 .show (callFunc f (aS++cs)).run P w=_
  rw [gT tP hb dP]
 .rw [<- qC]
  refine (callsD_of_wp (u:=.returning) tP hb (wp_mono hwp fun x a w h=>h.2 rfl)).mono fun e' u' w' h=>?_
  obtain ⟨rfl,h⟩:=h
  cases e' with
  | returned v=>exact h
  | panicked chain=>exact h.elim
  | outgrown=>exact h.elim
theorem aH.env {P:Program} {Γ Γ':Env} (h:Γ'.aU=Γ.aU) {f:FuncId} {S:Sum} (hs:aH P Γ f S):aH P Γ' f S:=
 fun vs T lab F e he ho w0 M V T2 w xs bC hT hg=>hs vs T lab F e he ho w0 M V T2 w xs bC hT (fun n l hn=>hg n l (h ▸ hn))
theorem Bz.env {P:Program} {Γ Γ':Env} (h:Γ'.aU=Γ.aU) {f:FuncId} {S:Sum} (hs:Bz P Γ f S):Bz P Γ' f S:=
 fun vs T lab F e he ho w0 M V T2 w xs bC hT hg=>hs vs T lab F e he ho w0 M V T2 w xs bC hT (fun n l hn=>hg n l (h ▸ hn))
noncomputable def Ku (P:Program) (aU:List (Nat × Nat)) (cmp:List Nat) (ex:Nat->Option Sum) (tw:List (Nat × Nat)) (fuel:Nat) (n:Nat):Env:=
 Nat.rec { ty:=tiP P,aU:=aU,sum:=ex,QW:=fun _=>none,cmp:=cmp }
  (fun _ Γ=>{ ty:=tiP P,aU:=aU,cmp:=cmp
              sum:=fun f=>match ex f with
               | some S=>some S
               | none=>match P.funcs[(look f tw).getD f]? with
                 | some fn=>some (aR Γ fn true [] fuel)
                 | none=>none
              QW:=fun f=>match P.funcs[f]? with
               | some fn=>some (aR Γ fn false [] fuel)
               | none=>none }) n
theorem pJ {P:Program} {aU:List (Nat × Nat)} {cmp:List Nat} {ex:Nat->Option Sum} {tw:List (Nat × Nat)} {fuel n:Nat}:(Ku P aU cmp ex tw fuel n).ty=tiP P/\(Ku P aU cmp ex tw fuel n).aU=aU/\(Ku P aU cmp ex tw fuel n).cmp=cmp:=by
 cases n <;> exact ⟨rfl,rfl,rfl⟩
structure HO (P:Program) (aU:List (Nat × Nat)) (cmp:List Nat) (ex:Nat->Option Sum) (tw:List (Nat × Nat)):Prop where
 mix:P.follows .mixedOrders=true
 names:∀ (f:Nat) (fn:Func),P.funcs[f]?=some fn->(fn.name == "runtime.NumGoroutine")=false
 cmp:∀ t:Nat,cmp.elem t=true->∀ i,P.info? t=some i->i.comparable=true
 depth:∃ d,P.depth=d+2
 tw:∀ f g:Nat,look f tw=some g->∀ (args:Array Value) (w:World),(callFunc f args).run P w=(callFunc g args).run P w
 ex:∀ f S,ex f=some S->∀ Γ:Env,Γ.aU=aU->aH P Γ f S
theorem YA {P:Program} {aU:List (Nat × Nat)} {cmp:List Nat} {ex:Nat->Option Sum} {tw:List (Nat × Nat)} (h:HO P aU cmp ex tw) (fuel:Nat):∀ n,bX P (Ku P aU cmp ex tw fuel n):=by
 intro n
 induction n with
 | zero=>exact ⟨fun f S hS=>h.ex f S hS _ rfl,fun f S hS=>(by cases hS),h.cmp,h.depth⟩
 | succ n ih=>
   refine ⟨fun f S hS=>?_,fun f S hS=>?_,h.cmp,h.depth⟩
   .have hS:(match ex f with
     | some S=>some S
     | none=>match P.funcs[(look f tw).getD f]? with
       | some fn=>some (aR (Ku P aU cmp ex tw fuel n) fn true [] fuel)
       | none=>none)=some S:=hS
    split at hS
    .rename_i S' hx;cases hS;exact h.ex f S hx _ rfl
    .split at hS
     .rename_i fn tP
      cases hS
      have hs:=(aY (cG.prog pJ.1) ih h.mix tP (h.names _ fn tP) true [] fuel).env (Γ':=Ku P aU cmp ex tw fuel (n+1)) (by rw [pJ.2.1,pJ.2.1])
      cases htw:look f tw with
      | none=>rw [htw] at hs;exact hs
      | some g=>
        rw [htw] at hs
        intro vs T lab F e he ho w0 M V T2 w xs bC hT hg hf hF hx o a K Q hK
        rw [h.tw f g htw]
        exact hs vs T lab F e he ho w0 M V T2 w xs bC hT hg hf hF hx o a K Q hK
     .cases hS
   .have hS:(match P.funcs[f]? with
     | some fn=>some (aR (Ku P aU cmp ex tw fuel n) fn false [] fuel)
     | none=>none)=some S:=hS
    split at hS
    .rename_i fn tP
     cases hS
     exact (Ri (cG.prog pJ.1) ih h.mix tP (h.names f fn tP) [] fuel).env (by rw [pJ.2.1,pJ.2.1])
    .cases hS
theorem cG.env {P:Program} {Γ Γ':Env} (h:Γ'.ty=Γ.ty) (hs:cG P Γ):cG P Γ':=fun t ti ht=>hs t ti (h ▸ ht)
def wO (a b:Int):Bool:=match a,b with
 | .ofNat m,.ofNat n=>Nat.beq m n
 | .negSucc m,.negSucc n=>Nat.beq m n
 | _,_=>false
theorem Vd {a b:Int} (h:wO a b=true):a=b:=by
 unfold wO at h
 split at h
 .rw [Nat.eq_of_beq_eq_true h]
 .rw [Nat.eq_of_beq_eq_true h]
 .cases h
def qK (a b:IntKind):Bool:=decide (a=b)
def Pn (a b:Bool):Bool:=match a,b with
 | true,true=>true
 | false,false=>true
 | _,_=>false
theorem rP {a b:Bool} (h:Pn a b=true):a=b:=by cases a <;> cases b <;> first | rfl | cases h
mutual
def qB:SV->SV->Bool
 | .int s k n,.int s' k' n'=>Pn s s'&&(qK k k'&&wO n n')
 | .bool s b,.bool s' b'=>Pn s s'&&Pn b b'
 | .agg vs,.agg us=>Kx vs us
 | .eD vs,.eD us=>Kx vs us
 | .ptr l s o,.ptr l' s' o'=>Nat.beq l l'&&(Pn s s'&&Nat.beq o o')
 | .aI l s o n c,.aI l' s' o' n' c'=>Nat.beq l l'&&(Pn s s'&&(Nat.beq o o'&&(Nat.beq n n'&&Nat.beq c c')))
 | _,_=>false
def Kx:List SV->List SV->Bool
 | [],[]=>true
 | v::r,u::t=>match qB v u with
   | true=>Kx r t
   | false=>false
 | _,_=>false
end
mutual
theorem YN:∀ {v u:SV},qB v u=true->v=u
 | .int s k n,u,h=>by
   cases u <;> simp only [qB,Bool.and_eq_true] at h <;> first | (cases h;done) | skip
   obtain ⟨h1,h2,h3⟩:=h
   rw [rP h1,of_decide_eq_true h2,Vd h3]
 | .bool s b,u,h=>by
   cases u <;> simp only [qB,Bool.and_eq_true] at h <;> first | (cases h;done) | skip
   rw [rP h.1,rP h.2]
 | .agg vs,u,h=>by
   cases u <;> simp only [qB] at h <;> first | (cases h;done) | skip
   rw [zU h]
 | .eD vs,u,h=>by
   cases u <;> simp only [qB] at h <;> first | (cases h;done) | skip
   rw [zU h]
 | .ptr l s o,u,h=>by
   cases u <;> simp only [qB,Bool.and_eq_true] at h <;> first | (cases h;done) | skip
   obtain ⟨h1,h2,h3⟩:=h
   rw [Nat.eq_of_beq_eq_true h1,rP h2,Nat.eq_of_beq_eq_true h3]
 | .aI l s o n c,u,h=>by
   cases u <;> simp only [qB,Bool.and_eq_true] at h <;> first | (cases h;done) | skip
   obtain ⟨h1,h2,h3,h4,h5⟩:=h
   rw [Nat.eq_of_beq_eq_true h1,rP h2,Nat.eq_of_beq_eq_true h3,Nat.eq_of_beq_eq_true h4,Nat.eq_of_beq_eq_true h5]
 | .fn ..,u,h=>by simp [qB] at h
 | .jS ..,u,h=>by simp [qB] at h
 | .raw ..,u,h=>by simp [qB] at h
 | .buf ..,u,h=>by simp [qB] at h
 | .mT ..,u,h=>by simp [qB] at h
 | .rT ..,u,h=>by simp [qB] at h
 | .mS ..,u,h=>by simp [qB] at h
 | .dX ..,u,h=>by simp [qB] at h
 | .ai ..,u,h=>by simp [qB] at h
 | .dO ..,u,h=>by simp [qB] at h
theorem zU:∀ {vs us:List SV},Kx vs us=true->vs=us
 | [],us,h=>by cases us <;> simp [Kx] at h |-
 | v::r,us,h=>by
   cases us with
   | nil=>simp [Kx] at h
   | cons u t=>
     simp only [Kx] at h
     split at h
     .rename_i h1;rw [YN h1,zU h]
     .cases h
end
mutual
def fO:SV->Bool
 | .int .. | .bool .. | .raw _ | .ai .. => true
 | .agg vs=>Lc vs
 | .eD vs=>Lc vs
 | _=>false
def Lc:List SV->Bool
 | []=>true
 | v::r=>match fO v with
   | true=>Lc r
   | false=>false
end
mutual
theorem nC {V V':bF}:∀ {v:SV},fO v=true->den V v=den V' v
 | .int ..,_=>rfl
 | .bool ..,_=>rfl
 | .raw _,_=>rfl
 | .agg vs,h=>by simp only [den,Ce (V:=V) (V':=V') (vs:=vs) h]
 | .eD vs,h=>by simp only [den,Ce (V:=V) (V':=V') (vs:=vs) h]
 | .fn ..,h=>by cases h
 | .jS ..,h=>by cases h
 | .ptr ..,h=>by cases h
 | .aI ..,h=>by cases h
 | .buf ..,h=>by cases h
 | .mT ..,h=>by cases h
 | .rT ..,h=>by cases h
 | .mS ..,h=>by cases h
 | .dX ..,h=>by cases h
 | .ai ..,_=>rfl
 | .dO ..,h=>by cases h
theorem Ce {V V':bF}:∀ {vs:List SV},Lc vs=true->aJ V vs=aJ V' vs
 | [],_=>rfl
 | v::r,h=>by
   simp only [Lc] at h
   split at h
   .rename_i h1;simp only [aJ,nC (V:=V) (V':=V') h1,Ce (V:=V) (V':=V') h]
   .cases h
end
def orS (A B:Sum):Sum:=fun vs T lab F=>match A vs T lab F with
 | some e=>some e
 | none=>B vs T lab F
theorem GO {P:Program} {Γ:Env} {f:FuncId} {A B:Sum} (ha:aH P Γ f A) (hb:aH P Γ f B):aH P Γ f (orS A B):=by
 intro vs T lab F e he
 unfold orS at he
 split at he
 .rename_i e' h;cases he;exact ha vs T lab F _ h
 .exact hb vs T lab F e he
theorem rH {P:Program} {f g:FuncId} {fn fg:Func} {c:Code} {twin:String} (hf:P.funcs[f]?=some fn) (hg:P.funcs[g]?=some fg) (hb:fn.body=none) (hc:fg.body=some c)
 (hn:(fn.name == "runtime.NumGoroutine")=false) (hn2:(fg.name == "runtime.NumGoroutine")=false) (he:Extern.findNext fn=some (Extern.Twins.call twin fn.params fn.resultTypes))
 (hi:P.funcs.findIdx? (·.name==twin)=some g) (hp:fg.params=fn.params) (hr:fg.resultTypes=fn.resultTypes) (args:Array Value) (w:World) :
 (callFunc f args).run P w=(callFunc g args).run P w:=by
 rw [gT hg hc hn2]
 have Oe:¬ fn.name = "runtime.NumGoroutine" := by simpa using hn
 unfold callFunc
 simp [hf,hb,Oe,he,Extern.Twins.call,hi,hg,hp,hr,hc]
def xG (sub:Bool):Sum:=fun vs _ _ _=>match vs with
 | [.int sx .u64 x,.int sy .u64 y,.int sc .u64 c]=>match sO (sx&&(sy&&sc)) (0<=x/\0<=y/\0<=c/\c<=1) with
   | some l=>match sub with
     | false=>some { bV:=l,val:=.eD [.int (sx&&(sy&&sc)) .u64 ((x+y+c)%18446744073709551616),.int (sx&&(sy&&sc)) .u64 ((x+y+c)/18446744073709551616)] }
     | true=>some { bV:=l,val:=.eD [.int (sx&&(sy&&sc)) .u64 ((((x.toNat+18446744073709551616-y.toNat-c.toNat)%18446744073709551616:Nat):Int)),.int (sx&&(sy&&sc)) .u64 ((if x<y+c then 1 else 0))] }
   | none=>none
 | _=>none
def Pr:Array Value->Sem Value:=fun args=>do
 let (x,y,b) <- Extern.MathBitsCarry.three "Sub64" args
 pure (Extern.MathBitsCarry.pair ((x+Extern.MathBitsCarry.m64-y-b)%Extern.MathBitsCarry.m64) (if x<y+b then 1 else 0))
theorem Qy {P:Program} (x y b:Nat) (hb:b<=1) (w:World) :
 (Pr #[.int .u64 x,.int .u64 y,.int .u64 b]).run P w =
  .ok (.tuple #[.int .u64 (((x+18446744073709551616-y-b)%18446744073709551616:Nat):Int),.int .u64 ((if x<y+b then 1 else 0:Nat):Int)]) w:=by
 have:b=0\/b=1:=by omega
 rcases this with rfl | rfl <;> rfl
theorem Gh {P:Program} {Γ:Env} {f:FuncId} (sub:Bool)
 (gG:∀ (args:Array Value) (w:World),(callFunc f args).run P w=(do pure (.value (<- (match sub with | false=>add64Entry args | true=>Pr args))):Sem Next).run P w):aH P Γ f (xG sub):=by
 intro vs T lab F e he ho w0 M V T2 w xs bC hT hg hf hF hx o a K Q hK
 unfold xG at he
 split at he
 case h_2=>cases he
 rename_i sx x sy y sc c
 split at he
 case h_2=>cases he
 rename_i l hl
 simp only [aJ,den,Option.bind_some,Option.map_some,Option.some.injEq] at hx
 subst hx
 have tN:∀ q∈l,q:=by cases sub <;> (simp only [Option.some.injEq] at he;subst he;exact ho)
 obtain ⟨h1,h2,h3,h4⟩:=iR hl tN
 rw [gG]
 obtain ⟨x',rfl⟩:=Int.eq_ofNat_of_zero_le h1
 obtain ⟨y',rfl⟩:=Int.eq_ofNat_of_zero_le h2
 obtain ⟨c',rfl⟩:=Int.eq_ofNat_of_zero_le h3
 cases sub with
 | false=>
   simp only [Option.some.injEq] at he
   subst he
   have:=run_add64 (P:=P) x' y' c' h1 h2 h3 h4 w
   simp only [Sem.run_bind,this,Result.andThen_ok,Sem.run_pure,Oper.upon_value]
   exact hK V _ w (V.dR lab) (by simp [den,aJ]) (by rw [kL _ _ rfl rfl];exact hT)
 | true=>
   simp only [Option.some.injEq] at he
   subst he
   have:=Qy (P:=P) x' y' c' (by omega) w
   simp only [Sem.run_bind,this,Result.andThen_ok,Sem.run_pure,Oper.upon_value]
   refine hK V _ w (V.dR lab) ?_ (by rw [kL _ _ rfl rfl];exact hT)
   have e1:(if (x':Int)<(y':Int)+(c':Int) then (1:Int) else 0)=((if x'<y'+c' then 1 else 0:Nat):Int):=by
    split <;> split <;> first | rfl | omega
   simp only [den,aJ,Option.bind_some,Option.map_some,Int.toNat_natCast,e1]
end Go.Proofs.YtaibhjpgbckbkaaGreatDoor.Sx
namespace Go.Proofs.YtaibhjpgbckbkaaGreatDoor.Sx
end Go.Proofs.YtaibhjpgbckbkaaGreatDoor.Sx
namespace Go.Proofs.YtaibhjpgbckbkaaGreatDoor.Sx
end Go.Proofs.YtaibhjpgbckbkaaGreatDoor.Sx
namespace Go.Proofs.YtaibhjpgbckbkaaGreatDoor.Sx
def aD (P:Program) (Γ:Env) (f:FuncId) (vs:List SV) (T:bA) (lab F:Nat) (e:bR):Prop:=
 ∀ (w0:World) (M:Nat->Prop) (V:bF) (T2:bA) (w:World) (xs:List Value),
   (∀ l B,T l=some B->T2 l=some B)->aG w0 M V T2 w->cC Γ V->V.fresh lab->V.top F->aJ V vs=some xs ->
   ∀ (o:Oper) (a:Act) K Q,(∀ V' x w',V.ext lab V'->den V' e.val=some x->aG w0 M V' (fL T2 lab e) w'->K (a.put o.dst x) w') ->
     o.upon P a K Q ((callFunc f xs.toArray).run P w)
theorem aH.call {P:Program} {Γ:Env} {f:FuncId} {S:Sum} (h:aH P Γ f S) {vs:List SV} {T:bA} {lab F:Nat} {e:bR} (he:S vs T lab F=some e) (ho:∀ q∈e.bV,q):aD P Γ f vs T lab F e:=h vs T lab F e he ho
theorem aH.Mq {P:Program} {Γ:Env} {f:FuncId} {S:Sum} (h:∀ vs T lab F e,S vs T lab F=some e->(∀ q∈e.bV,q)->aD P Γ f vs T lab F e):aH P Γ f S:=h
inductive Src where
 | lab (l off:Nat)
 | val (v:SV)
abbrev Vw:=Nat->Option Src
def seen (vw:Vw) (V:bF):bF:=
 ⟨fun l0=>match vw l0 with
  | some (.lab l off)=>(V.β l).map fun p=>(p.1,p.2+off)
  | _=>none,
  fun l0=>match vw l0 with
   | some (.lab l _)=>V.σ l
   | some (.val v)=>den V v
   | none=>none⟩
theorem lM {vw:Vw} {V:bF} {l0 l off:Nat} (h:vw l0=some (.lab l off)):(seen vw V).β l0=(V.β l).map (fun p=>(p.1,p.2+off))/\(seen vw V).σ l0=V.σ l:=by
 simp [seen,h]
theorem Mj {vw:Vw} {V:bF} {l0:Nat} {v:SV} (h:vw l0=some (.val v)):(seen vw V).σ l0=den V v:=by
 simp [seen,h]
def wI (vw:Vw) (F0 lab l0:Nat):Option Nat:=match Nat.blt l0 F0 with
 | true=>match vw l0 with
   | some (.lab l 0)=>some l
   | _=>none
 | false=>match Nat.blt l0 (F0+8) with
   | true=>some (lab+(l0-F0))
   | false=>none
def Lb (ρ : Nat->Option Nat):List SB->Option (List SB)
 | []=>some []
 | B::r=>match yS ρ B,Lb ρ r with
   | some B,some r=>some (B::r)
   | _,_=>none
def La (ρ : Nat->Option Nat):List (Nat × SB)->Option (List (Nat × SB))
 | []=>some []
 | (l,B)::r=>match ρ l,yS ρ B,La ρ r with
   | some l,some B,some r=>some ((l,B)::r)
   | _,_,_=>none
def FM (ρ : Nat->Option Nat) (e:bR):Option bR:=match zZ ρ e.val,Lb ρ e.new,La ρ e.wr with
 | some v,some n,some w=>some { bV:=e.bV,val:=v,new:=n,wr:=w }
 | _,_,_=>none
theorem Ft {ρ : Nat->Option Nat}:∀ {bs cs:List SB},Lb ρ bs=some cs->cs.length=bs.length/\∀ (i:Nat) (B:SB),cs[i]?=some B->∃ C,bs[i]?=some C/\yS ρ C=some B
 | [],cs,h=>by simp only [Lb,Option.some.injEq] at h;subst h;simp
 | b::r,cs,h=>by
   simp only [Lb] at h
   split at h
   .rename_i B' r' hB hr
    cases h
    obtain ⟨h1,h2⟩:=Ft hr
    refine ⟨by simp [h1],fun i B hi=>?_⟩
    cases i with
    | zero=>simp only [List.getElem?_cons_zero,Option.some.injEq] at hi;subst hi;exact ⟨b,rfl,hB⟩
    | succ i=>simpa using h2 i B (by simpa using hi)
   .cases h
def yQ (ρ : Nat->Option Nat) (l:Nat):List (Nat × SB)->Option Nat
 | []=>none
 | (k,_)::r=>if ρ k=some l then some k else yQ ρ l r
theorem zK {ρ : Nat->Option Nat} {l:Nat}:∀ {r:List (Nat × SB)} {k:Nat},yQ ρ l r=some k -> ρ k=some l
 | [],k,h=>by cases h
 | (j,B)::r,k,h=>by
   simp only [yQ] at h
   split at h
   .rename_i hj;cases h;exact hj
   .exact zK h
theorem Fs {ρ : Nat->Option Nat} {l:Nat}:∀ {r s:List (Nat × SB)},La ρ r=some s ->
 (∀ B,look l s=some B->∃ k C,yQ ρ l r=some k/\look k r=some C/\yS ρ C=some B)/\(look l s=none->yQ ρ l r=none)
 | [],s,h=>by simp only [La,Option.some.injEq] at h;subst h;exact ⟨fun B hB=>(by simp [look] at hB),fun _=>rfl⟩
 | (k,C)::r,s,h=>by
   simp only [La] at h
   split at h
   .rename_i l' B' r' h1 h2 h3
    cases h
    obtain ⟨i1,i2⟩:=Fs (l:=l) h3
    by_cases e:l'=l
    .subst e
     refine ⟨fun B hB=>?_,fun hn=>?_⟩
     .rw [aL] at hB
      cases hB
      exact ⟨k,C,by simp [yQ,h1],aL _ _ _,h2⟩
     .rw [aL] at hn;cases hn
    .have hk : ρ k≠some l:=by rw [h1];exact fun q=>e (by cases q;rfl)
     refine ⟨fun B hB=>?_,fun hn=>?_⟩
     .rw [aF e] at hB
      obtain ⟨k2,C2,j1,j2,j3⟩:=i1 B hB
      have dP:k≠k2:=fun q=>hk (q ▸ zK j1)
      exact ⟨k2,C2,by simp [yQ,hk,j1],by rw [aF dP];exact j2,j3⟩
     .rw [aF e] at hn
      simp [yQ,hk,i2 hn]
   .cases h
structure aKj (vw:Vw) (vs:List SV) (T:bA) (eR:List SV) (T0:List (Nat × SB)) (V:bF) (w:World):Prop where
 val:∀ xs,aJ V vs=some xs->aJ (seen vw V) eR=some xs
 ok:∀ l0 B0,look l0 T0=some B0->okB (seen vw V) w l0 B0
 kF:∀ l0 B0 l1 B1 n,l0≠l1->look l0 T0=some B0->look l1 T0=some B1->B0.owned=true->B0.bB (seen vw V) l0=some n->B1.bB (seen vw V) l1≠some n
 own:∀ l0 B0 n,look l0 T0=some B0->B0.owned=true->B0.bB (seen vw V) l0=some n->∃ l B,vw l0=some (.lab l 0)/\T l=some B/\B.owned=true/\B.bB V l=some n
theorem MU {P:Program} {Γ:Env} {f:FuncId} {vs eR:List SV} {T:bA} {T0:List (Nat × SB)} {F0 lab F:Nat} {e0 e:bR} {vw:Vw} (hC:aD P Γ f eR (fun l=>look l T0) F0 F0 e0)
 (hvw:∀ l0,F0<=l0->vw l0=none) (AO:∀ n l,look n Γ.aU=some l->vw l=some (.lab l 0))
 (aYi:∀ w0 M V w xs,aG w0 M V T w->aJ V vs=some xs->aKj vw vs T eR T0 V w)
 (jC:∀ l0 B0,look l0 T0=some B0->B0.owned=true->l0<F0/\look l0 e0.wr≠none)
 (hlen:e0.new.length<=8) (AL:∀ l0 B0,look l0 e0.wr=some B0->l0<F0)
 (he:FM (wI vw F0 lab) e0=some e):aD P Γ f vs T lab F e:=by
 intro w0 M V T2 w xs bC hT hg hf hF hx o a K Q hK
 unfold FM at he
 split at he
 case h_2=>cases he
 rename_i v' new wr hv BS aXm
 cases he
 obtain ⟨OY,hng⟩:=Ft BS
 have fit:=aYi _ _ V w xs (aG.part hT bC) hx
 obtain ⟨Th,hTh⟩:∃ Th:bA,Th=fun l=>open Classical in if ∃ l0 B0,look l0 T0=some B0/\B0.owned=true/\vw l0=some (.lab l 0) then T l else none:=⟨_,rfl⟩
 have aYo:∀ l B,Th l=some B->T2 l=some B:=fun l B hl=>by
  rw [hTh] at hl
  simp only at hl
  split at hl
  .exact bC l B hl
  .cases hl
 have aBf:∀ l0,F0<=l0->(seen vw V).β l0=none/\(seen vw V).σ l0=none:=fun l0 h=>by simp [seen,hvw l0 h]
 have Hf:aG w (jJ V Th) (seen vw V) (fun l=>look l T0) w:=by
  refine ⟨fun l B hl=>fit.ok l B hl,fun l B l' B' n dP hl sB ho hb=>fit.kF l B l' B' n dP hl sB ho hb,fun l B n hl ho hb=>.inr ?_,gZ.refl w _⟩
  obtain ⟨l1,B1,h1,h2,h3,h4⟩:=fit.own l B n hl ho hb
  refine ⟨l1,B1,?_,h3,h4⟩
  rw [hTh]
  simp only
  rw [if_pos ⟨l,B,hl,ho,h1⟩]
  exact h2
 refine hC w (jJ V Th) (seen vw V) (fun l=>look l T0) w xs (fun _ _ h=>h) Hf (fun n l hl=>?_) (fun l h1 h2=>aBf l h1) (fun l h1=>aBf l h1) (fit.val xs hx) o a K Q (fun V' x w' Og hx' tQ=>?_)
 .rw [(lM (AO n l hl)).1,hg n l hl];rfl
 obtain ⟨V2,hV2⟩:∃ V2:bF,V2=⟨fun l=>if lab<=l/\l<lab+8 then V'.β (F0+(l-lab)) else V.β l,fun l=>if lab<=l/\l<lab+8 then V'.σ (F0+(l-lab)) else V.σ l⟩:=⟨_,rfl⟩
 have out:∀ l,¬ (lab<=l/\l<lab+8)->V2.β l=V.β l/\V2.σ l=V.σ l:=fun l hl=>by
  subst hV2;exact ⟨if_neg hl,if_neg hl⟩
 have inn:∀ i,i<8->V2.β (lab+i)=V'.β (F0+i)/\V2.σ (lab+i)=V'.σ (F0+i):=fun i hi=>by
  have hr:lab<=lab+i/\lab+i<lab+8:=⟨by omega,by omega⟩
  subst hV2
  refine ⟨(if_pos hr).trans ?_,(if_pos hr).trans ?_⟩ <;> rw [show lab+i-lab=i from by omega]
 have bW:V.ext lab V2:=by
  refine ⟨⟨fun l p hp=>?_,fun l p hp=>?_⟩,fun l hl=>out l (by omega)⟩
  .rw [(out l (fun hr=>by have:=(hf l hr.1 (by omega)).1;rw [this] at hp;cases hp)).1];exact hp
  .rw [(out l (fun hr=>by have:=(hf l hr.1 (by omega)).2;rw [this] at hp;cases hp)).2];exact hp
 have yU:Bp (wI vw F0 lab) V' V2:=by
  intro l l' hl
  unfold wI at hl
  split at hl
  .rename_i hb
   have hlF:l<F0:=by simpa [Nat.blt_eq] using hb
   split at hl
   .rename_i l1 hq
    cases hl
    have h0:=Og.2 l (.inl hlF)
    have h1:=lM (V:=V) hq
    rw [h0.1,h0.2,h1.1,h1.2]
    refine ⟨fun p hp=>?_,fun v hv=>bW.1.2 _ v hv⟩
    simp only [Option.map_eq_some_iff] at hp
    obtain ⟨q,OW,rfl⟩:=hp
    exact bW.1.1 _ _ OW
   .cases hl
  .split at hl
   .rename_i sL rU
    cases hl
    have h1:F0<=l:=by
     apply Nat.le_of_not_lt
     intro q
     have q2:Nat.blt l F0=true:=by simpa [Nat.blt_eq] using q
     simp_all
    have h2:l<F0+8:=by simpa [Nat.blt_eq] using rU
    have:=inn (l-F0) (by omega)
    rw [show F0+(l-F0)=l from by omega] at this
    rw [this.1,this.2]
    exact ⟨fun p hp=>hp,fun p hp=>hp⟩
   .cases hl
 refine hK V2 x w' bW (Bs yU hv hx') ?_
 refine aG.called hT aYo tQ bW.1 (fun l=>match yQ (wI vw F0 lab) l e0.wr with
  | some k=>some k
  | none=>if lab<=l/\l<lab+e0.new.length then some (F0+(l-lab)) else none) (fun l B hl=>?_) (fun l l' k hk jK=>?_)
 .unfold fL bR.fM at hl
  simp only at hl
  rw [cI] at hl
  obtain ⟨g1,g2⟩:=Fs (l:=l) aXm
  cases hw:look l wr with
  | some b=>
    rw [hw] at hl
    cases hl
    obtain ⟨k,C,h1,h2,h3⟩:=g1 _ hw
    have Ae:fL (fun l=>look l T0) F0 e0 k=some C:=by
     unfold fL bR.fM
     rw [cI,h2]
    obtain ⟨r1,r2,r3,r4⟩:=qS yU (zK h1) h3 (tQ.ok k C Ae)
    refine .inl ⟨k,by simp only [h1],C,Ae,r1,r2,r4,?_⟩
    rcases vC h3 with q | q
    .exact .inl q
    .exact .inr (.inl q)
  | none=>
    rw [hw] at hl
    have vZ:=g2 hw
    rw [fD] at hl
    by_cases hr:lab<=l/\l<lab+e0.new.length
    .have cK:l-lab<new.length:=by rw [OY];omega
     rw [if_pos hr.1,List.getElem?_eq_getElem cK] at hl
     cases hl
     obtain ⟨C,h3,h4⟩:=hng (l-lab) _ (List.getElem?_eq_getElem cK)
     have Ae:fL (fun l=>look l T0) F0 e0 (F0+(l-lab))=some C:=by
      unfold fL bR.fM
      rw [cI]
      cases hq:look (F0+(l-lab)) e0.wr with
      | some b=>have:=AL _ b hq;omega
      | none=>
        simp only
        rw [fD,if_pos (by omega),show F0+(l-lab)-F0=l-lab from by omega,h3]
     have aCl:wI vw F0 lab (F0+(l-lab))=some l:=by
      unfold wI
      have b1:Nat.blt (F0+(l-lab)) F0=false:=by
       cases hb:Nat.blt (F0+(l-lab)) F0 with
       | false=>rfl
       | true=>have:F0+(l-lab)<F0:=by simpa [Nat.blt_eq] using hb
               omega
      have b2:Nat.blt (F0+(l-lab)) (F0+8)=true:=by simp [Nat.blt_eq];omega
      rw [b1,b2]
      simp only
      congr 1
      omega
     obtain ⟨r1,r2,r3,r4⟩:=qS yU aCl h4 (tQ.ok _ C Ae)
     refine .inl ⟨F0+(l-lab),by simp only [vZ,if_pos hr],C,Ae,r1,r2,r4,?_⟩
     rcases vC h4 with q | q
     .exact .inl q
     .exact .inr (.inl q)
    .have NS:(if lab<=l then new[l-lab]? else none)=none:=by
      split
      .apply List.getElem?_eq_none;rw [OY];omega
      .rfl
     rw [NS] at hl
     simp only at hl
     refine .inr ⟨by simp only [vZ,if_neg hr],?_,hl⟩
     rw [hTh]
     simp only
     split
     .rename_i hex
      obtain ⟨l0,B0,h1,h2,h3⟩:=hex
      obtain ⟨cK,hnn⟩:=jC l0 B0 h1 h2
      have aCl:wI vw F0 lab l0=some l:=by
       unfold wI
       have b1:Nat.blt l0 F0=true:=by simpa [Nat.blt_eq] using cK
       simp only [b1,h3]
      exfalso
      have:∀ {r:List (Nat × SB)},look l0 r≠none->yQ (wI vw F0 lab) l r≠none:=by
       intro r
       induction r with
       | nil=>intro h;exact (h rfl).elim
       | cons p r ih=>
         obtain ⟨k,C⟩:=p
         intro h
         simp only [yQ]
         split
         .simp
         .rename_i dP
          refine ih ?_
          by_cases e:k=l0
          .subst e;exact (dP aCl).elim
          .rwa [aF e] at h
      exact this hnn vZ
     .rfl
 .have Jz:∀ (l k:Nat),(match yQ (wI vw F0 lab) l e0.wr with
   | some k=>some k
   | none=>if lab<=l/\l<lab+e0.new.length then some (F0+(l-lab)) else none)=some k->wI vw F0 lab k=some l:=by
   intro l k hk
   split at hk
   .rename_i k' jK
    cases hk
    exact zK jK
   .split at hk
    .rename_i hr
     cases hk
     unfold wI
     have b1:Nat.blt (F0+(l-lab)) F0=false:=by
      cases hb:Nat.blt (F0+(l-lab)) F0 with
      | false=>rfl
      | true=>have:F0+(l-lab)<F0:=by simpa [Nat.blt_eq] using hb
              omega
     have b2:Nat.blt (F0+(l-lab)) (F0+8)=true:=by simp [Nat.blt_eq];omega
     rw [b1,b2]
     simp only
     congr 1
     omega
    .cases hk
  have e1:=Jz l k hk
  have e2:=Jz l' k jK
  rw [e1] at e2
  cases e2
  rfl
inductive Fr where
 | seq (y:Code)
 | bB (id:Nat)
 | loop (n:Nat) (c:Code)
 | scope
inductive Cf where
 | go (c:Code)
 | at (x:Ex)
def KQ (P:Program):List Fr->(Exit->Act->World->Prop)->Exit->Act->World->Prop
 | [],Q=>Q
 | .seq y::K,Q=>Exit.then (y.wp P (KQ P K Q)) (KQ P K Q)
 | .bB id::K,Q=>Exit.inBlock id (KQ P K Q)
 | .loop n c::K,Q=>Exit.then (Code.rounds P c (KQ P K Q) n) (KQ P K Q)
 | .scope::K,Q=>Exit.noGoto (KQ P K Q)
def BW:Code->Nat
 | .region n _ _=>n
 | .seq x _=>BW x
 | .block _ c=>BW c
 | .loop c=>BW c
 | .scope c=>BW c
 | _=>0
structure jA where
 cf:Cf
 fr:List Fr
 st:St
noncomputable def Fa (Γ:Env) (B:bA) (F0 N:Nat) (stops:List Nat) (lf:Nat) (rec:Cf->List Fr->St->Option jA) (cf:Cf) (K:List Fr) (s:St):Option jA:=
 match cf with
 | .at x=>match K with
   | []=>some ⟨.at x,[],s⟩
   | .seq y::K=>match x with
     | .normal=>rec (.go y) K s
     | x=>rec (.at x) K s
   | .bB id::K=>match x with
     | .exit Kb=>match Nat.beq Kb id with
       | true=>rec (.at .normal) K s
       | false=>rec (.at (.exit Kb)) K s
     | x=>rec (.at x) K s
   | .loop n c::K=>match x with
     | .normal=>match n with
       | m+1=>rec (.go c) (.loop m c::K) s
       | 0=>none
     | x=>rec (.at x) K s
   | .scope::K=>rec (.at x) K s
 | .go c=>match c with
   | .skip=>rec (.at .normal) K s
   | .label _=>rec (.at .normal) K s
   | .region _ ops d=>match d with
     | true=>match Fh Γ B F0 N ops s with
       | some s'=>rec (.at .normal) K s'
       | none=>none
     | false=>match Gz Γ B F0 N ops ops.toList s with
       | some s'=>rec (.at .normal) K s'
       | none=>none
   | .seq x y=>rec (.go x) (.seq y::K) s
   | .cond c x y=>match ev Γ s.g.get c with
     | some (.bool true true)=>rec (.go x) K s
     | some (.bool true false)=>rec (.go y) K s
     | some (.bool false b)=>match s.hs with
       | true::r=>rec (.go x) K { s with ob:=(b=true)::s.ob,hs:=r }
       | false::r=>rec (.go y) K { s with ob:=(b=false)::s.ob,hs:=r }
       | []=>none
     | _=>none
   | .block id c=>rec (.go c) (.bB id::K) s
   | .loop c=>match stops.elem (BW c) with
     | true=>some ⟨.go (.loop c),K,s⟩
     | false=>rec (.go c) (.loop lf c::K) s
   | .exit id=>rec (.at (.exit id)) K s
   | .ret=>rec (.at .ret) K s
   | .scope c=>rec (.go c) (.scope::K) s
   | _=>none
noncomputable def cA (Γ:Env) (B:bA) (F0 N:Nat) (stops:List Nat) (lf n:Nat):Cf->List Fr->St->Option jA:=
 Nat.rec (fun cf K s=>some ⟨cf,K,s⟩) (fun _ ih=>Fa Γ B F0 N stops lf ih) n
def G (P:Program) (Γ:Env) (w0:World) (M:Nat->Prop) (B:bA) (N F0:Nat) (V0:bF) (cf:Cf) (K:List Fr) (s:St) (Q:Exit->Act->World->Prop):Prop:=
 ∀ V a w,Inv P Γ w0 M B N F0 V0 s V a w->match cf with
   | .go c=>c.wp P (KQ P K Q) a w
   | .at x=>KQ P K Q x.to a w
section
variable {P:Program} {Γ:Env} {w0:World} {M:Nat->Prop} {B:bA} {N F0:Nat} {V0:bF}
theorem Inv.hints {s:St} {V:bF} {a:Act} {w:World} (hi:Inv P Γ w0 M B N F0 V0 s V a w) (ob:List Prop) (hs:List Bool):Inv P Γ w0 M B N F0 V0 { s with ob:=ob,hs:=hs } V a w:=
 ⟨hi.tmp,hi.keys,hi.size,hi.defers,hi.fM,hi.aU,hi.top,hi.le,hi.low,hi.ch,hi.nx,hi.hi⟩
theorem zN {stops:List Nat} {lf:Nat}:∀ {n:Nat} {cf:Cf} {K:List Fr} {s:St} {r:jA},cA Γ B F0 N stops lf n cf K s=some r->∀ q∈s.ob,q∈r.st.ob:=by
 intro n
 induction n with
 | zero=>intro cf K s r h q hq;cases h;exact hq
 | succ n ih=>
   intro cf K s r h q hq
   have h:Fa Γ B F0 N stops lf (cA Γ B F0 N stops lf n) cf K s=some r:=h
   unfold Fa at h
   split at h
   .split at h
    .cases h;exact hq
    .split at h <;> exact ih h q hq
    .split at h
     .split at h <;> exact ih h q hq
     .exact ih h q hq
    .split at h
     .split at h
      .exact ih h q hq
      .cases h
     .exact ih h q hq
    .exact ih h q hq
   .split at h
    .exact ih h q hq
    .exact ih h q hq
    .split at h
     .split at h
      .rename_i s1 h1;exact ih h q (Ni h1 q hq)
      .cases h
     .split at h
      .rename_i s1 h1;exact ih h q (uC h1 q hq)
      .cases h
    .exact ih h q hq
    .split at h
     .exact ih h q hq
     .exact ih h q hq
     .split at h
      .exact ih h q (List.mem_cons_of_mem _ hq)
      .exact ih h q (List.mem_cons_of_mem _ hq)
      .cases h
     .cases h
    .exact ih h q hq
    .split at h
     .cases h;exact hq
     .exact ih h q hq
    .exact ih h q hq
    .exact ih h q hq
    .exact ih h q hq
    .cases h
theorem G.run (aM:cG P Γ) (aE:bX P Γ) (iF:P.follows .mixedOrders=true) {stops:List Nat} {lf:Nat} {Q:Exit->Act->World->Prop}:∀ {n:Nat} {cf:Cf} {K:List Fr} {s:St} {r:jA},
 cA Γ B F0 N stops lf n cf K s=some r->(∀ q∈r.st.ob,q)->G P Γ w0 M B N F0 V0 r.cf r.fr r.st Q->G P Γ w0 M B N F0 V0 cf K s Q:=by
 intro n
 induction n with
 | zero=>intro cf K s r h ho hr;cases h;exact hr
 | succ n ih=>
   intro cf K s r h ho hr V a w hi
   have h:Fa Γ B F0 N stops lf (cA Γ B F0 N stops lf n) cf K s=some r:=h
   cases cf with
   | «at» x=>
     cases K with
     | nil=>cases h;exact hr V a w hi
     | cons fr K'=>
       cases fr with
       | seq y=>cases x <;> exact ih h ho hr V a w hi
       | bB id=>
         cases x with
         | normal=>exact ih h ho hr V a w hi
         | ret=>exact ih h ho hr V a w hi
         | exit Kb=>
           simp only [Fa] at h
           split at h
           .rename_i hb
            have:=ih h ho hr V a w hi
            show (if Kb=id then KQ P K' Q .normal a w else KQ P K' Q (.exit Kb) a w)
            rw [if_pos (Nat.eq_of_beq_eq_true hb)]
            exact this
           .rename_i hb
            have:=ih h ho hr V a w hi
            show (if Kb=id then KQ P K' Q .normal a w else KQ P K' Q (.exit Kb) a w)
            rw [if_neg (beq_false hb)]
            exact this
       | loop m c=>
         cases x with
         | normal=>
           cases m with
           | zero=>cases h
           | succ m'=>exact ih h ho hr V a w hi
         | ret=>exact ih h ho hr V a w hi
         | exit Kb=>exact ih h ho hr V a w hi
       | scope=>
         have:=ih h ho hr V a w hi
         cases x <;> exact this
   | go c=>
     simp only [Fa] at h
     split at h
     .exact wp_skip (ih h ho hr V a w hi)
     .exact wp_label (ih h ho hr V a w hi)
     .split at h
      .split at h
       .rename_i s1 h1
        exact Nh aM aE iF h1 (fun q hq=>ho q (zN h q hq)) hi fun V' a' w' fZ=>ih h ho hr V' a' w' fZ
       .cases h
      .split at h
       .rename_i s1 h1
        exact wp_region_list (uB aM aE h1 (fun q hq=>ho q (zN h q hq)) hi fun V' a' w' fZ=>ih h ho hr V' a' w' fZ)
       .cases h
     .exact wp_seq (ih h ho hr V a w hi)
     .split at h
      .rename_i hc
       have hc:=bT hi.tmp hi.aU hc
       simp only [den,Option.some.injEq] at hc
       exact wp_cond_true hc.symm (ih h ho hr V a w hi)
      .rename_i hc
       have hc:=bT hi.tmp hi.aU hc
       simp only [den,Option.some.injEq] at hc
       exact wp_cond_false hc.symm (ih h ho hr V a w hi)
      .rename_i b hc
       have hc:=bT hi.tmp hi.aU hc
       simp only [den,Option.some.injEq] at hc
       split at h
       .have hb:b=true:=ho _ (zN h _ List.mem_cons_self)
        rw [hb] at hc
        exact wp_cond_true hc.symm (ih h ho hr V a w (hi.hints _ _))
       .have hb:b=false:=ho _ (zN h _ List.mem_cons_self)
        rw [hb] at hc
        exact wp_cond_false hc.symm (ih h ho hr V a w (hi.hints _ _))
       .cases h
      .cases h
     .exact wp_block (ih h ho hr V a w hi)
     .split at h
      .cases h;exact hr V a w hi
      .exact wp_loop_rounds (lf+1) (ih h ho hr V a w hi)
     .exact wp_exit (ih h ho hr V a w hi)
     .exact wp_ret (ih h ho hr V a w hi)
     .exact wp_scope_straight (ih h ho hr V a w hi)
     .cases h
theorem G.loop {L:Code} {K:List Fr} {Q:Exit->Act->World->Prop} (S:Nat->St->Prop) {r0:Nat} {s0:St} (h0:S r0 s0)
 (aHo:∀ r s,S r s->G P Γ w0 M B N F0 V0 (.go L) [] s (Exit.then (fun a w=>∃ r',r'<r/\∃ s',S r' s'/\∃ V,Inv P Γ w0 M B N F0 V0 s' V a w) (KQ P K Q))) :
 G P Γ w0 M B N F0 V0 (.go (.loop L)) K s0 Q:=by
 intro V a w hi
 refine wp_loop_ghost (fun r a w=>∃ s,S r s/\∃ V,Inv P Γ w0 M B N F0 V0 s V a w) r0 ⟨s0,h0,V,hi⟩ ?_
 rintro r a w ⟨s,hs,V,hi⟩
 exact aHo r s hs V a w hi
theorem G.again {K:List Fr} {Q:Exit->Act->World->Prop} {S:Nat->St->Prop} {r:Nat} {s:St}
 (h:∀ V a w,Inv P Γ w0 M B N F0 V0 s V a w->∃ r',r'<r/\∃ s',S r' s'/\∃ V,Inv P Γ w0 M B N F0 V0 s' V a w) :
 G P Γ w0 M B N F0 V0 (.at .normal) [] s (Exit.then (fun a w=>∃ r',r'<r/\∃ s',S r' s'/\∃ V,Inv P Γ w0 M B N F0 V0 s' V a w) (KQ P K Q)):=
 fun V a w hi=>h V a w hi
theorem G.leave {K:List Fr} {Q:Exit->Act->World->Prop} {J:Act->World->Prop} {x:Ex} {s:St} (hx:x ≠ .normal) (h:G P Γ w0 M B N F0 V0 (.at x) K s Q) :
 G P Γ w0 M B N F0 V0 (.at x) [] s (Exit.then J (KQ P K Q)):=by
 intro V a w hi
 have:=h V a w hi
 cases x with
 | normal=>exact (hx rfl).elim
 | exit id=>exact this
 | ret=>exact this
end
def So (ρ : Nat->Option Nat):SB->Option SB
 | .dK k xs=>some (.dK k xs)
 | B=>yS ρ B
theorem Fu {ρ : Nat->Option Nat} {V V':bF} (h:Bp ρ V V') {w:World} {l l':Nat} {B B':SB} (hl : ρ l=some l') (hr:So ρ B=some B') (oW:okB V w l B) :
 okB V' w l' B'/\(∀ n,B'.bB V' l'=some n->B.bB V l=some n)/\(∀ n,B.bB V l=some n->B'.bB V' l'=some n)/\B'.owned=B.owned:=by
 cases B with
 | dK k xs=>
   simp only [So,Option.some.injEq] at hr
   subst hr
   obtain ⟨cs,hc,v,hσ,hh⟩:=oW
   have mN:=(h l l' hl).2 _ hσ
   exact ⟨⟨cs,hc,v,mN,hh⟩,fun n hn=>by simpa [SB.bB,hσ,mN] using hn,fun n hn=>by simpa [SB.bB,hσ,mN] using hn,rfl⟩
 | _=>exact qS h hl hr oW
noncomputable def rL (ρ : Nat->Option Nat) (tb:Tr SB):List Nat->Option (List SB)
 | []=>some []
 | l::r=>match tb.get l with
   | some B=>match So ρ B,rL ρ tb r with
     | some B,some bs=>some (B::bs)
     | _,_=>none
   | none=>none
theorem qZ {ρ : Nat->Option Nat} {tb:Tr SB}:∀ {ls:List Nat} {bs:List SB},rL ρ tb ls=some bs->bs.length=ls.length/\∀ (i:Nat) (B:SB),bs[i]?=some B->∃ (l:Nat) (C:SB),ls[i]?=some l/\tb.get l=some C/\So ρ C=some B
 | [],bs,h=>by simp only [rL,Option.some.injEq] at h;subst h;simp
 | l::r,bs,h=>by
   simp only [rL] at h
   split at h
   .rename_i C hC
    split at h
    .rename_i B' bs' hB AS
     cases h
     obtain ⟨h1,h2⟩:=qZ AS
     refine ⟨by simp [h1],fun i B hi=>?_⟩
     cases i with
     | zero=>simp only [List.getElem?_cons_zero,Option.some.injEq] at hi;subst hi;exact ⟨l,C,rfl,hC,hB⟩
     | succ i=>simpa using h2 i B (by simpa using hi)
    .cases h
   .cases h
noncomputable def Le (ρ : Nat->Option Nat) (g:Tr SV):List Nat->Option (Tr SV)
 | []=>some .lf
 | t::r=>match Le ρ g r,g.get t with
   | some g',some v=>match zZ ρ v with
     | some v=>Tr.put v 64 g' t
     | none=>none
   | _,_=>none
noncomputable def BE:List (Nat × SB)->Option (Tr SB)
 | []=>some .lf
 | (l,B)::r=>match BE r with
   | some t=>Tr.put B 64 t l
   | none=>none
noncomputable def Sq (F0:Nat) (rW labs:List Nat) (hs:List Bool) (s:St):Option St:=
 match Le (nm F0 F0 labs) s.g rW,rL (nm F0 F0 labs) s.tb s.ws,rL (nm F0 F0 labs) s.tb labs with
 | some g,some wr,some nw=>match BE (oL s.ws wr++iE F0 nw),Am (nm F0 F0 labs) s.df with
   | some tb,some df=>match Ey labs&&(labs.all (fun l=>Nat.ble F0 l)&&s.ws.all (fun l=>Nat.blt l F0)) with
     | true=>some { g:=g,tb:=tb,nx:=F0+labs.length,ws:=s.ws,ob:=[],df:=df,hs:=hs }
     | false=>none
   | _,_=>none
 | _,_,_=>none
theorem xK {ρ : Nat->Option Nat} {g:Tr SV}:∀ {ks:List Nat} {g':Tr SV},Le ρ g ks=some g'->∀ t v,g'.get t=some v->∃ u,g.get t=some u/\zZ ρ u=some v
 | [],g',h,t,v,hv=>by simp only [Le,Option.some.injEq] at h;subst h;rw [Tr.kZ] at hv;cases hv
 | k::r,g',h,t,v,hv=>by
   simp only [Le] at h
   split at h
   case h_2=>cases h
   rename_i g1 u h1 hu
   split at h
   case h_2=>cases h
   rename_i v1 hr
   rw [Tr.gX _ _ _ _ _ h t] at hv
   split at hv
   .rename_i e;subst e;cases hv;exact ⟨u,hu,hr⟩
   .exact xK h1 t v hv
theorem Mn:∀ {r:List (Nat × SB)} {t:Tr SB},BE r=some t->∀ l,t.get l=look l r
 | [],t,h,l=>by simp only [BE,Option.some.injEq] at h;subst h;rfl
 | (k,B)::r,t,h,l=>by
   simp only [BE] at h
   split at h
   case h_2=>cases h
   rename_i t1 h1
   rw [Tr.gX _ _ _ _ _ h l]
   split
   .rename_i e;subst e;rw [aL]
   .rename_i e;rw [aF (fun q=>e q.symm)];exact Mn h1 l
structure mU (Γ:Env) (B:bA) (F0:Nat) (V0:bF):Prop where
 top:V0.top F0
 aU:cC Γ V0
 cut:∀ l,F0<=l->B l=none
 cells:∀ l b,B l=some b->∃ cs,b.cells V0=some cs
theorem DQ {F lab l:Nat} {ls:List Nat} (h:l<F):nm F lab ls l=some l:=by
 unfold nm
 have:Nat.blt l F=true:=by simpa [Nat.blt_eq] using h
 rw [this]
theorem aOr {F lab l i:Nat} {ls:List Nat} (h:F<=l) (hd:Ey ls=true) (hi:ls[i]?=some l):nm F lab ls l=some (lab+i):=by
 unfold nm
 have hb:Nat.blt l F=false:=by
  cases hb:Nat.blt l F with
  | false=>rfl
  | true=>have:l<F:=by simpa [Nat.blt_eq] using hb
          omega
 rw [hb]
 simp only
 cases PC:Eb l ls 0 with
 | none=>
   exfalso
   have:∀ (ms:List Nat) (i:Nat),Eb l ms i=none->l ∉ ms:=by
    intro ms
    induction ms with
    | nil=>intro i _;simp
    | cons a r ih=>
      intro i hi
      simp only [Eb] at hi
      split at hi
      .cases hi
      .rename_i hb
       have:=beq_false hb
       simp only [List.mem_cons,not_or]
       exact ⟨fun q=>this q.symm,ih _ hi⟩
   exact this ls 0 PC (List.mem_of_getElem? hi)
 | some j=>
   simp only
   obtain ⟨_,h6⟩:=uD PC
   have:=vE hd hi (by simpa using h6)
   congr 1
   omega
section
variable {P:Program} {Γ:Env} {w0:World} {M:Nat->Prop} {B:bA} {N F0:Nat} {V0:bF}
theorem Inv.norm (hb:mU Γ B F0 V0) {rW labs:List Nat} {hs:List Bool} {s s':St} (h:Sq F0 rW labs hs s=some s') {V:bF} {a:Act} {w:World} (hi:Inv P Γ w0 M B N F0 V0 s V a w) :
 ∃ V',Inv P Γ w0 M B N F0 V0 s' V' a w:=by
 unfold Sq at h
 split at h
 case h_2=>cases h
 rename_i g wr nw hg AL vU
 split at h
 case h_2=>cases h
 rename_i tb df htb hdf
 split at h
 case h_2=>cases h
 rename_i oF
 cases h
 simp only [Bool.and_eq_true] at oF
 obtain ⟨PI,hc3,hc4⟩:=oF
 have QL:∀ (i k:Nat),labs[i]?=some k->F0<=k:=fun i k hk=>Nat.le_of_ble_eq_true (List.all_eq_true.1 hc3 k (List.mem_of_getElem? hk))
 have BO:∀ k,k∈s.ws->k<F0:=fun k hk=>by have:=List.all_eq_true.1 hc4 k hk;simpa [Nat.blt_eq] using this
 obtain ⟨OY,hng⟩:=qZ vU
 obtain ⟨hwl,hwg⟩:=qZ AL
 have rX:=Mn htb
 obtain ⟨V',Og⟩:∃ V':bF,V'=⟨fun l=>if l<F0 then V.β l else (labs[l-F0]?).bind V.β,fun l=>if l<F0 then V.σ l else (labs[l-F0]?).bind V.σ⟩:=⟨_,rfl⟩
 have Kj:∀ l,l<F0->V'.β l=V.β l/\V'.σ l=V.σ l:=fun l hl=>by subst Og;exact ⟨if_pos hl,if_pos hl⟩
 have vhi:∀ i,V'.β (F0+i)=(labs[i]?).bind V.β/\V'.σ (F0+i)=(labs[i]?).bind V.σ:=fun i=>by
  subst Og
  refine ⟨(if_neg (by omega)).trans ?_,(if_neg (by omega)).trans ?_⟩ <;> rw [show F0+i-F0=i from by omega]
 have aTn:∀ l,F0<=l->V'.β l=(labs[l-F0]?).bind V.β/\V'.σ l=(labs[l-F0]?).bind V.σ:=fun l hl=>by
  have:=vhi (l-F0);rwa [show F0+(l-F0)=l from by omega] at this
 have hle:V0.le V':=by
  refine ⟨fun l p hp=>?_,fun l p hp=>?_⟩
  .by_cases hl:l<F0
   .rw [(Kj l hl).1,(hi.low l hl).1];exact hp
   .rw [(hb.top l (by omega)).1] at hp;cases hp
  .by_cases hl:l<F0
   .rw [(Kj l hl).2,(hi.low l hl).2];exact hp
   .rw [(hb.top l (by omega)).2] at hp;cases hp
 have yU:Bp (nm F0 F0 labs) V V':=by
  intro l l' hl
  by_cases cK:l<F0
  .rw [DQ cK] at hl
   cases hl
   rw [(Kj l cK).1,(Kj l cK).2]
   exact ⟨fun p hp=>hp,fun p hp=>hp⟩
  .unfold nm at hl
   split at hl
   .rename_i Gs
    exact absurd (by simpa [Nat.blt_eq] using Gs) cK
   .split at hl
    .rename_i i PC
     cases hl
     obtain ⟨_,h2⟩:=uD PC
     have h2:labs[i]?=some l:=by simpa using h2
     rw [(vhi i).1,(vhi i).2,h2]
     exact ⟨fun p hp=>hp,fun p hp=>hp⟩
    .cases hl
 have src:∀ l b,St.T B { g:=g,tb:=tb,nx:=F0+labs.length,ws:=s.ws,ob:=[],df:=df,hs:=hs } l=some b ->
  ∃ k C,s.T B k=some C/\nm F0 F0 labs k=some l/\okB V' w l b/\(∀ n,b.bB V' l=some n->C.bB V k=some n)/\b.owned=C.owned:=by
  intro l b hl
  simp only [St.T,rX l] at hl
  rw [cI] at hl
  cases hw:look l (oL s.ws wr) with
  | some b1=>
    rw [hw] at hl
    cases hl
    obtain ⟨i,h1,h2⟩:=nF hw
    obtain ⟨k,C,h3,h4,h5⟩:=hwg i _ h2
    rw [h1] at h3;cases h3
    have Ae:s.T B l=some C:=by simp only [St.T,h4]
    have OX:nm F0 F0 labs l=some l:=DQ (BO l (List.mem_of_getElem? h1))
    obtain ⟨r1,r2,r3,r4⟩:=Fu yU OX h5 (hi.fM.ok l C Ae)
    exact ⟨l,C,Ae,OX,r1,r2,r4⟩
  | none=>
    rw [hw] at hl
    have Kr:=lD hwl hw
    simp only at hl
    rw [fD] at hl
    by_cases hr:F0<=l
    .rw [if_pos hr] at hl
     cases hn:nw[l-F0]? with
     | some b1=>
       rw [hn] at hl
       cases hl
       obtain ⟨k,C,h3,h4,h5⟩:=hng (l-F0) _ hn
       have Ae:s.T B k=some C:=by simp only [St.T,h4]
       have OX:nm F0 F0 labs k=some l:=by
        rw [aOr (QL _ _ h3) PI h3]
        congr 1
        omega
       obtain ⟨r1,r2,r3,r4⟩:=Fu yU OX h5 (hi.fM.ok k C Ae)
       exact ⟨k,C,Ae,OX,r1,r2,r4⟩
     | none=>
       rw [hn] at hl
       simp only at hl
       rw [hb.cut l hr] at hl
       cases hl
    .rw [if_neg hr] at hl
     simp only at hl
     have cK:l<F0:=by omega
     have Ae:s.T B l=some b:=by simp only [St.T,hi.ch l cK Kr,hl]
     obtain ⟨cs,c1,c2⟩:=hi.fM.ok l b Ae
     obtain ⟨cs0,c3⟩:=hb.cells l b hl
     have:=SB.iU hi.le c3
     rw [c1] at this
     cases this
     have e1:=(Kj l cK).1
     have e2:=(Kj l cK).2
     refine ⟨l,b,Ae,DQ cK,⟨cs,SB.iU hle c3,?_⟩,fun n hn=>?_,rfl⟩
     .cases b with
      | own cells ty=>obtain ⟨b,hb,hh⟩:=c2;exact ⟨b,e1.trans hb,hh⟩
      | ints k xs ty=>obtain ⟨b,hb,hh⟩:=c2;exact ⟨b,e1.trans hb,hh⟩
      | fV vs ty=>obtain ⟨b,hb,hh⟩:=c2;exact ⟨b,e1.trans hb,hh⟩
      | eY cells=>obtain ⟨b,o,hb,hh⟩:=c2;exact ⟨b,o,e1.trans hb,hh⟩
      | oD k xs=>obtain ⟨b,o,hb,hh⟩:=c2;exact ⟨b,o,e1.trans hb,hh⟩
      | cD k xs ty=>obtain ⟨v,hv,hh⟩:=c2;exact ⟨v,e2.trans hv,hh⟩
      | bO sz n ty=>obtain ⟨v,us,hv,hh⟩:=c2;exact ⟨v,us,e2.trans hv,hh⟩
      | row sz cells ty=>obtain ⟨b,cap,cur,hb,hσ,r⟩:=c2;exact ⟨b,cap,cur,e1.trans hb,e2.trans hσ,r⟩
      | dK k xs=>obtain ⟨v,hv,hh⟩:=c2;exact ⟨v,e2.trans hv,hh⟩
      | gone=>trivial
     .cases b <;> simp only [SB.bB,e1,e2] at hn |- <;> exact hn
 refine ⟨V',fun t v hv=>?_,fun d v hv=>?_,hi.size,?_,⟨fun l b hl=>?_,fun l b l' b' n dP hl sB ho Of Wl=>?_,fun l b n hl ho Of=>?_,hi.fM.frame⟩,fun n l hl=>hle.1 _ _ (hb.aU n l hl),fun l hl=>?_,hle,fun l hl=>?_,fun l hl hn=>?_,?_,fun l hl=>?_⟩
 .obtain ⟨u,h1,h2⟩:=xK hg t v hv
  exact Bs yU h2 (hi.tmp t u h1)
 .obtain ⟨u,h1,_⟩:=xK hg d v hv
  exact hi.keys d u h1
 .obtain ⟨xs,h1,h2⟩:=hi.defers
  exact ⟨xs,nQ yU hdf h1,h2⟩
 .obtain ⟨_,_,_,_,h,_⟩:=src l b hl;exact h
 .obtain ⟨k,C,h1,h2,_,h4,h5⟩:=src l b hl
  obtain ⟨k',C',Ot,OB,_,h4',_⟩:=src l' b' sB
  have Dm:k≠k':=fun e=>by subst e;rw [h2] at OB;cases OB;exact dP rfl
  exact hi.fM.kF k C k' C' n Dm h1 Ot (h5 ▸ ho) (h4 n Of) (h4' n Wl)
 .obtain ⟨k,C,h1,h2,_,h4,h5⟩:=src l b hl
  exact hi.fM.perm k C n h1 (h5 ▸ ho) (h4 n Of)
 .have hl:F0+labs.length<=l:=hl
  have:=aTn l (by omega)
  rw [this.1,this.2,List.getElem?_eq_none (by omega)]
  exact ⟨rfl,rfl⟩
 .rw [(Kj l hl).1,(Kj l hl).2];exact hi.low l hl
 .show tb.get l=none
  rw [rX l,cI]
  cases hw:look l (oL s.ws wr) with
  | some b=>
    obtain ⟨i,h1,_⟩:=nF hw
    exact absurd (List.mem_of_getElem? h1) hn
  | none=>
    simp only
    rw [fD,if_neg (by omega)]
 .exact Nat.le_add_right _ _
 .have hl:F0+labs.length<=l:=hl
  have h1:tb.get l=none:=by
   rw [rX l,cI]
   cases hw:look l (oL s.ws wr) with
   | some b=>
     obtain ⟨i,h1,_⟩:=nF hw
     have:=BO l (List.mem_of_getElem? h1)
     omega
   | none=>
     simp only
     rw [fD,if_pos (by omega)]
     exact List.getElem?_eq_none (by rw [OY];omega)
  show (match tb.get l with | some b=>some b | none=>B l)=none
  rw [h1]
  exact hb.cut l (by omega)
theorem G.norm (hb:mU Γ B F0 V0) {rW labs:List Nat} {hs:List Bool} {s s':St} (h:Sq F0 rW labs hs s=some s') {cf:Cf} {K:List Fr} {Q:Exit->Act->World->Prop}
 (hG:G P Γ w0 M B N F0 V0 cf K s' Q):G P Γ w0 M B N F0 V0 cf K s Q:=by
 intro V a w hi
 obtain ⟨V',fZ⟩:=hi.norm hb h
 exact hG V' a w fZ
end
noncomputable def Kv (Γ:Env) (T:bA) (lab F:Nat) (fn:Func) (x:Ex) (s:St):Option bR:=match x with
 | .exit _=>none
 | _=>match kI Γ (aC F T) F fn.ntmps s.df s with
   | some s=>match Al Γ s.g.get (s.T (aC F T)) fn.results.toList with
     | some (ob,rs)=>finish F lab (s.NK ob) (res rs)
     | none=>none
   | none=>none
theorem YB {P:Program} {Γ:Env} (aM:cG P Γ) (aE:bX P Γ) {fn:Func} {T T2:bA} {lab F:Nat} {e e':bR} {w0 w:World} {M:Nat->Prop} {V:bF} {x:Ex} {s:St}
 (bC:∀ l B,T l=some B->T2 l=some B) (hT:aG w0 M V T2 w) (hf:V.fresh lab) (h:Kv Γ T lab F fn x s=some e') (ho:∀ q∈e'.bV,q) (hev:e'.val=e.val) (hen:e'.new=e.new) (hew:e'.wr=e.wr)
 {R:Ending->World->Prop} (hR:∀ V' x w',V.ext lab V'->den V' e.val=some x->aG w0 M V' (fL T2 lab e) w'->R (.returned x) w') :
 G P Γ w (jJ V (aC F T)) (aC F T) fn.ntmps F V (.at x) [] s (bodyPostD P fn R):=by
 intro V' a' w' fZ
 have main:∀ y:Ex,y.to = .normal\/y.to = .ret->(match kI Γ (aC F T) F fn.ntmps s.df s with
  | some s=>match Al Γ s.g.get (s.T (aC F T)) fn.results.toList with
    | some (ob,rs)=>finish F lab (s.NK ob) (res rs)
    | none=>none
  | none=>none)=some e'->bodyPostD P fn R y.to a' w':=by
  intro y hy h
  split at h
  case h_2=>cases h
  rename_i s2 h2
  split at h
  case h_2=>cases h
  rename_i obr rs Vl
  have hfo:e'.bV=obr++s2.ob:=by
   unfold finish at h
   split at h
   .cases h
   .simp only at h
    split at h
    .cases h;rfl
    .cases h
  obtain ⟨ys,iJ,Ab⟩:=fZ.defers
  have hl:Leaves P fn a'.tmps R a'.defers .returning w':=by
   rw [Ab]
   refine Cc aE h2 (fun q hq=>ho q (hfo ▸ List.mem_append_right _ hq)) fZ rfl iJ fun V3 a3 w3 hi3 ha3=>?_
   obtain ⟨v,hv1,hv2⟩:=Cx (P:=P) (fn:=fn) aM hi3.tmp hi3.fM Vl (fun q hq=>ho q (hfo ▸ List.mem_append_left _ hq))
   obtain ⟨_,V2,k1,k2,k3⟩:=Gf hT bC hf (hi3.NK obr) hv1 h
   refine ⟨v,ha3 ▸ hv2,hR V2 v w3 k1 (hev ▸ k2) ?_⟩
   have:fL T2 lab e=fL T2 lab e':=by
    funext l;simp only [fL,bR.fM,hen,hew]
   rw [this]
   exact k3
  rcases hy with q | q <;> (rw [q];exact hl)
 cases x with
 | exit id=>cases h
 | normal=>exact main .normal (.inl rfl) h
 | ret=>exact main .ret (.inr rfl) h
theorem bU {P:Program} {Γ:Env} (aM:cG P Γ) (aE:bX P Γ) {f:FuncId} {fn:Func} {c:Code} (tP:P.funcs[f]?=some fn) (dP:(fn.name == "runtime.NumGoroutine")=false) (hc:fn.body=some c)
 {vs:List SV} {T:bA} {lab F:Nat} {e:bR} (hn:vs.length<=fn.ntmps) {g:Tr SV} (Kf:Bj vs 0 .lf=some g) (hs:List Bool)
 (H:∀ (w0:World) (M:Nat->Prop) (V0:bF) (Q:Exit->Act->World->Prop),mU Γ (aC F T) F V0 ->
  (∀ x s e',Kv Γ T lab F fn x s=some e'->(∀ q∈e'.bV,q)->e'.val=e.val->e'.new=e.new->e'.wr=e.wr->G P Γ w0 M (aC F T) fn.ntmps F V0 (.at x) [] s Q) ->
  G P Γ w0 M (aC F T) fn.ntmps F V0 (.go c) [] { g:=g,tb:=.lf,nx:=F,ws:=[],ob:=[],hs:=hs } Q):aD P Γ f vs T lab F e:=by
 intro w0 M V T2 w xs bC hT hg hf hF hx o a K Q hK
 have hlen:=bN hx
 have Ll:=xM Kf
 have qC:xs.length=vs.length:=hlen
 have bQ:mU Γ (aC F T) F V:=by
  refine ⟨hF,hg,fun l hl=>?_,fun l b hl=>?_⟩
  .cases hc:aC F T l with
   | none=>rfl
   | some b=>have:=(kP hc).1;omega
  .obtain ⟨cs,h1,_⟩:=hT.ok l b (bC l b (kP hl).2)
   exact ⟨cs,h1⟩
 have Zw:Inv P Γ w (jJ V (aC F T)) (aC F T) fn.ntmps F V { g:=g,tb:=.lf,nx:=F,ws:=[],ob:=[],hs:=hs } V { tmps:=xs.toArray++Array.replicate (fn.ntmps-xs.toArray.size) undef,defers:=[] } w:=by
  refine ⟨fun t v hv=>?_,fun d v hv=>?_,?_,⟨[],rfl,rfl⟩,?_,hg,hF,V.le_refl,fun l _=>⟨rfl,rfl⟩,fun l _ _=>rfl,Nat.le_refl _,fun l hl=>?_⟩
  .have:=Ll t
   simp only at hv
   rw [hv] at this
   split at this
   .rename_i hr
    obtain ⟨y,h1,h2⟩:=eF hx t v (by simpa using this.symm)
    rw [h2]
    have cK:t<xs.length:=by omega
    have rX:xs[t]?=some y:=h1
    simp [Act.eval,Array.getD_eq_getD_getElem?,Array.getElem?_append,cK] at rX |-
    exact rX.symm
   .cases this
  .have:=Ll d
   simp only at hv
   rw [hv] at this
   split at this
   .omega
   .cases this
  .simp
   omega
  .have hp:=aG.part hT (T:=aC F T) (fun l B hl=>bC l B (kP hl).2)
   have:St.T (aC F T) { g:=g,tb:=.lf,nx:=F,ws:=[],ob:=[],hs:=hs }=aC F T:=by funext l;rfl
   rw [this]
   exact hp
  .show (match Tr.get .lf l with | some b=>some b | none=>aC F T l)=none
   simp only [Tr.kZ]
   exact bQ.cut l hl
 rw [gT tP hc dP,Oper.upon_enter]
 refine calls_of_wp_defers tP hc ?_
 exact H w (jJ V (aC F T)) V (bodyPostD P fn _) bQ (fun x s e' h ho h1 h2 h3=>YB aM aE bC hT hf h ho h1 h2 h3 (R:=fun
  | .returned v,OM=>K (a.put o.dst v) OM
  | .panicked chain,OM=>Q (.panic chain) a OM
  | .outgrown,_=>LetsOut Q) (fun V' x w' h1 h2 h3=>hK V' x w' h1 h2 h3)) V _ w Zw
def eqI (s s':Bool) (a b:Int):List Prop:=match s&&s' with
 | true=>match wO a b with
   | true=>[]
   | false=>[a=b]
 | false=>[a=b]
theorem aIy {s s':Bool} {a b:Int} (h:∀ q∈eqI s s' a b,q):a=b:=by
 unfold eqI at h
 split at h
 .split at h
  .rename_i hb;exact Vd hb
  .exact h _ (by simp)
 .exact h _ (by simp)
def rV (s s':Bool) (a b:Nat):List Prop:=match s&&s' with
 | true=>match Nat.beq a b with
   | true=>[]
   | false=>[a=b]
 | false=>[a=b]
theorem jI {s s':Bool} {a b:Nat} (h:∀ q∈rV s s' a b,q):a=b:=by
 unfold rV at h
 split at h
 .split at h
  .rename_i hb;exact Nat.eq_of_beq_eq_true hb
  .exact h _ (by simp)
 .exact h _ (by simp)
def We:List SV->Bool
 | []=>true
 | .int true _ _::r=>We r
 | .bool true _::r=>We r
 | _=>false
theorem Cj {V V':bF}:∀ {cs:List SV},We cs=true->aJ V cs=aJ V' cs
 | [],_=>rfl
 | v::r,h=>by
   unfold We at h
   split at h
   .rename_i e;cases e
   .rename_i e;cases e;simp only [aJ,den,Cj (V:=V) (V':=V') h]
   .rename_i e;cases e;simp only [aJ,den,Cj (V:=V) (V':=V') h]
   .cases h
def Au (cs ds:List SV) (els:Option (List Prop)):Option (List Prop):=match We cs&&We ds with
 | true=>match Kx cs ds with
   | true=>some []
   | false=>none
 | false=>match qL cs,qL ds with
   | some (k,ns),some (k',ms)=>match qK k k' with
     | true=>some [ns=ms]
     | false=>none
   | _,_=>els
theorem uG {cs ds:List SV} {els:Option (List Prop)} {ps:List Prop} (h:Au cs ds els=some ps) (hp:∀ q∈ps,q):(∀ V V',aJ V' ds=aJ V cs)\/els=some ps:=by
 unfold Au at h
 split at h
 .rename_i hl
  simp only [Bool.and_eq_true] at hl
  split at h
  .rename_i hb
   left
   intro V V'
   rw [<- zU hb]
   exact Cj hl.1
  .cases h
 .split at h
  .rename_i h1 h2
   split at h
   .rename_i hk
    cases h
    have e:=hp _ List.mem_cons_self
    have hk:_=_:=of_decide_eq_true hk
    subst e hk
    left
    intro V V'
    rw [Ck h1,Ck h2]
   .cases h
  .exact .inr h
mutual
def iD:SV->SV->Option (List Prop)
 | .int s k n,.int s' k' n'=>match qK k k' with
   | true=>some (eqI s s' n n')
   | false=>none
 | .bool s b,.bool s' b'=>match s&&s' with
   | true=>match Pn b b' with
     | true=>some []
     | false=>none
   | false=>some [b=b']
 | .agg vs,.agg us=>Au vs us (wJ vs us)
 | .ai k xs,.ai k' ys=>match qK k k' with
   | true=>some [xs=ys]
   | false=>none
 | .agg vs,.ai k ys=>(dV k vs).map fun ns=>[ns=ys]
 | .ai k xs,.agg us=>(dV k us).map fun ns=>[xs=ns]
 | .eD vs,.eD us=>wJ vs us
 | .ptr l s o,.ptr l' s' o'=>match Nat.beq l l' with
   | true=>some (rV s s' o o')
   | false=>none
 | .aI l s o n c,.aI l' s' o' n' c'=>match Nat.beq l l' with
   | true=>some (rV s s' o o'++(rV s s' n n'++rV s s' c c'))
   | false=>none
 | .dO l o n lo,.dO l' o' n' lo'=>match Nat.beq l l'&&(Nat.beq o o'&&Nat.beq lo lo') with
   | true=>some (rV false false n n')
   | false=>none
 | .buf l,.buf l'=>match Nat.beq l l' with
   | true=>some []
   | false=>none
 | .rT l n c z j le,.rT l' n' c' z' j' le'=>match Nat.beq l l'&&(Nat.beq z z'&&Nat.beq le le') with
   | true=>some [n=n'/\c=c'/\j=j']
   | false=>none
 | .mT l o,.mT l' o'=>match Nat.beq l l' with
   | true=>some (rV false false o o')
   | false=>none
 | .mS l lo hi,.mS l' lo' fZ=>match Nat.beq l l' with
   | true=>some [lo=lo'/\hi=fZ]
   | false=>none
 | .dX l n,.dX l' n'=>match Nat.beq l l' with
   | true=>some (rV false false n n')
   | false=>none
 | .jS t v,.jS t' v'=>match Nat.beq t t' with
   | true=>iD v v'
   | false=>none
 | .fn (.func f) xs ys,.fn (.func g) us vs=>match Nat.beq f g with
   | true=>match wJ xs us,wJ ys vs with
     | some a,some b=>some (a++b)
     | _,_=>none
   | false=>none
 | .raw (.slice none 0 0),.raw (.slice none 0 0)=>some []
 | .raw (.pointer none),.raw (.pointer none)=>some []
 | .raw .nilIface,.raw .nilIface=>some []
 | .raw .nilFunc,.raw .nilFunc=>some []
 | .raw v,.raw v'=>some [v=v']
 | _,_=>none
def wJ:List SV->List SV->Option (List Prop)
 | [],[]=>some []
 | v::r,u::t=>match iD v u,wJ r t with
   | some a,some b=>some (a++b)
   | _,_=>none
 | _,_=>none
end
theorem jO {a b:List Prop} (h:∀ q∈a++b,q):∀ q∈a,q:=fun q hq=>h q (List.mem_append_left _ hq)
theorem gK {a b:List Prop} (h:∀ q∈a++b,q):∀ q∈b,q:=fun q hq=>h q (List.mem_append_right _ hq)
mutual
theorem kB {V:bF}:∀ {v u:SV} {ps:List Prop},iD v u=some ps->(∀ q∈ps,q)->den V u=den V v
 | .int s k n,u,ps,h,hp=>by
   cases u <;> simp only [iD] at h <;> first | (cases h;done) | skip
   split at h
   .rename_i hk
    cases h
    rw [aIy hp]
    have:k=_:=of_decide_eq_true hk
    rw [this];rfl
   .cases h
 | .bool s b,u,ps,h,hp=>by
   cases u <;> simp only [iD] at h <;> first | (cases h;done) | skip
   split at h
   .split at h
    .rename_i hb;cases h;rw [rP hb];rfl
    .cases h
   .cases h;have:=hp _ List.mem_cons_self;subst this;rfl
 | .agg vs,u,ps,h,hp=>by
   cases u <;> simp only [iD] at h <;> first | (cases h;done) | skip
   case agg=>
    rcases uG h hp with e | e
    .simp only [den,e V V]
    .simp only [den,lN e hp]
   case ai=>
    simp only [Option.map_eq_some_iff] at h
    obtain ⟨ns,hn,rfl⟩:=h
    have e:=hp _ List.mem_cons_self
    subst e
    simp only [den,dQ hn,Option.map_some]
 | .ai k xs,u,ps,h,hp=>by
   cases u <;> simp only [iD] at h <;> first | (cases h;done) | skip
   case agg=>
    simp only [Option.map_eq_some_iff] at h
    obtain ⟨ns,hn,rfl⟩:=h
    have e:=hp _ List.mem_cons_self
    subst e
    simp only [den,dQ hn,Option.map_some]
   case ai=>
    split at h
    .rename_i hk
     cases h
     have e:=hp _ List.mem_cons_self
     have hk:_=_:=of_decide_eq_true hk
     subst e hk
     rfl
    .cases h
 | .eD vs,u,ps,h,hp=>by
   cases u <;> simp only [iD] at h <;> first | (cases h;done) | skip
   simp only [den,lN h hp]
 | .ptr l s o,u,ps,h,hp=>by
   cases u <;> simp only [iD] at h <;> first | (cases h;done) | skip
   split at h
   .rename_i hl;cases h;simp only [den,jI hp,Nat.eq_of_beq_eq_true hl]
   .cases h
 | .aI l s o n c,u,ps,h,hp=>by
   cases u <;> simp only [iD] at h <;> first | (cases h;done) | skip
   split at h
   .rename_i hl;cases h;simp only [den,jI (jO hp),jI (jO (gK hp)),jI (gK (gK hp)),Nat.eq_of_beq_eq_true hl]
   .cases h
 | .dO l o n c,u,ps,h,hp=>by
   cases u <;> simp only [iD] at h <;> first | (cases h;done) | skip
   split at h
   .rename_i hl
    simp only [Bool.and_eq_true] at hl
    obtain ⟨h1,h2,h4⟩:=hl
    cases h
    simp only [den,Nat.eq_of_beq_eq_true h1,Nat.eq_of_beq_eq_true h2,jI hp,Nat.eq_of_beq_eq_true h4]
   .cases h
 | .buf l,u,ps,h,hp=>by
   cases u <;> simp only [iD] at h <;> first | (cases h;done) | skip
   split at h
   .rename_i hl;simp only [den,Nat.eq_of_beq_eq_true hl]
   .cases h
 | .rT l n c z j le,u,ps,h,hp=>by
   cases u <;> simp only [iD] at h <;> first | (cases h;done) | skip
   split at h
   .rename_i hl
    simp only [Bool.and_eq_true] at hl
    obtain ⟨h1,h2,h3⟩:=hl
    cases h
    obtain ⟨e1,e2,e3⟩:=hp _ List.mem_cons_self
    simp only [den,Nat.eq_of_beq_eq_true h1,Nat.eq_of_beq_eq_true h2,Nat.eq_of_beq_eq_true h3,e1,e2,e3]
   .cases h
 | .mT l o,u,ps,h,hp=>by
   cases u <;> simp only [iD] at h <;> first | (cases h;done) | skip
   split at h
   .rename_i hl;cases h;simp only [den,jI hp,Nat.eq_of_beq_eq_true hl]
   .cases h
 | .mS l lo hi,u,ps,h,hp=>by
   cases u <;> simp only [iD] at h <;> first | (cases h;done) | skip
   split at h
   .rename_i hl;cases h;obtain ⟨e1,e2⟩:=hp _ List.mem_cons_self;simp only [den,e1,e2,Nat.eq_of_beq_eq_true hl]
   .cases h
 | .dX l n,u,ps,h,hp=>by
   cases u <;> simp only [iD] at h <;> first | (cases h;done) | skip
   split at h
   .rename_i hl;cases h;simp only [den,jI hp,Nat.eq_of_beq_eq_true hl]
   .cases h
 | .jS t v,u,ps,h,hp=>by
   cases u <;> simp only [iD] at h <;> first | (cases h;done) | skip
   split at h
   .rename_i hl;simp only [den,kB h hp,Nat.eq_of_beq_eq_true hl]
   .cases h
 | .fn f xs ys,u,ps,h,hp=>by
   cases f with
   | func f=>
     cases u with
     | fn g us vs=>
       cases g with
       | func g=>
         simp only [iD] at h
         split at h
         .rename_i hf
          split at h
          .rename_i a b ha hb
           cases h
           simp only [den,lN ha (jO hp),lN hb (gK hp),Nat.eq_of_beq_eq_true hf]
          .cases h
         .cases h
       | _=>simp [iD] at h
     | _=>simp [iD] at h
   | _=>cases u <;> simp [iD] at h
 | .raw v,u,ps,h,hp=>by
   cases u with
   | raw v'=>
     unfold iD at h
     split at h
     all_goals first
      | (cases h;have e:=hp _ List.mem_cons_self;rename_i e1 e2;cases e1;cases e2;rw [e];done)
      | (rename_i e1 e2;cases e1;cases e2;rfl)
      | (cases h;have e:=hp _ List.mem_cons_self;rename_i e1 e2 _;cases e1;cases e2;rw [e];done)
      | (simp_all;done)
      | skip
   | _=>simp [iD] at h
theorem lN {V:bF}:∀ {vs us:List SV} {ps:List Prop},wJ vs us=some ps->(∀ q∈ps,q)->aJ V us=aJ V vs
 | [],us,ps,h,hp=>by
   cases us with
   | nil=>rfl
   | cons=>simp [wJ] at h
 | v::r,us,ps,h,hp=>by
   cases us with
   | nil=>simp [wJ] at h
   | cons u t=>
     simp only [wJ] at h
     split at h
     .rename_i a b ha hb
      cases h
      simp only [aJ,kB ha (jO hp),lN hb (gK hp)]
     .cases h
end
def lJ:SB->SB->Option (List Prop)
 | _,.gone=>some []
 | .own cs t,.own ds t'=>match Nat.beq t t' with
   | true=>Au cs ds (wJ cs ds)
   | false=>none
 | .own cs t,.ints k xs t'=>match dV k cs with
   | some ns=>some [ns=xs/\t=t']
   | none=>none
 | .ints k xs t,.ints k' ys t'=>match qK k k' with
   | true=>some [xs=ys/\t=t']
   | false=>none
 | .ints k xs t,.own ds t'=>match dV k ds with
   | some ns=>some [xs=ns/\t=t']
   | none=>none
 | .eY cs,.eY ds=>Au cs ds (wJ cs ds)
 | .eY cs,.oD k xs=>(dV k cs).map fun ns=>[ns=xs]
 | .oD k xs,.oD k' ys=>match qK k k' with
   | true=>some [xs=ys]
   | false=>none
 | .bO sz n t,.bO AD n' t'=>match Nat.beq sz AD&&Nat.beq t t' with
   | true=>some (rV false false n n')
   | false=>none
 | .cD k xs t,.cD k' ys t'=>match Nat.beq t t'&&qK k k' with
   | true=>some [xs=ys]
   | false=>none
 | .row z cs t,.row z' ds t'=>match Nat.beq t t'&&Nat.beq z z' with
   | true=>wJ cs ds
   | false=>none
 | .fV vs t,.fV us t'=>match Nat.beq t t' with
   | true=>some [vs=us]
   | false=>none
 | .dK k xs,.dK k' ys=>match qK k k' with
   | true=>some [xs=ys]
   | false=>none
 | _,_=>none
theorem UA {V:bF} {w:World} {l:Nat} {B C:SB} {ps:List Prop} (h:lJ B C=some ps) (hp:∀ q∈ps,q) (oW:okB V w l B) :
 okB V w l C/\(∀ n,C.bB V l=some n->B.bB V l=some n)/\(C.owned=B.owned\/C = .gone):=by
 have gone:∀ {D:SB},okB V w l .gone/\(∀ n,SB.gone.bB V l=some n->D.bB V l=some n)/\(SB.gone.owned=D.owned\/SB.gone = .gone):=fun {D}=>⟨⟨[],rfl,trivial⟩,(fun n hn=>by cases hn),Or.inr rfl⟩
 obtain ⟨cs,hc,h2⟩:=oW
 cases C with
 | gone=>exact gone
 | own ds t'=>
   cases B with
   | own es t=>
     have key:t=t'/\aJ V ds=aJ V es:=by
      simp only [lJ] at h
      split at h
      .rename_i ht
       refine ⟨Nat.eq_of_beq_eq_true ht,?_⟩
       rcases uG h hp with e | e
       .exact e V V
       .exact lN e hp
      .cases h
     obtain ⟨rfl,hd⟩:=key
     exact ⟨⟨cs,hd.trans hc,h2⟩,fun n hn=>hn,.inl rfl⟩
   | ints k xs t=>
     simp only [lJ] at h
     split at h
     .rename_i hk
      cases h
      obtain ⟨e,ht⟩:=hp _ List.mem_cons_self
      subst e ht
      simp only [SB.cells,Option.some.injEq] at hc
      subst hc
      exact ⟨⟨_,dQ hk,h2⟩,fun n hn=>hn,.inl rfl⟩
     .cases h
   | _=>simp [lJ] at h
 | ints k xs t'=>
   cases B with
   | own es t=>
     simp only [lJ] at h
     split at h
     .rename_i hk
      cases h
      obtain ⟨e,ht⟩:=hp _ List.mem_cons_self
      subst e ht
      have:some cs=some _:=hc.symm.trans (dQ hk)
      cases this
      exact ⟨⟨_,rfl,h2⟩,fun n hn=>hn,.inl rfl⟩
     .cases h
   | ints k2 ys t=>
     simp only [lJ] at h
     split at h
     .rename_i ht
      cases h
      obtain ⟨e,h3⟩:=hp _ List.mem_cons_self
      have h4:_=_:=of_decide_eq_true ht
      subst e h3 h4
      exact ⟨⟨cs,hc,h2⟩,fun n hn=>hn,.inl rfl⟩
     .cases h
   | _=>simp [lJ] at h
 | eY ds=>
   cases B with
   | eY es=>
     have hd:aJ V ds=aJ V es:=by
      simp only [lJ] at h
      rcases uG h hp with e | e
      .exact e V V
      .exact lN e hp
     exact ⟨⟨cs,hd.trans hc,h2⟩,fun n hn=>hn,.inl rfl⟩
   | _=>simp [lJ] at h
 | oD k xs=>
   cases B with
   | eY es=>
     simp only [lJ,Option.map_eq_some_iff] at h
     obtain ⟨ns,hk,rfl⟩:=h
     have e:=hp _ List.mem_cons_self
     subst e
     have:some cs=some _:=hc.symm.trans (dQ hk)
     cases this
     exact ⟨⟨_,rfl,h2⟩,fun n hn=>hn,.inl rfl⟩
   | oD k2 ys=>
     simp only [lJ] at h
     split at h
     .rename_i ht
      cases h
      have e:=hp _ List.mem_cons_self
      have h4:_=_:=of_decide_eq_true ht
      subst e h4
      exact ⟨⟨cs,hc,h2⟩,fun n hn=>hn,.inl rfl⟩
     .cases h
   | _=>simp [lJ] at h
 | bO z m t'=>
   cases B with
   | bO z2 m2 t=>
     simp only [lJ] at h
     split at h
     .rename_i ht
      cases h
      simp only [Bool.and_eq_true] at ht
      have h3:=Nat.eq_of_beq_eq_true ht.1
      have h4:=Nat.eq_of_beq_eq_true ht.2
      have e:=jI hp
      subst h3 h4 e
      exact ⟨⟨cs,hc,h2⟩,fun n hn=>hn,.inl rfl⟩
     .cases h
   | _=>simp [lJ] at h
 | cD k xs t'=>
   cases B with
   | cD k2 ys t=>
     simp only [lJ] at h
     split at h
     .rename_i ht
      cases h
      simp only [Bool.and_eq_true] at ht
      have e:=hp _ List.mem_cons_self
      have h3:=Nat.eq_of_beq_eq_true ht.1
      have h4:_=_:=of_decide_eq_true ht.2
      subst e h3 h4
      exact ⟨⟨cs,hc,h2⟩,fun n hn=>hn,.inl rfl⟩
     .cases h
   | _=>simp [lJ] at h
 | row z ds t'=>
   cases B with
   | row z2 es t=>
     simp only [lJ] at h
     split at h
     .rename_i ht
      simp only [Bool.and_eq_true] at ht
      have h3:=Nat.eq_of_beq_eq_true ht.1
      have h4:=Nat.eq_of_beq_eq_true ht.2
      subst h3 h4
      exact ⟨⟨cs,(lN h hp).trans hc,h2⟩,fun n hn=>hn,.inl rfl⟩
     .cases h
   | _=>simp [lJ] at h
 | dK k xs=>
   cases B with
   | dK k2 ys=>
     simp only [lJ] at h
     split at h
     .rename_i ht
      cases h
      have e:=hp _ List.mem_cons_self
      have h4:_=_:=of_decide_eq_true ht
      subst e h4
      exact ⟨⟨cs,hc,h2⟩,fun n hn=>hn,.inl rfl⟩
     .cases h
   | _=>simp [lJ] at h
 | fV us t'=>
   cases B with
   | fV vs t=>
     simp only [lJ] at h
     split at h
     .rename_i ht
      cases h
      have e:=hp _ List.mem_cons_self
      have h3:=Nat.eq_of_beq_eq_true ht
      subst e h3
      exact ⟨⟨cs,hc,h2⟩,fun n hn=>hn,.inl rfl⟩
     .cases h
   | _=>simp [lJ] at h
noncomputable def yP {α:Type}:List (Nat × α)->Tr α
 | []=>.lf
 | (k,v)::r=>match Tr.put v 64 (yP r) k with
   | some t=>t
   | none=>.lf
theorem oP {α:Type}:∀ {l:List (Nat × α)} (n:Nat) (v:α),(yP l).get n=some v->look n l=some v
 | [],n,v,h=>by rw [yP,Tr.kZ] at h;cases h
 | (k,u)::r,n,v,h=>by
   unfold yP at h
   split at h
   .rename_i t ht
    rw [Tr.gX _ _ _ _ _ ht n] at h
    split at h
    .rename_i e;subst e;cases h;exact aL _ _ _
    .rename_i e;rw [aF (fun q=>e q.symm)];exact oP n v h
   .rw [Tr.kZ] at h;cases h
noncomputable def aN (gs:List (Nat × SV)) (tb:List (Nat × SB)) (nx:Nat) (ws:List Nat) (df:List SV):St:={ g:=yP gs,tb:=yP tb,nx:=nx,ws:=ws,ob:=[],df:=df,hs:=[] }
noncomputable def St.hint (s:St) (hs:List Bool):St:={ s with hs:=hs }
def Ti (g:Nat->Option SV):List (Nat × SV)->Option (List Prop)
 | []=>some []
 | (t,u)::r=>match g t with
   | some v=>match iD v u,Ti g r with
     | some a,some b=>some (a++b)
     | _,_=>none
   | none=>none
def Tj (g:Nat->Option SB):List (Nat × SB)->Option (List Prop)
 | []=>some []
 | (t,u)::r=>match g t with
   | some v=>match lJ v u,Tj g r with
     | some a,some b=>some (a++b)
     | _,_=>none
   | none=>none
def aAe (o:Option SB):Bool:=match o with
 | some _=>true
 | none=>false
noncomputable def FL (F0:Nat) (B:bA) (gs:List (Nat × SV)) (tb:List (Nat × SB)) (nx:Nat) (ws:List Nat) (df:List SV) (s:St):Option (List Prop):=
 match Ti s.g.get gs,Tj (s.T B) tb,wJ s.df df with
 | some a,some b,some c=>match Nat.beq s.nx nx&&((s.ws.all fun l=>ws.elem l)&&((ws.all fun l=>aAe ((yP tb).get l))&&tb.all fun p=>Nat.ble F0 p.1||ws.elem p.1)) with
   | true=>some (a++(b++c))
   | false=>none
 | _,_,_=>none
theorem Nk {g:Nat->Option SV}:∀ {gs:List (Nat × SV)} {ps:List Prop},Ti g gs=some ps->(∀ q∈ps,q)->∀ t u,look t gs=some u->∃ v,g t=some v/\∀ V,den V u=den V v
 | [],ps,h,hp,t,u,hl=>by cases hl
 | (k,u')::r,ps,h,hp,t,u,hl=>by
   simp only [Ti] at h
   split at h
   case h_2=>cases h
   rename_i v hv
   split at h
   case h_2=>cases h
   rename_i a b ha hb
   cases h
   by_cases e:k=t
   .subst e;rw [aL] at hl;cases hl;exact ⟨v,hv,fun V=>kB ha (jO hp)⟩
   .rw [aF e] at hl;exact Nk hb (gK hp) t u hl
theorem Nl {g:Nat->Option SB}:∀ {gs:List (Nat × SB)} {ps:List Prop},Tj g gs=some ps->(∀ q∈ps,q)->∀ t u,look t gs=some u->∃ v OS,g t=some v/\lJ v u=some OS/\∀ q∈OS,q
 | [],ps,h,hp,t,u,hl=>by cases hl
 | (k,u')::r,ps,h,hp,t,u,hl=>by
   simp only [Tj] at h
   split at h
   case h_2=>cases h
   rename_i v hv
   split at h
   case h_2=>cases h
   rename_i a b ha hb
   cases h
   by_cases e:k=t
   .subst e;rw [aL] at hl;cases hl;exact ⟨v,a,hv,ha,jO hp⟩
   .rw [aF e] at hl;exact Nl hb (gK hp) t u hl
section
variable {P:Program} {Γ:Env} {w0:World} {M:Nat->Prop} {B:bA} {N F0:Nat} {V0:bF}
theorem Inv.cast (hb:mU Γ B F0 V0) {gs:List (Nat × SV)} {tb:List (Nat × SB)} {nx:Nat} {ws:List Nat} {df:List SV} {s:St} {ps:List Prop} (h:FL F0 B gs tb nx ws df s=some ps) (hp:∀ q∈ps,q)
 {V:bF} {a:Act} {w:World} (hi:Inv P Γ w0 M B N F0 V0 s V a w):Inv P Γ w0 M B N F0 V0 (aN gs tb nx ws df) V a w:=by
 unfold FL at h
 split at h
 case h_2=>cases h
 rename_i pa pb pc ha pT hc
 split at h
 case h_2=>cases h
 rename_i oF
 cases h
 simp only [Bool.and_eq_true] at oF
 obtain ⟨k1,k2,k3,k4⟩:=oF
 have k1:=Nat.eq_of_beq_eq_true k1
 subst k1
 have k2:∀ l,l∈s.ws->l∈ws:=fun l hl=>by simpa using List.all_eq_true.1 k2 l hl
 have hG:=Nk ha (jO hp)
 have hB:=Nl pT (jO (gK hp))
 have hD:aJ V df=aJ V s.df:=lN hc (gK (gK hp))
 have src:∀ l b,(yP tb).get l=some b->∃ C,s.T B l=some C/\okB V w l b/\(∀ n,b.bB V l=some n->C.bB V l=some n)/\(b.owned=C.owned\/b = .gone):=by
  intro l b hl
  obtain ⟨C,OS,h4,h2,h3⟩:=hB l b (oP l b hl)
  obtain ⟨r1,r2,r3⟩:=UA h2 h3 (hi.fM.ok l C h4)
  exact ⟨C,h4,r1,r2,r3⟩
 have low:∀ l,(yP tb).get l=none->∀ b,B l=some b->s.T B l=some b:=by
  intro l hl b Gs
  have cK:l<F0:=by
   apply Nat.lt_of_not_le
   intro q
   rw [hb.cut l q] at Gs
   cases Gs
  have vU:l ∉ s.ws:=fun hm=>by
   have:=List.all_eq_true.1 k3 l (k2 l hm)
   rw [hl] at this
   cases this
  simp only [St.T,hi.ch l cK vU,Gs]
 have AZ:∀ l b,(aN gs tb s.nx ws df).T B l=some b->∃ C,s.T B l=some C/\okB V w l b/\(∀ n,b.bB V l=some n->C.bB V l=some n)/\(b.owned=C.owned\/b = .gone):=by
  intro l b hl
  simp only [St.T,aN] at hl
  cases hg:(yP tb).get l with
  | some b'=>rw [hg] at hl;cases hl;exact src l _ hg
  | none=>
    rw [hg] at hl
    have:=low l hg b hl
    exact ⟨b,this,hi.fM.ok l b this,fun n hn=>hn,.inl rfl⟩
 refine ⟨fun t v hv=>?_,fun d v hv=>?_,hi.size,?_,⟨fun l b hl=>?_,fun l b l' b' n dP hl sB ho Of Wl=>?_,fun l b n hl ho Of=>?_,hi.fM.frame⟩,hi.aU,hi.top,hi.le,hi.low,fun l hl hn=>?_,hi.nx,fun l hl=>?_⟩
 .obtain ⟨u,h1,h2⟩:=hG t v (oP t v hv)
  rw [h2]
  exact hi.tmp t u h1
 .obtain ⟨u,h1,_⟩:=hG d v (oP d v hv)
  exact hi.keys d u h1
 .obtain ⟨xs,h1,h2⟩:=hi.defers
  exact ⟨xs,hD.trans h1,h2⟩
 .exact (AZ l b hl).choose_spec.2.1
 .obtain ⟨C,h1,_,h3,h4⟩:=AZ l b hl
  obtain ⟨C',Ot,_,h3',_⟩:=AZ l' b' sB
  have hCo:C.owned=true:=by
   rcases h4 with h4 | h4
   .rw [<- h4];exact ho
   .subst h4;cases ho
  exact hi.fM.kF l C l' C' n dP h1 Ot hCo (h3 n Of) (h3' n Wl)
 .obtain ⟨C,h1,_,h3,h4⟩:=AZ l b hl
  have hCo:C.owned=true:=by
   rcases h4 with h4 | h4
   .rw [<- h4];exact ho
   .subst h4;cases ho
  exact hi.fM.perm l C n h1 hCo (h3 n Of)
 .cases hg:(yP tb).get l with
  | none=>exact hg
  | some b=>
    have hm:=List.all_eq_true.1 k4 _ (gQ (oP l b hg))
    simp only [Bool.or_eq_true] at hm
    rcases hm with hm | hm
    .have:=Nat.le_of_ble_eq_true hm;omega
    .exact absurd (show l∈ws by simpa using hm) hn
 .cases hg:(aN gs tb s.nx ws df).T B l with
  | none=>rfl
  | some b=>obtain ⟨C,h1,_⟩:=AZ l b hg;rw [hi.hi l hl] at h1;cases h1
noncomputable def Ry (F0:Nat) (B:bA) (labs:List Nat) (gs:List (Nat × SV)) (tb:List (Nat × SB)) (nx:Nat) (ws:List Nat) (df:List SV) (r:Option jA):Option (Cf × List Fr × List Prop):=match r with
 | some r=>match Sq F0 (gs.map (·.1)) labs [] r.st with
   | some s=>match FL F0 B gs tb nx ws df s with
     | some ps=>some (r.cf,r.fr,r.st.ob++ps)
     | none=>none
   | none=>none
 | none=>none
theorem G.to (aM:cG P Γ) (aE:bX P Γ) (iF:P.follows .mixedOrders=true) (hb:mU Γ B F0 V0) {stops:List Nat} {lf n:Nat} {cf cf':Cf} {K K':List Fr} {s:St} (hs:List Bool) {labs:List Nat} {gs:List (Nat × SV)} {tb:List (Nat × SB)} {nx:Nat} {ws:List Nat} {df:List SV} {ps:List Prop} {Q:Exit->Act->World->Prop}
 (h:Ry F0 B labs gs tb nx ws df (cA Γ B F0 N stops lf n cf K (s.hint hs))=some (cf',K',ps)) (hp:∀ q∈ps,q) (hG:G P Γ w0 M B N F0 V0 cf' K' (aN gs tb nx ws df) Q):G P Γ w0 M B N F0 V0 cf K s Q:=by
 unfold Ry at h
 split at h
 case h_2=>cases h
 rename_i r hr
 split at h
 case h_2=>cases h
 rename_i s1 h1
 split at h
 case h_2=>cases h
 rename_i OS h2
 cases h
 have gG:G P Γ w0 M B N F0 V0 cf K (s.hint hs) Q:=by
  refine G.run aM aE iF hr (jO hp) (G.norm hb h1 ?_)
  intro V a w hi
  exact hG V a w (hi.cast hb h2 (gK hp))
 intro V a w hi
 exact gG V a w (hi.hints s.ob hs)
theorem G.round (aM:cG P Γ) (aE:bX P Γ) (iF:P.follows .mixedOrders=true) (hb:mU Γ B F0 V0) {stops:List Nat} {lf n:Nat} {cf:Cf} {K1 K:List Fr} {s:St} (hs:List Bool) {labs:List Nat} {gs:List (Nat × SV)} {tb:List (Nat × SB)} {nx:Nat} {ws:List Nat} {df:List SV} {ps:List Prop} {Q:Exit->Act->World->Prop} {S:Nat->St->Prop} {r:Nat}
 (h:Ry F0 B labs gs tb nx ws df (cA Γ B F0 N stops lf n cf K1 (s.hint hs))=some (.at .normal,[],ps)) (hp:∀ q∈ps,q) (r':Nat) (cK:r'<r) (hS:S r' (aN gs tb nx ws df)) :
 G P Γ w0 M B N F0 V0 cf K1 s (Exit.then (fun a w=>∃ r',r'<r/\∃ s',S r' s'/\∃ V,Inv P Γ w0 M B N F0 V0 s' V a w) (KQ P K Q)):=
 G.to aM aE iF hb hs h hp (G.again fun V _ _ hi=>⟨r',cK,_,hS,V,hi⟩)
noncomputable def rZ (Γ:Env) (T:bA) (lab F:Nat) (fn:Func) (r:Option jA):Option bR:=match r with
 | some r=>match r.cf,r.fr with
   | .at x,[]=>Kv Γ T lab F fn x r.st
   | _,_=>none
 | none=>none
theorem Yp {F lab:Nat} {s:St} {v:SV} {e:bR} (h:finish F lab s v=some e):e.bV=s.ob:=by
 unfold finish at h
 split at h
 .cases h
 .simp only at h
  split at h
  .cases h;rfl
  .cases h
theorem Ux {Γ:Env} {T:bA} {lab F:Nat} {fn:Func} {x:Ex} {s:St} {e:bR} (h:Kv Γ T lab F fn x s=some e):∀ q∈s.ob,q∈e.bV:=by
 have main:(match kI Γ (aC F T) F fn.ntmps s.df s with
  | some s=>match Al Γ s.g.get (s.T (aC F T)) fn.results.toList with
    | some (ob,rs)=>finish F lab (s.NK ob) (res rs)
    | none=>none
  | none=>none)=some e->∀ q∈s.ob,q∈e.bV:=by
  intro h q hq
  split at h
  case h_2=>cases h
  rename_i s2 h2
  split at h
  case h_2=>cases h
  rw [Yp h]
  exact List.mem_append_right _ (vB h2 q hq)
 cases x with
 | exit id=>cases h
 | normal=>exact main h
 | ret=>exact main h
theorem G.fin (aM:cG P Γ) (aE:bX P Γ) (iF:P.follows .mixedOrders=true) {T:bA} {lab:Nat} {fn:Func} {e e':bR} {stops:List Nat} {lf n:Nat} {cf:Cf} {K:List Fr} {s:St} (hs:List Bool) {Q:Exit->Act->World->Prop}
 (H:∀ x s e',Kv Γ T lab F0 fn x s=some e'->(∀ q∈e'.bV,q)->e'.val=e.val->e'.new=e.new->e'.wr=e.wr->G P Γ w0 M (aC F0 T) fn.ntmps F0 V0 (.at x) [] s Q)
 (h:rZ Γ T lab F0 fn (cA Γ (aC F0 T) F0 fn.ntmps stops lf n cf K (s.hint hs))=some e') (hp:∀ q∈e'.bV,q) (h1:e'.val=e.val) (h2:e'.new=e.new) (h3:e'.wr=e.wr) :
 G P Γ w0 M (aC F0 T) fn.ntmps F0 V0 cf K s Q:=by
 unfold rZ at h
 split at h
 case h_2=>cases h
 rename_i r hr
 split at h
 case h_2=>cases h
 rename_i x hx hf
 have gG:G P Γ w0 M (aC F0 T) fn.ntmps F0 V0 cf K (s.hint hs) Q:=by
  refine G.run aM aE iF hr (fun q hq=>hp q (Ux h q hq)) ?_
  rw [hx,hf]
  exact H x r.st e' h hp h1 h2 h3
 intro V a w hi
 exact gG V a w (hi.hints s.ob hs)
end
def ED:SV->Option Nat
 | .aI l _ _ _ _=>some l
 | .buf l=>some l
 | .mS l _ _=>some l
 | .dX l _=>some l
 | .dO l _ _ _=>some l
 | _=>none
def fG (T:bA) (k:IntKind):SV->Option (List Prop × List Int)
 | .raw (.slice none 0 0)=>some ([],[])
 | .aI l _ off len cap=>match T l with
   | some (.ints k2 xs _)=>match qK k k2 with
     | true=>some ([off+len<=xs.length/\len<=cap],(xs.drop off).take len)
     | false=>none
   | some (.oD k2 xs)=>match qK k k2 with
     | true=>some ([off+len<=xs.length/\len<=cap],(xs.drop off).take len)
     | false=>none
   | some (.own cs _)=>match dV k cs with
     | some xs=>some ([off+len<=xs.length/\len<=cap],(xs.drop off).take len)
     | none=>none
   | some (.eY cs)=>match dV k cs with
     | some xs=>some ([off+len<=xs.length/\len<=cap],(xs.drop off).take len)
     | none=>none
   | _=>none
 | .buf l=>match T l with
   | some (.cD k2 xs _)=>match qK k k2 with
     | true=>some ([],xs)
     | false=>none
   | _=>none
 | .mS l lo hi=>match T l with
   | some (.cD k2 xs _)=>match qK k k2 with
     | true=>some ([lo<=hi/\hi<=xs.length],(xs.drop lo).take (hi-lo))
     | false=>none
   | _=>none
 | .dX l _=>match T l with
   | some (.dK k2 xs)=>match qK k k2 with
     | true=>some ([],xs)
     | false=>none
   | _=>none
 | .dO l off len lo=>match T l with
   | some (.row sz cs _)=>match Nat.beq sz 1,dV k cs with
     | true,some xs=>some ([off+len<=xs.length/\lo<=off],(xs.drop off).take len)
     | _,_=>none
   | _=>none
 | _=>none
section
variable {w0 w:World} {M:Nat->Prop} {V:bF} {T:bA}
theorem Mi {k:IntKind} {v:SV} {x:Value} {ob:List Prop} {ys:List Int} (hT:aG w0 M V T w) (hv:den V v=some x) (h:fG T k v=some (ob,ys)) (ho:∀ q∈ob,q) :
 Hl w k x ys/\∀ n,xY x=some n->∃ l B,ED v=some l/\T l=some B/\B.bB V l=some n:=by
 have aI:∀ (l:Nat) (B:SB) (s:Bool) (off len cap:Nat) (xs:List Int),v = .aI l s off len cap->T l=some B->B.cells V=some (xs.map (Value.int k)) ->
  (∀ b o,V.β l=some (b,o)->b<w.heap.size/\B.bB V l=some b/\∀ (j:Nat) (u:Value),(xs.map (Value.int k))[j]?=some u->w.cell? ⟨b,o+j,none⟩=some u) ->
  off+len<=xs.length->len<=cap->ys=(xs.drop off).take len->Hl w k x ys/\∀ n,xY x=some n->∃ l B,ED v=some l/\T l=some B/\B.bB V l=some n:=by
  intro l B s off len cap xs hvv hB hc gA h1 h2 sJ
  subst hvv
  simp only [den,Option.map_eq_some_iff] at hv
  obtain ⟨⟨b,o⟩,hβ,rfl⟩:=hv
  obtain ⟨g1,g2,g3⟩:=gA b o hβ
  have hlen:ys.length=len:=by rw [sJ];simp;omega
  refine ⟨.inr ⟨b,o+off,cap,by rw [hlen],g1,by omega,fun j u hj=>?_⟩,fun n hn=>?_⟩
  .rw [Nat.add_assoc]
   apply g3
   rw [sJ] at hj
   simp only [List.map_take,List.map_drop,List.getElem?_take] at hj
   split at hj
   .rwa [List.getElem?_drop] at hj
   .cases hj
  .cases hY hn
   exact ⟨l,B,rfl,hB,g2⟩
 unfold fG at h
 split at h
 .cases h
  simp only [den,Option.some.injEq] at hv
  subst hv
  exact ⟨.inl ⟨.nil,rfl⟩,fun n hn=>by cases hn⟩
 .rename_i l s off len cap
  split at h
  .rename_i k2 xs ty hB
   split at h
   case h_2=>cases h
   rename_i hk
   have hk:k=k2:=of_decide_eq_true hk
   subst hk
   cases h
   obtain ⟨h1,h2⟩:=ho _ List.mem_cons_self
   obtain ⟨cs,hc,b',iZ,hh⟩:=hT.ok l _ hB
   cases hc
   refine aI l _ s off len cap xs rfl hB rfl (fun b o hβ=>?_) h1 h2 rfl
   rw [hβ] at iZ;cases iZ
   exact ⟨(Array.getElem?_eq_some_iff.1 hh).1,by simp [SB.bB,hβ],fun j u hj=>by rw [cell_of_row w _ (0+j) _ _ _ hh];simpa using hj⟩
  .rename_i k2 xs hB
   split at h
   case h_2=>cases h
   rename_i hk
   have hk:k=k2:=of_decide_eq_true hk
   subst hk
   cases h
   obtain ⟨h1,h2⟩:=ho _ List.mem_cons_self
   obtain ⟨cs,hc,b',o',iZ,cK,hh⟩:=hT.ok l _ hB
   cases hc
   refine aI l _ s off len cap xs rfl hB rfl (fun b o hβ=>?_) h1 h2 rfl
   rw [hβ] at iZ;cases iZ
   exact ⟨cK.lt,by simp [SB.bB,hβ],hh⟩
  .rename_i cells ty hB
   split at h
   case h_2=>cases h
   rename_i xs hk
   cases h
   obtain ⟨h1,h2⟩:=ho _ List.mem_cons_self
   obtain ⟨cs,hc,b',iZ,hh⟩:=hT.ok l _ hB
   have e:some cs=some _:=hc.symm.trans (dQ hk)
   cases e
   refine aI l _ s off len cap xs rfl hB hc (fun b o hβ=>?_) h1 h2 rfl
   rw [hβ] at iZ;cases iZ
   exact ⟨(Array.getElem?_eq_some_iff.1 hh).1,by simp [SB.bB,hβ],fun j u hj=>by rw [cell_of_row w _ (0+j) _ _ _ hh];simpa using hj⟩
  .rename_i cells hB
   split at h
   case h_2=>cases h
   rename_i xs hk
   cases h
   obtain ⟨h1,h2⟩:=ho _ List.mem_cons_self
   obtain ⟨cs,hc,b',o',iZ,cK,hh⟩:=hT.ok l _ hB
   have e:some cs=some _:=hc.symm.trans (dQ hk)
   cases e
   refine aI l _ s off len cap xs rfl hB hc (fun b o hβ=>?_) h1 h2 rfl
   rw [hβ] at iZ;cases iZ
   exact ⟨cK.lt,by simp [SB.bB,hβ],hh⟩
  .cases h
 .rename_i l
  split at h
  case h_2=>cases h
  rename_i k2 xs ty hB
  split at h
  case h_2=>cases h
  rename_i hk
  have hk:k=k2:=of_decide_eq_true hk
  subst hk
  cases h
  obtain ⟨cs,hc,u,hσ,cN⟩:=hT.ok l _ hB
  cases hc
  simp only [den,hσ,Option.some.injEq] at hv
  subst hv
  refine ⟨?_,fun n hn=>⟨l,_,rfl,hB,by simp [SB.bB,hσ,hY hn]⟩⟩
  rcases cN.2 with ⟨rfl,h0⟩ | ⟨gb,cap,cur,rfl,_,hh,hle,_,_,eQ⟩
  .exact .inl ⟨.nil,List.eq_nil_of_length_eq_zero h0⟩
  .refine .inr ⟨gb,0,cap,rfl,(Array.getElem?_eq_some_iff.1 hh).1,hle,fun j u hj=>?_⟩
   rw [cell_of_row w gb _ _ _ _ hh]
   rw [<- eQ,List.getElem?_take] at hj
   split at hj
   .simpa using hj
   .cases hj
 .rename_i l lo hi
  split at h
  case h_2=>cases h
  rename_i k2 xs ty hB
  split at h
  case h_2=>cases h
  rename_i hk
  have hk:k=k2:=of_decide_eq_true hk
  subst hk
  cases h
  obtain ⟨h1,h2⟩:=ho _ List.mem_cons_self
  obtain ⟨cs,hc,u,hσ,cN⟩:=hT.ok l _ hB
  cases hc
  have hlen:((xs.drop lo).take (hi-lo)).length=hi-lo:=by simp;omega
  rcases cN.2 with ⟨rfl,h0⟩ | ⟨gb,cap,cur,rfl,_,hh,hle,_,_,eQ⟩
  .have:xs=[]:=List.eq_nil_of_length_eq_zero h0
   subst this
   have e0:lo=0/\hi=0:=by simp at h2;omega
   obtain ⟨rfl,rfl⟩:=e0
   simp only [den,hσ,Option.some.injEq] at hv
   subst hv
   exact ⟨.inl ⟨⟨none,by simp⟩,by simp⟩,fun n hn=>by cases hY hn⟩
  .simp only [den,hσ,Option.some.injEq] at hv
   by_cases sK:cap=lo
   .rw [if_pos sK] at hv
    subst hv
    refine ⟨.inr ⟨gb,0,cap-lo,by rw [hlen],(Array.getElem?_eq_some_iff.1 hh).1,by omega,fun j u hj=>?_⟩,fun n hn=>⟨l,_,rfl,hB,by simpa [SB.bB,hσ,Value.ownBlock] using hY hn⟩⟩
    have h0:hi-lo=0:=by omega
    rw [h0] at hj
    simp at hj
   .rw [if_neg sK,Option.map_some,bY] at hv
    subst hv
    refine ⟨.inr ⟨gb,0+lo,cap-lo,by rw [hlen],(Array.getElem?_eq_some_iff.1 hh).1,by omega,fun j u hj=>?_⟩,fun n hn=>⟨l,_,rfl,hB,by simpa [SB.bB,hσ,Value.ownBlock] using hY hn⟩⟩
    rw [cell_of_row w gb _ _ _ _ hh]
    have h5:(xs.map (Value.int k))[lo+j]?=some u:=by
     simp only [List.map_take,List.map_drop,List.getElem?_take] at hj
     split at hj
     .rwa [List.getElem?_drop] at hj
     .cases hj
    rw [<- eQ,List.getElem?_take] at h5
    split at h5
    .simpa using h5
    .cases h5
 .rename_i l n0
  split at h
  case h_2=>cases h
  rename_i k2 xs hB
  split at h
  case h_2=>cases h
  rename_i hk
  have hk:k=k2:=of_decide_eq_true hk
  subst hk
  cases h
  obtain ⟨cs,hc,u,hσ,cN⟩:=hT.ok l _ hB
  cases hc
  simp only [den,Option.bind_eq_some_iff] at hv
  obtain ⟨u',mN,hv⟩:=hv
  rw [hσ] at mN
  cases mN
  obtain ⟨rfl,_⟩:=rI hv
  refine ⟨?_,fun n hn=>⟨l,_,rfl,hB,by simp [SB.bB,hσ,hn]⟩⟩
  exact cN
 .rename_i l off len lo
  split at h
  case h_2=>cases h
  rename_i sz cells ty hB
  split at h
  case h_2=>cases h
  rename_i xs kD hk
  cases h
  have kD:=Nat.eq_of_beq_eq_true kD
  subst kD
  obtain ⟨h1,h2⟩:=ho _ List.mem_cons_self
  obtain ⟨cs,hc,b,cap,cur,hβ,hσ,hh,hle,nK,⟨n,hn,ZF⟩,eQ⟩:=hT.ok l _ hB
  have e:some cs=some _:=hc.symm.trans (dQ hk)
  cases e
  simp only [den,hβ,hσ,qM,Option.bind_some,Option.map_some,Option.some.injEq] at hv
  subst hv
  have hlen:((xs.drop off).take len).length=len:=by simp;omega
  simp only [List.length_map,Nat.mul_one] at hn
  refine ⟨.inr ⟨b,0+off,cap-lo,by simp only [Int.toNat_natCast,hlen],(Array.getElem?_eq_some_iff.1 hh).1,by omega,fun j u hj=>?_⟩,fun n hn=>⟨l,_,rfl,hB,by simpa [SB.bB,hβ,Value.ownBlock] using hY hn⟩⟩
  rw [cell_of_row w b _ _ _ _ hh]
  have h5:(xs.map (Value.int k))[off+j]?=some u:=by
   simp only [List.map_take,List.map_drop,List.getElem?_take] at hj
   split at hj
   .rwa [List.getElem?_drop] at hj
   .cases hj
  rw [<- eQ,List.getElem?_take] at h5
  split at h5
  .simpa using h5
  .cases h5
 .cases h
theorem Hl.dX {k:IntKind} {x:Value} {ys:List Int} (h:Hl w k x ys):yR ys.length x=some x:=by
 rcases h with ⟨⟨a,rfl⟩,rfl⟩ | ⟨b,o,c,rfl,_,hc,_⟩
 .cases a <;> simp [yR]
 .unfold yR;exact if_pos ⟨rfl,hc,.inr rfl⟩
mutual
def lK (vw:Vw) (T0:List (Nat × SB)) (T:bA):SV->SV->Option (List Prop)
 | .ptr l s o,.ptr l0 s' o'=>match vw l0 with
   | some (.lab l' off)=>match Nat.beq l l' with
     | true=>some (rV s s' o (off+o'))
     | false=>none
   | _=>none
 | .aI l s o n c,.aI l0 s' o' n' c'=>match vw l0 with
   | some (.lab l' off)=>match Nat.beq l l' with
     | true=>some (rV s s' o (off+o')++(rV s s' n n'++rV s s' c c'))
     | false=>none
   | _=>none
 | .buf l,.buf l0=>match vw l0 with
   | some (.lab l' 0)=>match Nat.beq l l' with
     | true=>some []
     | false=>none
   | _=>none
 | .dO l o n lo,.dO l0 o' n' lo'=>match vw l0 with
   | some (.lab l' 0)=>match Nat.beq l l'&&(Nat.beq o o'&&Nat.beq lo lo') with
     | true=>some (rV false false n n')
     | false=>none
   | _=>none
 | v,.dX l0 n0=>match vw l0,look l0 T0 with
   | some (.val u),some (.dK k _)=>match iD u v,fG T k v with
     | some p,some (ob,xs)=>some (p++(ob++[n0=xs.length]))
     | _,_=>none
   | _,_=>none
 | .jS t v,.jS t' v'=>match Nat.beq t t' with
   | true=>lK vw T0 T v v'
   | false=>none
 | .agg vs,.agg us=>Au vs us (sQ vw T0 T vs us)
 | .eD vs,.eD us=>sQ vw T0 T vs us
 | .fn (.func f) xs ys,.fn (.func g) us vs=>match Nat.beq f g with
   | true=>match sQ vw T0 T xs us,sQ vw T0 T ys vs with
     | some a,some b=>some (a++b)
     | _,_=>none
   | false=>none
 | v,u=>match fO v&&fO u with
   | true=>iD v u
   | false=>none
def sQ (vw:Vw) (T0:List (Nat × SB)) (T:bA):List SV->List SV->Option (List Prop)
 | [],[]=>some []
 | v::r,u::t=>match lK vw T0 T v u,sQ vw T0 T r t with
   | some a,some b=>some (a++b)
   | _,_=>none
 | _,_=>none
end
mutual
theorem Uo {vw:Vw} {T0:List (Nat × SB)} (hT:aG w0 M V T w):∀ {u v:SV} {ps:List Prop},lK vw T0 T v u=some ps->(∀ q∈ps,q)->∀ x,den V v=some x->den (seen vw V) u=some x
 | .ptr l0 s' o',v,ps,h,hp,x,hx=>by
   cases v <;> simp only [lK,fO,Bool.and_false] at h <;> first | (cases h;done) | skip
   split at h
   .rename_i l' off hl
    split at h
    .rename_i hb
     have hb:=Nat.eq_of_beq_eq_true hb
     subst hb
     cases h
     have e:=jI hp
     subst e
     simp only [den,Option.map_eq_some_iff] at hx |-
     obtain ⟨p,hp,rfl⟩:=hx
     exact ⟨(p.1,p.2+off),by rw [(lM hl).1,hp];rfl,by simp only [Nat.add_assoc]⟩
    .cases h
   .cases h
 | .aI l0 s' o' n' c',v,ps,h,hp,x,hx=>by
   cases v <;> simp only [lK,fO,Bool.and_false] at h <;> first | (cases h;done) | skip
   split at h
   .rename_i l' off hl
    split at h
    .rename_i hb
     have hb:=Nat.eq_of_beq_eq_true hb
     subst hb
     cases h
     have e1:=jI (jO hp)
     have e2:=jI (jO (gK hp))
     have e3:=jI (gK (gK hp))
     subst e1 e2 e3
     simp only [den,Option.map_eq_some_iff] at hx |-
     obtain ⟨p,hp,rfl⟩:=hx
     exact ⟨(p.1,p.2+off),by rw [(lM hl).1,hp];rfl,by simp only [Nat.add_assoc]⟩
    .cases h
   .cases h
 | .buf l0,v,ps,h,hp,x,hx=>by
   cases v <;> simp only [lK,fO,Bool.and_false] at h <;> first | (cases h;done) | skip
   split at h
   .rename_i l' hl
    split at h
    .rename_i hb
     have hb:=Nat.eq_of_beq_eq_true hb
     subst hb
     simp only [den] at hx |-
     rw [(lM hl).2,hx]
    .cases h
   .cases h
 | .dO l0 o' n' lo',v,ps,h,hp,x,hx=>by
   cases v <;> simp only [lK,fO,Bool.and_false] at h <;> first | (cases h;done) | skip
   split at h
   .rename_i l' hl
    split at h
    .rename_i hb
     simp only [Bool.and_eq_true] at hb
     obtain ⟨b1,b2,b3⟩:=hb
     have b1:=Nat.eq_of_beq_eq_true b1
     have b2:=Nat.eq_of_beq_eq_true b2
     have b3:=Nat.eq_of_beq_eq_true b3
     subst b1 b2 b3
     cases h
     have e:=jI hp
     subst e
     simp only [den,Option.map_eq_some_iff,Option.bind_eq_some_iff] at hx |-
     obtain ⟨p,hp,c,hc,rfl⟩:=hx
     refine ⟨p,by rw [(lM hl).1,hp];rfl,c,by rw [(lM hl).2];exact hc,rfl⟩
    .cases h
   .cases h
 | .dX l0 n0,v,ps,h,hp,x,hx=>by
   have key:(match vw l0,look l0 T0 with
    | some (.val u),some (.dK k _)=>match iD u v,fG T k v with
      | some p,some (ob,xs)=>some (p++(ob++[n0=xs.length]))
      | _,_=>none
    | _,_=>none)=some ps:=by cases v <;> simpa only [lK] using h
   split at key
   case h_2=>cases key
   rename_i u k ys hvw hl0
   split at key
   case h_2=>cases key
   rename_i p ob xs h1 h2
   cases key
   have hd:den V v=den V u:=kB h1 (jO hp)
   obtain ⟨hr,_⟩:=Mi hT hx h2 (jO (gK hp))
   have hn:n0=xs.length:=(gK (gK hp)) _ List.mem_cons_self
   simp only [den,Option.bind_eq_some_iff]
   exact ⟨x,by rw [Mj hvw,<- hd,hx],by rw [hn];exact hr.dX⟩
 | .jS t' v',v,ps,h,hp,x,hx=>by
   cases v <;> simp only [lK,fO,Bool.and_false] at h <;> first | (cases h;done) | skip
   split at h
   .rename_i hb
    have hb:=Nat.eq_of_beq_eq_true hb
    subst hb
    simp only [den,Option.map_eq_some_iff] at hx |-
    obtain ⟨y,hy,rfl⟩:=hx
    exact ⟨y,Uo hT h hp y hy,rfl⟩
   .cases h
 | .agg us,v,ps,h,hp,x,hx=>by
   have pure:(fO v&&fO (.agg us))=true->iD v (.agg us)=some ps->den (seen vw V) (.agg us)=some x:=by
    intro Dl hr
    simp only [Bool.and_eq_true] at Dl
    rw [nC (V:=seen vw V) (V':=V) Dl.2,kB hr hp,hx]
   cases v with
   | agg vs=>
     simp only [lK] at h
     simp only [den,Option.map_eq_some_iff] at hx |-
     obtain ⟨y,hy,rfl⟩:=hx
     rcases uG h hp with e | e
     .exact ⟨y,(e V (seen vw V)).trans hy,rfl⟩
     .exact ⟨y,pH hT e hp y hy,rfl⟩
   | _=>
     simp only [lK] at h
     split at h
     .rename_i Dl;exact pure Dl h
     .cases h
 | .eD us,v,ps,h,hp,x,hx=>by
   have pure:(fO v&&fO (.eD us))=true->iD v (.eD us)=some ps->den (seen vw V) (.eD us)=some x:=by
    intro Dl hr
    simp only [Bool.and_eq_true] at Dl
    rw [nC (V:=seen vw V) (V':=V) Dl.2,kB hr hp,hx]
   cases v with
   | eD vs=>
     simp only [lK] at h
     simp only [den,Option.map_eq_some_iff] at hx |-
     obtain ⟨y,hy,rfl⟩:=hx
     exact ⟨y,pH hT h hp y hy,rfl⟩
   | _=>
     simp only [lK] at h
     split at h
     .rename_i Dl;exact pure Dl h
     .cases h
 | .fn g us vs,v,ps,h,hp,x,hx=>by
   cases v with
   | fn f xs ys=>
     cases f with
     | func f=>
       cases g with
       | func g=>
         simp only [lK] at h
         split at h
         .rename_i hf
          have hf:=Nat.eq_of_beq_eq_true hf
          subst hf
          split at h
          .rename_i a b ha hb
           cases h
           simp only [den,Option.bind_eq_some_iff,Option.map_eq_some_iff] at hx |-
           obtain ⟨y,hy,z,hz,rfl⟩:=hx
           exact ⟨y,pH hT ha (jO hp) y hy,z,pH hT hb (gK hp) z hz,rfl⟩
          .cases h
         .cases h
       | _=>simp [lK,fO] at h
     | _=>simp [lK,fO] at h
   | _=>cases g <;> simp [lK,fO] at h
 | .int s k n,v,ps,h,hp,x,hx=>by
   have h2:(match fO v&&fO (.int s k n) with
    | true=>iD v (.int s k n)
    | false=>none)=some ps:=by cases v <;> simpa only [lK] using h
   split at h2
   .rename_i Dl
    simp only [Bool.and_eq_true] at Dl
    rw [nC (V:=seen vw V) (V':=V) Dl.2,kB h2 hp,hx]
   .cases h2
 | .bool s b,v,ps,h,hp,x,hx=>by
   have h2:(match fO v&&fO (.bool s b) with
    | true=>iD v (.bool s b)
    | false=>none)=some ps:=by cases v <;> simpa only [lK] using h
   split at h2
   .rename_i Dl
    simp only [Bool.and_eq_true] at Dl
    rw [nC (V:=seen vw V) (V':=V) Dl.2,kB h2 hp,hx]
   .cases h2
 | .raw y,v,ps,h,hp,x,hx=>by
   have h2:(match fO v&&fO (.raw y) with
    | true=>iD v (.raw y)
    | false=>none)=some ps:=by cases v <;> simpa only [lK] using h
   split at h2
   .rename_i Dl
    simp only [Bool.and_eq_true] at Dl
    rw [nC (V:=seen vw V) (V':=V) Dl.2,kB h2 hp,hx]
   .cases h2
 | .ai k ys,v,ps,h,hp,x,hx=>by
   have h2:(match fO v&&fO (.ai k ys) with
    | true=>iD v (.ai k ys)
    | false=>none)=some ps:=by cases v <;> simpa only [lK] using h
   split at h2
   .rename_i Dl
    simp only [Bool.and_eq_true] at Dl
    rw [nC (V:=seen vw V) (V':=V) Dl.2,kB h2 hp,hx]
   .cases h2
 | .mT ..,v,ps,h,hp,x,hx=>by cases v <;> simp [lK,fO] at h
 | .rT ..,v,ps,h,hp,x,hx=>by cases v <;> simp [lK,fO] at h
 | .mS ..,v,ps,h,hp,x,hx=>by cases v <;> simp [lK,fO] at h
theorem pH {vw:Vw} {T0:List (Nat × SB)} (hT:aG w0 M V T w):∀ {us vs:List SV} {ps:List Prop},sQ vw T0 T vs us=some ps->(∀ q∈ps,q)->∀ xs,aJ V vs=some xs->aJ (seen vw V) us=some xs
 | [],vs,ps,h,hp,xs,hx=>by
   cases vs with
   | nil=>exact hx
   | cons=>simp [sQ] at h
 | u::t,vs,ps,h,hp,xs,hx=>by
   cases vs with
   | nil=>simp [sQ] at h
   | cons v r=>
     simp only [sQ] at h
     split at h
     .rename_i a b ha hb
      cases h
      simp only [aJ,Option.bind_eq_some_iff,Option.map_eq_some_iff] at hx |-
      obtain ⟨y,hy,ys,sJ,rfl⟩:=hx
      exact ⟨y,Uo hT ha (jO hp) y hy,ys,pH hT hb (gK hp) ys sJ,rfl⟩
     .cases h
end
def fP (vw:Vw) (T0:List (Nat × SB)) (T:bA):SB->SB->Option (List Prop)
 | _,.gone=>some []
 | .own cs t,.own ds t'=>match Nat.beq t t' with
   | true=>Au cs ds (sQ vw T0 T cs ds)
   | false=>none
 | .own cs t,.ints k xs t'=>match dV k cs with
   | some ns=>some [ns=xs/\t=t']
   | none=>none
 | .ints k xs t,.ints k' ys t'=>match qK k k' with
   | true=>some [xs=ys/\t=t']
   | false=>none
 | .ints k xs t,.own ds t'=>match dV k ds with
   | some ns=>some [xs=ns/\t=t']
   | none=>none
 | .own cs _,.eY ds=>Au cs ds (sQ vw T0 T cs ds)
 | .ints k xs _,.eY ds=>(dV k ds).map fun ns=>[xs=ns]
 | .own cs _,.oD k xs=>(dV k cs).map fun ns=>[ns=xs]
 | .ints k xs _,.oD k' ys=>match qK k k' with
   | true=>some [xs=ys]
   | false=>none
 | .row sz cs t,.row AD ds t'=>match Nat.beq sz AD&&Nat.beq t t' with
   | true=>Au cs ds (sQ vw T0 T cs ds)
   | false=>none
 | .eY cs,.eY ds=>Au cs ds (sQ vw T0 T cs ds)
 | .eY cs,.oD k xs=>(dV k cs).map fun ns=>[ns=xs]
 | .oD k xs,.oD k' ys=>match qK k k' with
   | true=>some [xs=ys]
   | false=>none
 | .bO sz n t,.bO AD n' t'=>match Nat.beq sz AD&&Nat.beq t t' with
   | true=>some (rV false false n n')
   | false=>none
 | .cD k xs t,.cD k' ys t'=>match Nat.beq t t'&&qK k k' with
   | true=>some [xs=ys]
   | false=>none
 | .fV vs t,.fV us t'=>match Nat.beq t t' with
   | true=>some [vs=us]
   | false=>none
 | _,_=>none
theorem JJ {vw:Vw} {T0:List (Nat × SB)} (hT:aG w0 M V T w) {l l0:Nat} {B C:SB} {ps:List Prop} (hl:vw l0=some (.lab l 0)) (hB:T l=some B) (h:fP vw T0 T B C=some ps) (hp:∀ q∈ps,q) :
 okB (seen vw V) w l0 C/\(∀ n,C.bB (seen vw V) l0=some n->B.bB V l=some n)/\(C.owned=true->B.owned=true):=by
 have eβ:(seen vw V).β l0=V.β l:=by rw [(lM hl).1];simp
 have eσ:(seen vw V).σ l0=V.σ l:=(lM hl).2
 obtain ⟨cs,hc,h2⟩:=hT.ok l B hB
 have QB:∀ {xs ds:List SV},Au xs ds (sQ vw T0 T xs ds)=some ps->aJ V xs=some cs->aJ (seen vw V) ds=some cs:=by
  intro xs ds h hx
  rcases uG h hp with e | e
  .exact (e V (seen vw V)).trans hx
  .exact pH hT e hp _ hx
 cases C with
 | gone=>exact ⟨⟨[],rfl,trivial⟩,(fun n hn=>by cases hn),fun h=>by cases h⟩
 | own ds t'=>
   cases B with
   | own es t=>
     simp only [fP] at h
     split at h
     case h_2=>cases h
     rename_i ht
     have ht:=Nat.eq_of_beq_eq_true ht
     subst ht
     obtain ⟨b,hb,hh⟩:=h2
     exact ⟨⟨cs,QB h hc,b,eβ.trans hb,hh⟩,fun n hn=>by simpa [SB.bB,eβ] using hn,fun _=>rfl⟩
   | ints k xs t=>
     simp only [fP] at h
     split at h
     case h_2=>cases h
     rename_i hk
     cases h
     obtain ⟨e,ht⟩:=hp _ List.mem_cons_self
     subst e ht
     cases hc
     obtain ⟨b,hb,hh⟩:=h2
     exact ⟨⟨_,dQ hk,b,eβ.trans hb,hh⟩,fun n hn=>by simpa [SB.bB,eβ] using hn,fun _=>rfl⟩
   | _=>simp [fP] at h
 | ints k xs t'=>
   cases B with
   | own es t=>
     simp only [fP] at h
     split at h
     case h_2=>cases h
     rename_i hk
     cases h
     obtain ⟨e,ht⟩:=hp _ List.mem_cons_self
     subst e ht
     have e2:some cs=some _:=hc.symm.trans (dQ hk)
     cases e2
     obtain ⟨b,hb,hh⟩:=h2
     exact ⟨⟨_,rfl,b,eβ.trans hb,hh⟩,fun n hn=>by simpa [SB.bB,eβ] using hn,fun _=>rfl⟩
   | ints k2 ys t=>
     simp only [fP] at h
     split at h
     case h_2=>cases h
     rename_i ht
     cases h
     obtain ⟨e,h3⟩:=hp _ List.mem_cons_self
     have h4:_=_:=of_decide_eq_true ht
     subst e h3 h4
     obtain ⟨b,hb,hh⟩:=h2
     exact ⟨⟨cs,hc,b,eβ.trans hb,hh⟩,fun n hn=>by simpa [SB.bB,eβ] using hn,fun _=>rfl⟩
   | _=>simp [fP] at h
 | eY ds=>
   cases B with
   | own es t=>
     simp only [fP] at h
     obtain ⟨b,hb,hh⟩:=h2
     exact ⟨⟨cs,QB h hc,b,0,eβ.trans hb,.of hh,fun j u hj=>by rw [cell_of_row w _ (0+j) _ _ _ hh];simpa using hj⟩,fun n hn=>by simpa [SB.bB,eβ] using hn,fun h=>by cases h⟩
   | ints k2 ys t=>
     simp only [fP,Option.map_eq_some_iff] at h
     obtain ⟨ns,hk,rfl⟩:=h
     have e:=hp _ List.mem_cons_self
     subst e
     cases hc
     obtain ⟨b,hb,hh⟩:=h2
     exact ⟨⟨_,dQ hk,b,0,eβ.trans hb,.of hh,fun j u hj=>by rw [cell_of_row w _ (0+j) _ _ _ hh];simpa using hj⟩,fun n hn=>by simpa [SB.bB,eβ] using hn,fun h=>by cases h⟩
   | eY es=>
     simp only [fP] at h
     obtain ⟨b,o,hb,hh⟩:=h2
     exact ⟨⟨cs,QB h hc,b,o,eβ.trans hb,hh⟩,fun n hn=>by simpa [SB.bB,eβ] using hn,fun h=>by cases h⟩
   | _=>simp [fP] at h
 | oD k xs=>
   cases B with
   | own es t=>
     simp only [fP,Option.map_eq_some_iff] at h
     obtain ⟨ns,hk,rfl⟩:=h
     have e:=hp _ List.mem_cons_self
     subst e
     have e2:some cs=some _:=hc.symm.trans (dQ hk)
     cases e2
     obtain ⟨b,hb,hh⟩:=h2
     exact ⟨⟨_,rfl,b,0,eβ.trans hb,.of hh,fun j u hj=>by rw [cell_of_row w _ (0+j) _ _ _ hh];simpa using hj⟩,fun n hn=>by simpa [SB.bB,eβ] using hn,fun h=>by cases h⟩
   | ints k2 ys t=>
     simp only [fP] at h
     split at h
     case h_2=>cases h
     rename_i ht
     cases h
     have e:=hp _ List.mem_cons_self
     have h4:_=_:=of_decide_eq_true ht
     subst e h4
     cases hc
     obtain ⟨b,hb,hh⟩:=h2
     exact ⟨⟨_,rfl,b,0,eβ.trans hb,.of hh,fun j u hj=>by rw [cell_of_row w _ (0+j) _ _ _ hh];simpa using hj⟩,fun n hn=>by simpa [SB.bB,eβ] using hn,fun h=>by cases h⟩
   | eY es=>
     simp only [fP,Option.map_eq_some_iff] at h
     obtain ⟨ns,hk,rfl⟩:=h
     have e:=hp _ List.mem_cons_self
     subst e
     have e2:some cs=some _:=hc.symm.trans (dQ hk)
     cases e2
     obtain ⟨b,o,hb,hh⟩:=h2
     exact ⟨⟨_,rfl,b,o,eβ.trans hb,hh⟩,fun n hn=>by simpa [SB.bB,eβ] using hn,fun h=>by cases h⟩
   | oD k2 ys=>
     simp only [fP] at h
     split at h
     case h_2=>cases h
     rename_i ht
     cases h
     have e:=hp _ List.mem_cons_self
     have h4:_=_:=of_decide_eq_true ht
     subst e h4
     obtain ⟨b,o,hb,hh⟩:=h2
     exact ⟨⟨cs,hc,b,o,eβ.trans hb,hh⟩,fun n hn=>by simpa [SB.bB,eβ] using hn,fun h=>by cases h⟩
   | _=>simp [fP] at h
 | bO z m t'=>
   cases B with
   | bO z2 m2 t=>
     simp only [fP] at h
     split at h
     case h_2=>cases h
     rename_i ht
     simp only [Bool.and_eq_true] at ht
     cases h
     have h3:=Nat.eq_of_beq_eq_true ht.1
     have h4:=Nat.eq_of_beq_eq_true ht.2
     have e:=jI hp
     subst h3 h4 e
     obtain ⟨v,us,hv,hh⟩:=h2
     exact ⟨⟨cs,hc,v,us,eσ.trans hv,hh⟩,fun n hn=>by simpa [SB.bB,eσ] using hn,fun _=>rfl⟩
   | _=>simp [fP] at h
 | cD k xs t'=>
   cases B with
   | cD k2 ys t=>
     simp only [fP] at h
     split at h
     case h_2=>cases h
     rename_i ht
     simp only [Bool.and_eq_true] at ht
     cases h
     have e:=hp _ List.mem_cons_self
     have h3:=Nat.eq_of_beq_eq_true ht.1
     have h4:_=_:=of_decide_eq_true ht.2
     subst e h3 h4
     obtain ⟨v,hv,hh⟩:=h2
     exact ⟨⟨cs,hc,v,eσ.trans hv,hh⟩,fun n hn=>by simpa [SB.bB,eσ] using hn,fun _=>rfl⟩
   | _=>simp [fP] at h
 | fV us t'=>
   cases B with
   | fV vs t=>
     simp only [fP] at h
     split at h
     case h_2=>cases h
     rename_i ht
     cases h
     have e:=hp _ List.mem_cons_self
     have h3:=Nat.eq_of_beq_eq_true ht
     subst e h3
     obtain ⟨b,hb,hh⟩:=h2
     exact ⟨⟨cs,hc,b,eβ.trans hb,hh⟩,fun n hn=>by simpa [SB.bB,eβ] using hn,fun _=>rfl⟩
   | _=>simp [fP] at h
 | row z ds t'=>
   cases B with
   | row z2 es t=>
     simp only [fP] at h
     split at h
     case h_2=>cases h
     rename_i ht
     simp only [Bool.and_eq_true] at ht
     have h3:=Nat.eq_of_beq_eq_true ht.1
     have h4:=Nat.eq_of_beq_eq_true ht.2
     subst h3 h4
     obtain ⟨b,cap,cur,hb,hσ,hh⟩:=h2
     exact ⟨⟨cs,QB h hc,b,cap,cur,eβ.trans hb,eσ.trans hσ,hh⟩,fun n hn=>by simpa [SB.bB,eβ] using hn,fun _=>rfl⟩
   | _=>simp [fP] at h
 | dK k xs=>cases B <;> simp [fP] at h
def QR (vw:Vw) (T0:List (Nat × SB)) (T:bA) (l0:Nat) (B0:SB):Option (List Prop):=match B0 with
 | .dK k ys=>match vw l0 with
   | some (.val u)=>match fG T k u with
     | some (ob,xs)=>some ((xs=ys)::ob)
     | none=>none
   | _=>none
 | B0=>match vw l0 with
   | some (.lab l 0)=>match T l with
     | some B=>fP vw T0 T B B0
     | none=>none
   | _=>none
def mZ (vw:Vw) (l0:Nat):Option Nat:=match vw l0 with
 | some (.lab l _)=>some l
 | some (.val u)=>ED u
 | none=>none
theorem XA {vw:Vw} {T0:List (Nat × SB)} (hT:aG w0 M V T w) {l0:Nat} {C:SB} {ps:List Prop} (h:QR vw T0 T l0 C=some ps) (hp:∀ q∈ps,q) (hv:∀ u,vw l0=some (.val u)->∃ x,den V u=some x) :
 okB (seen vw V) w l0 C/\(∀ n,C.bB (seen vw V) l0=some n->∃ l B,mZ vw l0=some l/\T l=some B/\B.bB V l=some n)/\(C.owned=true->∃ l B,vw l0=some (.lab l 0)/\T l=some B/\B.owned=true):=by
 have rest:(match vw l0 with
  | some (.lab l 0)=>match T l with
    | some B=>fP vw T0 T B C
    | none=>none
  | _=>none)=some ps->okB (seen vw V) w l0 C/\(∀ n,C.bB (seen vw V) l0=some n->∃ l B,mZ vw l0=some l/\T l=some B/\B.bB V l=some n)/\(C.owned=true->∃ l B,vw l0=some (.lab l 0)/\T l=some B/\B.owned=true):=by
  intro h
  split at h
  case h_2=>cases h
  rename_i l hl
  split at h
  case h_2=>cases h
  rename_i B hB
  obtain ⟨r1,r2,r3⟩:=JJ hT hl hB h hp
  exact ⟨r1,fun n hn=>⟨l,B,by simp [mZ,hl],hB,r2 n hn⟩,fun ho=>⟨l,B,hl,hB,r3 ho⟩⟩
 cases C with
 | dK k ys=>
   simp only [QR] at h
   split at h
   case h_2=>cases h
   rename_i u hu
   split at h
   case h_2=>cases h
   rename_i ob xs hs
   cases h
   have e:xs=ys:=hp _ List.mem_cons_self
   subst e
   obtain ⟨x,hx⟩:=hv u hu
   obtain ⟨h1,h2⟩:=Mi hT hx hs (fun q hq=>hp q (List.mem_cons_of_mem _ hq))
   have hσ:(seen vw V).σ l0=some x:=(Mj hu).trans hx
   refine ⟨⟨_,rfl,x,hσ,h1⟩,fun n hn=>?_,fun h=>by cases h⟩
   simp only [SB.bB,hσ,Option.bind_some] at hn
   obtain ⟨l,B,g1,g2,g3⟩:=h2 n hn
   exact ⟨l,B,by simp [mZ,hu,g1],g2,g3⟩
 | own=>exact rest h
 | ints=>exact rest h
 | eY=>exact rest h
 | oD=>exact rest h
 | cD=>exact rest h
 | bO=>exact rest h
 | row=>exact rest h
 | fV=>exact rest h
 | gone=>exact rest h
def QQ (vw:Vw) (T0:List (Nat × SB)) (T:bA):List (Nat × SB)->Option (List Prop)
 | []=>some []
 | (l0,B0)::r=>match QR vw T0 T l0 B0,QQ vw T0 T r with
   | some a,some b=>some (a++b)
   | _,_=>none
theorem Up {vw:Vw} {T0:List (Nat × SB)}:∀ {r:List (Nat × SB)} {ps:List Prop},QQ vw T0 T r=some ps->(∀ q∈ps,q)->∀ l0 B0,look l0 r=some B0->∃ OS,QR vw T0 T l0 B0=some OS/\∀ q∈OS,q
 | [],_,_,_,l0,B0,hl=>by cases hl
 | (k,C)::r,ps,h,hp,l0,B0,hl=>by
   simp only [QQ] at h
   split at h
   case h_2=>cases h
   rename_i a b ha hb
   cases h
   by_cases e:k=l0
   .subst e;rw [aL] at hl;cases hl;exact ⟨a,ha,jO hp⟩
   .rw [aF e] at hl;exact Up hb (gK hp) l0 B0 hl
def aCb:Option Nat->Option Nat->Bool
 | some a,some b=>Nat.beq a b
 | _,_=>false
def aJu (vw:Vw) (T0:List (Nat × SB)):Bool:=T0.all fun p=>match p.2.owned with
 | false=>true
 | true=>T0.all fun q=>Nat.beq p.1 q.1 || !aCb (mZ vw p.1) (mZ vw q.1)
inductive Wu where
 | lab (l off:Nat)
 | arg (i:Nat)
 | sub (i j:Nat)
 | cell (l i:Nat)
def Sj (vs:List SV) (T:bA):Wu->Option Src
 | .cell l i=>match T l with
   | some (.own cs _)=>(cs[i]?).map .val
   | some (.eY cs)=>(cs[i]?).map .val
   | _=>none
 | .lab l off=>some (.lab l off)
 | .arg i=>(vs[i]?).map .val
 | .sub i j=>match vs[i]? with
   | some (.agg us)=>(us[j]?).map .val
   | _=>none
def Kk (vs:List SV) (T:bA):List (Nat × Wu)->Option (List (Nat × Src))
 | []=>some []
 | (l0,q)::r=>match Sj vs T q,Kk vs T r with
   | some s,some t=>some ((l0,s)::t)
   | _,_=>none
theorem Me (hT:aG w0 M V T w) {vs:List SV} {xs:List Value} (hx:aJ V vs=some xs):∀ {vl:List (Nat × Wu)} {sl:List (Nat × Src)},Kk vs T vl=some sl->∀ l0 u,look l0 sl=some (.val u)->∃ x,den V u=some x
 | [],sl,h,l0,u,hl=>by simp only [Kk,Option.some.injEq] at h;subst h;cases hl
 | (k,q)::r,sl,h,l0,u,hl=>by
   simp only [Kk] at h
   split at h
   case h_2=>cases h
   rename_i s t hs ht
   cases h
   by_cases e:k=l0
   .subst e
    rw [aL] at hl
    cases hl
    cases q with
    | lab l off=>cases hs
    | cell l i=>
      simp only [Sj] at hs
      split at hs
      .rename_i cs ty hB
       simp only [Option.map_eq_some_iff] at hs
       obtain ⟨v,hv,e⟩:=hs
       cases e
       obtain ⟨ys,hy,_⟩:=hT.ok l _ hB
       obtain ⟨x,_,h3⟩:=eF hy i u hv
       exact ⟨x,h3⟩
      .rename_i cs hB
       simp only [Option.map_eq_some_iff] at hs
       obtain ⟨v,hv,e⟩:=hs
       cases e
       obtain ⟨ys,hy,_⟩:=hT.ok l _ hB
       obtain ⟨x,_,h3⟩:=eF hy i u hv
       exact ⟨x,h3⟩
      .cases hs
    | arg i=>
      simp only [Sj,Option.map_eq_some_iff] at hs
      obtain ⟨v,hv,e⟩:=hs
      cases e
      obtain ⟨x,_,h2⟩:=eF hx i u hv
      exact ⟨x,h2⟩
    | sub i j=>
      simp only [Sj] at hs
      split at hs
      case h_2=>cases hs
      rename_i us hv
      simp only [Option.map_eq_some_iff] at hs
      obtain ⟨v,hv2,e⟩:=hs
      cases e
      obtain ⟨x,_,h2⟩:=eF hx i _ hv
      simp only [den,Option.map_eq_some_iff] at h2
      obtain ⟨ys,hy,_⟩:=h2
      obtain ⟨x,_,h3⟩:=eF hy j u hv2
      exact ⟨x,h3⟩
   .rw [aF e] at hl
    exact Me hT hx ht l0 u hl
structure Canon where
 eR:List SV
 T0:List (Nat × SB)
 vl:List (Nat × Wu)
 e0:bR
 conds:List Prop:=[]
def qG (gl:List (Nat × Nat)) (sl:List (Nat × Src)):Vw:=fun l0=>match look l0 sl with
 | some q=>some q
 | none=>match gl.any fun p=>Nat.beq p.2 l0 with
   | true=>some (.lab l0 0)
   | false=>none
def Uz (gl:List (Nat × Nat)) (F0:Nat) (c:Canon) (vw:Vw):Bool:=
 aJu vw c.T0&&(c.vl.all (fun p=>Nat.blt p.1 F0 && !gl.any fun q=>Nat.beq q.2 p.1)&&(gl.all (fun q=>Nat.blt q.2 F0) &&
  (c.T0.all (fun p=>match p.2.owned with
   | false=>true
   | true=>Nat.blt p.1 F0&&aAe (look p.1 c.e0.wr))&&(Nat.ble c.e0.new.length 8&&c.e0.wr.all fun p=>Nat.blt p.1 F0))))
def aK (gl:List (Nat × Nat)) (F0:Nat) (dec:List SV->bA->Option Canon):Sum:=fun vs T lab _=>
 match dec vs T with
 | none=>none
 | some c=>match Kk vs T c.vl with
   | none=>none
   | some sl=>match sQ (qG gl sl) c.T0 T vs c.eR,QQ (qG gl sl) c.T0 T c.T0,FM (wI (qG gl sl) F0 lab) c.e0,Uz gl F0 c (qG gl sl) with
     | some p,some q,some e,true=>some { bV:=c.conds++(p++q),val:=e.val,new:=e.new,wr:=e.wr }
     | _,_,_,_=>none
theorem vF {α:Type} {f:Nat × α->Bool} {l:Nat} {v:α} {r:List (Nat × α)} (h:r.all f=true) (hl:look l r=some v):f (l,v)=true:=List.all_eq_true.1 h _ (gQ hl)
theorem Ci {vs:List SV} {T:bA}:∀ {vl:List (Nat × Wu)} {sl:List (Nat × Src)},Kk vs T vl=some sl->∀ l0 s,look l0 sl=some s->∃ q,(l0,q)∈vl
 | [],sl,h,l0,s,hl=>by simp only [Kk,Option.some.injEq] at h;subst h;cases hl
 | (k,q)::r,sl,h,l0,s,hl=>by
   simp only [Kk] at h
   split at h
   case h_2=>cases h
   rename_i s' t hs ht
   cases h
   by_cases e:k=l0
   .subst e;exact ⟨q,List.mem_cons_self⟩
   .rw [aF e] at hl
    obtain ⟨q,hq⟩:=Ci ht l0 s hl
    exact ⟨q,List.mem_cons_of_mem _ hq⟩
theorem UJ {a b:Option Nat} {n:Nat} (h:aCb a b=false) (ha:a=some n):b≠some n:=by
 subst ha
 intro hb
 subst hb
 simp [aCb] at h
theorem aT {P:Program} {Γ:Env} {f:FuncId} {gl:List (Nat × Nat)} {F0:Nat} {dec:List SV->bA->Option Canon} (AO:Γ.aU=gl)
 (h:∀ vs T c,dec vs T=some c->(∀ q∈c.conds,q)->aD P Γ f c.eR (fun l=>look l c.T0) F0 F0 c.e0):aH P Γ f (aK gl F0 dec):=by
 refine aH.Mq fun vs T lab F e he ho=>?_
 unfold aK at he
 split at he
 case h_1=>cases he
 rename_i c hc
 split at he
 case h_1=>cases he
 rename_i sl Dk
 split at he
 case h_2=>cases he
 rename_i p q e1 hp hq hb oF
 cases he
 have Dn:=jO ho
 have hpp:=jO (gK ho)
 have hqq:=gK (gK ho)
 unfold Uz at oF
 simp only [Bool.and_eq_true] at oF
 obtain ⟨k1,k2,k3,k4,k5,k6⟩:=oF
 have jU:∀ l0 s,qG gl sl l0=some s->l0<F0:=by
  intro l0 s hs
  unfold qG at hs
  split at hs
  .rename_i q0 hl0
   obtain ⟨q1,hm⟩:=Ci Dk l0 _ hl0
   have:=List.all_eq_true.1 k2 _ hm
   simp only [Bool.and_eq_true] at this
   simpa [Nat.blt_eq] using this.1
  .split at hs
   .rename_i Pj
    simp only [List.any_eq_true] at Pj
    obtain ⟨p,hm,he⟩:=Pj
    have:=List.all_eq_true.1 k3 p hm
    have he:=Nat.eq_of_beq_eq_true he
    rw [<- he]
    simpa [Nat.blt_eq] using this
   .cases hs
 have key:aD P Γ f vs T lab F e1:=by
  refine MU (vw:=qG gl sl) (h vs T c hc Dn) (fun l0 hl=>?_) (fun n l hl=>?_) (fun w0 M V w xs hT hx=>?_) (fun l0 B0 hl ho=>?_) (Nat.le_of_ble_eq_true k5) (fun l0 B0 hl=>?_) hb
  .cases hv:qG gl sl l0 with
   | none=>rfl
   | some s=>have:=jU l0 s hv;omega
  .rw [AO] at hl
   have hm:=gQ hl
   unfold qG
   split
   .rename_i q0 hl0
    obtain ⟨q1,hm1⟩:=Ci Dk l _ hl0
    have:=List.all_eq_true.1 k2 _ hm1
    simp only [Bool.and_eq_true,Bool.not_eq_true'] at this
    have h2:=this.2
    exfalso
    have:(gl.any fun q=>Nat.beq q.2 l)=true:=List.any_eq_true.2 ⟨_,hm,Nat.beq_refl l⟩
    rw [h2] at this
    cases this
   .have:(gl.any fun p=>Nat.beq p.2 l)=true:=List.any_eq_true.2 ⟨_,hm,Nat.beq_refl l⟩
    rw [this]
  .have Pf:∀ l0 u,qG gl sl l0=some (.val u)->∃ x,den V u=some x:=by
    intro l0 u hu
    unfold qG at hu
    split at hu
    .rename_i q0 hl0;cases hu;exact Me hT hx Dk l0 u hl0
    .split at hu
     .cases hu
     .cases hu
   have AV:∀ l0 B0,look l0 c.T0=some B0->okB (seen (qG gl sl) V) w l0 B0/\(∀ n,B0.bB (seen (qG gl sl) V) l0=some n->∃ l B,mZ (qG gl sl) l0=some l/\T l=some B/\B.bB V l=some n)/\(B0.owned=true->∃ l B,qG gl sl l0=some (.lab l 0)/\T l=some B/\B.owned=true):=by
    intro l0 B0 hl
    obtain ⟨OS,h1,h2⟩:=Up hq hqq l0 B0 hl
    exact XA hT h1 h2 (Pf l0)
   refine ⟨fun ys hy=>pH hT hp hpp ys hy,fun l0 B0 hl=>(AV l0 B0 hl).1,fun l0 B0 l1 B1 n dP hl NV ho hn Kc=>?_,fun l0 B0 n hl ho hn=>?_⟩
   .obtain ⟨la,Ba,a1,a2,a3⟩:=(AV l0 B0 hl).2.1 n hn
    obtain ⟨lb,Bb,b1,b2,b3⟩:=(AV l1 B1 NV).2.1 n Kc
    obtain ⟨lc,Bc,c1,c2,c3⟩:=(AV l0 B0 hl).2.2 ho
    have e:la=lc:=by
     have:mZ (qG gl sl) l0=some lc:=by simp [mZ,c1]
     rw [a1] at this
     exact Option.some.inj this
    subst e
    rw [a2] at c2
    cases c2
    have hd:=vF k1 hl
    simp only [ho] at hd
    have NY:=vF hd NV
    simp only [Bool.or_eq_true,Bool.not_eq_true'] at NY
    rcases NY with NY | NY
    .exact dP (Nat.eq_of_beq_eq_true NY)
    .have aXz:la≠lb:=fun e=>UJ NY a1 (by rw [b1,e])
     exact hT.kF la Ba lb Bb n aXz a2 b2 c3 a3 b3
   .obtain ⟨la,Ba,a1,a2,a3⟩:=(AV l0 B0 hl).2.1 n hn
    obtain ⟨lc,Bc,c1,c2,c3⟩:=(AV l0 B0 hl).2.2 ho
    have e:la=lc:=by
     have:mZ (qG gl sl) l0=some lc:=by simp [mZ,c1]
     rw [a1] at this
     exact Option.some.inj this
    subst e
    rw [a2] at c2
    cases c2
    exact ⟨la,Ba,c1,a2,c3,a3⟩
  .have:=vF k4 hl
   simp only [ho,Bool.and_eq_true] at this
   refine ⟨by simpa [Nat.blt_eq] using this.1,fun hn=>?_⟩
   rw [hn] at this
   cases this.2
  .have:=vF k6 hl
   simpa [Nat.blt_eq] using this
 exact key
end
noncomputable def Wc (t:Nat) (k:IntKind) (ty:TypeId) (s:St):Option St:=match s.g.get t with
 | some (.raw (.slice none 0 0))=>match Tr.put (.buf s.nx) 64 s.g t,Tr.put (SB.cD k [] ty) 64 s.tb s.nx with
   | some g,some tb=>some { s with g:=g,tb:=tb,nx:=s.nx+1 }
   | _,_=>none
 | _=>none
noncomputable def oN:List (Nat × IntKind × TypeId)->St->Option St
 | [],s=>some s
 | (t,k,ty)::r,s=>match Wc t k ty s with
   | some s=>oN r s
   | none=>none
section
variable {P:Program} {Γ:Env} {w0:World} {M:Nat->Prop} {B:bA} {N F0:Nat} {V0:bF}
theorem Inv.Wc {t:Nat} {k:IntKind} {ty:TypeId} {s s':St} (h:Wc t k ty s=some s') {V:bF} {a:Act} {w:World} (hi:Inv P Γ w0 M B N F0 V0 s V a w):∃ V',Inv P Γ w0 M B N F0 V0 s' V' a w:=by
 unfold Sx.Wc at h
 split at h
 case h_2=>cases h
 rename_i hg
 split at h
 case h_2=>cases h
 rename_i g tb h1 h2
 cases h
 have hf:V.fresh s.nx:=hi.top.fresh
 have bW:=bF.dU hf s.nx (Nat.le_refl _) (by omega) (.slice none 0 0)
 have hT:St.T B { s with g:=g,tb:=tb,nx:=s.nx+1 }=fun l=>if l=s.nx then some (.cD k [] ty) else s.T B l:=by
  funext l
  simp only [St.T,Tr.gX _ _ _ _ _ h2 l]
  by_cases e:l=s.nx
  .simp [e]
  .simp [e]
 refine ⟨V.bL s.nx (.slice none 0 0),fun m v hv=>?_,fun d v hv=>?_,hi.size,?_,?_,fun n l hl=>bW.1.1 _ _ (hi.aU n l hl),fun l hl=>?_,V0.le_trans hi.le bW.1,fun l hl=>?_,fun l hl hn=>?_,?_,fun l hl=>?_⟩
 .have hv:g.get m=some v:=hv
  rw [Tr.gX _ _ _ _ _ h1 m] at hv
  split at hv
  .rename_i e
   cases hv
   have:=hi.tmp t _ hg
   simp only [den,Option.some.injEq] at this
   rw [e,<- this]
   simp [den,bF.bL]
  .exact kO bW.1 (hi.tmp m v hv)
 .have hv:g.get d=some v:=hv
  rw [Tr.gX _ _ _ _ _ h1 d] at hv
  split at hv
  .rename_i e;subst e;exact hi.keys d _ hg
  .exact hi.keys d v hv
 .obtain ⟨xs,h3,h4⟩:=hi.defers
  exact ⟨xs,dI bW.1 h3,h4⟩
 .rw [hT]
  refine hi.fM.step (N:=fun l=>if l=s.nx then some (.cD k [] ty) else none) bW.1 (fun l C hl=>?_) (fun l C hl=>?_) (fun l C n hl hn=>?_) (fun l C l' C' n _ hl _ _ hn=>?_) (Nat.le_refl _) (fun _ _ _=>rfl) rfl rfl rfl
  .by_cases e:l=s.nx
   .left;simpa [e] using hl
   .right;simpa [e] using hl
  .by_cases e:l=s.nx
   .simp only [if_pos e,Option.some.injEq] at hl
    subst hl e
    exact ⟨[],rfl,.slice none 0 0,by simp [bF.bL],rfl,.inl ⟨rfl,rfl⟩⟩
   .simp [e] at hl
  .by_cases e:l=s.nx
   .simp only [if_pos e,Option.some.injEq] at hl
    subst hl e
    simp [SB.bB,bF.bL,Value.ownBlock] at hn
   .simp [e] at hl
  .by_cases e:l=s.nx
   .simp only [if_pos e,Option.some.injEq] at hl
    subst hl e
    simp [SB.bB,bF.bL,Value.ownBlock] at hn
   .simp [e] at hl
 .have hl:s.nx+1<=l:=hl
  obtain ⟨e1,e2⟩:=hi.top l (by omega)
  exact ⟨e1,by simp only [bF.bL];rw [if_neg (by omega)];exact e2⟩
 .have dP:l≠s.nx:=by have:=hi.nx;omega
  refine ⟨(hi.low l hl).1,?_⟩
  simp only [bF.bL,if_neg dP]
  exact (hi.low l hl).2
 .have dP:l≠s.nx:=by have:=hi.nx;omega
  show tb.get l=none
  rw [Tr.gX _ _ _ _ _ h2 l,if_neg dP]
  exact hi.ch l hl hn
 .have:=hi.nx
  show F0<=s.nx+1
  omega
 .have hl:s.nx+1<=l:=hl
  rw [hT]
  simp only
  rw [if_neg (by omega)]
  exact hi.hi l (by omega)
theorem Inv.oN:∀ {l:List (Nat × IntKind × TypeId)} {s s':St},oN l s=some s'->∀ {V:bF} {a:Act} {w:World},Inv P Γ w0 M B N F0 V0 s V a w->∃ V',Inv P Γ w0 M B N F0 V0 s' V' a w
 | [],s,s',h,V,a,w,hi=>by simp only [Sx.oN,Option.some.injEq] at h;subst h;exact ⟨V,hi⟩
 | (t,k,ty)::r,s,s',h,V,a,w,hi=>by
   simp only [Sx.oN] at h
   split at h
   .rename_i s1 h1
    obtain ⟨V1,tO⟩:=hi.Wc h1
    exact Inv.oN h tO
   .cases h
noncomputable def Ol (F0:Nat) (B:bA) (nils:List (Nat × IntKind × TypeId)) (labs:List Nat) (gs:List (Nat × SV)) (tb:List (Nat × SB)) (nx:Nat) (ws:List Nat) (df:List SV) (r:Option jA):Option (Cf × List Fr × List Prop):=match r with
 | some r=>match oN nils r.st with
   | some s=>Ry F0 B labs gs tb nx ws df (some ⟨r.cf,r.fr,s⟩)
   | none=>none
 | none=>none
theorem Ch:∀ {l:List (Nat × IntKind × TypeId)} {s s':St},oN l s=some s'->s'.ob=s.ob
 | [],s,s',h=>by simp only [oN,Option.some.injEq] at h;subst h;rfl
 | (t,k,ty)::r,s,s',h=>by
   simp only [oN] at h
   split at h
   .rename_i s1 h1
    rw [Ch h]
    unfold Wc at h1
    split at h1
    .split at h1
     .cases h1;rfl
     .cases h1
    .cases h1
   .cases h
theorem G.Ol (aM:cG P Γ) (aE:bX P Γ) (iF:P.follows .mixedOrders=true) (hb:mU Γ B F0 V0) {stops:List Nat} {lf n:Nat} {cf cf':Cf} {K K':List Fr} {s:St} (hs:List Bool) {nils:List (Nat × IntKind × TypeId)} {labs:List Nat} {gs:List (Nat × SV)} {tb:List (Nat × SB)} {nx:Nat} {ws:List Nat} {df:List SV} {ps:List Prop} {Q:Exit->Act->World->Prop}
 (h:Ol F0 B nils labs gs tb nx ws df (cA Γ B F0 N stops lf n cf K (s.hint hs))=some (cf',K',ps)) (hp:∀ q∈ps,q) (hG:G P Γ w0 M B N F0 V0 cf' K' (aN gs tb nx ws df) Q):G P Γ w0 M B N F0 V0 cf K s Q:=by
 unfold Sx.Ol at h
 split at h
 case h_2=>cases h
 rename_i r hr
 split at h
 case h_2=>cases h
 rename_i s0 h0
 unfold Ry at h
 simp only at h
 split at h
 case h_2=>cases h
 rename_i s1 h1
 split at h
 case h_2=>cases h
 rename_i OS h2
 cases h
 have tN:=Ch h0
 have gG:G P Γ w0 M B N F0 V0 cf K (s.hint hs) Q:=by
  refine G.run aM aE iF hr (fun q hq=>hp q (List.mem_append_left _ (tN ▸ hq))) ?_
  intro V a w hi
  obtain ⟨V1,tO⟩:=Inv.oN h0 hi
  obtain ⟨V2,PD⟩:=tO.norm hb h1
  exact hG V2 a w (PD.cast hb h2 (gK hp))
 intro V a w hi
 exact gG V a w (hi.hints s.ob hs)
mutual
def DI:SV->SV->List (Nat × Nat)
 | .ptr l _ _,.ptr l' _ _=>[(l',l)]
 | .aI l _ _ _ _,.aI l' _ _ _ _=>[(l',l)]
 | .dO l _ _ _,.dO l' _ _ _=>[(l',l)]
 | .buf l,.buf l'=>[(l',l)]
 | .mT l _,.mT l' _=>[(l',l)]
 | .mS l _ _,.mS l' _ _=>[(l',l)]
 | .dX l _,.dX l' _=>[(l',l)]
 | .jS _ v,.jS _ v'=>DI v v'
 | .agg vs,.agg us=>xZ vs us
 | .eD vs,.eD us=>xZ vs us
 | .fn _ xs ys,.fn _ us vs=>xZ xs us++xZ ys vs
 | _,_=>[]
def xZ:List SV->List SV->List (Nat × Nat)
 | v::r,u::t=>DI v u++xZ r t
 | _,_=>[]
end
def DJ (g:Nat->Option SV):List (Nat × SV)->List (Nat × Nat)
 | []=>[]
 | (t,u)::r=>match g t with
   | some v=>DI v u++DJ g r
   | none=>DJ g r
def Ew (g:Nat->Option SB) (ps:List (Nat × Nat)):List (Nat × SB)->List (Nat × Nat)
 | []=>[]
 | (l,B)::r=>match B,look l ps with
   | .own us _,some k=>match g k with
     | some (.own vs _)=>xZ vs us++Ew g ps r
     | _=>Ew g ps r
   | .own us _,none=>match g l with
     | some (.own vs _)=>xZ vs us++Ew g ps r
     | _=>Ew g ps r
   | _,_=>Ew g ps r
def Bu (g:Nat->Option SB) (ps:List (Nat × Nat)):List (Nat × SB)->List (Nat × Nat)
 | []=>[]
 | (l,B)::r=>match B,look l ps with
   | .own us _,some k=>match g k with
     | some (.own vs _)=>xZ vs us++Bu g ps r
     | _=>Bu g ps r
   | _,_=>Bu g ps r
def GY (ps:List (Nat × Nat)) (l:Nat):Nat->List Nat
 | 0=>[]
 | n+1=>(look l ps).getD 0::GY ps (l+1) n
noncomputable def aPw (F0:Nat) (gs:List (Nat × SV)) (tb:List (Nat × SB)) (nx:Nat) (s:St):List Nat:=
 let p1:=DJ s.g.get gs
 let p2:=p1++Bu s.tb.get p1 tb
 let p3:=p2++Bu s.tb.get p2 tb
 let p4:=p3++Ew s.tb.get p3 tb
 GY p4 F0 (nx-F0)
noncomputable def gD (F0:Nat) (B:bA) (nils:List (Nat × IntKind × TypeId)) (gs:List (Nat × SV)) (tb:List (Nat × SB)) (nx:Nat) (ws:List Nat) (df:List SV) (r:Option jA):Option (Cf × List Fr × List Prop):=match r with
 | some r=>match oN nils r.st with
   | some s=>Ol F0 B nils (aPw F0 gs tb nx s) gs tb nx ws df (some r)
   | none=>none
 | none=>none
theorem G.gD (aM:cG P Γ) (aE:bX P Γ) (iF:P.follows .mixedOrders=true) (hb:mU Γ B F0 V0) {stops:List Nat} {lf n:Nat} {cf cf':Cf} {K K':List Fr} {s:St} (hs:List Bool) {nils:List (Nat × IntKind × TypeId)} {gs:List (Nat × SV)} {tb:List (Nat × SB)} {nx:Nat} {ws:List Nat} {df:List SV} {ps:List Prop} {Q:Exit->Act->World->Prop}
 (h:gD F0 B nils gs tb nx ws df (cA Γ B F0 N stops lf n cf K (s.hint hs))=some (cf',K',ps)) (hp:∀ q∈ps,q) (hG:G P Γ w0 M B N F0 V0 cf' K' (aN gs tb nx ws df) Q):G P Γ w0 M B N F0 V0 cf K s Q:=by
 unfold Sx.gD at h
 split at h
 case h_2=>cases h
 rename_i r hr
 split at h
 case h_2=>cases h
 rename_i s0 h0
 exact G.Ol aM aE iF hb hs (stops:=stops) (lf:=lf) (n:=n) (by rw [hr];exact h) hp hG
theorem G.eK (aM:cG P Γ) (aE:bX P Γ) (iF:P.follows .mixedOrders=true) (hb:mU Γ B F0 V0) {stops:List Nat} {lf n:Nat} {cf:Cf} {K1 K:List Fr} {s:St} (hs:List Bool) {nils:List (Nat × IntKind × TypeId)} {gs:List (Nat × SV)} {tb:List (Nat × SB)} {nx:Nat} {ws:List Nat} {df:List SV} {ps:List Prop} {Q:Exit->Act->World->Prop} {S:Nat->St->Prop} {r:Nat}
 (h:Sx.gD F0 B nils gs tb nx ws df (cA Γ B F0 N stops lf n cf K1 (s.hint hs))=some (.at .normal,[],ps)) (hp:∀ q∈ps,q) (r':Nat) (cK:r'<r) (hS:S r' (aN gs tb nx ws df)) :
 G P Γ w0 M B N F0 V0 cf K1 s (Exit.then (fun a w=>∃ r',r'<r/\∃ s',S r' s'/\∃ V,Inv P Γ w0 M B N F0 V0 s' V a w) (KQ P K Q)):=
 G.gD aM aE iF hb hs h hp (G.again fun V _ _ hi=>⟨r',cK,_,hS,V,hi⟩)
end
theorem TP {α:Type} (tm:Array α) (t:Nat) (d:α):tm.setIfInBounds t (tm.getD t d)=tm:=by
 apply Array.ext
 .simp
 .intro i h1 h2
  rw [Array.getElem_setIfInBounds (by simpa using h1)]
  split
  .rename_i e;subst e;simp [Array.getD_eq_getD_getElem?,h2]
  .rfl
theorem Act.oR (a:Act) (t:Tmp):a.put (some t) (a.eval (.tmp t))=a:=by
 obtain ⟨tm,df⟩:=a
 show Act.mk (tm.setIfInBounds t (tm.getD t undef)) df=_
 rw [TP]
section
variable {w0 w:World} {M:Nat->Prop} {V:bF} {T:bA} {lab:Nat}
theorem aG.close (h:aG w0 M V T w) (hf:V.fresh lab) (kE:∀ k,lab<=k->T k=none) {l cap n m:Nat} {cells:List SV} {el:TypeId} (hl:T l=some (.own cells el)) (hc:cells.length=cap) (hm:m<=cap) (sP:cap<=1000000) {lb:Nat} {cs:List SV} {ty:TypeId} {i:Nat}
 (hb:T lb=some (.own cs ty)) (hi:cs[i]?=some (.aI l true 0 n cap)) (dP:l≠lb) (v:SV) :
 ∃ V',V.ext lab V'/\aG w0 M V' (fL T lab { val:=v,new:=[.row 1 (cells.take m) el],wr:=[(l,.gone),(lb,.own (cs.set i (.dO lab 0 n 0)) ty)] }) w:=by
 obtain ⟨us,Gm,b,hβ,hh⟩:=h.ok l _ hl
 obtain ⟨xs,qC,b2,kV,PE⟩:=h.ok lb _ hb
 have cK:l<lab:=Nat.lt_of_not_le fun q=>by rw [kE l q] at hl;cases hl
 have QK:lb<lab:=Nat.lt_of_not_le fun q=>by rw [kE lb q] at hb;cases hb
 have bW:V.ext lab ((V.put lab (b,0)).bL lab (.int .i64 (cap:Nat))):=by
  have h1:=bF.lO hf lab (Nat.le_refl _) (by omega) (b,0)
  refine ⟨⟨fun k p hp=>h1.1.1 k p hp,fun k p hp=>?_⟩,fun k hk=>⟨(h1.2 k hk).1,?_⟩⟩
  .simp only [bF.bL]
   by_cases e:k=lab
   .subst e;rw [(hf k (Nat.le_refl _) (by omega)).2] at hp;cases hp
   .rw [if_neg e];exact hp
  .simp only [bF.bL]
   rw [if_neg (by omega)]
   rfl
 refine ⟨_,bW,?_⟩
 obtain ⟨V',Og⟩:∃ V',V'=(V.put lab (b,0)).bL lab (.int .i64 (cap:Nat)):=⟨_,rfl⟩
 rw [<- Og] at bW |-
 have e1:V'.β lab=some (b,0):=by rw [Og];simp [bF.put,bF.bL]
 have e2:V'.σ lab=some (.int .i64 (cap:Nat)):=by rw [Og];simp [bF.bL]
 have yA:us.length=cap:=by rw [bN Gm,hc]
 have pT:b≠b2:=by
  intro e
  exact h.kF l _ lb _ b dP hl hb rfl (by simp [SB.bB,hβ]) (by simp [SB.bB,kV,e])
 have qJ:aJ V' (cs.set i (.dO lab 0 n 0))=some xs:=by
  have gL:aJ V' cs=some xs:=dI bW.1 qC
  obtain ⟨x,oV,Ju⟩:=eF gL i _ hi
  have hx4:den V' (.dO lab 0 n 0)=some x:=by
   simp only [den,bW.1.1 _ _ hβ,Option.map_some,Option.some.injEq] at Ju
   rw [<- Ju]
   simp [den,e1,e2,qM]
  have gen:∀ (cs:List SV) (xs:List Value) (i:Nat),aJ V' cs=some xs->xs[i]?=some x->aJ V' (cs.set i (.dO lab 0 n 0))=some xs:=by
   intro cs
   induction cs with
   | nil=>intro xs i h1 h2;simpa using h1
   | cons c r ih=>
     intro xs i h1 h2
     simp only [aJ,Option.map_eq_some_iff,Option.bind_eq_some_iff] at h1
     obtain ⟨y,hy,ys,sJ,rfl⟩:=h1
     cases i with
     | zero=>
       simp only [List.getElem?_cons_zero,Option.some.injEq] at h2
       subst h2
       simp only [List.set_cons_zero,aJ,hx4,sJ,Option.bind_some,Option.map_some]
     | succ i=>
       simp only [List.getElem?_cons_succ] at h2
       simp only [List.set_cons_succ,aJ,hy,ih ys i sJ h2,Option.bind_some,Option.map_some]
  exact gen cs xs i gL oV
 refine h.step (N:=fun k=>if k=lab then some (.row 1 (cells.take m) el) else if k=l then some .gone else if k=lb then some (.own (cs.set i (.dO lab 0 n 0)) ty) else none) bW.1 (fun k C hk=>?_) (fun k C hk=>?_) (fun k C p hk hp=>?_) (fun k C k' C' p Ks hk jK ho hp=>?_) (Nat.le_refl _) (fun _ _ _=>rfl) rfl rfl rfl
 .simp only [fL,bR.fM,iE,List.cons_append,List.nil_append] at hk
  by_cases k1:l=k
  .subst k1
   rw [aL] at hk
   left
   simp only [if_neg (show ¬ l=lab by omega),if_true]
   simpa using hk
  .rw [aF k1] at hk
   by_cases k2:lb=k
   .subst k2
    rw [aL] at hk
    left
    simp only [if_neg (show ¬ lb=lab by omega),if_neg (fun q=>dP (Eq.symm q)),if_true]
    simpa using hk
   .rw [aF k2] at hk
    by_cases k3:lab=k
    .subst k3;rw [aL] at hk;left;simpa using hk
    .rw [aF k3] at hk
     right
     simp only [look] at hk
     exact ⟨by rw [if_neg (fun q=>k3 q.symm),if_neg (fun q=>k1 q.symm),if_neg (fun q=>k2 q.symm)],hk⟩
 .by_cases k1:k=lab
  .rw [if_pos k1] at hk
   cases hk
   subst k1
   refine ⟨us.take m,by simp only [SB.cells];exact dI bW.1 (eB m Gm),b,cap,us.toArray,e1,e2,hh,?_,by simp [yA],⟨m,by simp [yA];omega,hm⟩,by simp⟩
   have:(1000000:Nat)<=maxLen:=by decide
   omega
  .rw [if_neg k1] at hk
   by_cases k2:k=l
   .rw [if_pos k2] at hk;cases hk;exact ⟨[],rfl,trivial⟩
   .rw [if_neg k2] at hk
    by_cases k3:k=lb
    .rw [if_pos k3] at hk
     cases hk
     subst k3
     exact ⟨xs,qJ,b2,bW.1.1 _ _ kV,PE⟩
    .rw [if_neg k3] at hk;cases hk
 .by_cases k1:k=lab
  .rw [if_pos k1] at hk
   cases hk
   subst k1
   simp only [SB.bB,e1,Option.map_some,Option.some.injEq] at hp
   subst hp
   right;left
   exact ⟨l,_,hl,rfl,by simp [SB.bB,hβ],by simp [if_neg (show ¬ l=k by omega)]⟩
  .rw [if_neg k1] at hk
   by_cases k2:k=l
   .rw [if_pos k2] at hk;cases hk;cases hp
   .rw [if_neg k2] at hk
    by_cases k3:k=lb
    .rw [if_pos k3] at hk
     cases hk
     subst k3
     simp only [SB.bB,bW.1.1 _ _ kV,Option.map_some,Option.some.injEq] at hp
     subst hp
     right;left
     exact ⟨k,_,hb,rfl,by simp [SB.bB,kV],by simp [if_neg k1,if_neg k2]⟩
    .rw [if_neg k3] at hk;cases hk
 .have bB:∀ k C p,(if k=lab then some (SB.row 1 (cells.take m) el) else if k=l then some .gone else if k=lb then some (.own (cs.set i (.dO lab 0 n 0)) ty) else none)=some C->C.bB V' k=some p->(k=lab/\p=b)\/(k=lb/\p=b2):=by
   intro k C p hk hp
   by_cases k1:k=lab
   .rw [if_pos k1] at hk
    cases hk
    subst k1
    simp only [SB.bB,e1,Option.map_some,Option.some.injEq] at hp
    exact .inl ⟨rfl,hp.symm⟩
   .rw [if_neg k1] at hk
    by_cases k2:k=l
    .rw [if_pos k2] at hk;cases hk;cases hp
    .rw [if_neg k2] at hk
     by_cases k3:k=lb
     .rw [if_pos k3] at hk
      cases hk
      subst k3
      simp only [SB.bB,bW.1.1 _ _ kV,Option.map_some,Option.some.injEq] at hp
      exact .inr ⟨rfl,hp.symm⟩
     .rw [if_neg k3] at hk;cases hk
  intro Vm
  rcases bB k C p hk hp with ⟨r1,r2⟩ | ⟨r1,r2⟩ <;> rcases bB k' C' p jK Vm with ⟨r3,r4⟩ | ⟨r3,r4⟩
  .omega
  .exact pT (r2.symm.trans r4)
  .exact pT (r4.symm.trans r2)
  .omega
theorem aG.aJw (h:aG w0 M V T w) (hf:V.fresh lab) (kE:∀ k,lab<=k->T k=none) {l cap n m:Nat} {cells:List SV} {el:TypeId} (hl:T l=some (.own cells el)) (hc:cells.length=cap) (hm:m<=cap) (sP:cap<=1000000) {x:Value} (hx:den V (.aI l true 0 n cap)=some x) :
 ∃ V',V.ext lab V'/\den V' (.dO lab 0 n 0)=some x/\aG w0 M V' (fL T lab { val:=.dO lab 0 n 0,new:=[.row 1 (cells.take m) el],wr:=[(l,.gone)] }) w:=by
 obtain ⟨us,Gm,b,hβ,hh⟩:=h.ok l _ hl
 have cK:l<lab:=Nat.lt_of_not_le fun q=>by rw [kE l q] at hl;cases hl
 have bW:V.ext lab ((V.put lab (b,0)).bL lab (.int .i64 (cap:Nat))):=by
  have h1:=bF.lO hf lab (Nat.le_refl _) (by omega) (b,0)
  refine ⟨⟨fun k p hp=>h1.1.1 k p hp,fun k p hp=>?_⟩,fun k hk=>⟨(h1.2 k hk).1,?_⟩⟩
  .simp only [bF.bL]
   by_cases e:k=lab
   .subst e;rw [(hf k (Nat.le_refl _) (by omega)).2] at hp;cases hp
   .rw [if_neg e];exact hp
  .simp only [bF.bL]
   rw [if_neg (by omega)]
   rfl
 refine ⟨_,bW,?_⟩
 obtain ⟨V',Og⟩:∃ V',V'=(V.put lab (b,0)).bL lab (.int .i64 (cap:Nat)):=⟨_,rfl⟩
 rw [<- Og] at bW |-
 have e1:V'.β lab=some (b,0):=by rw [Og];simp [bF.put,bF.bL]
 have e2:V'.σ lab=some (.int .i64 (cap:Nat)):=by rw [Og];simp [bF.bL]
 have yA:us.length=cap:=by rw [bN Gm,hc]
 refine ⟨?_,?_⟩
 .simp only [den,hβ,Option.map_some,Option.some.injEq] at hx
  rw [<- hx]
  simp [den,e1,e2,qM]
 refine h.step (N:=fun k=>if k=lab then some (.row 1 (cells.take m) el) else if k=l then some .gone else none) bW.1 (fun k C hk=>?_) (fun k C hk=>?_) (fun k C p hk hp=>?_) (fun k C k' C' p Ks hk jK ho hp=>?_) (Nat.le_refl _) (fun _ _ _=>rfl) rfl rfl rfl
 .simp only [fL,bR.fM,iE,List.cons_append,List.nil_append] at hk
  by_cases k1:l=k
  .subst k1
   rw [aL] at hk
   left
   simp only [if_neg (show ¬ l=lab by omega),if_true]
   simpa using hk
  .rw [aF k1] at hk
   by_cases k3:lab=k
   .subst k3;rw [aL] at hk;left;simpa using hk
   .rw [aF k3] at hk
    right
    simp only [look] at hk
    exact ⟨by rw [if_neg (fun q=>k3 q.symm),if_neg (fun q=>k1 q.symm)],hk⟩
 .by_cases k1:k=lab
  .rw [if_pos k1] at hk
   cases hk
   subst k1
   refine ⟨us.take m,by simp only [SB.cells];exact dI bW.1 (eB m Gm),b,cap,us.toArray,e1,e2,hh,?_,by simp [yA],⟨m,by simp [yA];omega,hm⟩,by simp⟩
   have:(1000000:Nat)<=maxLen:=by decide
   omega
  .rw [if_neg k1] at hk
   by_cases k2:k=l
   .rw [if_pos k2] at hk;cases hk;exact ⟨[],rfl,trivial⟩
   .rw [if_neg k2] at hk;cases hk
 .by_cases k1:k=lab
  .rw [if_pos k1] at hk
   cases hk
   subst k1
   simp only [SB.bB,e1,Option.map_some,Option.some.injEq] at hp
   subst hp
   right;left
   exact ⟨l,_,hl,rfl,by simp [SB.bB,hβ],by simp [if_neg (show ¬ l=k by omega)]⟩
  .rw [if_neg k1] at hk
   by_cases k2:k=l
   .rw [if_pos k2] at hk;cases hk;cases hp
   .rw [if_neg k2] at hk;cases hk
 .intro Vm
  by_cases k1:k=lab
  .by_cases k2:k'=lab
   .omega
   .rw [if_neg k2] at jK
    by_cases k3:k'=l
    .rw [if_pos k3] at jK;cases jK;cases Vm
    .rw [if_neg k3] at jK;cases jK
  .rw [if_neg k1] at hk
   by_cases k3:k=l
   .rw [if_pos k3] at hk;cases hk;cases ho
   .rw [if_neg k3] at hk;cases hk
theorem aG.aJx (h:aG w0 M V T w) (hf:V.fresh lab) (kE:∀ k,lab<=k->T k=none) {l cap n:Nat} {cells:List SV} {el:TypeId} {k0:IntKind} {ns:List Int} (hl:T l=some (.own cells el)) (hc:cells.length=cap) (hn:n<=cap) (sP:cap<=1000000) (hk:dV k0 (cells.take n)=some ns) {x:Value} (hx:den V (.aI l true 0 n cap)=some x) :
 ∃ V',V.ext lab V'/\den V' (.buf lab)=some x/\aG w0 M V' (fL T lab { val:=.buf lab,new:=[.cD k0 ns el],wr:=[(l,.gone)] }) w:=by
 obtain ⟨us,Gm,b,hβ,hh⟩:=h.ok l _ hl
 have cK:l<lab:=Nat.lt_of_not_le fun q=>by rw [kE l q] at hl;cases hl
 have bW:=bF.dU hf lab (Nat.le_refl _) (by omega) x
 have e2:(V.bL lab x).σ lab=some x:=by simp [bF.bL]
 have yA:us.length=cap:=by rw [bN Gm,hc]
 have hx':x = .slice (some ⟨b,0,none⟩) n cap:=by
  simp only [den,hβ,Option.map_some,Option.some.injEq] at hx
  exact hx.symm
 have eQ:us.take n=ns.map (Value.int k0):=by
  have h1:=eB n Gm
  have h2:=dQ (V:=V) hk
  rw [h1] at h2
  exact Option.some.inj h2
 have EI:ns.length=n:=by
  have:=congrArg List.length eQ
  simp [yA] at this
  omega
 refine ⟨_,bW,by simp [den,e2],?_⟩
 refine h.step (N:=fun k=>if k=lab then some (.cD k0 ns el) else if k=l then some .gone else none) bW.1 (fun k C hk=>?_) (fun k C hk=>?_) (fun k C p hk hp=>?_) (fun k C k' C' p Ks hk jK ho hp=>?_) (Nat.le_refl _) (fun _ _ _=>rfl) rfl rfl rfl
 .simp only [fL,bR.fM,iE,List.cons_append,List.nil_append] at hk
  by_cases k1:l=k
  .subst k1
   rw [aL] at hk
   left
   simp only [if_neg (show ¬ l=lab by omega),if_true]
   simpa using hk
  .rw [aF k1] at hk
   by_cases k3:lab=k
   .subst k3;rw [aL] at hk;left;simpa using hk
   .rw [aF k3] at hk
    right
    simp only [look] at hk
    exact ⟨by rw [if_neg (fun q=>k3 q.symm),if_neg (fun q=>k1 q.symm)],hk⟩
 .by_cases k1:k=lab
  .rw [if_pos k1] at hk
   cases hk
   subst k1
   refine ⟨_,rfl,x,e2,by simp,.inr ⟨b,cap,us.toArray,?_,Nat.zero_le _,hh,by rw [EI];exact hn,?_,by simp [yA],?_⟩⟩
   .rw [hx',EI]
   .have:(1000000:Nat)<=maxLen:=by decide
    omega
   .rw [EI,<- eQ];simp
  .rw [if_neg k1] at hk
   by_cases k2:k=l
   .rw [if_pos k2] at hk;cases hk;exact ⟨[],rfl,trivial⟩
   .rw [if_neg k2] at hk;cases hk
 .by_cases k1:k=lab
  .rw [if_pos k1] at hk
   cases hk
   subst k1
   simp only [SB.bB,e2,Option.bind_some] at hp
   rw [hx'] at hp
   simp only [Value.ownBlock,Option.some.injEq] at hp
   subst hp
   right;left
   exact ⟨l,_,hl,rfl,by simp [SB.bB,hβ],by simp [if_neg (show ¬ l=k by omega)]⟩
  .rw [if_neg k1] at hk
   by_cases k2:k=l
   .rw [if_pos k2] at hk;cases hk;cases hp
   .rw [if_neg k2] at hk;cases hk
 .intro Vm
  by_cases k1:k=lab
  .by_cases k2:k'=lab
   .omega
   .rw [if_neg k2] at jK
    by_cases k3:k'=l
    .rw [if_pos k3] at jK;cases jK;cases Vm
    .rw [if_neg k3] at jK;cases jK
  .rw [if_neg k1] at hk
   by_cases k3:k=l
   .rw [if_pos k3] at hk;cases hk;cases ho
   .rw [if_neg k3] at hk;cases hk
theorem aG.aKf (hT:aG w0 M V T w) (hf:V.fresh lab) {l n:Nat} {k:IntKind} {xs:List Int} (hB:T l=some (.dK k xs)) {x:Value} (hx:den V (.dX l n)=some x) :
 ∃ V',V.ext lab V'/\den V' (.dX lab n)=some x/\aG w0 M V' (fL T lab { val:=.dX lab n,new:=[.dK k xs] }) w:=by
 simp only [den,Option.bind_eq_some_iff] at hx
 obtain ⟨v,hσ,ex⟩:=hx
 obtain ⟨cs,hc,v',mN,cN⟩:=hT.ok l _ hB
 rw [hσ] at mN
 cases mN
 have bW:=bF.dU hf lab (Nat.le_refl _) (by omega) v
 refine ⟨V.bL lab v,bW,by simp [den,bF.bL,ex],?_⟩
 refine hT.step (N:=fun m=>if m=lab then some (.dK k xs) else none) bW.1 (fun m C hm=>?_) (fun m C hm=>?_) (fun m C q hm hq=>?_) (fun m C m' C' q dP hm vV yL _=>?_) (Nat.le_refl _) (fun _ _ _=>rfl) rfl rfl rfl
 .unfold fL bR.fM at hm
  simp only [iE,List.nil_append,look] at hm
  by_cases e:m=lab
  .subst e
   left
   simpa using hm
  .right
   refine ⟨if_neg e,?_⟩
   have:Nat.beq lab m=false:=by
    cases rU:Nat.beq lab m with
    | false=>rfl
    | true=>exact absurd (Nat.eq_of_beq_eq_true rU).symm e
   simpa [this] using hm
 .split at hm
  .rename_i e
   subst e
   cases hm
   exact ⟨cs,hc,v,by simp [bF.bL],cN⟩
  .cases hm
 .split at hm
  .rename_i e
   subst e
   cases hm
   refine .inr (.inr ⟨rfl,fun l2 B2 hn2 Kd yL rU=>?_⟩)
   simp only [SB.bB,bF.bL,if_pos,Option.bind_some] at hq
   have dP:l2≠l:=fun e=>by subst e;rw [hB] at Kd;cases Kd;cases yL
   exact hT.kF l2 B2 l _ q dP Kd hB yL rU (by simp [SB.bB,hσ,hq])
  .cases hm
 .split at hm
  .cases hm;cases yL
  .cases hm
theorem qV {V:bF} {x:Value} {v:SV} (hv:den V v=some x):∀ (cs:List SV) (xs:List Value) (i:Nat),aJ V cs=some xs->xs[i]?=some x->aJ V (cs.set i v)=some xs
 | [],xs,i,h1,h2=>by simpa using h1
 | c::r,xs,i,h1,h2=>by
   simp only [aJ,Option.map_eq_some_iff,Option.bind_eq_some_iff] at h1
   obtain ⟨y,hy,ys,sJ,rfl⟩:=h1
   cases i with
   | zero=>
     simp only [List.getElem?_cons_zero,Option.some.injEq] at h2
     subst h2
     simp only [List.set_cons_zero,aJ,hv,sJ,Option.bind_some,Option.map_some]
   | succ i=>
     simp only [List.getElem?_cons_succ] at h2
     simp only [List.set_cons_succ,aJ,hy,qV hv r ys i sJ h2,Option.bind_some,Option.map_some]
theorem aG.aWl (h:aG w0 M V T w) (hf:V.fresh lab) (kE:∀ k,lab<=k->T k=none) {lb:Nat} {cs:List SV} {ty el:TypeId} {k0:IntKind} {i:Nat}
 (hb:T lb=some (.own cs ty)) (hi:cs[i]?=some (.raw (.slice none 0 0))) (v:SV) :
 ∃ V',V.ext lab V'/\aG w0 M V' (fL T lab { val:=v,new:=[.cD k0 [] el],wr:=[(lb,.own (cs.set i (.buf lab)) ty)] }) w:=by
 obtain ⟨xs,qC,b2,kV,PE⟩:=h.ok lb _ hb
 have QK:lb<lab:=Nat.lt_of_not_le fun q=>by rw [kE lb q] at hb;cases hb
 have bW:=bF.dU hf lab (Nat.le_refl _) (by omega) (.slice none 0 0)
 refine ⟨_,bW,?_⟩
 have e2:(V.bL lab (.slice none 0 0)).σ lab=some (.slice none 0 0):=by simp [bF.bL]
 have qJ:aJ (V.bL lab (.slice none 0 0)) (cs.set i (.buf lab))=some xs:=by
  have gL:aJ (V.bL lab (.slice none 0 0)) cs=some xs:=dI bW.1 qC
  obtain ⟨x,oV,Ju⟩:=eF gL i _ hi
  simp only [den,Option.some.injEq] at Ju
  exact qV (by rw [<- Ju];simp [den,e2]) cs xs i gL oV
 refine h.step (N:=fun k=>if k=lab then some (.cD k0 [] el) else if k=lb then some (.own (cs.set i (.buf lab)) ty) else none) bW.1 (fun k C hk=>?_) (fun k C hk=>?_) (fun k C p hk hp=>?_) (fun k C k' C' p Ks hk jK ho hp=>?_) (Nat.le_refl _) (fun _ _ _=>rfl) rfl rfl rfl
 .simp only [fL,bR.fM,iE,List.cons_append,List.nil_append] at hk
  by_cases k2:lb=k
  .subst k2
   rw [aL] at hk
   left
   simp only [if_neg (show ¬ lb=lab by omega),if_true]
   simpa using hk
  .rw [aF k2] at hk
   by_cases k3:lab=k
   .subst k3;rw [aL] at hk;left;simpa using hk
   .rw [aF k3] at hk
    right
    simp only [look] at hk
    exact ⟨by rw [if_neg (fun q=>k3 q.symm),if_neg (fun q=>k2 q.symm)],hk⟩
 .by_cases k1:k=lab
  .rw [if_pos k1] at hk
   cases hk
   subst k1
   exact ⟨[],rfl,_,e2,rfl,.inl ⟨rfl,rfl⟩⟩
  .rw [if_neg k1] at hk
   by_cases k3:k=lb
   .rw [if_pos k3] at hk
    cases hk
    subst k3
    exact ⟨xs,qJ,b2,bW.1.1 _ _ kV,PE⟩
   .rw [if_neg k3] at hk;cases hk
 .by_cases k1:k=lab
  .rw [if_pos k1] at hk
   cases hk
   subst k1
   simp [SB.bB,e2,Value.ownBlock] at hp
  .rw [if_neg k1] at hk
   by_cases k3:k=lb
   .rw [if_pos k3] at hk
    cases hk
    subst k3
    simp only [SB.bB,bW.1.1 _ _ kV,Option.map_some,Option.some.injEq] at hp
    subst hp
    right;left
    exact ⟨k,_,hb,rfl,by simp [SB.bB,kV],by simp [if_neg k1]⟩
   .rw [if_neg k3] at hk;cases hk
 .intro Vm
  by_cases k1:k=lab
  .rw [if_pos k1] at hk
   cases hk
   subst k1
   simp [SB.bB,e2,Value.ownBlock] at hp
  .by_cases k2:k'=lab
   .rw [if_pos k2] at jK
    cases jK
    subst k2
    simp [SB.bB,e2,Value.ownBlock] at Vm
   .rw [if_neg k1] at hk
    rw [if_neg k2] at jK
    by_cases k3:k=lb
    .by_cases k4:k'=lb
     .omega
     .rw [if_neg k4] at jK;cases jK
    .rw [if_neg k3] at hk;cases hk
theorem aG.aCe (h:aG w0 M V T w) (hf:V.fresh lab) (kE:∀ k,lab<=k->T k=none) {lb:Nat} {cs:List SV} {ty el:TypeId} {sz:Nat} {i:Nat}
 (hb:T lb=some (.own cs ty)) (hi:cs[i]?=some (.raw (.slice none 0 0))) (v:SV) :
 ∃ V',V.ext lab V'/\aG w0 M V' (fL T lab { val:=v,new:=[.bO sz 0 el],wr:=[(lb,.own (cs.set i (.buf lab)) ty)] }) w:=by
 obtain ⟨xs,qC,b2,kV,PE⟩:=h.ok lb _ hb
 have QK:lb<lab:=Nat.lt_of_not_le fun q=>by rw [kE lb q] at hb;cases hb
 have bW:=bF.dU hf lab (Nat.le_refl _) (by omega) (.slice none 0 0)
 refine ⟨_,bW,?_⟩
 have e2:(V.bL lab (.slice none 0 0)).σ lab=some (.slice none 0 0):=by simp [bF.bL]
 have qJ:aJ (V.bL lab (.slice none 0 0)) (cs.set i (.buf lab))=some xs:=by
  have gL:aJ (V.bL lab (.slice none 0 0)) cs=some xs:=dI bW.1 qC
  obtain ⟨x,oV,Ju⟩:=eF gL i _ hi
  simp only [den,Option.some.injEq] at Ju
  exact qV (by rw [<- Ju];simp [den,e2]) cs xs i gL oV
 refine h.step (N:=fun k=>if k=lab then some (.bO sz 0 el) else if k=lb then some (.own (cs.set i (.buf lab)) ty) else none) bW.1 (fun k C hk=>?_) (fun k C hk=>?_) (fun k C p hk hp=>?_) (fun k C k' C' p Ks hk jK ho hp=>?_) (Nat.le_refl _) (fun _ _ _=>rfl) rfl rfl rfl
 .simp only [fL,bR.fM,iE,List.cons_append,List.nil_append] at hk
  by_cases k2:lb=k
  .subst k2
   rw [aL] at hk
   left
   simp only [if_neg (show ¬ lb=lab by omega),if_true]
   simpa using hk
  .rw [aF k2] at hk
   by_cases k3:lab=k
   .subst k3;rw [aL] at hk;left;simpa using hk
   .rw [aF k3] at hk
    right
    simp only [look] at hk
    exact ⟨by rw [if_neg (fun q=>k3 q.symm),if_neg (fun q=>k2 q.symm)],hk⟩
 .by_cases k1:k=lab
  .rw [if_pos k1] at hk
   cases hk
   subst k1
   exact ⟨[],rfl,_,[],e2,⟨by simp,.inl ⟨rfl,rfl⟩⟩,fun q hq=>by cases hq⟩
  .rw [if_neg k1] at hk
   by_cases k3:k=lb
   .rw [if_pos k3] at hk
    cases hk
    subst k3
    exact ⟨xs,qJ,b2,bW.1.1 _ _ kV,PE⟩
   .rw [if_neg k3] at hk;cases hk
 .by_cases k1:k=lab
  .rw [if_pos k1] at hk
   cases hk
   subst k1
   simp [SB.bB,e2,Value.ownBlock] at hp
  .rw [if_neg k1] at hk
   by_cases k3:k=lb
   .rw [if_pos k3] at hk
    cases hk
    subst k3
    simp only [SB.bB,bW.1.1 _ _ kV,Option.map_some,Option.some.injEq] at hp
    subst hp
    right;left
    exact ⟨k,_,hb,rfl,by simp [SB.bB,kV],by simp [if_neg k1]⟩
   .rw [if_neg k3] at hk;cases hk
 .intro Vm
  by_cases k1:k=lab
  .rw [if_pos k1] at hk
   cases hk
   subst k1
   simp [SB.bB,e2,Value.ownBlock] at hp
  .by_cases k2:k'=lab
   .rw [if_pos k2] at jK
    cases jK
    subst k2
    simp [SB.bB,e2,Value.ownBlock] at Vm
   .rw [if_neg k1] at hk
    rw [if_neg k2] at jK
    by_cases k3:k=lb
    .by_cases k4:k'=lb
     .omega
     .rw [if_neg k4] at jK;cases jK
    .rw [if_neg k3] at hk;cases hk
theorem aG.Dz (hT:aG w0 M V T w) (hf:V.fresh lab) {sz:Nat} {el:TypeId} {x:Value} (hx:den V (.raw (.slice none 0 0))=some x) :
 ∃ V',V.ext lab V'/\den V' (.buf lab)=some x/\aG w0 M V' (fL T lab { val:=.buf lab,new:=[.bO sz 0 el] }) w:=by
 simp only [den,Option.some.injEq] at hx
 subst hx
 have bW:=bF.dU hf lab (Nat.le_refl _) (by omega) (.slice none 0 0)
 have e2:(V.bL lab (.slice none 0 0)).σ lab=some (.slice none 0 0):=by simp [bF.bL]
 refine ⟨V.bL lab (.slice none 0 0),bW,by simp [den,e2],?_⟩
 refine hT.step (N:=fun m=>if m=lab then some (.bO sz 0 el) else none) bW.1 (fun m C hm=>?_) (fun m C hm=>?_) (fun m C q hm hq=>?_) (fun m C m' C' q dP hm vV yL hq=>?_) (Nat.le_refl _) (fun _ _ _=>rfl) rfl rfl rfl
 .unfold fL bR.fM at hm
  simp only [iE,List.nil_append,look] at hm
  by_cases e:m=lab
  .subst e
   left
   simpa using hm
  .right
   refine ⟨if_neg e,?_⟩
   have:Nat.beq lab m=false:=by
    cases rU:Nat.beq lab m with
    | false=>rfl
    | true=>exact absurd (Nat.eq_of_beq_eq_true rU).symm e
   simpa [this] using hm
 .split at hm
  .rename_i e
   subst e
   cases hm
   exact ⟨[],rfl,_,[],e2,⟨by simp,.inl ⟨rfl,rfl⟩⟩,fun q hq=>by cases hq⟩
  .cases hm
 .split at hm
  .rename_i e
   subst e
   cases hm
   simp [SB.bB,e2,Value.ownBlock] at hq
  .cases hm
 .split at hm
  .rename_i e
   subst e
   cases hm
   simp [SB.bB,e2,Value.ownBlock] at hq
  .cases hm
end
inductive Cl where
 | cell (t i m:Nat)
 | tmp (t m:Nat)
 | buf (t:Nat) (k:IntKind)
 | nil (t i:Nat) (k:IntKind) (el:TypeId)
 | Jw (t:Nat)
 | QF (t i sz:Nat) (el:TypeId)
 | BJ (t sz:Nat) (el:TypeId)
noncomputable def fW (F0 N:Nat) (B:bA) (c:Cl) (s:St):Option St:=match c with
 | .cell t i m=>match s.g.get t with
   | some (.ptr lb true 0)=>match s.T B lb with
     | some (.own cs ty)=>match cs[i]? with
       | some (.aI l true 0 n cap)=>match s.T B l with
         | some (.own cells el)=>match Nat.beq cells.length cap&&(Nat.ble m cap&&(!Nat.beq l lb&&Nat.ble cap 1000000)) with
           | true=>s.step F0 N none { val:=.raw undef,new:=[.row 1 (cells.take m) el],wr:=[(l,.gone),(lb,.own (cs.set i (.dO s.nx 0 n 0)) ty)] } s.nx (s.nx+8)
           | false=>none
         | _=>none
       | some (.raw (.slice none 0 0))=>some s
       | _=>none
     | _=>none
   | _=>none
 | .tmp t m=>match s.g.get t with
   | some (.aI l true 0 n cap)=>match s.T B l with
     | some (.own cells el)=>match Nat.beq cells.length cap&&(Nat.ble m cap&&Nat.ble cap 1000000) with
       | true=>s.step F0 N (some t) { val:=.dO s.nx 0 n 0,new:=[.row 1 (cells.take m) el],wr:=[(l,.gone)] } s.nx (s.nx+8)
       | false=>none
     | _=>none
   | _=>none
 | .buf t k=>match s.g.get t with
   | some (.aI l true 0 n cap)=>match s.T B l with
     | some (.own cells el)=>match Nat.beq cells.length cap&&(Nat.ble n cap&&Nat.ble cap 1000000),dV k (cells.take n) with
       | true,some ns=>s.step F0 N (some t) { val:=.buf s.nx,new:=[.cD k ns el],wr:=[(l,.gone)] } s.nx (s.nx+8)
       | _,_=>none
     | _=>none
   | _=>none
 | .nil t i k el=>match s.g.get t with
   | some (.ptr lb true 0)=>match s.T B lb with
     | some (.own cs ty)=>match cs[i]? with
       | some (.raw (.slice none 0 0))=>s.step F0 N none { val:=.raw undef,new:=[.cD k [] el],wr:=[(lb,.own (cs.set i (.buf s.nx)) ty)] } s.nx (s.nx+8)
       | some (.buf _)=>some s
       | _=>none
     | _=>none
   | _=>none
 | .Jw t=>match s.g.get t with
   | some (.dX l n)=>match s.T B l with
     | some (.dK k xs)=>s.step F0 N (some t) { val:=.dX s.nx n,new:=[.dK k xs] } s.nx (s.nx+8)
     | _=>none
   | _=>none
 | .QF t i sz el=>match s.g.get t with
   | some (.ptr lb true 0)=>match s.T B lb with
     | some (.own cs ty)=>match cs[i]? with
       | some (.raw (.slice none 0 0))=>s.step F0 N none { val:=.raw undef,new:=[.bO sz 0 el],wr:=[(lb,.own (cs.set i (.buf s.nx)) ty)] } s.nx (s.nx+8)
       | some (.buf _)=>some s
       | _=>none
     | _=>none
   | _=>none
 | .BJ t sz el=>match s.g.get t with
   | some (.raw (.slice none 0 0))=>s.step F0 N (some t) { val:=.buf s.nx,new:=[.bO sz 0 el] } s.nx (s.nx+8)
   | some (.buf _)=>some s
   | _=>none
noncomputable def jW (F0 N:Nat) (B:bA):List Cl->St->Option St
 | [],s=>some s
 | c::r,s=>match fW F0 N B c s with
   | some s=>jW F0 N B r s
   | none=>none
section
variable {P:Program} {Γ:Env} {w0:World} {M:Nat->Prop} {B:bA} {N F0:Nat} {V0:bF}
theorem Inv.fW {c:Cl} {s s':St} (h:fW F0 N B c s=some s') {V:bF} {a:Act} {w:World} (hi:Inv P Γ w0 M B N F0 V0 s V a w):(∃ V',Inv P Γ w0 M B N F0 V0 s' V' a w)/\s'.ob=s.ob:=by
 cases c with
 | cell t i m=>
   simp only [Sx.fW] at h
   split at h
   case h_2=>cases h
   rename_i lb _
   split at h
   case h_2=>cases h
   rename_i cs ty hb
   split at h
   case h_3=>cases h
   .rename_i l n cap hc
    split at h
    case h_2=>cases h
    rename_i cells el hl
    split at h
    case h_2=>cases h
    rename_i oF
    simp only [Bool.and_eq_true,Bool.not_eq_true'] at oF
    obtain ⟨k1,k2,k3,k4⟩:=oF
    obtain ⟨V',hV,hT⟩:=aG.close hi.fM hi.top.fresh hi.hi hl (Nat.eq_of_beq_eq_true k1) (Nat.le_of_ble_eq_true k2) (Nat.le_of_ble_eq_true k4) hb hc (fun e=>by subst e;rw [Nat.beq_refl] at k3;cases k3) (.raw undef)
    refine ⟨⟨V',?_⟩,(St.eJ B h).2.2.1⟩
    exact hi.step (x:=undef) h (Nat.le_refl _) (Nat.le_refl _) hV (fun h=>by cases h) hT
   .cases h;exact ⟨⟨V,hi⟩,rfl⟩
 | tmp t m=>
   simp only [Sx.fW] at h
   split at h
   case h_2=>cases h
   rename_i l n cap ht
   split at h
   case h_2=>cases h
   rename_i cells el hl
   split at h
   case h_2=>cases h
   rename_i oF
   simp only [Bool.and_eq_true] at oF
   obtain ⟨k1,k2,k4⟩:=oF
   obtain ⟨V',hV,hx,hT⟩:=aG.aJw hi.fM hi.top.fresh hi.hi hl (Nat.eq_of_beq_eq_true k1) (Nat.le_of_ble_eq_true k2) (Nat.le_of_ble_eq_true k4) (hi.tmp t _ ht)
   have:=hi.step (x:=a.eval (.tmp t)) h (Nat.le_refl _) (Nat.le_refl _) hV (fun _=>hx) hT
   rw [Act.oR] at this
   exact ⟨⟨V',this⟩,(St.eJ B h).2.2.1⟩
 | buf t k=>
   simp only [Sx.fW] at h
   split at h
   case h_2=>cases h
   rename_i l n cap ht
   split at h
   case h_2=>cases h
   rename_i cells el hl
   split at h
   case h_2=>cases h
   rename_i ns oF hk
   simp only [Bool.and_eq_true] at oF
   obtain ⟨k1,k2,k4⟩:=oF
   obtain ⟨V',hV,hx,hT⟩:=aG.aJx hi.fM hi.top.fresh hi.hi hl (Nat.eq_of_beq_eq_true k1) (Nat.le_of_ble_eq_true k2) (Nat.le_of_ble_eq_true k4) hk (hi.tmp t _ ht)
   have:=hi.step (x:=a.eval (.tmp t)) h (Nat.le_refl _) (Nat.le_refl _) hV (fun _=>hx) hT
   rw [Act.oR] at this
   exact ⟨⟨V',this⟩,(St.eJ B h).2.2.1⟩
 | nil t i k el=>
   simp only [Sx.fW] at h
   split at h
   case h_2=>cases h
   rename_i lb _
   split at h
   case h_2=>cases h
   rename_i cs ty hb
   split at h
   case h_3=>cases h
   .rename_i hc
    obtain ⟨V',hV,hT⟩:=aG.aWl (k0:=k) (el:=el) hi.fM hi.top.fresh hi.hi hb hc (.raw undef)
    exact ⟨⟨V',hi.step (x:=undef) h (Nat.le_refl _) (Nat.le_refl _) hV (fun h=>by cases h) hT⟩,(St.eJ B h).2.2.1⟩
   .cases h;exact ⟨⟨V,hi⟩,rfl⟩
 | Jw t=>
   simp only [Sx.fW] at h
   split at h
   case h_2=>cases h
   rename_i l n ht
   split at h
   case h_2=>cases h
   rename_i k xs hl
   obtain ⟨V',hV,hx,hT⟩:=aG.aKf hi.fM hi.top.fresh hl (hi.tmp t _ ht)
   have:=hi.step (x:=a.eval (.tmp t)) h (Nat.le_refl _) (Nat.le_refl _) hV (fun _=>hx) hT
   rw [Act.oR] at this
   exact ⟨⟨V',this⟩,(St.eJ B h).2.2.1⟩
 | QF t i sz el=>
   simp only [Sx.fW] at h
   split at h
   case h_2=>cases h
   rename_i lb _
   split at h
   case h_2=>cases h
   rename_i cs ty hb
   split at h
   case h_3=>cases h
   .rename_i hc
    obtain ⟨V',hV,hT⟩:=aG.aCe (sz:=sz) (el:=el) hi.fM hi.top.fresh hi.hi hb hc (.raw undef)
    exact ⟨⟨V',hi.step (x:=undef) h (Nat.le_refl _) (Nat.le_refl _) hV (fun h=>by cases h) hT⟩,(St.eJ B h).2.2.1⟩
   .cases h;exact ⟨⟨V,hi⟩,rfl⟩
 | BJ t sz el=>
   simp only [Sx.fW] at h
   split at h
   case h_3=>cases h
   .rename_i ht
    obtain ⟨V',hV,hx,hT⟩:=aG.Dz (sz:=sz) (el:=el) hi.fM hi.top.fresh (hi.tmp t _ ht)
    have:=hi.step (x:=a.eval (.tmp t)) h (Nat.le_refl _) (Nat.le_refl _) hV (fun _=>hx) hT
    rw [Act.oR] at this
    exact ⟨⟨V',this⟩,(St.eJ B h).2.2.1⟩
   .cases h;exact ⟨⟨V,hi⟩,rfl⟩
theorem Inv.jW:∀ {cl:List Cl} {s s':St},jW F0 N B cl s=some s'->∀ {V:bF} {a:Act} {w:World},Inv P Γ w0 M B N F0 V0 s V a w->(∃ V',Inv P Γ w0 M B N F0 V0 s' V' a w)
 | [],s,s',h,V,a,w,hi=>by simp only [Sx.jW,Option.some.injEq] at h;subst h;exact ⟨V,hi⟩
 | c::r,s,s',h,V,a,w,hi=>by
   simp only [Sx.jW] at h
   split at h
   .rename_i s1 h1
    obtain ⟨⟨V1,tO⟩,e⟩:=hi.fW h1
    exact Inv.jW h tO
   .cases h
theorem Zk {c:Cl} {s s':St} (h:fW F0 N B c s=some s'):s'.ob=s.ob:=by
 cases c with
 | cell t i m=>
   simp only [Sx.fW] at h
   split at h
   case h_2=>cases h
   split at h
   case h_2=>cases h
   split at h
   case h_3=>cases h
   .split at h
    case h_2=>cases h
    split at h
    case h_2=>cases h
    exact (St.eJ B h).2.2.1
   .cases h;rfl
 | tmp t m=>
   simp only [Sx.fW] at h
   split at h
   case h_2=>cases h
   split at h
   case h_2=>cases h
   split at h
   case h_2=>cases h
   exact (St.eJ B h).2.2.1
 | buf t k=>
   simp only [Sx.fW] at h
   split at h
   case h_2=>cases h
   split at h
   case h_2=>cases h
   split at h
   case h_2=>cases h
   exact (St.eJ B h).2.2.1
 | nil t i k el=>
   simp only [Sx.fW] at h
   split at h
   case h_2=>cases h
   split at h
   case h_2=>cases h
   split at h
   case h_3=>cases h
   .exact (St.eJ B h).2.2.1
   .cases h;rfl
 | Jw t=>
   simp only [Sx.fW] at h
   split at h
   case h_2=>cases h
   split at h
   case h_2=>cases h
   exact (St.eJ B h).2.2.1
 | QF t i sz el=>
   simp only [Sx.fW] at h
   split at h
   case h_2=>cases h
   split at h
   case h_2=>cases h
   split at h
   case h_3=>cases h
   .exact (St.eJ B h).2.2.1
   .cases h;rfl
 | BJ t sz el=>
   simp only [Sx.fW] at h
   split at h
   case h_3=>cases h
   .exact (St.eJ B h).2.2.1
   .cases h;rfl
theorem xS:∀ {cl:List Cl} {s s':St},jW F0 N B cl s=some s'->s'.ob=s.ob
 | [],s,s',h=>by simp only [Sx.jW,Option.some.injEq] at h;subst h;rfl
 | c::r,s,s',h=>by
   simp only [Sx.jW] at h
   split at h
   .rename_i s1 h1
    rw [xS h,Zk h1]
   .cases h
noncomputable def fA (Γ:Env) (T:bA) (lab F:Nat) (fn:Func) (cl:List Cl) (r:Option jA):Option bR:=match r with
 | some r=>match r.cf,r.fr with
   | .at x,[]=>match jW F fn.ntmps (aC F T) cl r.st with
     | some s=>Kv Γ T lab F fn x s
     | none=>none
   | _,_=>none
 | none=>none
theorem G.eX (aM:cG P Γ) (aE:bX P Γ) (iF:P.follows .mixedOrders=true) {T:bA} {lab:Nat} {fn:Func} {e e':bR} {cl:List Cl} {stops:List Nat} {lf n:Nat} {cf:Cf} {K:List Fr} {s:St} (hs:List Bool) {Q:Exit->Act->World->Prop}
 (H:∀ x s e',Kv Γ T lab F0 fn x s=some e'->(∀ q∈e'.bV,q)->e'.val=e.val->e'.new=e.new->e'.wr=e.wr->G P Γ w0 M (aC F0 T) fn.ntmps F0 V0 (.at x) [] s Q)
 (h:fA Γ T lab F0 fn cl (cA Γ (aC F0 T) F0 fn.ntmps stops lf n cf K (s.hint hs))=some e') (hp:∀ q∈e'.bV,q) (h1:e'.val=e.val) (h2:e'.new=e.new) (h3:e'.wr=e.wr) :
 G P Γ w0 M (aC F0 T) fn.ntmps F0 V0 cf K s Q:=by
 unfold fA at h
 split at h
 case h_2=>cases h
 rename_i r hr
 split at h
 case h_2=>cases h
 rename_i x hx hf
 split at h
 case h_2=>cases h
 rename_i s1 Ot
 have gG:G P Γ w0 M (aC F0 T) fn.ntmps F0 V0 cf K (s.hint hs) Q:=by
  refine G.run aM aE iF hr (fun q hq=>hp q (Ux h q (by rw [xS Ot];exact hq))) ?_
  rw [hx,hf]
  intro V a w hi
  obtain ⟨V',fZ⟩:=hi.jW Ot
  exact H x s1 e' h hp h1 h2 h3 V' a w fZ
 intro V a w hi
 exact gG V a w (hi.hints s.ob hs)
noncomputable def cL (F0 N:Nat) (B:bA) (cl:List Cl) (gs:List (Nat × SV)) (tb:List (Nat × SB)) (nx:Nat) (ws:List Nat) (df:List SV) (r:Option jA):Option (Cf × List Fr × List Prop):=match r with
 | some r=>match jW F0 N B cl r.st with
   | some s=>gD F0 B [] gs tb nx ws df (some ⟨r.cf,r.fr,s⟩)
   | none=>none
 | none=>none
theorem G.cL (aM:cG P Γ) (aE:bX P Γ) (iF:P.follows .mixedOrders=true) (hb:mU Γ B F0 V0) {stops:List Nat} {lf n:Nat} {cf cf':Cf} {K K':List Fr} {s:St} (hs:List Bool) {cl:List Cl} {gs:List (Nat × SV)} {tb:List (Nat × SB)} {nx:Nat} {ws:List Nat} {df:List SV} {ps:List Prop} {Q:Exit->Act->World->Prop}
 (h:cL F0 N B cl gs tb nx ws df (cA Γ B F0 N stops lf n cf K (s.hint hs))=some (cf',K',ps)) (hp:∀ q∈ps,q) (hG:G P Γ w0 M B N F0 V0 cf' K' (aN gs tb nx ws df) Q):G P Γ w0 M B N F0 V0 cf K s Q:=by
 unfold Sx.cL at h
 split at h
 case h_2=>cases h
 rename_i r hr
 split at h
 case h_2=>cases h
 rename_i s1 h1
 have ob:=xS h1
 have h0:Sx.gD F0 B [] gs tb nx ws df (cA Γ B F0 N stops lf 0 r.cf r.fr (s1.hint s1.hs))=some (cf',K',ps):=h
 have gG:G P Γ w0 M B N F0 V0 cf K (s.hint hs) Q:=by
  refine G.run aM aE iF hr (fun q hq=>?_) ?_
  .refine hp q ?_
   have hq:q∈s1.ob:=by rw [ob];exact hq
   unfold Sx.gD at h
   simp only at h
   unfold Sx.Ol at h
   simp only [oN] at h
   unfold Ry at h
   simp only at h
   split at h
   case h_2=>cases h
   split at h
   case h_2=>cases h
   cases h
   exact List.mem_append_left _ hq
  .intro V a w hi
   obtain ⟨V',fZ⟩:=hi.jW h1
   exact G.gD aM aE iF hb s1.hs h0 hp hG V' a w fZ
 intro V a w hi
 exact gG V a w (hi.hints s.ob hs)
theorem G.jV (aM:cG P Γ) (aE:bX P Γ) (iF:P.follows .mixedOrders=true) (hb:mU Γ B F0 V0) {stops:List Nat} {lf n:Nat} {cf:Cf} {K1 K:List Fr} {s:St} (hs:List Bool) {cl:List Cl} {gs:List (Nat × SV)} {tb:List (Nat × SB)} {nx:Nat} {ws:List Nat} {df:List SV} {ps:List Prop} {Q:Exit->Act->World->Prop} {S:Nat->St->Prop} {r:Nat}
 (h:Sx.cL F0 N B cl gs tb nx ws df (cA Γ B F0 N stops lf n cf K1 (s.hint hs))=some (.at .normal,[],ps)) (hp:∀ q∈ps,q) (r':Nat) (cK:r'<r) (hS:S r' (aN gs tb nx ws df)) :
 G P Γ w0 M B N F0 V0 cf K1 s (Exit.then (fun a w=>∃ r',r'<r/\∃ s',S r' s'/\∃ V,Inv P Γ w0 M B N F0 V0 s' V a w) (KQ P K Q)):=
 G.cL aM aE iF hb hs h hp (G.again fun V _ _ hi=>⟨r',cK,_,hS,V,hi⟩)
end
theorem aD.bE {P:Program} {Γ:Env} {f:FuncId} {vs:List SV} {T:bA} {lab F:Nat} {e:bR} (h:aD P Γ f vs T lab F e) (l:Nat) (B:SB) (hT:T l=some B) (hl:l<lab) :
 aD P Γ f vs T lab F { e with wr:=e.wr++[(l,B)] }:=by
 intro w0 M V T2 w xs bC Hf hg hf hF hx o a K Q hK
 refine h w0 M V T2 w xs bC Hf hg hf hF hx o a K Q fun V' x w' h1 h2 h3=>hK V' x w' h1 h2 ?_
 have:fL T2 lab { e with wr:=e.wr++[(l,B)] }=fL T2 lab e:=by
  funext k
  simp only [fL,bR.fM,cI,List.append_assoc]
  cases hk:look k e.wr with
  | some b=>rfl
  | none=>
    simp only
    by_cases e1:l=k
    .subst e1
     rw [aL]
     simp only
     rw [fD,if_neg (by omega)]
     exact (bC l B hT).symm
    .rw [aF e1]
     simp only [look]
 rw [this]
 exact h3
section
variable {w0 w:World} {M:Nat->Prop} {V:bF} {T:bA} {lab:Nat}
theorem xR (V:bF) (k:IntKind):∀ xs:List Int,aJ V (xs.map (SV.int false k))=some (xs.map (Value.int k))
 | []=>rfl
 | x::xs=>by simp [aJ,den,xR V k xs]
theorem aG.opened (h:aG w0 M V T w) (hf:V.fresh lab) (kE:∀ k,lab<=k->T k=none) {l:Nat} {k:IntKind} {xs:List Int} {el:TypeId} (hl:T l=some (.cD k xs el)) (Wg:0<xs.length) {lb:Nat} {cs:List SV} {ty:TypeId} {i:Nat}
 (hb:T lb=some (.own cs ty)) (hi:cs[i]?=some (.buf l)) (dP:l≠lb) (v:SV) :
 ∃ V',V.ext lab V'/\aG w0 M V' (fL T lab { val:=v,new:=[.row 1 (xs.map (SV.int false k)) el],wr:=[(l,.gone),(lb,.own (cs.set i (.dO lab 0 xs.length 0)) ty)] }) w:=by
 obtain ⟨us,Gm,u,hσ,cN⟩:=h.ok l _ hl
 obtain ⟨ys,sJ,b2,kV,PE⟩:=h.ok lb _ hb
 cases Gm
 rcases cN.2 with ⟨_,h0⟩ | ⟨b,cap,cur,rfl,_,hh,hle,sP,nK,eQ⟩
 .omega
 have cK:l<lab:=Nat.lt_of_not_le fun q=>by rw [kE l q] at hl;cases hl
 have QK:lb<lab:=Nat.lt_of_not_le fun q=>by rw [kE lb q] at hb;cases hb
 have bW:V.ext lab ((V.put lab (b,0)).bL lab (.int .i64 (cap:Nat))):=by
  have h1:=bF.lO hf lab (Nat.le_refl _) (by omega) (b,0)
  refine ⟨⟨fun k p hp=>h1.1.1 k p hp,fun k p hp=>?_⟩,fun k hk=>⟨(h1.2 k hk).1,?_⟩⟩
  .simp only [bF.bL]
   by_cases e:k=lab
   .subst e;rw [(hf k (Nat.le_refl _) (by omega)).2] at hp;cases hp
   .rw [if_neg e];exact hp
  .simp only [bF.bL]
   rw [if_neg (by omega)]
   rfl
 refine ⟨_,bW,?_⟩
 obtain ⟨V',Og⟩:∃ V',V'=(V.put lab (b,0)).bL lab (.int .i64 (cap:Nat)):=⟨_,rfl⟩
 rw [<- Og] at bW |-
 have e1:V'.β lab=some (b,0):=by rw [Og];simp [bF.put,bF.bL]
 have e2:V'.σ lab=some (.int .i64 (cap:Nat)):=by rw [Og];simp [bF.bL]
 have Gs:SB.bB V l (.cD k xs el)=some b:=by simp [SB.bB,hσ,Value.ownBlock]
 have pT:b≠b2:=by
  intro e
  exact h.kF l _ lb _ b dP hl hb rfl Gs (by simp [SB.bB,kV,e])
 have qJ:aJ V' (cs.set i (.dO lab 0 xs.length 0))=some ys:=by
  have gL:aJ V' cs=some ys:=dI bW.1 sJ
  obtain ⟨x,oV,Ju⟩:=eF gL i _ hi
  simp only [den,bW.1.2 _ _ hσ,Option.some.injEq] at Ju
  refine qV ?_ cs ys i gL oV
  rw [<- Ju]
  simp [den,e1,e2,qM]
 refine h.step (N:=fun q=>if q=lab then some (.row 1 (xs.map (SV.int false k)) el) else if q=l then some .gone else if q=lb then some (.own (cs.set i (.dO lab 0 xs.length 0)) ty) else none) bW.1 (fun q C hk=>?_) (fun q C hk=>?_) (fun q C p hk hp=>?_) (fun q C q' C' p Ks hk jK ho hp=>?_) (Nat.le_refl _) (fun _ _ _=>rfl) rfl rfl rfl
 .simp only [fL,bR.fM,iE,List.cons_append,List.nil_append] at hk
  by_cases k1:l=q
  .subst k1
   rw [aL] at hk
   left
   simp only [if_neg (show ¬ l=lab by omega),if_true]
   simpa using hk
  .rw [aF k1] at hk
   by_cases k2:lb=q
   .subst k2
    rw [aL] at hk
    left
    simp only [if_neg (show ¬ lb=lab by omega),if_neg (fun q=>dP (Eq.symm q)),if_true]
    simpa using hk
   .rw [aF k2] at hk
    by_cases k3:lab=q
    .subst k3;rw [aL] at hk;left;simpa using hk
    .rw [aF k3] at hk
     right
     simp only [look] at hk
     exact ⟨by rw [if_neg (fun q=>k3 q.symm),if_neg (fun q=>k1 q.symm),if_neg (fun q=>k2 q.symm)],hk⟩
 .by_cases k1:q=lab
  .rw [if_pos k1] at hk
   cases hk
   subst k1
   refine ⟨xs.map (Value.int k),xR V' k xs,b,cap,cur,e1,e2,hh,sP,nK,⟨xs.length,by simp,hle⟩,?_⟩
   rw [List.length_map]
   rw [Nat.mul_one] at eQ
   exact eQ
  .rw [if_neg k1] at hk
   by_cases k2:q=l
   .rw [if_pos k2] at hk;cases hk;exact ⟨[],rfl,trivial⟩
   .rw [if_neg k2] at hk
    by_cases k3:q=lb
    .rw [if_pos k3] at hk
     cases hk
     subst k3
     exact ⟨ys,qJ,b2,bW.1.1 _ _ kV,PE⟩
    .rw [if_neg k3] at hk;cases hk
 .by_cases k1:q=lab
  .rw [if_pos k1] at hk
   cases hk
   subst k1
   simp only [SB.bB,e1,Option.map_some,Option.some.injEq] at hp
   subst hp
   right;left
   exact ⟨l,_,hl,rfl,Gs,by simp [if_neg (show ¬ l=q by omega)]⟩
  .rw [if_neg k1] at hk
   by_cases k2:q=l
   .rw [if_pos k2] at hk;cases hk;cases hp
   .rw [if_neg k2] at hk
    by_cases k3:q=lb
    .rw [if_pos k3] at hk
     cases hk
     subst k3
     simp only [SB.bB,bW.1.1 _ _ kV,Option.map_some,Option.some.injEq] at hp
     subst hp
     right;left
     exact ⟨q,_,hb,rfl,by simp [SB.bB,kV],by simp [if_neg k1,if_neg k2]⟩
    .rw [if_neg k3] at hk;cases hk
 .have bB:∀ q C p,(if q=lab then some (SB.row 1 (xs.map (SV.int false k)) el) else if q=l then some .gone else if q=lb then some (.own (cs.set i (.dO lab 0 xs.length 0)) ty) else none)=some C->C.bB V' q=some p->(q=lab/\p=b)\/(q=lb/\p=b2):=by
   intro q C p hk hp
   by_cases k1:q=lab
   .rw [if_pos k1] at hk
    cases hk
    subst k1
    simp only [SB.bB,e1,Option.map_some,Option.some.injEq] at hp
    exact .inl ⟨rfl,hp.symm⟩
   .rw [if_neg k1] at hk
    by_cases k2:q=l
    .rw [if_pos k2] at hk;cases hk;cases hp
    .rw [if_neg k2] at hk
     by_cases k3:q=lb
     .rw [if_pos k3] at hk
      cases hk
      subst k3
      simp only [SB.bB,bW.1.1 _ _ kV,Option.map_some,Option.some.injEq] at hp
      exact .inr ⟨rfl,hp.symm⟩
     .rw [if_neg k3] at hk;cases hk
  intro Vm
  rcases bB q C p hk hp with ⟨r1,r2⟩ | ⟨r1,r2⟩ <;> rcases bB q' C' p jK Vm with ⟨r3,r4⟩ | ⟨r3,r4⟩
  .omega
  .exact pT (r2.symm.trans r4)
  .exact pT (r4.symm.trans r2)
  .omega
end
noncomputable def Ld (F0 N:Nat) (B:bA) (t i:Nat) (s:St):Option St:=match s.g.get t with
 | some (.ptr lb true 0)=>match s.T B lb with
   | some (.own cs ty)=>match cs[i]? with
     | some (.buf l)=>match s.T B l with
       | some (.cD k xs el)=>match Nat.blt 0 xs.length && !Nat.beq l lb with
         | true=>s.step F0 N none { val:=.raw undef,new:=[.row 1 (xs.map (SV.int false k)) el],wr:=[(l,.gone),(lb,.own (cs.set i (.dO s.nx 0 xs.length 0)) ty)] } s.nx (s.nx+8)
         | false=>none
       | _=>none
     | _=>none
   | _=>none
 | _=>none
noncomputable def opS (F0 N:Nat) (B:bA) (t i:Nat) (s:St):St:=match Ld F0 N B t i s with
 | some s'=>s'
 | none=>s
section
variable {P:Program} {Γ:Env} {w0:World} {M:Nat->Prop} {B:bA} {N F0:Nat} {V0:bF}
theorem Inv.Ld {t i:Nat} {s s':St} (h:Ld F0 N B t i s=some s') {V:bF} {a:Act} {w:World} (hi:Inv P Γ w0 M B N F0 V0 s V a w):∃ V',Inv P Γ w0 M B N F0 V0 s' V' a w:=by
 unfold Sx.Ld at h
 split at h
 case h_2=>cases h
 rename_i lb _
 split at h
 case h_2=>cases h
 rename_i cs ty hb
 split at h
 case h_2=>cases h
 rename_i l hc
 split at h
 case h_2=>cases h
 rename_i k xs el hl
 split at h
 case h_2=>cases h
 rename_i oF
 simp only [Bool.and_eq_true,Bool.not_eq_true'] at oF
 obtain ⟨k1,k2⟩:=oF
 obtain ⟨V',hV,hT⟩:=aG.opened hi.fM hi.top.fresh hi.hi hl (by simpa [Nat.blt_eq] using k1) hb hc (fun e=>by subst e;rw [Nat.beq_refl] at k2;cases k2) (.raw undef)
 exact ⟨V',hi.step (x:=undef) h (Nat.le_refl _) (Nat.le_refl _) hV (fun h=>by cases h) hT⟩
theorem G.op (t i:Nat) {cf:Cf} {K:List Fr} {s:St} {Q:Exit->Act->World->Prop} (hG:G P Γ w0 M B N F0 V0 cf K (opS F0 N B t i s) Q):G P Γ w0 M B N F0 V0 cf K s Q:=by
 intro V a w hi
 unfold opS at hG
 split at hG
 .rename_i s' h
  obtain ⟨V',fZ⟩:=hi.Ld h
  exact hG V' a w fZ
 .exact hG V a w hi
end
def tws:List (Nat × Nat):=[(129,96),(138,95),(150,97),(205,98),(207,100),(210,99)]
def fF (f:Nat):Option Sum:=match Nat.beq f 171 with
 | true=>some (xG false)
 | false=>match Nat.beq f 154 with
   | true=>some (xG true)
   | false=>none
def aB:List (Nat × Nat):=[(0,0),(1,1),(2,2),(3,3),(4,4),(5,5),(6,6),(7,7),(8,8),(10,10),(11,11),(15,15),(16,16),(17,17),(18,18),(27,27)]
theorem mix:Tryz.prog.follows .mixedOrders=true:=by kernel_rfl
theorem aOq:Tryz.prog.funcs.toList.all (fun fn => !(fn.name == "runtime.NumGoroutine"))=true:=by kernel_rfl
theorem names (f:Nat) (fn:Func) (h:Tryz.prog.funcs[f]?=some fn):(fn.name == "runtime.NumGoroutine")=false:=by
 have hm:fn∈Tryz.prog.funcs.toList:=by
  have:=Array.mem_of_getElem? h
  simpa using this
 have:=List.all_eq_true.1 aOq fn hm
 simpa using this
theorem RI:∀ (args:Array Value) (w:World),(callFunc 129 args).run Tryz.prog w=(callFunc 96 args).run Tryz.prog w:=
 rH (twin := "math/big.subVV_g") Tryz.func129 Tryz.func96 rfl rfl (by kernel_rfl) (by kernel_rfl) (by kernel_rfl) (by kernel_rfl) rfl rfl
theorem RH:∀ (args:Array Value) (w:World),(callFunc 138 args).run Tryz.prog w=(callFunc 95 args).run Tryz.prog w:=
 rH (twin := "math/big.addVV_g") Tryz.func138 Tryz.func95 rfl rfl (by kernel_rfl) (by kernel_rfl) (by kernel_rfl) (by kernel_rfl) rfl rfl
theorem RG:∀ (args:Array Value) (w:World),(callFunc 150 args).run Tryz.prog w=(callFunc 97 args).run Tryz.prog w:=
 rH (twin := "math/big.lshVU_g") Tryz.func150 Tryz.func97 rfl rfl (by kernel_rfl) (by kernel_rfl) (by kernel_rfl) (by kernel_rfl) rfl rfl
theorem RF:∀ (args:Array Value) (w:World),(callFunc 205 args).run Tryz.prog w=(callFunc 98 args).run Tryz.prog w:=
 rH (twin := "math/big.rshVU_g") Tryz.func205 Tryz.func98 rfl rfl (by kernel_rfl) (by kernel_rfl) (by kernel_rfl) (by kernel_rfl) rfl rfl
theorem RE:∀ (args:Array Value) (w:World),(callFunc 207 args).run Tryz.prog w=(callFunc 100 args).run Tryz.prog w:=
 rH (twin := "math/big.addMulVVWW_g") Tryz.func207 Tryz.func100 rfl rfl (by kernel_rfl) (by kernel_rfl) (by kernel_rfl) (by kernel_rfl) rfl rfl
theorem RD:∀ (args:Array Value) (w:World),(callFunc 210 args).run Tryz.prog w=(callFunc 99 args).run Tryz.prog w:=
 rH (twin := "math/big.mulAddVWW_g") Tryz.func210 Tryz.func99 rfl rfl (by kernel_rfl) (by kernel_rfl) (by kernel_rfl) (by kernel_rfl) rfl rfl
theorem aDu (f g:Nat) (h:look f tws=some g):∀ (args:Array Value) (w:World),(callFunc f args).run Tryz.prog w=(callFunc g args).run Tryz.prog w:=by
 have hm:=gQ h
 simp only [tws,List.mem_cons,List.not_mem_nil,or_false,Prod.mk.injEq] at hm
 rcases hm with ⟨rfl,rfl⟩ | ⟨rfl,rfl⟩ | ⟨rfl,rfl⟩ | ⟨rfl,rfl⟩ | ⟨rfl,rfl⟩ | ⟨rfl,rfl⟩
 .exact RI
 .exact RH
 .exact RG
 .exact RF
 .exact RE
 .exact RD
theorem NA (Γ:Env):aH Tryz.prog Γ 171 (xG false):=Gh false fun args w=>by
 rw [run_callFunc_extern Tryz.func171 (by kernel_rfl) (by kernel_rfl) (by kernel_rfl) (e:=add64Entry) (by kernel_rfl)]
 simp only [Sem.run_bind,Sem.run_pure]
theorem HS (Γ:Env):aH Tryz.prog Γ 154 (xG true):=Gh true fun args w=>by
 rw [run_callFunc_extern Tryz.func154 (by kernel_rfl) (by kernel_rfl) (by kernel_rfl) (e:=Pr) (by kernel_rfl)]
 simp only [Sem.run_bind,Sem.run_pure]
theorem lA (f:Nat) (S:Sum) (h:fF f=some S) (Γ:Env):aH Tryz.prog Γ f S:=by
 unfold fF at h
 split at h
 .rename_i hb;have:=Nat.eq_of_beq_eq_true hb;subst this;cases h;exact NA Γ
 .split at h
  .rename_i hb;have:=Nat.eq_of_beq_eq_true hb;subst this;cases h;exact HS Γ
  .cases h
theorem aJv (t:Nat) (h:([367]:List Nat).elem t=true) (i:TypeInfo) (hi:Tryz.prog.info? t=some i):i.comparable=true:=by
 have:t=367:=by simpa using h
 subst this
 have h2:(Tryz.prog.info? 367).map (·.comparable)=some true:=by kernel_rfl
 rw [hi] at h2
 simpa using h2
theorem aGi (ex:Nat->Option Sum) (hex:∀ f S,ex f=some S->∀ Γ:Env,Γ.aU=aB->aH Tryz.prog Γ f S):HO Tryz.prog aB [367] ex tws:=
 ⟨mix,names,aJv,⟨_,rfl⟩,aDu,hex⟩
noncomputable def env (ex:Nat->Option Sum) (n:Nat):Env:=Ku Tryz.prog aB [367] ex tws 400 n
theorem bJ (ex:Nat->Option Sum) (hex:∀ f S,ex f=some S->∀ Γ:Env,Γ.aU=aB->aH Tryz.prog Γ f S) (n:Nat):bX Tryz.prog (env ex n):=YA (aGi ex hex) 400 n
theorem bH (ex:Nat->Option Sum) (n:Nat):cG Tryz.prog (env ex n):=cG.prog pJ.1
def aO:List Prop->Prop
 | []=>True
 | p::r=>p/\aO r
theorem aA:∀ {l:List Prop},aO l->∀ q∈l,q
 | [],_,q,hq=>by cases hq
 | p::r,h,q,hq=>by
   rcases List.mem_cons.1 hq with rfl | hq
   .exact h.1
   .exact aA h.2 q hq
theorem lT (V:bF) (k:IntKind):∀ xs:List Int,aJ V (xs.map (SV.int false k))=some (xs.map (Value.int k))
 | []=>rfl
 | x::xs=>by simp [aJ,den,lT V k xs]
theorem pO (V:bF) (k:IntKind) (xs:List Int):den V (.agg (xs.map (SV.int false k)))=den V (.ai k xs):=by
 simp only [den,lT,Option.map_some]
theorem cF (V:bF) {k:IntKind} {n:Nat} {xs:List Int} (h:xs.length=n):den V (.agg (cQ k n xs))=den V (.ai k xs):=by
 simp only [den,vG h,Option.map_some]
theorem aD.words {P:Program} {Γ Γ':Env} {f:FuncId} {vs Jq:List SV} {T T':bA} {lab F:Nat} {e e':bR} (h:aD P Γ f vs T lab F e) (hg:Γ'.aU=Γ.aU) (hv:∀ V,aJ V Jq=aJ V vs) (hT:∀ l B,T l=some B->T' l=some B)
 (he:∀ V,den V e.val=den V e'.val) (hn:e'.new=e.new) (hw:e'.wr=e.wr):aD P Γ' f Jq T' lab F e':=by
 intro w0 M V T2 w xs bC Hf AO hf hF hx o a K Q hK
 refine h w0 M V T2 w xs (fun l B hl=>bC l B (hT l B hl)) Hf (fun n l hl=>AO n l (by rw [hg];exact hl)) hf hF ((hv V).symm.trans hx) o a K Q fun V' x w' h1 h2 h3=>hK V' x w' h1 ((he V').symm.trans h2) ?_
 have:fL T2 lab e'=fL T2 lab e:=by funext l;simp only [fL,bR.fM,hn,hw]
 rw [this]
 exact h3
noncomputable def gU (vs:List SV) (F:Nat):St:={ g:=(Bj vs 0 .lf).getD .lf,tb:=.lf,nx:=F,ws:=[],ob:=[],hs:=[] }
def codeOf (f:Func):Code:=f.body.getD .skip
theorem Jn (a:Int) (j:Nat):IntKind.u32.wrap (IntKind.u32.wrap (a+j)+1)=IntKind.u32.wrap (a+(j+1:Nat)):=by
 simp only [IntKind.wrap_u32];omega
end Go.Proofs.YtaibhjpgbckbkaaGreatDoor.Sx
