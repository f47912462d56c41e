/- A part of the proof of CipherOfNothing: Sx1 to Sx15. -/
import Derived.WalkKit
import Derived.Orders
import Derived.Laws.AppendOwnNone
import Derived.Deep.AppendSrc
import Derived.IntWalk
import Derived.Defers
import Derived.LaidEql
import Derived.ChangeKeysEq
open Go
set_option maxRecDepth 100000
namespace Go.Proofs.YtaibhjpgbckbkaaGreatDoor.Sx
abbrev sh {α β:Type} (x:α) (f:α->β):β:=f x
inductive SV where
 | int (s:Bool) (k:IntKind) (n:Int)
 | bool (s:Bool) (b:Bool)
 | ptr (l:Nat) (s:Bool) (off:Nat)
 | aI (l:Nat) (s:Bool) (off len cap:Nat)
 | agg (vs:List SV)
 | eD (vs:List SV)
 | fn (f:Fn) (first Hk:List SV)
 | jS (t:TypeId) (v:SV)
 | raw (v:Value)
 | buf (l:Nat)
 | mT (l:Nat) (off:Nat)
 | mS (l:Nat) (lo hi:Nat)
 | dO (l:Nat) (off len lo:Nat)
 | dX (l n:Nat)
 | ai (k:IntKind) (xs:List Int)
 | rT (l n cap sz j le:Nat)
structure bF where
 β:Nat->Option (Nat × Nat)
 σ:Nat->Option Value
def qM:Option Value->Option Nat
 | some (.int _ c)=>some c.toNat
 | _=>none
def yR (n:Nat):Value->Option Value
 | .slice none m c=>if m=0/\n=0/\c=0 then some (.slice none 0 0) else none
 | .slice (some a) m c=>if m=n/\n<=c/\(c=0\/a.spot=none) then some (.slice (some a) m c) else none
 | _=>none
def CI (v:Value):Prop:=∃ a,v = .slice a 0 0
theorem CI.nil:CI (.slice none 0 0):=⟨none,rfl⟩
theorem rI {n:Nat} {v x:Value} (h:yR n v=some x):x=v/\((CI v/\n=0)\/∃ b o c,v = .slice (some ⟨b,o,none⟩) n c/\n<=c):=by
 unfold yR at h
 split at h
 .split at h
  .rename_i hc;obtain ⟨rfl,rfl,rfl⟩:=hc;cases h;exact ⟨rfl,.inl ⟨.nil,rfl⟩⟩
  .cases h
 .rename_i a m c
  split at h
  .rename_i hc;obtain ⟨rfl,hn,hs⟩:=hc;cases h
   obtain ⟨b,o,s⟩:=a
   rcases hs with rfl | hs
   .have:m=0:=by omega
    subst this
    exact ⟨rfl,.inl ⟨⟨_,rfl⟩,rfl⟩⟩
   simp only at hs
   subst hs
   exact ⟨rfl,.inr ⟨b,o,c,rfl,hn⟩⟩
  .cases h
 .cases h
def xY:Value->Option Nat
 | .slice _ _ 0=>none
 | v=>v.ownBlock
theorem hY {v:Value} {n:Nat} (h:xY v=some n):v.ownBlock=some n:=by
 unfold xY at h
 split at h
 .cases h
 .exact h
mutual
def den (V:bF):SV->Option Value
 | .int _ k n=>some (.int k n)
 | .bool _ b=>some (.bool b)
 | .ptr l _ off=>(V.β l).map fun p=>.pointer (some ⟨p.1,p.2+off,none⟩)
 | .aI l _ off len cap=>(V.β l).map fun p=>.slice (some ⟨p.1,p.2+off,none⟩) len cap
 | .agg vs=>(aJ V vs).map fun xs=>.agg xs.toArray
 | .eD vs=>(aJ V vs).map fun xs=>.tuple xs.toArray
 | .fn f fs cs=>(aJ V fs).bind fun x=>(aJ V cs).map fun y=>.func f x.toArray y.toArray
 | .jS t v=>(den V v).map fun x=>.iface t x
 | .raw v=>some v
 | .buf l=>V.σ l
 | .mT l off=>match V.σ l with
   | some (.slice (some a) _ _)=>some (.pointer (some (a.add off)))
   | _=>none
 | .mS l lo hi=>match V.σ l with
   | some (.slice a _ cap)=>some (.slice (if cap=lo then a else a.map (·.add lo)) (hi-lo) (cap-lo))
   | _=>none
 | .dO l off len lo=>(V.β l).bind fun p=>(qM (V.σ l)).map fun c=>.slice (some ⟨p.1,p.2+off,none⟩) len (c-lo)
 | .dX l n=>(V.σ l).bind (yR n)
 | .ai k xs=>some (.agg (xs.map (Value.int k)).toArray)
 | .rT l n cap sz j le=>(V.β l).bind fun p=>(V.β le).bind fun q=>match decide (q=(p.1,p.2+j*sz)) with
   | true=>some (.slice (some ⟨p.1,p.2,none⟩) n cap)
   | false=>none
def aJ (V:bF):List SV->Option (List Value)
 | []=>some []
 | v::vs=>(den V v).bind fun x=>(aJ V vs).map fun xs=>x::xs
end
def bF.le (V V':bF):Prop:=(∀ l p,V.β l=some p->V'.β l=some p)/\(∀ l v,V.σ l=some v->V'.σ l=some v)
theorem bF.le_refl (V:bF):V.le V:=⟨fun _ _ h=>h,fun _ _ h=>h⟩
theorem bF.le_trans {U V W:bF} (h:U.le V) (k:V.le W):U.le W:=⟨fun l p e=>k.1 l p (h.1 l p e),fun l v e=>k.2 l v (h.2 l v e)⟩
mutual
theorem kO {V V':bF} (h:V.le V'):∀ {v:SV} {x:Value},den V v=some x->den V' v=some x
 | .int ..,_,e=>by simpa [den] using e
 | .bool ..,_,e=>by simpa [den] using e
 | .ptr l s off,x,e=>by
   simp only [den,Option.map_eq_some_iff] at e |-
   obtain ⟨p,hp,rfl⟩:=e
   exact ⟨p,h.1 l p hp,rfl⟩
 | .aI l s off len cap,x,e=>by
   simp only [den,Option.map_eq_some_iff] at e |-
   obtain ⟨p,hp,rfl⟩:=e
   exact ⟨p,h.1 l p hp,rfl⟩
 | .agg vs,x,e=>by
   simp only [den,Option.map_eq_some_iff] at e |-
   obtain ⟨p,hp,rfl⟩:=e
   exact ⟨p,dI h hp,rfl⟩
 | .eD vs,x,e=>by
   simp only [den,Option.map_eq_some_iff] at e |-
   obtain ⟨p,hp,rfl⟩:=e
   exact ⟨p,dI h hp,rfl⟩
 | .fn f fs cs,x,e=>by
   simp only [den,Option.map_eq_some_iff,Option.bind_eq_some_iff] at e |-
   obtain ⟨p,hp,q,hq,rfl⟩:=e
   exact ⟨p,dI h hp,q,dI h hq,rfl⟩
 | .jS t v,x,e=>by
   simp only [den,Option.map_eq_some_iff] at e |-
   obtain ⟨p,hp,rfl⟩:=e
   exact ⟨p,kO h hp,rfl⟩
 | .raw v,x,e=>by simpa [den] using e
 | .buf l,x,e=>by simp only [den] at e |-;exact h.2 l x e
 | .mT l off,x,e=>by
   simp only [den] at e |-
   split at e
   .rename_i hs;rw [h.2 l _ hs];exact e
   .cases e
 | .mS l lo hi,x,e=>by
   simp only [den] at e |-
   split at e
   .rename_i hs;rw [h.2 l _ hs];exact e
   .cases e
 | .dO l off len lo,x,e=>by
   simp only [den,Option.map_eq_some_iff,Option.bind_eq_some_iff] at e |-
   obtain ⟨p,hp,c,hc,rfl⟩:=e
   refine ⟨p,h.1 l _ hp,c,?_,rfl⟩
   cases hs:V.σ l with
   | none=>rw [hs] at hc;cases hc
   | some v=>rw [h.2 l v hs,<- hs];exact hc
 | .dX l n,x,e=>by
   simp only [den,Option.bind_eq_some_iff] at e |-
   obtain ⟨v,hv,hx⟩:=e
   exact ⟨v,h.2 l v hv,hx⟩
 | .ai k xs,x,e=>by simpa [den] using e
 | .rT l n cap sz j le,x,e=>by
   simp only [den,Option.bind_eq_some_iff] at e |-
   obtain ⟨p,hp,q,hq,e⟩:=e
   exact ⟨p,h.1 l p hp,q,h.1 le q hq,e⟩
theorem dI {V V':bF} (h:V.le V'):∀ {vs:List SV} {xs:List Value},aJ V vs=some xs->aJ V' vs=some xs
 | [],_,e=>by simpa [aJ] using e
 | v::vs,xs,e=>by
   simp only [aJ,Option.map_eq_some_iff,Option.bind_eq_some_iff] at e |-
   obtain ⟨x,hx,ys,hy,rfl⟩:=e
   exact ⟨x,kO h hx,ys,dI h hy,rfl⟩
end
theorem bN {V:bF}:∀ {vs:List SV} {xs:List Value},aJ V vs=some xs->xs.length=vs.length
 | [],_,e=>by simp only [aJ,Option.some.injEq] at e;subst e;rfl
 | v::vs,xs,e=>by
   simp only [aJ,Option.map_eq_some_iff,Option.bind_eq_some_iff] at e
   obtain ⟨x,hx,ys,hy,rfl⟩:=e
   simp [bN hy]
theorem eF {V:bF}:∀ {vs:List SV} {xs:List Value},aJ V vs=some xs->∀ (i:Nat) (v:SV),vs[i]?=some v->∃ x,xs[i]?=some x/\den V v=some x
 | [],_,_,i,v,hi=>by simp at hi
 | v::vs,xs,e,i,u,hi=>by
   simp only [aJ,Option.map_eq_some_iff,Option.bind_eq_some_iff] at e
   obtain ⟨x,hx,ys,hy,rfl⟩:=e
   cases i with
   | zero=>simp only [List.getElem?_cons_zero,Option.some.injEq] at hi;subst hi;exact ⟨x,rfl,hx⟩
   | succ i=>simp only [List.getElem?_cons_succ] at hi |-;exact eF hy i u hi
theorem cJ {V:bF}:∀ {vs us:List SV} {xs ys:List Value},aJ V vs=some xs->aJ V us=some ys->aJ V (vs++us)=some (xs++ys)
 | [],us,xs,ys,e,f=>by simp only [aJ,Option.some.injEq] at e;subst e;simpa using f
 | v::vs,us,xs,ys,e,f=>by
   simp only [aJ,Option.map_eq_some_iff,Option.bind_eq_some_iff,List.cons_append] at e |-
   obtain ⟨x,hx,zs,hz,rfl⟩:=e
   exact ⟨x,hx,zs++ys,cJ hz f,rfl⟩
theorem eB {V:bF}:∀ (n:Nat) {vs:List SV} {xs:List Value},aJ V vs=some xs->aJ V (vs.take n)=some (xs.take n)
 | 0,vs,xs,_=>by simp [aJ]
 | n+1,[],xs,e=>by simp only [aJ,Option.some.injEq] at e;subst e;simp [aJ]
 | n+1,v::vs,xs,e=>by
   simp only [aJ,Option.map_eq_some_iff,Option.bind_eq_some_iff,List.take_succ_cons] at e |-
   obtain ⟨x,hx,zs,hz,rfl⟩:=e
   exact ⟨x,hx,zs.take n,eB n hz,rfl⟩
theorem iA {V:bF}:∀ (n:Nat) {vs:List SV} {xs:List Value},aJ V vs=some xs->aJ V (vs.drop n)=some (xs.drop n)
 | 0,vs,xs,e=>by simpa using e
 | n+1,[],xs,e=>by simp only [aJ,Option.some.injEq] at e;subst e;simp [aJ]
 | n+1,v::vs,xs,e=>by
   simp only [aJ,Option.map_eq_some_iff,Option.bind_eq_some_iff] at e
   obtain ⟨x,hx,zs,hz,rfl⟩:=e
   simpa using iA n hz
inductive SB where
 | own (cells:List SV) (ty:TypeId)
 | ints (k:IntKind) (xs:List Int) (ty:TypeId)
 | eY (cells:List SV)
 | oD (k:IntKind) (xs:List Int)
 | cD (k:IntKind) (xs:List Int) (ty:TypeId)
 | row (sz:Nat) (cells:List SV) (ty:TypeId)
 | fV (vs:List Value) (ty:TypeId)
 | dK (k:IntKind) (xs:List Int)
 | bO (sz n:Nat) (ty:TypeId)
 | gone
def SB.cells (V:bF):SB->Option (List Value)
 | .own cs _=>aJ V cs
 | .ints k xs _=>some (xs.map (Value.int k))
 | .eY cs=>aJ V cs
 | .oD k xs=>some (xs.map (Value.int k))
 | .cD k xs _=>some (xs.map (Value.int k))
 | .row _ cs _=>aJ V cs
 | .fV vs _=>some vs
 | .dK k xs=>some (xs.map (Value.int k))
 | .bO _ _ _=>some []
 | .gone=>some []
def SB.owned:SB->Bool
 | .eY _ | .oD _ _ | .dK _ _ | .gone=>false
 | _=>true
def SB.bB (V:bF) (l:Nat):SB->Option Nat
 | .cD .. => (V.σ l).bind Value.ownBlock
 | .dK .. => (V.σ l).bind xY
 | .bO .. => (V.σ l).bind Value.ownBlock
 | .gone=>none
 | _=>(V.β l).map (·.1)
theorem SB.iU {V V':bF} (h:V.le V') {B:SB} {cs:List Value} (e:B.cells V=some cs):B.cells V'=some cs:=by
 cases B <;> simp only [SB.cells] at e |- <;> first | exact dI h e | exact e
def tZ (w:World) (b:Nat):Prop:=∃ c t,w.heap[b]?=some (.cells c t (0,0))
theorem tZ.lt {w:World} {b:Nat} (h:tZ w b):b<w.heap.size:=by obtain ⟨c,t,h⟩:=h;exact (Array.getElem?_eq_some_iff.1 h).1
theorem tZ.rW {w w':World} {b:Nat} (h:tZ w b) (e:w'.heap[b]?=w.heap[b]?):tZ w' b:=by obtain ⟨c,t,h⟩:=h;exact ⟨c,t,e.trans h⟩
def Kn (w:World) (b:Nat) (cs:List Value):Prop:=b<w.heap.size/\∀ s,cs[0]?=some (.string s)->tZ w b
theorem Kn.lt {w:World} {b:Nat} {cs:List Value} (h:Kn w b cs):b<w.heap.size:=h.1
theorem Kn.of {w:World} {b:Nat} {cs:List Value} {c:Array Value} {t:TypeId} (h:w.heap[b]?=some (.cells c t (0,0))):Kn w b cs:=⟨(Array.getElem?_eq_some_iff.1 h).1,fun _ _=>⟨c,t,h⟩⟩
theorem Kn.rW {w w':World} {b:Nat} {cs:List Value} (h:Kn w b cs) (e:w'.heap[b]?=w.heap[b]?):Kn w' b cs:=
 ⟨Nat.lt_of_not_le fun q=>(by rw [Array.getElem?_eq_none q,Array.getElem?_eq_getElem h.1] at e;cases e),fun s hs=>(h.2 s hs).rW e⟩
def Hl (w:World) (k:IntKind) (x:Value) (ys:List Int):Prop:=
 (CI x/\ys=[])\/∃ b o c,x = .slice (some ⟨b,o,none⟩) ys.length c/\b<w.heap.size/\ys.length<=c/\∀ (j:Nat) (u:Value),(ys.map (Value.int k))[j]?=some u->w.cell? ⟨b,o+j,none⟩=some u
def okB (V:bF) (w:World) (l:Nat) (B:SB):Prop:=
 ∃ cs,B.cells V=some cs /\
 match B with
 | .own _ ty | .ints _ _ ty | .fV _ ty=>∃ b,V.β l=some (b,0)/\w.heap[b]?=some (.cells cs.toArray ty (0,0))
 | .eY _ | .oD _ _=>∃ b o,V.β l=some (b,o)/\Kn w b cs/\∀ (j:Nat) (v:Value),cs[j]?=some v->w.cell? ⟨b,o+j,none⟩=some v
 | .cD _ xs ty=>∃ v,V.σ l=some v/\w.ownsRow 0 ty 1 v xs.length cs
 | .bO sz n ty=>∃ v us,V.σ l=some v/\w.ownsRow 0 ty sz v n us/\∀ q∈us,q.oneCell'=true
 | .row sz _ ty=>∃ b cap cur,V.β l=some (b,0)/\V.σ l=some (.int .i64 (cap:Nat))/\w.heap[b]?=some (.cells cur ty (0,0))/\cap<=maxLen/\cur.size=cap*sz/\(∃ n,cs.length=n*sz/\n<=cap)/\cur.toList.take cs.length=cs
 | .dK k xs=>∃ v,V.σ l=some v/\Hl w k v xs
 | .gone=>True
structure gZ (w0:World) (M:Nat->Prop) (w:World):Prop where
 os:w.os=w0.os
 tape:w.tape=w0.tape
 output:w.output=w0.output
 size:w0.heap.size<=w.heap.size
 block:∀ k,k<w0.heap.size->¬ M k->w.heap[k]?=w0.heap[k]?
theorem gZ.refl (w:World) (M:Nat->Prop):gZ w M w:=⟨rfl,rfl,rfl,Nat.le_refl _,fun _ _ _=>rfl⟩
theorem gZ.trans {a b c:World} {M N:Nat->Prop} (h:gZ a M b) (k:gZ b N c) (hN:∀ n,n<a.heap.size->N n->M n):gZ a M c:=
 ⟨k.os.trans h.os,k.tape.trans h.tape,k.output.trans h.output,Nat.le_trans h.size k.size,
  fun i hi hM=>(k.block i (Nat.lt_of_lt_of_le hi h.size) (fun e=>hM (hN i hi e))).trans (h.block i hi hM)⟩
theorem gZ.mono {w0 w:World} {M N:Nat->Prop} (h:gZ w0 M w) (hN:∀ n,n<w0.heap.size->M n->N n):gZ w0 N w:=
 ⟨h.os,h.tape,h.output,h.size,fun k hk hn=>h.block k hk (fun e=>hn (hN k hk e))⟩
abbrev bA:=Nat->Option SB
structure aG (w0:World) (M:Nat->Prop) (V:bF) (T:bA) (w:World):Prop where
 ok:∀ l B,T l=some B->okB V w l B
 kF:∀ l B l' B' n,l≠l'->T l=some B->T l'=some B'->B.owned=true->B.bB V l=some n->B'.bB V l'≠some n
 perm:∀ l B n,T l=some B->B.owned=true->B.bB V l=some n->w0.heap.size<=n\/M n
 frame:gZ w0 M w
structure bR where
 bV:List Prop:=[]
 val:SV
 new:List SB:=[]
 wr:List (Nat × SB):=[]
def look {α:Type} (l:Nat):List (Nat × α)->Option α
 | []=>none
 | (k,v)::r=>match Nat.beq k l with
   | true=>some v
   | false=>look l r
def iE {α:Type} (lab:Nat):List α->List (Nat × α)
 | []=>[]
 | v::r=>(lab,v)::iE (lab+1) r
def bR.fM (lab:Nat) (e:bR):List (Nat × SB):=e.wr++iE lab e.new
def fL (T:bA) (lab:Nat) (e:bR):bA:=fun l=>match look l (e.fM lab) with
 | some B=>some B
 | none=>T l
theorem cI {α:Type} (l:Nat):∀ (a b:List (Nat × α)),look l (a++b)=match look l a with | some v=>some v | none=>look l b
 | [],b=>rfl
 | (k,v)::a,b=>by
   simp only [List.cons_append,look]
   cases h:Nat.beq k l with
   | true=>rfl
   | false=>exact cI l a b
theorem aL {α:Type} (l:Nat) (v:α) (r:List (Nat × α)):look l ((l,v)::r)=some v:=by simp [look,Nat.beq_refl]
theorem aF {α:Type} {l k:Nat} (h:k≠l) (v:α) (r:List (Nat × α)):look l ((k,v)::r)=look l r:=by
 have:Nat.beq k l=false:=by rw [<- Bool.not_eq_true,Nat.beq_eq];exact h
 simp [look,this]
theorem gQ {α:Type} {l:Nat} {v:α}:∀ {r:List (Nat × α)},look l r=some v->(l,v)∈r
 | [],h=>by simp [look] at h
 | (k,u)::r,h=>by
   by_cases e:k=l
   .subst e;rw [aL] at h;cases h;exact List.mem_cons_self
   .rw [aF e] at h;exact List.mem_cons_of_mem _ (gQ h)
theorem fD {α:Type}:∀ (lab:Nat) (l:List α) (k:Nat),look k (iE lab l)=if lab<=k then l[k-lab]? else none
 | lab,[],k=>by simp [iE,look]
 | lab,v::r,k=>by
   by_cases e:lab=k
   .subst e;simp [iE,aL]
   .rw [iE,aF e,fD (lab+1) r k]
    by_cases h:lab<=k
    .rw [if_pos (by omega),if_pos h]
     obtain ⟨d,rfl⟩:∃ d,k=lab+1+d:=⟨k-(lab+1),by omega⟩
     rw [show lab+1+d-lab=d+1 from by omega,show lab+1+d-(lab+1)=d from by omega]
     simp
    .rw [if_neg (by omega),if_neg h]
def bF.ext (V:bF) (lab:Nat) (V':bF):Prop:=V.le V'/\∀ l,(l<lab\/lab+8<=l)->V'.β l=V.β l/\V'.σ l=V.σ l
theorem bF.dR (V:bF) (lab:Nat):V.ext lab V:=⟨V.le_refl,fun _ _=>⟨rfl,rfl⟩⟩
def bF.fresh (V:bF) (lab:Nat):Prop:=∀ l,lab<=l->l<lab+8->V.β l=none/\V.σ l=none
def bF.put (V:bF) (l:Nat) (p:Nat × Nat):bF:={ V with β:=fun k=>if k=l then some p else V.β k }
def bF.bL (V:bF) (l:Nat) (v:Value):bF:={ V with σ:=fun k=>if k=l then some v else V.σ k }
theorem bF.lO {V:bF} {lab:Nat} (hf:V.fresh lab) (l:Nat) (h1:lab<=l) (h2:l<lab+8) (p:Nat × Nat):V.ext lab (V.put l p):=by
 refine ⟨⟨fun k q hk=>?_,fun _ _ h=>h⟩,fun k hk=>⟨?_,rfl⟩⟩
 .show (if k=l then some p else V.β k)=some q
  by_cases e:k=l
  .subst e;rw [(hf k h1 h2).1] at hk;cases hk
  .rw [if_neg e];exact hk
 .show (if k=l then some p else V.β k)=V.β k
  rw [if_neg (by omega)]
def bF.Hd (V:bF) (l:Nat) (p:Nat × Nat) (v:Value):bF:=(V.put l p).bL l v
theorem bF.dU {V:bF} {lab:Nat} (hf:V.fresh lab) (l:Nat) (h1:lab<=l) (h2:l<lab+8) (v:Value):V.ext lab (V.bL l v):=by
 refine ⟨⟨fun _ _ h=>h,fun k q hk=>?_⟩,fun k hk=>⟨rfl,?_⟩⟩
 .show (if k=l then some v else V.σ k)=some q
  by_cases e:k=l
  .subst e;rw [(hf k h1 h2).2] at hk;cases hk
  .rw [if_neg e];exact hk
 .show (if k=l then some v else V.σ k)=V.σ k
  rw [if_neg (by omega)]
theorem bF.vD {V:bF} {lab:Nat} (hf:V.fresh lab) (l:Nat) (h1:lab<=l) (h2:l<lab+8) (p:Nat × Nat) (v:Value):V.ext lab (V.Hd l p v):=by
 refine ⟨⟨fun k q hk=>?_,fun k q hk=>?_⟩,fun k hk=>⟨?_,?_⟩⟩
 .show (if k=l then some p else V.β k)=some q
  by_cases e:k=l
  .subst e;rw [(hf k h1 h2).1] at hk;cases hk
  .rw [if_neg e];exact hk
 .show (if k=l then some v else V.σ k)=some q
  by_cases e:k=l
  .subst e;rw [(hf k h1 h2).2] at hk;cases hk
  .rw [if_neg e];exact hk
 .show (if k=l then some p else V.β k)=V.β k
  rw [if_neg (by omega)]
 .show (if k=l then some v else V.σ k)=V.σ k
  rw [if_neg (by omega)]
structure TI where
 desc:TypeDesc
 size:Nat
 bytes:Nat
 zero:List SV
abbrev Sum:=List SV->bA->Nat->Nat->Option bR
structure Env where
 ty:Nat->Option TI
 aU:List (Nat × Nat)
 sum:Nat->Option Sum
 QW:Nat->Option Sum
 cmp:List Nat:=[]
def cG (P:Program) (Γ:Env):Prop:=∀ t ti,Γ.ty t=some ti->P.underlying t=some ti.desc /\
 ∃ i z,P.info? t=some i/\i.size=ti.size/\i.bytes=ti.bytes/\i.zero=some z/\∀ V,aJ V ti.zero=some z.cells.toList
def sY:Value->SV
 | .int k n=>.int true k n
 | .bool b=>.bool true b
 | v=>.raw v
def DO:Value->SV
 | .agg cs=>.agg (cs.toList.map sY)
 | v=>sY v
theorem Rs (V:bF) (v:Value):den V (sY v)=some v:=by cases v <;> simp [sY,den]
theorem rD (V:bF):∀ l:List Value,aJ V (l.map sY)=some l
 | []=>by simp [aJ]
 | v::l=>by simp [aJ,Rs,rD V l]
theorem Zi (V:bF) (v:Value):den V (DO v)=some v:=by
 cases v <;> simp [DO,sY,den,rD]
def tiP (P:Program) (t:Nat):Option TI:=match P.info? t with
 | some i=>match P.underlying t,i.zero with
   | some d,some z=>some { desc:=d,size:=i.size,bytes:=i.bytes,zero:=z.cells.toList.map sY }
   | _,_=>none
 | none=>none
theorem cG.prog {P:Program} {Γ:Env} (h:Γ.ty=tiP P):cG P Γ:=by
 intro t ti ht
 rw [h] at ht
 unfold tiP at ht
 split at ht
 case h_2=>cases ht
 rename_i i hi
 split at ht
 case h_2=>cases ht
 rename_i d z hd hz
 cases ht
 exact ⟨hd,i,z,hi,rfl,rfl,hz,fun V=>rD V _⟩
def ev (Γ:Env) (g:Nat->Option SV):Operand->Option SV
 | .tmp t=>g t
 | .const v=>some (DO v)
 | .global n=>(look n Γ.aU).map fun l=>.ptr l true 0
 | .func f=>some (.fn (.func f) [] [])
def dG (V:bF) (g:Nat->Option SV) (a:Act):Prop:=∀ t v,g t=some v->den V v=some (a.eval (.tmp t))
def cC (Γ:Env) (V:bF):Prop:=∀ n l,look n Γ.aU=some l->V.β l=some (n,0)
theorem bT {Γ:Env} {V:bF} {g:Nat->Option SV} {a:Act} (ht:dG V g a) (hg:cC Γ V):∀ {x:Operand} {v:SV},ev Γ g x=some v->den V v=some (a.eval x)
 | .tmp t,v,h=>ht t v h
 | .const c,v,h=>by simp only [ev,Option.some.injEq] at h;subst h;exact Zi V c
 | .global n,v,h=>by
   simp only [ev,Option.map_eq_some_iff] at h
   obtain ⟨l,hl,rfl⟩:=h
   simp [den,hg n l hl,Act.eval]
 | .func f,v,h=>by simp only [ev,Option.some.injEq] at h;subst h;simp [den,aJ,Act.eval]
def PL (Γ:Env) (g:Nat->Option SV):List Operand->Option (List SV)
 | []=>some []
 | x::r=>match ev Γ g x,PL Γ g r with
   | some v,some vs=>some (v::vs)
   | _,_=>none
theorem Ie {Γ:Env} {V:bF} {g:Nat->Option SV} {a:Act} (ht:dG V g a) (hg:cC Γ V):∀ {xs:List Operand} {vs:List SV},PL Γ g xs=some vs->aJ V vs=some (xs.map a.eval)
 | [],vs,h=>by simp only [PL,Option.some.injEq] at h;subst h;simp [aJ]
 | x::r,vs,h=>by
   simp only [PL] at h
   split at h
   .rename_i v us hv Gm
    cases h
    simp [aJ,bT ht hg hv,Ie ht hg Gm]
   .cases h
def sO (s:Bool) (p:Prop) [Decidable p]:Option (List Prop):=match s with
 | true=>match decide p with
   | true=>some []
   | false=>none
 | false=>some [p]
theorem iR {s:Bool} {p:Prop} [Decidable p] {l:List Prop} (h:sO s p=some l) (ho:∀ q∈l,q):p:=by
 cases s with
 | true=>
   simp only [sO] at h
   split at h
   .rename_i hd;exact of_decide_eq_true hd
   .cases h
 | false=>simp only [sO,Option.some.injEq] at h;subst h;exact ho p (by simp)
def Vi (h:Option Bool) (s:Bool) (b:Bool):bR:=match s with
 | true=>{ val:=.bool true b }
 | false=>match h with
   | some c=>{ bV:=[b=c],val:=.bool true c }
   | none=>{ val:=.bool false b }
theorem GW (V:bF) {h:Option Bool} {s b:Bool} (ho:∀ q∈(Vi h s b).bV,q):den V (Vi h s b).val=some (.bool b)/\(Vi h s b).new=[]/\(Vi h s b).wr=[]:=by
 unfold Vi at *
 split
 .simp [den]
 .split
  .rename_i c
   have hb:b=c:=ho (b=c) (by simp)
   subst hb
   simp [den]
  .simp [den]
theorem kL (T:bA) (lab:Nat) {e:bR} (hn:e.new=[]) (hw:e.wr=[]):fL T lab e=T:=by
 funext l;simp [fL,bR.fM,hn,hw,iE,look]
def pU (P:Program) (w0:World) (M:Nat->Prop) (V:bF) (T:bA) (lab:Nat) (e:bR) (o:Oper) (a:Act) (w:World):Prop:=
 ∀ K Q,(∀ V' x w',V.ext lab V'->den V' e.val=some x->aG w0 M V' (fL T lab e) w'->K (a.put o.dst x) w')->o.wp P a w K Q
theorem bK {P:Program} {w0:World} {M:Nat->Prop} {V:bF} {T:bA} {lab:Nat} {e:bR} {o:Oper} {a:Act} {w:World} {x:Value}
 (hr:(execOp a.eval o).run P w = .ok (.value x) w) (hx:den V e.val=some x) (hn:e.new=[]) (hw:e.wr=[]) (hT:aG w0 M V T w):pU P w0 M V T lab e o a w:=by
 intro K Q hK
 unfold Oper.wp
 rw [hr,Oper.upon_value]
 exact hK V x w (V.dR lab) hx (by rw [kL T lab hn hw];exact hT)
section Tables
variable {w0 w w':World} {M:Nat->Prop} {V V':bF} {T:bA} {lab:Nat}
theorem aG.known (h:aG w0 M V T w) {l:Nat} {B:SB} (hl:T l=some B) (hg:B ≠ .gone):V.β l≠none\/V.σ l≠none:=by
 obtain ⟨cs,_,h2⟩:=h.ok l B hl
 cases B with
 | own cells ty=>obtain ⟨b,hb,_⟩:=h2;left;rw [hb];simp
 | ints k xs ty=>obtain ⟨b,hb,_⟩:=h2;left;rw [hb];simp
 | fV vs ty=>obtain ⟨b,hb,_⟩:=h2;left;rw [hb];simp
 | eY cells=>obtain ⟨b,o,hb,_⟩:=h2;left;rw [hb];simp
 | oD k xs=>obtain ⟨b,o,hb,_⟩:=h2;left;rw [hb];simp
 | cD k xs ty=>obtain ⟨v,hv,_⟩:=h2;right;rw [hv];simp
 | bO sz n ty=>obtain ⟨v,us,hv,_⟩:=h2;right;rw [hv];simp
 | row sz cells ty=>obtain ⟨b,_,_,hb,_⟩:=h2;left;rw [hb];simp
 | dK k xs=>obtain ⟨v,hv,_⟩:=h2;right;rw [hv];simp
 | gone=>exact absurd rfl hg
theorem yG {ty:TypeId} {sz n:Nat} {v:Value} {cs:List Value} (h:w.ownsRow 0 ty sz v n cs) {k:Nat} (hk:v.ownBlock=some k):k<w.heap.size:=(h.lt k hk).2
theorem okB.lt {l:Nat} {B:SB} (h:okB V w l B) {n:Nat} (hn:B.bB V l=some n):n<w.heap.size:=by
 obtain ⟨cs,_,h2⟩:=h
 cases B with
 | own cells ty=>obtain ⟨b,hb,hh⟩:=h2;simp [SB.bB,hb] at hn;subst hn;exact (Array.getElem?_eq_some_iff.1 hh).1
 | ints k xs ty=>obtain ⟨b,hb,hh⟩:=h2;simp [SB.bB,hb] at hn;subst hn;exact (Array.getElem?_eq_some_iff.1 hh).1
 | fV vs ty=>obtain ⟨b,hb,hh⟩:=h2;simp [SB.bB,hb] at hn;subst hn;exact (Array.getElem?_eq_some_iff.1 hh).1
 | eY cells=>obtain ⟨b,o,hb,cK,_⟩:=h2;simp [SB.bB,hb] at hn;subst hn;exact cK.lt
 | oD k xs=>obtain ⟨b,o,hb,cK,_⟩:=h2;simp [SB.bB,hb] at hn;subst hn;exact cK.lt
 | cD k xs ty=>obtain ⟨v,hv,ho⟩:=h2;simp [SB.bB,hv] at hn;exact yG ho hn
 | bO sz n ty=>obtain ⟨v,us,hv,ho,_⟩:=h2;simp [SB.bB,hv] at hn;exact yG ho hn
 | row sz cells ty=>obtain ⟨b,_,_,hb,_,hh,_⟩:=h2;simp [SB.bB,hb] at hn;subst hn;exact (Array.getElem?_eq_some_iff.1 hh).1
 | dK k xs=>
   obtain ⟨v,hv,ho⟩:=h2
   simp only [SB.bB,hv,Option.bind_some] at hn
   rcases ho with ⟨⟨a,rfl⟩,_⟩ | ⟨b,o,c,rfl,cK,_⟩
   .cases hn
   .cases hY hn;exact cK
 | gone=>simp [SB.bB] at hn
theorem vM {ty:TypeId} {sz n:Nat} {v:Value} {cs:List Value} (h:w.ownsRow 0 ty sz v n cs) (hb:∀ k,v.ownBlock=some k->w'.heap[k]?=w.heap[k]?):w'.ownsRow 0 ty sz v n cs:=by
 refine ⟨h.1,?_⟩
 rcases h.2 with hn | ⟨g,cap,cur,rfl,Dp,hh,r⟩
 .exact .inl hn
 .exact .inr ⟨g,cap,cur,rfl,Dp,by rw [hb g rfl];exact hh,r⟩
theorem okB.rW {l:Nat} {B:SB} (h:okB V w l B) (hV:V.le V') (hs:w.heap.size<=w'.heap.size) (hb:∀ n,B.bB V l=some n->w'.heap[n]?=w.heap[n]?):okB V' w' l B:=by
 obtain ⟨cs,hc,h2⟩:=h
 refine ⟨cs,SB.iU hV hc,?_⟩
 cases B with
 | own cells ty=>obtain ⟨b,hβ,hh⟩:=h2;exact ⟨b,hV.1 _ _ hβ,by rw [hb b (by simp [SB.bB,hβ])];exact hh⟩
 | ints k xs ty=>obtain ⟨b,hβ,hh⟩:=h2;exact ⟨b,hV.1 _ _ hβ,by rw [hb b (by simp [SB.bB,hβ])];exact hh⟩
 | fV vs ty=>obtain ⟨b,hβ,hh⟩:=h2;exact ⟨b,hV.1 _ _ hβ,by rw [hb b (by simp [SB.bB,hβ])];exact hh⟩
 | eY cells=>
   obtain ⟨b,o,hβ,cK,hh⟩:=h2
   refine ⟨b,o,hV.1 _ _ hβ,cK.rW (hb b (by simp [SB.bB,hβ])),fun j v hj=>?_⟩
   rw [<- hh j v hj]
   exact World.cell?_of_block (w:=w) (hb b (by simp [SB.bB,hβ]))
 | oD k xs=>
   obtain ⟨b,o,hβ,cK,hh⟩:=h2
   refine ⟨b,o,hV.1 _ _ hβ,cK.rW (hb b (by simp [SB.bB,hβ])),fun j v hj=>?_⟩
   rw [<- hh j v hj]
   exact World.cell?_of_block (w:=w) (hb b (by simp [SB.bB,hβ]))
 | cD k xs ty=>obtain ⟨v,hσ,ho⟩:=h2;exact ⟨v,hV.2 _ _ hσ,vM ho (fun k hk=>hb k (by simp [SB.bB,hσ,hk]))⟩
 | bO sz n ty=>obtain ⟨v,us,hσ,ho,hq⟩:=h2;exact ⟨v,us,hV.2 _ _ hσ,vM ho (fun k hk=>hb k (by simp [SB.bB,hσ,hk])),hq⟩
 | row sz cells ty=>obtain ⟨b,cap,cur,hβ,hσ,hh,r⟩:=h2;exact ⟨b,cap,cur,hV.1 _ _ hβ,hV.2 _ _ hσ,by rw [hb b (by simp [SB.bB,hβ])];exact hh,r⟩
 | dK k xs=>
   obtain ⟨v,hσ,ho⟩:=h2
   refine ⟨v,hV.2 _ _ hσ,?_⟩
   rcases ho with ho | ⟨b,o,c,rfl,cK,hc,hh⟩
   .exact .inl ho
   .refine .inr ⟨b,o,c,rfl,Nat.lt_of_lt_of_le cK hs,hc,fun j v hj=>?_⟩
    rw [<- hh j v hj]
    have Wg:j<xs.length:=by simpa using (List.getElem?_eq_some_iff.1 hj).1
    obtain ⟨m,rfl⟩:∃ m,c=m+1:=⟨c-1,by omega⟩
    exact World.cell?_of_block (w:=w) (hb b (by simp [SB.bB,hσ,xY,Value.ownBlock]))
 | gone=>trivial
theorem SB.aKb (hV:V.le V') {l:Nat} {B:SB} {n:Nat} (h:B.bB V l=some n):B.bB V' l=some n:=by
 cases B <;> simp only [SB.bB,Option.map_eq_some_iff,Option.bind_eq_some_iff] at h |-
 case gone=>cases h
 case cD=>obtain ⟨v,hv,e⟩:=h;exact ⟨v,hV.2 _ _ hv,e⟩
 case bO=>obtain ⟨v,hv,e⟩:=h;exact ⟨v,hV.2 _ _ hv,e⟩
 case dK=>obtain ⟨v,hv,e⟩:=h;exact ⟨v,hV.2 _ _ hv,e⟩
 all_goals (obtain ⟨p,hp,e⟩:=h;exact ⟨p,hV.1 _ _ hp,e⟩)
theorem okB.tD {l:Nat} {B:SB} (h:okB V w l B) (hV:V.le V'):B.bB V' l=B.bB V l:=by
 obtain ⟨cs,_,h2⟩:=h
 cases B with
 | own cells ty=>obtain ⟨b,hb,_⟩:=h2;simp [SB.bB,hb,hV.1 _ _ hb]
 | ints k xs ty=>obtain ⟨b,hb,_⟩:=h2;simp [SB.bB,hb,hV.1 _ _ hb]
 | fV vs ty=>obtain ⟨b,hb,_⟩:=h2;simp [SB.bB,hb,hV.1 _ _ hb]
 | eY cells=>obtain ⟨b,o,hb,_⟩:=h2;simp [SB.bB,hb,hV.1 _ _ hb]
 | oD k xs=>obtain ⟨b,o,hb,_⟩:=h2;simp [SB.bB,hb,hV.1 _ _ hb]
 | cD k xs ty=>obtain ⟨v,hv,_⟩:=h2;simp [SB.bB,hv,hV.2 _ _ hv]
 | bO sz n ty=>obtain ⟨v,us,hv,_⟩:=h2;simp [SB.bB,hv,hV.2 _ _ hv]
 | row sz cells ty=>obtain ⟨b,_,_,hb,_⟩:=h2;simp [SB.bB,hb,hV.1 _ _ hb]
 | dK k xs=>obtain ⟨v,hv,_⟩:=h2;simp [SB.bB,hv,hV.2 _ _ hv]
 | gone=>simp [SB.bB]
theorem aG.step (h:aG w0 M V T w) (hV:V.le V') {N T':bA}
 (hT:∀ l B,T' l=some B->N l=some B\/(N l=none/\T l=some B))
 (hN:∀ l B,N l=some B->okB V' w' l B)
 (gA:∀ l B n,N l=some B->B.bB V' l=some n->w.heap.size<=n\/(∃ l0 B0,T l0=some B0/\B0.owned=true/\B0.bB V l0=some n/\N l0≠none)\/B.owned=false/\∀ l2 B2,N l2=none->T l2=some B2->B2.owned=true->B2.bB V l2≠some n)
 (aQs:∀ l B l' B' n,l≠l'->N l=some B->N l'=some B'->B.owned=true->B.bB V' l=some n->B'.bB V' l'≠some n)
 (Sw:w.heap.size<=w'.heap.size)
 (Sy:∀ n,n<w.heap.size->(∀ l B0,T l=some B0->B0.owned=true->N l≠none->B0.bB V l≠some n)->w'.heap[n]?=w.heap[n]?)
 (hos:w'.os=w.os) (Lj:w'.tape=w.tape) (BQ:w'.output=w.output):aG w0 M V' T' w' where
 ok:=fun l B hl=>by
  rcases hT l B hl with hn | ⟨hn,ho⟩
  .exact hN l B hn
  .refine (h.ok l B ho).rW hV Sw (fun n hb=>Sy n ((h.ok l B ho).lt hb) fun l1 B1 h1 h2 h3 h4=>?_)
   by_cases e:l1=l
   .subst e;exact h3 hn
   .exact h.kF l1 B1 l B n e h1 ho h2 h4 hb
 kF:=fun l B l' B' n dP hl sB jC hb=>by
  rcases hT l B hl with hn | ⟨hn,ho⟩ <;> rcases hT l' B' sB with Oe | ⟨Oe,lI⟩
  .exact aQs l B l' B' n dP hn Oe jC hb
  .rw [(h.ok l' B' lI).tD hV]
   intro iZ
   rcases gA l B n hn hb with AP | ⟨l0,B0,h0,h1,h2,h3⟩ | ⟨hf,_⟩
   .have:=(h.ok l' B' lI).lt iZ;omega
   .exact h.kF l0 B0 l' B' n (fun e=>h3 (e ▸ Oe)) h0 lI h1 h2 iZ
   .rw [hf] at jC;cases jC
  .rw [(h.ok l B ho).tD hV] at hb
   intro iZ
   rcases gA l' B' n Oe iZ with AP | ⟨l0,B0,h0,h1,h2,h3⟩ | ⟨_,hf⟩
   .have:=(h.ok l B ho).lt hb;omega
   .exact h.kF l B l0 B0 n (fun e=>h3 (e ▸ hn)) ho h0 jC hb h2
   .exact hf l B hn ho jC hb
  .rw [(h.ok l B ho).tD hV] at hb
   rw [(h.ok l' B' lI).tD hV]
   exact h.kF l B l' B' n dP ho lI jC hb
 perm:=fun l B n hl jC hb=>by
  rcases hT l B hl with hn | ⟨hn,ho⟩
  .rcases gA l B n hn hb with AP | ⟨l0,B0,h0,h1,h2,_⟩ | ⟨hf,_⟩
   .left;have:=h.frame.size;omega
   .exact h.perm l0 B0 n h0 h1 h2
   .rw [hf] at jC;cases jC
  .rw [(h.ok l B ho).tD hV] at hb
   exact h.perm l B n ho jC hb
 frame:=by
  refine ⟨hos.trans h.frame.os,Lj.trans h.frame.tape,BQ.trans h.frame.output,Nat.le_trans h.frame.size Sw,fun k hk hM=>?_⟩
  rw [<- h.frame.block k hk hM]
  refine Sy k (Nat.lt_of_lt_of_le hk h.frame.size) fun l B0 h1 h2 _ h4=>?_
  rcases h.perm l B0 k h1 h2 h4 with AP | hm
  .omega
  .exact hM hm
theorem aG.alloc (h:aG w0 M V T w) (hf:V.fresh lab) {B:SB} {cs:List Value} {ty:TypeId} (hB:B = .own (match B with | .own c _=>c | _=>[]) ty\/B = .ints (match B with | .ints k _ _=>k | _=>.i8) (match B with | .ints _ xs _=>xs | _=>[]) ty\/B = .fV (match B with | .fV vs _=>vs | _=>[]) ty) (hc:B.cells V=some cs) (v:SV) (l:List Prop) :
 aG w0 M (V.put lab (w.heap.size,0)) (fL T lab { bV:=l,val:=v,new:=[B] }) (w.alloc (.cells cs.toArray ty)):=by
 have bW:=bF.lO hf lab (Nat.le_refl _) (by omega) (w.heap.size,0)
 have Ap:(V.put lab (w.heap.size,0)).β lab=some (w.heap.size,0):=by simp [bF.put]
 refine h.step (N:=fun k=>if k=lab then some B else none) bW.1 (fun k C hk=>?_) (fun k C hk=>?_) (fun k C n hk hb=>?_) (fun k C k' C' n dP hk jK=>?_) (by simp) (fun n hn _=>heap_alloc_old w _ hn) rfl rfl rfl
 .simp only [fL,bR.fM,iE,List.nil_append] at hk
  by_cases e:lab=k
  .subst e;rw [aL] at hk;left;simpa using hk
  .rw [aF e] at hk;right;simp only [look] at hk;exact ⟨if_neg (fun x=>e x.symm),hk⟩
 .by_cases e:k=lab
  .subst e
   simp only [if_true,Option.some.injEq] at hk
   subst hk
   refine ⟨cs,SB.iU bW.1 hc,?_⟩
   rcases hB with hB | hB | hB <;> rw [hB] <;> exact ⟨w.heap.size,Ap,heap_alloc_new w _⟩
  .simp [e] at hk
 .by_cases e:k=lab
  .subst e
   simp only [if_true,Option.some.injEq] at hk
   subst hk
   left
   rcases hB with hB | hB | hB <;> (rw [hB] at hb;simp [SB.bB,Ap] at hb;omega)
  .simp [e] at hk
 .by_cases e:k=lab
  .by_cases e':k'=lab
   .omega
   .simp [e'] at jK
  .simp [e] at hk
theorem aG.write (h:aG w0 M V T w) {l:Nat} {B0 B:SB} {b:Nat} {Jz cs:List Value} {ty:TypeId} (hl:T l=some B0) (hβ:V.β l=some (b,0)) (jC:B0.owned=true) (h0:B0.bB V l=some b)
 (Lm:w.heap[b]?=some (.cells Jz.toArray ty (0,0))) (hc:B.cells V=some cs)
 (hB:B = .own (match B with | .own c _=>c | _=>[]) ty\/B = .ints (match B with | .ints k _ _=>k | _=>.i8) (match B with | .ints _ xs _=>xs | _=>[]) ty\/B = .fV (match B with | .fV vs _=>vs | _=>[]) ty) (lab:Nat) (v:SV) (ob:List Prop) :
 aG w0 M V (fL T lab { bV:=ob,val:=v,wr:=[(l,B)] }) (w.setRow b cs.toArray):=by
 have aQu:B.bB V l=some b:=by rcases hB with hB | hB | hB <;> (rw [hB];simp [SB.bB,hβ])
 refine h.step (N:=fun k=>if k=l then some B else none) (bF.le_refl V) (fun k C hk=>?_) (fun k C hk=>?_) (fun k C n hk hb=>?_) (fun k C k' C' n dP hk jK=>?_) (by simp) (fun n hn hx=>?_) rfl rfl rfl
 .simp only [fL,bR.fM,iE,List.append_nil] at hk
  by_cases e:l=k
  .subst e;rw [aL] at hk;left;simpa using hk
  .rw [aF e] at hk;right;simp only [look] at hk;exact ⟨if_neg (fun x=>e x.symm),hk⟩
 .by_cases e:k=l
  .subst e
   simp only [if_true,Option.some.injEq] at hk
   subst hk
   refine ⟨cs,hc,?_⟩
   have:=setRow_heap w b Jz.toArray cs.toArray ty (0,0) Lm
   rcases hB with hB | hB | hB <;> rw [hB] <;> exact ⟨b,hβ,this⟩
  .simp [e] at hk
 .by_cases e:k=l
  .subst e
   simp only [if_true,Option.some.injEq] at hk
   subst hk
   right;left
   rw [aQu] at hb
   cases hb
   exact ⟨k,B0,hl,jC,h0,by simp⟩
  .simp [e] at hk
 .by_cases e:k=l
  .by_cases e':k'=l
   .omega
   .simp [e'] at jK
  .simp [e] at hk
 .refine setRow_other w b n _ fun e=>?_
  subst e
  exact hx l B0 hl jC (by simp) h0
theorem aG.aRy (h:aG w0 M V T w) (hh:w'.heap=w.heap) (hos:w'.os=w.os) (Lj:w'.tape=w.tape) (BQ:w'.output=w.output):aG w0 M V T w':=
 h.step (N:=fun _=>none) (bF.le_refl V) (fun l B hl=>.inr ⟨rfl,hl⟩) (fun _ _ hk=>by cases hk) (fun _ _ _ hk=>by cases hk) (fun _ _ _ _ _ _ hk=>by cases hk) (by rw [hh];exact Nat.le_refl _) (fun n _ _=>by rw [hh]) hos Lj BQ
end Tables
def cB (k:IntKind) (x y:Int):Int:=k.wrap ((BitVec.ofInt k.bits x &&& BitVec.ofInt k.bits y).toNat:Int)
def oG (k:IntKind) (x y:Int):Int:=k.wrap ((BitVec.ofInt k.bits x ||| BitVec.ofInt k.bits y).toNat:Int)
def gB (k:IntKind) (x y:Int):Int:=k.wrap ((BitVec.ofInt k.bits x ^^^ BitVec.ofInt k.bits y).toNat:Int)
def bBv (k:IntKind) (x y:Int):Int:=k.wrap ((BitVec.ofInt k.bits x &&& ~~~(BitVec.ofInt k.bits y)).toNat:Int)
def dZ (k:IntKind) (x y:Int):Int:=k.wrap (x*2^(min y.toNat k.bits))
def cE (k:IntKind) (x y:Int):Int:=x.fdiv (2^(min y.toNat k.bits))
def lit (v:SV):Option bR:=some { val:=v }
def eA (v:SV) (l:List Prop):bR:={ bV:=l,val:=v }
def Wq (h:Option Bool) (op:BinOp) (k:IntKind) (a:Int) (k2:IntKind) (b:Int) (sa sb:Bool):Option bR:=
 match op with
 | .shl=>(sO sb (0<=b)).map (eA (.int (sa&&sb) k (dZ k a b)))
 | .shr=>(sO sb (0<=b)).map (eA (.int (sa&&sb) k (cE k a b)))
 | _=>match decide (k=k2) with
   | false=>none
   | true=>match op with
     | .add=>lit (.int (sa&&sb) k (k.wrap (a+b)))
     | .sub=>lit (.int (sa&&sb) k (k.wrap (a-b)))
     | .mul=>lit (.int (sa&&sb) k (k.wrap (a*b)))
     | .quo=>(sO sb (b≠0)).map (eA (.int (sa&&sb) k (k.wrap (a.tdiv b))))
     | .rem=>(sO sb (b≠0)).map (eA (.int (sa&&sb) k (a.tmod b)))
     | .and=>lit (.int (sa&&sb) k (cB k a b))
     | .or=>lit (.int (sa&&sb) k (oG k a b))
     | .xor=>lit (.int (sa&&sb) k (gB k a b))
     | .andNot=>lit (.int (sa&&sb) k (bBv k a b))
     | .eql=>some (Vi h (sa&&sb) (a==b))
     | .neq=>some (Vi h (sa&&sb) (a != b))
     | .lss=>some (Vi h (sa&&sb) (decide (a<b)))
     | .leq=>some (Vi h (sa&&sb) (decide (a<=b)))
     | .gtr=>some (Vi h (sa&&sb) (decide (a>b)))
     | .geq=>some (Vi h (sa&&sb) (decide (a>=b)))
     | _=>none
theorem YE {P:Program} (V:bF) (w:World) {h:Option Bool} {op:BinOp} {k:IntKind} {a:Int} {k2:IntKind} {b:Int} {sa sb:Bool} {e:bR} (t:TypeId)
 (he:Wq h op k a k2 b sa sb=some e) (ho:∀ q∈e.bV,q) :
 ∃ x,(binOp op t (.int k a) (.int k2 b)).run P w = .ok x w/\den V e.val=some x/\e.new=[]/\e.wr=[]:=by
 have hk:op ≠ .shl->op ≠ .shr->k=k2:=by
  intro h1 h2
  cases op <;> simp only [Wq] at he <;> first | (split at he <;> first | (cases he;done) | (rename_i hd;exact of_decide_eq_true hd)) | exact absurd rfl h1 | exact absurd rfl h2
 cases op
 case shl=>
  simp only [Wq,Option.map_eq_some_iff] at he
  obtain ⟨l,hl,rfl⟩:=he
  have hb:=iR hl ho
  exact ⟨_,by simp only [binOp,Op.shift];rw [if_neg (by omega)];rfl,rfl,rfl,rfl⟩
 case shr=>
  simp only [Wq,Option.map_eq_some_iff] at he
  obtain ⟨l,hl,rfl⟩:=he
  have hb:=iR hl ho
  exact ⟨_,by simp only [binOp,Op.shift];rw [if_neg (by omega)];rfl,rfl,rfl,rfl⟩
 all_goals
  have jK:=hk (by simp) (by simp)
  subst jK
  simp only [Wq,decide_true] at he
 case quo=>
  simp only [Option.map_eq_some_iff] at he
  obtain ⟨l,hl,rfl⟩:=he
  have hb:=iR hl ho
  exact ⟨_,by simp only [binOp];rw [if_neg (by simp)];simp only [Op.intDiv];rw [if_neg hb];rfl,rfl,rfl,rfl⟩
 case rem=>
  simp only [Option.map_eq_some_iff] at he
  obtain ⟨l,hl,rfl⟩:=he
  have hb:=iR hl ho
  exact ⟨_,by simp only [binOp];rw [if_neg (by simp)];simp only [Op.intDiv];rw [if_neg hb];rfl,rfl,rfl,rfl⟩
 all_goals first
  | (simp only [lit,Option.some.injEq] at he;subst he;exact ⟨_,by simp only [binOp];rw [if_neg (by simp)];rfl,rfl,rfl,rfl⟩)
  | (simp only [Option.some.injEq] at he;subst he;obtain ⟨h1,h2,h3⟩:=GW V ho;exact ⟨_,by simp only [binOp];rw [if_neg (by simp)];rfl,h1,h2,h3⟩)
  | (cases he;done)
def QH:SV->Option Bool
 | .raw (.pointer none)=>some true
 | .ptr .. => some false
 | _=>none
def QG:SV->Option Bool
 | .raw (.slice none _ _)=>some true
 | .aI .. => some false
 | .dO .. => some false
 | _=>none
def QI:SV->Option Bool
 | .raw .nilIface=>some true
 | .jS .. => some false
 | _=>none
def tV (op:BinOp) (b:Bool):Option bR:=match op with
 | .eql=>lit (.bool true b)
 | .neq=>lit (.bool true (!b))
 | _=>none
def eEq (h:Option Bool) (op:BinOp) (d:TypeDesc) (cc:Bool) (x y:SV):Option bR:=
 match d with
 | .pointer _=>match QH x,QH y with
   | some a,some b=>match a||b with
     | true=>tV op (a&&b)
     | false=>none
   | _,_=>none
 | .slice _=>match QG x,QG y with
   | some a,some b=>match a||b with
     | true=>tV op (a&&b)
     | false=>none
   | _,_=>none
 | .interface _=>match QI x,QI y with
   | some true,some true=>match cc with
     | true=>tV op true
     | false=>none
   | some true,some false=>tV op false
   | some false,some true=>tV op false
   | _,_=>none
 | .bool=>match x,y with
   | .bool sa a,.bool sb b=>match op with
     | .eql=>some (Vi h (sa&&sb) (a==b))
     | .neq=>some (Vi h (sa&&sb) (!(a==b)))
     | _=>none
   | _,_=>none
 | _=>none
def CF (Γ:Env) (g:Nat->Option SV) (h:Option Bool) (op:BinOp) (t:TypeId) (x y:Operand):Option bR:=
 match ev Γ g x,ev Γ g y with
 | some (.int sa k a),some (.int sb k2 b)=>Wq h op k a k2 b sa sb
 | some u,some v=>match Γ.ty t with
   | some ti=>eEq h op ti.desc ((x matches .const _)||(y matches .const _)) u v
   | none=>none
 | _,_=>none
theorem dS {P:Program} (w:World) (op:BinOp) (t:TypeId) (x y:Operand) (a b:Value) (h1:¬ (a = .nilIface/\b = .nilIface)) (h2:∀ cs,a ≠ .agg cs) :
 (eqGuard op t x y a b).run P w = .ok () w:=by
 unfold eqGuard
 cases op <;> try rfl
 all_goals
  cases a <;> cases b <;> first | rfl | exact absurd rfl (h2 _) | exact absurd ⟨rfl,rfl⟩ h1
theorem zD {P:Program} (w:World) (op:BinOp) (t:TypeId) (x y:Operand) (h:((x matches .const _)||(y matches .const _))=true) :
 (eqGuard op t x y .nilIface .nilIface).run P w = .ok () w:=by
 unfold eqGuard
 cases op <;> try rfl
 all_goals (cases x <;> cases y <;> first | rfl | (simp at h;done))
theorem zC (n0:Nat) {P:Program} (w:World) {t E:TypeId} (hu:P.underlying t=some (.pointer E)) (a b:Option Addr) (h:a=none\/b=none) :
 (Op.equalIn (n0+1) t (.pointer a) (.pointer b)).run P w = .ok (a.isNone&&b.isNone) w:=by
 simp only [Op.equalIn,Sem.run_bind,run_underlying hu w,Result.andThen_ok]
 rcases h with rfl | rfl
 .simp
 .cases a <;> simp
theorem Eh {P:Program} (w:World) {t E:TypeId} (hu:P.underlying t=some (.pointer E)) (a b:Option Addr) (h:a=none\/b=none) :
 (Op.equal t (.pointer a) (.pointer b)).run P w = .ok (a.isNone&&b.isNone) w:=zC 9999 w hu a b h
theorem vR (n0:Nat) {P:Program} (w:World) {t E:TypeId} (hu:P.underlying t=some (.slice E)) (a b:Option Addr) (n c m d:Nat) (h:a=none\/b=none) :
 (Op.equalIn (n0+1) t (.slice a n c) (.slice b m d)).run P w = .ok (a.isNone&&b.isNone) w:=by
 simp only [Op.equalIn,Sem.run_bind,run_underlying hu w,Result.andThen_ok]
 rcases h with rfl | rfl
 .simp
 .cases a <;> simp
theorem zB {P:Program} (w:World) {t E:TypeId} (hu:P.underlying t=some (.slice E)) (a b:Option Addr) (n c m d:Nat) (h:a=none\/b=none) :
 (Op.equal t (.slice a n c) (.slice b m d)).run P w = .ok (a.isNone&&b.isNone) w:=vR 9999 w hu a b n c m d h
theorem vS (n0:Nat) {P:Program} (w:World) {t:TypeId} {ms:Array (String × TypeId)} (hu:P.underlying t=some (.interface ms)) (a b:Value) (h:(a = .nilIface/\(b = .nilIface\/∃ u x,b = .iface u x))\/(∃ u x,a = .iface u x)/\b = .nilIface) :
 (Op.equalIn (n0+1) t a b).run P w = .ok ((a matches .nilIface)&&(b matches .nilIface)) w:=by
 simp only [Op.equalIn,Sem.run_bind,run_underlying hu w,Result.andThen_ok]
 rcases h with ⟨rfl,rfl | ⟨u,x,rfl⟩⟩ | ⟨⟨u,x,rfl⟩,rfl⟩ <;> simp
theorem lC {P:Program} (w:World) {t:TypeId} {ms:Array (String × TypeId)} (hu:P.underlying t=some (.interface ms)) (a b:Value) (h:(a = .nilIface/\(b = .nilIface\/∃ u x,b = .iface u x))\/(∃ u x,a = .iface u x)/\b = .nilIface) :
 (Op.equal t a b).run P w = .ok ((a matches .nilIface)&&(b matches .nilIface)) w:=vS 9999 w hu a b h
theorem xV (n0:Nat) {P:Program} (w:World) {t:TypeId} (hu:P.underlying t=some .bool) (a b:Bool) :
 (Op.equalIn (n0+1) t (.bool a) (.bool b)).run P w = .ok (a==b) w:=by
 simp only [Op.equalIn,Sem.run_bind,run_underlying hu w,Result.andThen_ok]
 rfl
theorem run_equal_bool {P:Program} (w:World) {t:TypeId} (hu:P.underlying t=some .bool) (a b:Bool) :
 (Op.equal t (.bool a) (.bool b)).run P w = .ok (a==b) w:=xV 9999 w hu a b
theorem Uk {V:bF} {x:SV} {v:Value} {b:Bool} (h:QH x=some b) (hv:den V x=some v):∃ a,v = .pointer a/\a.isNone=b:=by
 unfold QH at h
 split at h
 .cases h;simp only [den,Option.some.injEq] at hv;subst hv;exact ⟨none,rfl,rfl⟩
 .cases h;simp only [den,Option.map_eq_some_iff] at hv;obtain ⟨p,_,rfl⟩:=hv;exact ⟨_,rfl,rfl⟩
 .cases h
theorem Uj {V:bF} {x:SV} {v:Value} {b:Bool} (h:QG x=some b) (hv:den V x=some v):∃ a n c,v = .slice a n c/\a.isNone=b:=by
 unfold QG at h
 split at h
 .cases h;simp only [den,Option.some.injEq] at hv;subst hv;exact ⟨none,_,_,rfl,rfl⟩
 .cases h;simp only [den,Option.map_eq_some_iff] at hv;obtain ⟨p,_,rfl⟩:=hv;exact ⟨_,_,_,rfl,rfl⟩
 .cases h
  simp only [den,Option.map_eq_some_iff,Option.bind_eq_some_iff] at hv
  obtain ⟨p,_,c,_,rfl⟩:=hv
  exact ⟨_,_,_,rfl,rfl⟩
 .cases h
theorem rO {V:bF} {x:SV} {v:Value} {b:Bool} (h:QI x=some b) (hv:den V x=some v):(b=true/\v = .nilIface)\/(b=false/\∃ u y,v = .iface u y):=by
 unfold QI at h
 split at h
 .cases h;simp only [den,Option.some.injEq] at hv;subst hv;exact .inl ⟨rfl,rfl⟩
 .cases h;simp only [den,Option.map_eq_some_iff] at hv;obtain ⟨p,_,rfl⟩:=hv;exact .inr ⟨rfl,_,_,rfl⟩
 .cases h
theorem uF {P:Program} (V:bF) {w:World} {op:BinOp} {b:Bool} {e:bR} (h:tV op b=some e) {t:TypeId} {x y:Value}
 (hr:(Op.equal t x y).run P w = .ok b w) (hd:binOp op t x y=(match op with | .eql=>(do pure (.bool (<- Op.equal t x y))) | _=>(do pure (.bool (!(<- Op.equal t x y)))))) :
 ∃ z,(binOp op t x y).run P w = .ok z w/\den V e.val=some z/\e.new=[]/\e.wr=[]:=by
 rw [hd]
 cases op <;> simp only [tV,lit] at h <;> first | (cases h;done) | skip
 all_goals
  cases h
  exact ⟨_,by simp only [Sem.run_bind,hr,Result.andThen_ok,Sem.run_pure],rfl,rfl,rfl⟩
theorem aJc {P:Program} (V:bF) (w:World) {h:Option Bool} {op:BinOp} {d:TypeDesc} {X Y:Operand} {x y:SV} {t:TypeId} {e:bR} {u v:Value}
 (he:eEq h op d ((X matches .const _)||(Y matches .const _)) x y=some e) (ho:∀ q∈e.bV,q) (hu:P.underlying t=some d) (hx:den V x=some u) (hy:den V y=some v) :
 ∃ z,((do eqGuard op t X Y u v;binOp op t u v):Sem Value).run P w = .ok z w/\den V e.val=some z/\e.new=[]/\e.wr=[]:=by
 unfold eEq at he
 split at he
 case h_1 E=>
  split at he
  .rename_i a b ha hb
   split at he
   .rename_i AT
    obtain ⟨p,rfl,rfl⟩:=Uk ha hx
    obtain ⟨q,rfl,rfl⟩:=Uk hb hy
    have hr:=Eh (P:=P) w hu p q (by cases p <;> cases q <;> simp at AT |-)
    obtain ⟨z,h1,h2⟩:=uF V he hr (by cases op <;> first | rfl | (cases he;done))
    refine ⟨z,?_,h2⟩
    rw [Sem.run_bind,dS w op t X Y _ _ (by simp) (by simp),Result.andThen_ok]
    exact h1
   .cases he
  .cases he
 case h_2 E=>
  split at he
  .rename_i a b ha hb
   split at he
   .rename_i AT
    obtain ⟨p,n,c,rfl,rfl⟩:=Uj ha hx
    obtain ⟨q,m,k,rfl,rfl⟩:=Uj hb hy
    have hr:=zB (P:=P) w hu p q n c m k (by cases p <;> cases q <;> simp at AT |-)
    obtain ⟨z,h1,h2⟩:=uF V he hr (by cases op <;> first | rfl | (cases he;done))
    refine ⟨z,?_,h2⟩
    rw [Sem.run_bind,dS w op t X Y _ _ (by simp) (by simp),Result.andThen_ok]
    exact h1
   .cases he
  .cases he
 case h_3 ms=>
  split at he
  .rename_i ha hb
   split at he
   .rename_i Dn
    obtain ⟨_,rfl⟩ | ⟨hf,_⟩:=rO ha hx
    obtain ⟨_,rfl⟩ | ⟨hf,_⟩:=rO hb hy
    .have hr:=lC (P:=P) w hu .nilIface .nilIface (.inl ⟨rfl,.inl rfl⟩)
     obtain ⟨z,h1,h2⟩:=uF V he hr (by cases op <;> first | rfl | (cases he;done))
     refine ⟨z,?_,h2⟩
     rw [Sem.run_bind,zD w op t X Y Dn,Result.andThen_ok]
     exact h1
    .cases hf
    .cases hf
   .cases he
  .rename_i ha hb
   obtain ⟨_,rfl⟩ | ⟨hf,_⟩:=rO ha hx
   obtain ⟨hf,_⟩ | ⟨_,U,z,rfl⟩:=rO hb hy
   .cases hf
   .have hr:=lC (P:=P) w hu .nilIface (.iface U z) (.inl ⟨rfl,.inr ⟨_,_,rfl⟩⟩)
    obtain ⟨z,h1,h2⟩:=uF V he hr (by cases op <;> first | rfl | (cases he;done))
    refine ⟨z,?_,h2⟩
    rw [Sem.run_bind,dS w op t X Y _ _ (by simp) (by simp),Result.andThen_ok]
    exact h1
   .cases hf
  .rename_i ha hb
   obtain ⟨hf,_⟩ | ⟨_,U,z,rfl⟩:=rO ha hx
   .cases hf
   obtain ⟨_,rfl⟩ | ⟨hf,_⟩:=rO hb hy
   .have hr:=lC (P:=P) w hu (.iface U z) .nilIface (.inr ⟨⟨_,_,rfl⟩,rfl⟩)
    obtain ⟨z,h1,h2⟩:=uF V he hr (by cases op <;> first | rfl | (cases he;done))
    refine ⟨z,?_,h2⟩
    rw [Sem.run_bind,dS w op t X Y _ _ (by simp) (by simp),Result.andThen_ok]
    exact h1
   .cases hf
  .cases he
 case h_4=>
  split at he
  .rename_i sa a sb b
   simp only [den,Option.some.injEq] at hx hy
   subst hx;subst hy
   have hr:=run_equal_bool (P:=P) w hu a b
   have hg:=dS (P:=P) w op t X Y (.bool a) (.bool b) (by simp) (by simp)
   cases op <;> simp only at he <;> first | (cases he;done) | skip
   all_goals
    cases he
    obtain ⟨h1,h2,h3⟩:=GW V ho
    exact ⟨_,by rw [Sem.run_bind,hg,Result.andThen_ok];simp only [binOp,Sem.run_bind,hr,Result.andThen_ok,Sem.run_pure],h1,h2,h3⟩
  .cases he
 case h_5=>cases he
theorem Jj {P:Program} {Γ:Env} {V:bF} {w w0:World} {M:Nat->Prop} {T:bA} {g:Nat->Option SV} {a:Act} (aM:cG P Γ) (ht:dG V g a) (hg:cC Γ V) (hT:aG w0 M V T w)
 {h:Option Bool} {op:BinOp} {t t2:TypeId} {x y:Operand} {o:Oper} (cM:o.op = .binOp op t x y t2) {e:bR} (he:CF Γ g h op t x y=some e) (ho:∀ q∈e.bV,q) (lab:Nat) :
 pU P w0 M V T lab e o a w:=by
 unfold CF at he
 split at he
 .rename_i sa k A sb k2 B hx hy
  have ex:=bT ht hg hx
  have ey:=bT ht hg hy
  simp only [den,Option.some.injEq] at ex ey
  obtain ⟨z,h1,h2,h3,h4⟩:=YE (P:=P) V w t he ho
  refine bK (x:=z) ?_ h2 h3 h4 hT
  unfold execOp
  simp only [cM,<- ex,<- ey,Sem.run_bind,dS w op t x y (.int k A) (.int k2 B) (by simp) (by simp),Result.andThen_ok,h1,Sem.run_pure]
 .rename_i u v _ hx hy
  split at he
  .rename_i ti fN
   obtain ⟨z,h1,h2,h3,h4⟩:=aJc (P:=P) V w he ho (aM t ti fN).1 (bT ht hg hx) (bT ht hg hy)
   refine bK (x:=z) ?_ h2 h3 h4 hT
   unfold execOp
   simp only [cM]
   rw [Sem.run_bind,h1]
   rfl
  .cases he
 .cases he
def eUn (Γ:Env) (g:Nat->Option SV) (op:UnOp) (x:Operand):Option bR:=
 match op,ev Γ g x with
 | .neg,some (.int s k n)=>lit (.int s k (k.wrap (0-n)))
 | .xor,some (.int s k n)=>lit (.int s k (gB k (if k.signed then -1 else k.max) n))
 | .not,some (.bool s b)=>lit (.bool s (!b))
 | _,_=>none
theorem aJb {P:Program} {Γ:Env} {V:bF} {w w0:World} {M:Nat->Prop} {T:bA} {g:Nat->Option SV} {a:Act} (ht:dG V g a) (hg:cC Γ V) (hT:aG w0 M V T w)
 {op:UnOp} {t:TypeId} {x:Operand} {o:Oper} (cM:o.op = .unOp op t x) {e:bR} (he:eUn Γ g op x=some e) (lab:Nat):pU P w0 M V T lab e o a w:=by
 unfold eUn at he
 split at he <;> first | (cases he;done) | skip
 all_goals
  rename_i hx
  have ex:=bT ht hg hx
  simp only [den,Option.some.injEq] at ex
  simp only [lit,Option.some.injEq] at he
  subst he
  refine bK (by unfold execOp;simp only [cM,<- ex];rfl) rfl rfl rfl hT
def EY (Γ:Env) (g:Nat->Option SV) (src dst:TypeId) (x:Operand):Option bR:=
 match ev Γ g x,Γ.ty src,Γ.ty dst with
 | some (.int s _ n),some _,some td=>match td.desc with
   | .int k=>lit (.int s k (k.wrap n))
   | _=>none
 | _,_,_=>none
theorem MI {P:Program} {Γ:Env} {V:bF} {w w0:World} {M:Nat->Prop} {T:bA} {g:Nat->Option SV} {a:Act} (aM:cG P Γ) (ht:dG V g a) (hg:cC Γ V) (hT:aG w0 M V T w)
 {src dst:TypeId} {x:Operand} {o:Oper} (cM:o.op = .convert src dst x) {e:bR} (he:EY Γ g src dst x=some e) (lab:Nat):pU P w0 M V T lab e o a w:=by
 unfold EY at he
 split at he
 .rename_i s k0 n ts td hx h1 h2
  split at he
  .rename_i k hk
   have ex:=bT ht hg hx
   simp only [den,Option.some.injEq] at ex
   simp only [lit,Option.some.injEq] at he
   subst he
   refine bK (x:=.int k (k.wrap n)) ?_ rfl rfl rfl hT
   unfold execOp
   simp only [cM,<- ex,convert,Sem.run_bind,run_underlying (aM src ts h1).1 w,run_underlying (aM dst td h2).1 w,Result.andThen_ok,hk]
   rfl
  .cases he
 .cases he
def wP:TypeDesc->Bool
 | .struct _ | .array _ _=>true
 | _=>false
theorem bY (b o j:Nat):(⟨b,o,none⟩:Addr).add j=⟨b,o+j,none⟩:=by
 unfold Addr.add;split <;> simp_all
section Run
variable {P:Program} {w:World} {t:TypeId} {d:TypeDesc} {i:TypeInfo}
theorem fS (hu:P.underlying t=some d):(isAgg t).run P w = .ok (wP d) w:=by
 unfold isAgg
 rw [Sem.run_bind,run_underlying hu w]
 cases d <;> rfl
theorem run_sizeOf (hi:P.info? t=some i):(sizeOf t).run P w = .ok i.size w:=by
 simp [sizeOf,typeInfo,hi]
theorem fK {z:Value} (hi:P.info? t=some i) (hz:i.zero=some z):(zeroValue t).run P w = .ok z w:=by
 simp [zeroValue,typeInfo,hi,hz]
theorem eI (hu:P.underlying t=some d) (hi:P.info? t=some i) (b o:Nat) (xs:List Value) (hx:xs.length=i.size)
 (hc:∀ (j:Nat) (v:Value),xs[j]?=some v->w.cell? ⟨b,o+j,none⟩=some v) :
 (wP d=true->(loadVar t ⟨b,o,none⟩).run P w = .ok (.agg xs.toArray) w) /\
 (wP d=false->∀ x,xs=[x]->(loadVar t ⟨b,o,none⟩).run P w = .ok x w):=by
 refine ⟨fun h=>?_,fun h x gL=>?_⟩
 .have hl:=run_loadCells_list (P:=P) w ⟨b,o,none⟩ xs (fun j v hj=>by rw [bY];exact hc j v hj)
  rw [hx] at hl
  simp [loadVar,fS hu,h,run_sizeOf hi,hl]
 .subst gL
  have:=hc 0 x rfl
  simp only [Nat.add_zero] at this
  simp [loadVar,fS hu,h,this]
theorem Ns (v:Value) (h:v.oneCell'=true):v.cells = #[v]:=by cases v <;> first | rfl | (cases h;done)
end Run
def cellsOf:SV->List SV
 | .agg vs=>vs
 | v=>[v]
def QE:SV->Bool
 | .int .. | .bool .. | .ptr .. | .aI .. | .fn .. | .jS .. | .mT .. | .mS .. | .dO .. | .dX .. => true
 | .raw v=>v.oneCell'
 | _=>false
theorem Ue {V:bF}:∀ {v:SV} {x:Value},QE v=true->den V v=some x->x.oneCell'=true
 | .int ..,x,_,h=>by simp only [den,Option.some.injEq] at h;subst h;rfl
 | .bool ..,x,_,h=>by simp only [den,Option.some.injEq] at h;subst h;rfl
 | .ptr ..,x,_,h=>by simp only [den,Option.map_eq_some_iff] at h;obtain ⟨p,_,rfl⟩:=h;rfl
 | .aI ..,x,_,h=>by simp only [den,Option.map_eq_some_iff] at h;obtain ⟨p,_,rfl⟩:=h;rfl
 | .fn ..,x,_,h=>by simp only [den,Option.map_eq_some_iff,Option.bind_eq_some_iff] at h;obtain ⟨p,_,q,_,rfl⟩:=h;rfl
 | .jS ..,x,_,h=>by simp only [den,Option.map_eq_some_iff] at h;obtain ⟨p,_,rfl⟩:=h;rfl
 | .mT ..,x,_,h=>by
   simp only [den] at h
   split at h
   .cases h;rfl
   .cases h
 | .mS ..,x,_,h=>by
   simp only [den] at h
   split at h
   .cases h;rfl
   .cases h
 | .raw v,x,h1,h=>by simp only [den,Option.some.injEq] at h;subst h;exact h1
 | .agg ..,_,h,_=>by cases h
 | .ai ..,_,h,_=>by cases h
 | .eD ..,_,h,_=>by cases h
 | .buf ..,_,h,_=>by cases h
 | .dO ..,x,_,h=>by
   simp only [den,Option.map_eq_some_iff,Option.bind_eq_some_iff] at h
   obtain ⟨p,_,c,_,rfl⟩:=h
   rfl
 | .dX ..,x,_,h=>by
   simp only [den,Option.bind_eq_some_iff] at h
   obtain ⟨v,_,h⟩:=h
   rcases rI h with ⟨rfl,⟨⟨_,rfl⟩,_⟩ | ⟨b,o,c,rfl,_⟩⟩ <;> rfl
def nN (vs:List SV):Bool:=vs.all QE
theorem rN {V:bF}:∀ {vs:List SV} {xs:List Value},nN vs=true->aJ V vs=some xs->∀ x∈xs,x.oneCell'=true
 | [],xs,_,h=>by simp only [aJ,Option.some.injEq] at h;subst h;simp
 | v::vs,xs,h1,h=>by
   simp only [aJ,Option.map_eq_some_iff,Option.bind_eq_some_iff] at h
   obtain ⟨x,hx,ys,hy,rfl⟩:=h
   simp only [nN,List.all_cons,Bool.and_eq_true] at h1
   intro z hz
   rcases List.mem_cons.1 hz with rfl | hz
   .exact Ue h1.1 hx
   .exact rN (by simpa [nN] using h1.2) hy z hz
def rdL (cs:List SV) (s:Bool) (off n:Nat):Option (List Prop × List SV):=match s with
 | true=>match Nat.beq ((cs.drop off).take n).length n with
   | true=>some ([],(cs.drop off).take n)
   | false=>none
 | false=>none
def Rz (B:SB) (s:Bool) (off n:Nat):Option (List Prop × List SV):=
 match B with
 | .own cs _=>rdL cs s off n
 | .row _ cs _=>rdL cs s off n
 | .eY cs=>rdL cs s off n
 | .ints k xs _=>some ([off+n<=xs.length],(List.range n).map fun j=>.int false k (xs.getD (off+j) 0))
 | .oD k xs=>some ([off+n<=xs.length],(List.range n).map fun j=>.int false k (xs.getD (off+j) 0))
 | .fV vs _=>some ([off+n<=vs.length],(List.range n).map fun j=>.raw (vs.getD (off+j) undef))
 | _=>none
theorem fT {V:bF} (n:Nat) (f:Nat->SV) (g:Nat->Value) (h:∀ j,j<n->den V (f j)=some (g j)):aJ V ((List.range n).map f)=some ((List.range n).map g):=by
 induction n with
 | zero=>simp [aJ]
 | succ n ih=>
   rw [List.range_succ,List.map_append,List.map_append]
   exact cJ (ih fun j hj=>h j (by omega)) (by simp [aJ,h n (by omega)])
theorem pD {V:bF} {w:World} {l:Nat} {B:SB} {s:Bool} {off n:Nat} {ob:List Prop} {r:List SV} {b o:Nat} (hB:okB V w l B) (hβ:V.β l=some (b,o))
 (h:Rz B s off n=some (ob,r)) (ho:∀ q∈ob,q) :
 ∃ xs:List Value,aJ V r=some xs/\xs.length=n/\∀ (j:Nat) (v:Value),xs[j]?=some v->w.cell? ⟨b,o+off+j,none⟩=some v:=by
 obtain ⟨cs,hc,h2⟩:=hB
 have key:(∀ (j:Nat) (v:Value),cs[j]?=some v->w.cell? ⟨b,o+j,none⟩=some v)\/(∀ b o,V.β l=some (b,o)->False)\/(∃ k xs ty,B = .cD k xs ty)\/B = .gone:=by
  cases B with
  | own cells ty=>obtain ⟨b',hb,hh⟩:=h2;rw [hβ] at hb;cases hb;left;intro j v hj;rw [cell_of_row w b (0+j) _ _ _ hh];simpa using hj
  | ints k xs ty=>obtain ⟨b',hb,hh⟩:=h2;rw [hβ] at hb;cases hb;left;intro j v hj;rw [cell_of_row w b (0+j) _ _ _ hh];simpa using hj
  | fV vs ty=>obtain ⟨b',hb,hh⟩:=h2;rw [hβ] at hb;cases hb;left;intro j v hj;rw [cell_of_row w b (0+j) _ _ _ hh];simpa using hj
  | eY cells=>obtain ⟨b',o',hb,_,hh⟩:=h2;rw [hβ] at hb;cases hb;exact .inl hh
  | oD k xs=>obtain ⟨b',o',hb,_,hh⟩:=h2;rw [hβ] at hb;cases hb;exact .inl hh
  | cD k xs ty=>exact .inr (.inr (.inl ⟨_,_,_,rfl⟩))
  | bO=>cases h
  | row sz cells ty=>
    obtain ⟨b',cap,cur,hb,_,hh,_,_,_,eQ⟩:=h2
    rw [hβ] at hb;cases hb
    left
    intro j v hj
    rw [cell_of_row w b (0+j) _ _ _ hh]
    rw [<- eQ,List.getElem?_take] at hj
    split at hj
    .simpa using hj
    .cases hj
  | dK=>cases h
  | gone=>exact .inr (.inr (.inr rfl))
 have lst:∀ cells:List SV,rdL cells s off n=some (ob,r) ->
  aJ V cells=some cs->∃ xs:List Value,aJ V r=some xs/\xs.length=n/\∀ (j:Nat) (v:Value),xs[j]?=some v->cs[off+j]?=some v:=by
  intro cells h hc
  unfold rdL at h
  split at h
  .split at h
   .rename_i hlen
    simp only [Option.some.injEq,Prod.mk.injEq] at h
    obtain ⟨rfl,rfl⟩:=h
    have hd:=eB n (iA off hc)
    refine ⟨_,hd,by rw [bN hd];exact Nat.eq_of_beq_eq_true hlen,fun j v hj=>?_⟩
    rw [List.getElem?_take] at hj
    split at hj
    .rwa [List.getElem?_drop] at hj
    .cases hj
   .cases h
  .cases h
 have rng:∀ (f:Nat->SV) (gv:Nat->Value),(∀ j,off+j<cs.length->den V (f j)=some (gv j)/\cs[off+j]?=some (gv j))->off+n<=cs.length->r=(List.range n).map f ->
  ∃ xs:List Value,aJ V r=some xs/\xs.length=n/\∀ (j:Nat) (v:Value),xs[j]?=some v->cs[off+j]?=some v:=by
  intro f gv hf hn hr
  subst hr
  refine ⟨_,fT n f gv (fun j hj=>(hf j (by omega)).1),by simp,fun j v hj=>?_⟩
  by_cases cK:j<n
  .simp only [List.getElem?_map,List.getElem?_range cK,Option.map_some,Option.some.injEq] at hj
   subst hj
   exact (hf j (by omega)).2
  .rw [List.getElem?_eq_none (by simp;omega)] at hj;cases hj
 have fin:∀ xs:List Value,(∀ (j:Nat) (v:Value),xs[j]?=some v->cs[off+j]?=some v)->(∀ (j:Nat) (v:Value),cs[j]?=some v->w.cell? ⟨b,o+j,none⟩=some v) ->
  ∀ (j:Nat) (v:Value),xs[j]?=some v->w.cell? ⟨b,o+off+j,none⟩=some v:=fun xs h1 h2 j v hj=>by
  rw [Nat.add_assoc];exact h2 _ _ (h1 j v hj)
 rcases key with key | key | ⟨k,xs,ty,rfl⟩ | rfl
 .cases B with
  | own cells ty=>obtain ⟨xs,h1,h2,h3⟩:=lst cells h hc;exact ⟨xs,h1,h2,fin xs h3 key⟩
  | eY cells=>obtain ⟨xs,h1,h2,h3⟩:=lst cells h hc;exact ⟨xs,h1,h2,fin xs h3 key⟩
  | row sz cells ty=>obtain ⟨xs,h1,h2,h3⟩:=lst cells h hc;exact ⟨xs,h1,h2,fin xs h3 key⟩
  | ints k ys ty=>
    simp only [Rz,Option.some.injEq,Prod.mk.injEq] at h
    obtain ⟨rfl,rfl⟩:=h
    simp only [SB.cells,Option.some.injEq] at hc
    subst hc
    have hn:off+n<=ys.length:=ho _ (by simp)
    obtain ⟨xs,h1,h2,h3⟩:=rng _ (fun j=>.int k (ys.getD (off+j) 0)) (fun j hj=>⟨rfl,by
     have hj':off+j<ys.length:=by simpa using hj
     simp [hj',List.getD_eq_getElem?_getD]⟩) (by simpa using hn) rfl
    exact ⟨xs,h1,h2,fin xs h3 key⟩
  | oD k ys=>
    simp only [Rz,Option.some.injEq,Prod.mk.injEq] at h
    obtain ⟨rfl,rfl⟩:=h
    simp only [SB.cells,Option.some.injEq] at hc
    subst hc
    have hn:off+n<=ys.length:=ho _ (by simp)
    obtain ⟨xs,h1,h2,h3⟩:=rng _ (fun j=>.int k (ys.getD (off+j) 0)) (fun j hj=>⟨rfl,by
     have hj':off+j<ys.length:=by simpa using hj
     simp [hj',List.getD_eq_getElem?_getD]⟩) (by simpa using hn) rfl
    exact ⟨xs,h1,h2,fin xs h3 key⟩
  | fV ys ty=>
    simp only [Rz,Option.some.injEq,Prod.mk.injEq] at h
    obtain ⟨rfl,rfl⟩:=h
    simp only [SB.cells,Option.some.injEq] at hc
    subst hc
    have hn:off+n<=ys.length:=ho _ (by simp)
    obtain ⟨xs,h1,h2,h3⟩:=rng _ (fun j=>ys.getD (off+j) undef) (fun j hj=>⟨rfl,by
     have hj':off+j<ys.length:=by simpa using hj
     simp [hj',List.getD_eq_getElem?_getD]⟩) (by simpa using hn) rfl
    exact ⟨xs,h1,h2,fin xs h3 key⟩
  | cD=>cases h
  | dK=>cases h
  | bO=>cases h
  | gone=>cases h
 .exact (key b o hβ).elim
 .cases h
 .cases h
def dV (k:IntKind):List SV->Option (List Int)
 | []=>some []
 | .int _ k2 n::r=>match decide (k=k2) with
   | true=>(dV k r).map (n :: ·)
   | false=>none
 | _=>none
theorem dQ {V:bF} {k:IntKind}:∀ {vs:List SV} {ns:List Int},dV k vs=some ns->aJ V vs=some (ns.map (Value.int k))
 | [],ns,h=>by simp only [dV,Option.some.injEq] at h;subst h;simp [aJ]
 | .int s k2 n::r,ns,h=>by
   simp only [dV] at h
   split at h
   .rename_i hd
    have:=of_decide_eq_true hd
    subst this
    simp only [Option.map_eq_some_iff] at h
    obtain ⟨ms,hm,rfl⟩:=h
    simp [aJ,den,dQ hm]
   .cases h
 | .bool .. :: r,_,h=>by cases h
 | .ptr .. :: r,_,h=>by cases h
 | .aI .. :: r,_,h=>by cases h
 | .agg .. :: r,_,h=>by cases h
 | .eD .. :: r,_,h=>by cases h
 | .fn .. :: r,_,h=>by cases h
 | .jS .. :: r,_,h=>by cases h
 | .raw .. :: r,_,h=>by cases h
 | .buf .. :: r,_,h=>by cases h
 | .mT .. :: r,_,h=>by cases h
 | .mS .. :: r,_,h=>by cases h
 | .dX .. :: r,_,h=>by cases h
 | .ai .. :: r,_,h=>by cases h
theorem aG.change {w0 w w':World} {M:Nat->Prop} {V:bF} {T:bA} (h:aG w0 M V T w) {l:Nat} {B0 B:SB} {b:Nat} (hl:T l=some B0) (jC:B0.owned=true) (h0:B0.bB V l=some b)
 (oW:okB V w' l B) (hb:B.bB V l=some b) (Sw:w.heap.size<=w'.heap.size) (Sy:∀ n,n<w.heap.size->n≠b->w'.heap[n]?=w.heap[n]?)
 (hos:w'.os=w.os) (Lj:w'.tape=w.tape) (BQ:w'.output=w.output) (lab:Nat) (v:SV) (ob:List Prop) :
 aG w0 M V (fL T lab { bV:=ob,val:=v,wr:=[(l,B)] }) w':=by
 refine h.step (N:=fun k=>if k=l then some B else none) (bF.le_refl V) (fun k C hk=>?_) (fun k C hk=>?_) (fun k C n hk iZ=>?_) (fun k C k' C' n dP hk jK=>?_) Sw (fun n hn hx=>?_) hos Lj BQ
 .simp only [fL,bR.fM,iE,List.append_nil] at hk
  by_cases e:l=k
  .subst e;rw [aL] at hk;left;simpa using hk
  .rw [aF e] at hk;right;simp only [look] at hk;exact ⟨if_neg (fun x=>e x.symm),hk⟩
 .by_cases e:k=l
  .subst e
   simp only [if_true,Option.some.injEq] at hk
   subst hk
   exact oW
  .simp [e] at hk
 .by_cases e:k=l
  .subst e
   simp only [if_true,Option.some.injEq] at hk
   subst hk
   right;left
   rw [hb] at iZ
   cases iZ
   exact ⟨k,B0,hl,jC,h0,by simp⟩
  .simp [e] at hk
 .by_cases e:k=l
  .by_cases e':k'=l
   .omega
   .simp [e'] at jK
  .simp [e] at hk
 .refine Sy n hn fun e=>?_
  subst e
  exact hx l B0 hl jC (by simp) h0
theorem No {α:Type} (cur cs xs:List α) (off:Nat) (h:cur.take cs.length=cs) (hle:off+xs.length<=cs.length) :
 (cur.take off++xs++cur.drop (off+xs.length)).take cs.length=cs.take off++xs++cs.drop (off+xs.length):=by
 have hl:cs.length<=cur.length:=by
  have:=congrArg List.length h
  rw [List.length_take] at this
  omega
 apply List.ext_getElem?
 intro j
 have hj:∀ i,i<cs.length->cur[i]?=cs[i]?:=fun i hi=>by
  have:=congrArg (fun z=>z[i]?) h
  simpa [List.getElem?_take,hi] using this
 rw [List.getElem?_take]
 have e1:(cur.take off).length=off:=by simp;omega
 have e2:(cs.take off).length=off:=by simp;omega
 split
 .rename_i cK
  simp only [List.getElem?_append,List.length_append,e1,e2,List.getElem?_take,List.getElem?_drop]
  split
  .split
   .rename_i h3;exact hj j cK
   .rfl
  .rw [hj _ (by omega)]
 .rename_i AP
  symm
  apply List.getElem?_eq_none
  simp
  omega
def NF (B:SB) (s:Bool) (off:Nat) (vs:List SV):Option (List Prop × SB):=
 match B with
 | .own cs ty=>match s with
   | true=>match Nat.ble (off+vs.length) cs.length with
     | true=>some ([],.own (cs.take off++vs++cs.drop (off+vs.length)) ty)
     | false=>none
   | false=>none
 | .row sz cs ty=>match s with
   | true=>match Nat.ble (off+vs.length) cs.length with
     | true=>some ([],.row sz (cs.take off++vs++cs.drop (off+vs.length)) ty)
     | false=>none
   | false=>none
 | .ints k xs ty=>match vs with
   | [.int _ k2 n]=>match decide (k=k2) with
     | true=>some ([off<xs.length],.ints k (xs.set off n) ty)
     | false=>none
   | _=>match dV k vs with
     | some ns=>some ([off+ns.length<=xs.length],.ints k (xs.take off++ns++xs.drop (off+ns.length)) ty)
     | none=>none
 | _=>none
theorem Qw {α:Type} (l:List α) (i:Nat) (x:α) (h:i<l.length):l.set i x=l.take i++[x]++l.drop (i+1):=by
 rw [List.set_eq_take_append_cons_drop,if_pos h];simp
theorem Hq {V:bF} {w w0:World} {M:Nat->Prop} {T:bA} {l:Nat} {B B':SB} {s:Bool} {off:Nat} {vs:List SV} {ob:List Prop} {b o:Nat} {P:Program} {xs:List Value} (lab:Nat) (rv:SV)
 (hT:aG w0 M V T w) (hl:T l=some B) (hβ:V.β l=some (b,o)) (h:NF B s off vs=some (ob,B')) (ho:∀ q∈ob,q) (hx:aJ V vs=some xs) (h1:∀ x∈xs,x.oneCell'=true) :
 ∃ w',(storeCells ⟨b,o+off,none⟩ xs).run P w = .ok () w'/\aG w0 M V (fL T lab { bV:=ob,val:=rv,wr:=[(l,B')] }) w':=by
 have oW:=hT.ok l B hl
 obtain ⟨cs,hc,h2⟩:=oW
 cases B with
 | own cells ty=>
   obtain ⟨b',hb,hh⟩:=h2
   rw [hβ] at hb;cases hb
   simp only [NF] at h
   split at h
   .split at h
    .rename_i hle
     simp only [Option.some.injEq,Prod.mk.injEq] at h
     obtain ⟨rfl,rfl⟩:=h
     have QM:=Nat.le_of_ble_eq_true hle
     have hlen:=bN (show aJ V cells=some cs from hc)
     have Jt:=bN hx
     refine ⟨_,run_storeCells_at P b (0+off) ty xs 0 cs.toArray w hh (by simp;omega) h1,?_⟩
     have cT:aJ V (cells.take off++vs++cells.drop (off+vs.length))=some (cs.take off++xs++cs.drop (off+xs.length)):=by
      rw [Jt]
      exact cJ (cJ (eB off hc) hx) (iA _ hc)
     have:=hT.write (B0:=.own cells ty) (B:=.own (cells.take off++vs++cells.drop (off+vs.length)) ty) hl hβ rfl (by simp [SB.bB,hβ]) hh cT (.inl rfl) lab rv []
     simpa using this
    .cases h
   .cases h
 | row sz cells ty=>
   obtain ⟨b',cap,cur,hb,hσ,hh,hcm,nK,⟨n,hn,ZF⟩,eQ⟩:=h2
   rw [hβ] at hb;cases hb
   simp only [NF] at h
   split at h
   .split at h
    .rename_i hle
     simp only [Option.some.injEq,Prod.mk.injEq] at h
     obtain ⟨rfl,rfl⟩:=h
     have QM:=Nat.le_of_ble_eq_true hle
     have hlen:=bN (show aJ V cells=some cs from hc)
     have Jt:=bN hx
     have sK:cs.length<=cur.size:=by rw [hn,nK];exact Nat.mul_le_mul_right _ ZF
     have cT:aJ V (cells.take off++vs++cells.drop (off+vs.length))=some (cs.take off++xs++cs.drop (off+xs.length)):=by
      rw [Jt]
      exact cJ (cJ (eB off hc) hx) (iA _ hc)
     have hll:(cs.take off++xs++cs.drop (off+xs.length)).length=cs.length:=by simp;omega
     refine ⟨_,run_storeCells_at P b (0+off) ty xs 0 cur w hh (by simp;omega) h1,?_⟩
     have Lm:=setRow_heap w b cur (cur.toList.take (0+off+0)++xs++cur.toList.drop (0+off+0+xs.length)).toArray ty (0,0) hh
     have aXt:okB V (w.setRow b (cur.toList.take (0+off+0)++xs++cur.toList.drop (0+off+0+xs.length)).toArray) l (.row sz (cells.take off++vs++cells.drop (off+vs.length)) ty):=by
      refine ⟨_,cT,b,cap,_,hβ,hσ,Lm,hcm,?_,⟨n,by rw [hll,hn],ZF⟩,?_⟩
      .simp [<- nK];omega
      .rw [hll]
       simpa using No cur.toList cs xs off eQ (by omega)
     exact hT.change (B0:=.row sz cells ty) (b:=b) hl rfl (by simp [SB.bB,hβ]) aXt (by simp [SB.bB,hβ]) (by simp) (fun n _ dP=>setRow_other w b n _ dP) rfl rfl rfl lab rv []
    .cases h
   .cases h
 | ints k ys ty=>
   obtain ⟨b',hb,hh⟩:=h2
   rw [hβ] at hb;cases hb
   simp only [SB.cells,Option.some.injEq] at hc
   subst hc
   have gen:∀ ns:List Int,aJ V vs=some (ns.map (Value.int k))->off+ns.length<=ys.length->∀ ob,
    ∃ w',(storeCells ⟨b,0+off,none⟩ xs).run P w = .ok () w'/\aG w0 M V (fL T lab { bV:=ob,val:=rv,wr:=[(l,.ints k (ys.take off++ns++ys.drop (off+ns.length)) ty)] }) w':=by
    intro ns hns hle ob
    rw [hx] at hns
    cases hns
    refine ⟨_,run_storeCells_at P b (0+off) ty _ 0 _ w hh (by simp;omega) h1,?_⟩
    have cT:SB.cells V (.ints k (ys.take off++ns++ys.drop (off+ns.length)) ty)=some ((ys.map (Value.int k)).take off++ns.map (Value.int k)++(ys.map (Value.int k)).drop (off+(ns.map (Value.int k)).length)):=by
     simp [SB.cells,List.map_take,List.map_drop]
    have:=hT.write (B0:=.ints k ys ty) (B:=.ints k (ys.take off++ns++ys.drop (off+ns.length)) ty) hl hβ rfl (by simp [SB.bB,hβ]) hh cT (.inr (.inl rfl)) lab rv ob
    simpa using this
   simp only [NF] at h
   split at h
   .rename_i s2 k2 n
    split at h
    .rename_i hd
     have:=of_decide_eq_true hd
     subst this
     simp only [Option.some.injEq,Prod.mk.injEq] at h
     obtain ⟨rfl,rfl⟩:=h
     have cK:off<ys.length:=ho _ (by simp)
     obtain ⟨w',hr,tQ⟩:=gen [n] (by simp [aJ,den]) (by simp only [List.length_singleton];omega) [off<ys.length]
     rw [Qw ys off n cK]
     exact ⟨w',hr,tQ⟩
    .cases h
   .split at h
    .rename_i ns hns
     simp only [Option.some.injEq,Prod.mk.injEq] at h
     obtain ⟨rfl,rfl⟩:=h
     have hle:off+ns.length<=ys.length:=ho _ (by simp)
     exact gen ns (dQ hns) hle _
    .cases h
 | _=>cases h
section Gv
variable {P:Program} {Γ:Env} {V:bF} {w w0:World} {M:Nat->Prop} {T:bA} {g:Nat->Option SV} {a:Act} {o:Oper} {e:bR}
def EX (Γ:Env) (g:Nat->Option SV) (T:bA) (t:TypeId) (x:Operand):Option bR:=
 match ev Γ g x,Γ.ty t with
 | some (.ptr l s off),some ti=>match T l with
   | some B=>match Rz B s off ti.size with
     | some (ob,r)=>match wP ti.desc with
       | true=>some (eA (.agg r) ob)
       | false=>match r with
         | [v]=>some (eA v ob)
         | _=>none
     | none=>none
   | none=>none
 | some (.mT l off),some ti=>match T l,wP ti.desc with
   | some (.cD k xs _),false=>some (eA (.int false k (xs.getD off 0)) [off<xs.length])
   | some (.dK k xs),false=>some (eA (.int false k (xs.getD off 0)) [off<xs.length])
   | _,_=>none
 | _,_=>none
theorem MH (aM:cG P Γ) (ht:dG V g a) (hg:cC Γ V) {T':bA} (bC:∀ l B,T' l=some B->T l=some B) (hT:aG w0 M V T w) {t:TypeId} {x:Operand} (cM:o.op = .load t x)
 (he:EX Γ g T' t x=some e) (ho:∀ q∈e.bV,q) (lab:Nat):pU P w0 M V T lab e o a w:=by
 unfold EX at he
 split at he
 .rename_i l s off ti hx fN
  have ex:=bT ht hg hx
  simp only [den,Option.map_eq_some_iff] at ex
  obtain ⟨⟨b,base⟩,hβ,ex⟩:=ex
  obtain ⟨hu,i,z,hi,kD,_⟩:=aM t ti fN
  split at he
  .rename_i B hB
   have oW:=hT.ok l B (bC l B hB)
   split at he
   .rename_i ob r hr
    split at he
    .rename_i iM
     simp only [eA,Option.some.injEq] at he
     subst he
     obtain ⟨xs,h1,h2,h3⟩:=pD oW hβ hr ho
     have:=(eI hu hi b (base+off) xs (by rw [h2,kD]) h3).1 iM
     refine bK (x:=.agg xs.toArray) ?_ (by simp [den,h1]) rfl rfl hT
     unfold execOp
     simp only [cM,<- ex,Instr.loadAt,Instr.sureAddr,Sem.run_bind,Sem.run_pure,Result.andThen_ok,this]
    .rename_i iM
     split at he
     .rename_i v
      simp only [eA,Option.some.injEq] at he
      subst he
      obtain ⟨xs,h1,h2,h3⟩:=pD oW hβ hr ho
      simp only [aJ,Option.map_eq_some_iff,Option.bind_eq_some_iff] at h1
      obtain ⟨y,hy,ys,sJ,rfl⟩:=h1
      simp only [Option.some.injEq] at sJ
      subst sJ
      have:=(eI hu hi b (base+off) [y] (by rw [h2,kD]) h3).2 iM y rfl
      refine bK (x:=y) ?_ hy rfl rfl hT
      unfold execOp
      simp only [cM,<- ex,Instr.loadAt,Instr.sureAddr,Sem.run_bind,Sem.run_pure,Result.andThen_ok,this]
     .cases he
   .cases he
  .cases he
 .rename_i l off ti hx fN
  have ex:=bT ht hg hx
  obtain ⟨hu,i,z,hi,kD,_⟩:=aM t ti fN
  split at he
  .rename_i k xs ty hB iM
   simp only [eA,Option.some.injEq] at he
   subst he
   have cK:off<xs.length:=ho _ (by simp)
   obtain ⟨cs,hc,v,hσ,cN⟩:=hT.ok l _ (bC l _ hB)
   simp only [SB.cells,Option.some.injEq] at hc
   subst hc
   simp only [den,hσ] at ex
   obtain ⟨_,cN⟩:=cN
   rcases cN with ⟨_,h0⟩ | ⟨gb,cap,cur,rfl,_,hh,_,_,_,eQ⟩
   .rw [h0] at cK;omega
   .simp only [Option.some.injEq] at ex
    have kK:w.cell? ⟨gb,0+off,none⟩=some (.int k (xs.getD off 0)):=by
     rw [cell_of_row w gb _ _ _ _ hh]
     have h5:(cur.toList.take (xs.length*1))[off]?=some (.int k (xs.getD off 0)):=by
      rw [eQ];simp [cK,List.getD_eq_getElem?_getD]
     rw [List.getElem?_take] at h5
     split at h5
     .simpa using h5
     .cases h5
    refine bK (x:=.int k (xs.getD off 0)) ?_ rfl rfl rfl hT
    unfold execOp
    rw [bY] at ex
    simp only [Nat.zero_add] at ex kK
    simp only [cM,<- ex,Instr.loadAt,Instr.sureAddr,loadVar,Sem.run_bind,Sem.run_pure,Result.andThen_ok,fS hu,iM,Bool.false_eq_true,if_false,run_load,kK]
  .rename_i k xs hB iM
   simp only [eA,Option.some.injEq] at he
   subst he
   have cK:off<xs.length:=ho _ (by simp)
   obtain ⟨cs,hc,v,hσ,cN⟩:=hT.ok l _ (bC l _ hB)
   simp only [SB.cells,Option.some.injEq] at hc
   subst hc
   simp only [den,hσ] at ex
   rcases cN with ⟨_,h0⟩ | ⟨gb,go,cap,rfl,_,_,hh⟩
   .rw [h0] at cK;simp at cK
   .simp only [Option.some.injEq] at ex
    have kK:w.cell? ⟨gb,go+off,none⟩=some (.int k (xs.getD off 0)):=hh off _ (by simp [cK,List.getD_eq_getElem?_getD])
    refine bK (x:=.int k (xs.getD off 0)) ?_ rfl rfl rfl hT
    unfold execOp
    rw [bY] at ex
    simp only [cM,<- ex,Instr.loadAt,Instr.sureAddr,loadVar,Sem.run_bind,Sem.run_pure,Result.andThen_ok,fS hu,iM,Bool.false_eq_true,if_false,run_load,kK]
  .cases he
 .cases he
def QX (T:bA) (l:Nat):Bool:=match T l with
 | some (.cD ..)=>true
 | some (.bO ..)=>true
 | _=>false
theorem Va {T':bA} (bC:∀ l B,T' l=some B->T l=some B) {l:Nat} {x:Value} (hT:aG w0 M V T w) (h:QX T' l=true) (hx:den V (.buf l)=some x):x.oneCell'=true/\x.cells = #[x]:=by
 unfold QX at h
 split at h
 .rename_i hB
  obtain ⟨_,_,u,hσ,cN⟩:=hT.ok l _ (bC l _ hB)
  simp only [den] at hx
  rw [hσ] at hx;cases hx
  rcases cN.2 with ⟨rfl,_⟩ | ⟨_,_,_,rfl,_⟩ <;> exact ⟨rfl,rfl⟩
 .rename_i hB
  obtain ⟨_,_,oW⟩:=hT.ok l _ (bC l _ hB)
  obtain ⟨cs,u,hσ,cN,_⟩:=oW
  simp only [den] at hx
  rw [hσ] at hx;cases hx
  rcases cN.2 with ⟨rfl,_⟩ | ⟨_,_,_,rfl,_⟩ <;> exact ⟨rfl,rfl⟩
 .cases h
def Be (T:bA) (vs:List SV):Bool:=vs.all fun v=>match v with
 | .buf l=>QX T l
 | v=>QE v
theorem Cg {T':bA} (bC:∀ l B,T' l=some B->T l=some B) (hT:aG w0 M V T w):∀ {vs:List SV} {xs:List Value},Be T' vs=true->aJ V vs=some xs->∀ x∈xs,x.oneCell'=true
 | [],xs,_,h=>by simp only [aJ,Option.some.injEq] at h;subst h;simp
 | v::vs,xs,h1,h=>by
   simp only [aJ,Option.map_eq_some_iff,Option.bind_eq_some_iff] at h
   obtain ⟨x,hx,ys,hy,rfl⟩:=h
   simp only [Be,List.all_cons,Bool.and_eq_true] at h1
   intro z hz
   rcases List.mem_cons.1 hz with rfl | hz
   .have h1:=h1.1
    split at h1
    .exact (Va bC hT h1 hx).1
    .exact Ue h1 hx
   .exact Cg bC hT (by simpa [Be] using h1.2) hy z hz
theorem rE {T':bA} (bC:∀ l B,T' l=some B->T l=some B) (hT:aG w0 M V T w) {v:SV} {x:Value} (h1:Be T' (cellsOf v)=true) (h:den V v=some x):aJ V (cellsOf v)=some x.cells.toList:=by
 cases v with
 | agg vs=>
   simp only [den,Option.map_eq_some_iff] at h
   obtain ⟨xs,hx,rfl⟩:=h
   simpa [cellsOf,Value.cells] using hx
 | _=>
   have iX:x.oneCell'=true:=Cg bC hT (vs:=[_]) (xs:=[x]) (by simpa [cellsOf] using h1) (by simp [aJ,h]) x (by simp)
   rw [Ns x iX]
   simp [cellsOf,aJ,h]
def Qc (Γ:Env) (g:Nat->Option SV) (T:bA) (t:TypeId) (x y:Operand):Option bR:=
 match ev Γ g x,ev Γ g y,Γ.ty t with
 | some (.ptr l s off),some v,some ti=>match T l,Nat.beq (cellsOf v).length ti.size,Be T (cellsOf v) with
   | some B,true,true=>match NF B s off (cellsOf v) with
     | some (ob,B')=>some { bV:=ob,val:=.raw undef,wr:=[(l,B')] }
     | none=>none
   | _,_,_=>none
 | _,_,_=>none
theorem Yv (aM:cG P Γ) (ht:dG V g a) (hg:cC Γ V) {T':bA} (bC:∀ l B,T' l=some B->T l=some B) (hT:aG w0 M V T w) {t:TypeId} {x y:Operand} (cM:o.op = .store t x y)
 (he:Qc Γ g T' t x y=some e) (ho:∀ q∈e.bV,q) (lab:Nat):pU P w0 M V T lab e o a w:=by
 unfold Qc at he
 split at he
 .rename_i l s off v ti hx hy fN
  have ex:=bT ht hg hx
  simp only [den,Option.map_eq_some_iff] at ex
  obtain ⟨⟨b,base⟩,hβ,ex⟩:=ex
  have ey:=bT ht hg hy
  obtain ⟨hu,i,z,hi,kD,_⟩:=aM t ti fN
  split at he
  .rename_i B hB hlen iX
   split at he
   .rename_i ob B' hw
    simp only [Option.some.injEq] at he
    subst he
    have cT:=rE bC hT iX ey
    have aQk:=Cg bC hT iX cT
    obtain ⟨w',h1,h2⟩:=Hq (P:=P) lab (.raw undef) hT (bC l B hB) hβ hw ho cT aQk
    intro K Q hK
    have hl:(a.eval y).cells.size=i.size:=by
     have:=bN cT
     rw [kD,<- Nat.eq_of_beq_eq_true hlen,<- this];simp
    unfold Oper.wp
    have gG:(execOp a.eval o).run P w = .ok .skip w':=by
     unfold execOp
     simp [cM,<- ex,Instr.storeAt,Instr.sureAddr,storeVar,run_sizeOf hi,hl,h1]
    rw [gG,Oper.upon_skip]
    exact hK V undef w' (V.dR lab) rfl h2
   .cases he
  .cases he
 .cases he
theorem Tu (hT:aG w0 M V T w) {lab:Nat} (hf:V.fresh lab) {cells:List SV} {cs:List Value} {ty:TypeId} (hc:aJ V cells=some cs)
 (hr:(execOp a.eval o).run P w = .ok (.value (.pointer (some ⟨w.heap.size,0,none⟩))) (w.alloc (.cells cs.toArray ty))) :
 pU P w0 M V T lab { val:=.ptr lab true 0,new:=[.own cells ty] } o a w:=by
 intro K Q hK
 unfold Oper.wp
 rw [hr,Oper.upon_value]
 have:=hT.alloc hf (B:=.own cells ty) (.inl rfl) hc (.ptr lab true 0) []
 exact hK _ _ _ (bF.lO hf lab (Nat.le_refl _) (by omega) _) (by simp [den,bF.put]) this
def Qj (Γ:Env) (t:TypeId) (lab:Nat):Option bR:=
 match Γ.ty t with
 | some ti=>some { val:=.ptr lab true 0,new:=[.own ti.zero t] }
 | none=>none
theorem Zc (aM:cG P Γ) (hT:aG w0 M V T w) {t:TypeId} (cM:o.op = .alloc t) {lab:Nat} (hf:V.fresh lab) (he:Qj Γ t lab=some e):pU P w0 M V T lab e o a w:=by
 unfold Qj at he
 split at he
 .rename_i ti fN
  simp only [Option.some.injEq] at he
  subst he
  obtain ⟨hu,i,z,hi,kD,_,hz,hzero⟩:=aM t ti fN
  refine Tu hT hf (hzero V) ?_
  unfold execOp
  simp [cM,Instr.alloc,fK hi hz,newVar,newRow]
 .cases he
def aDd (Γ:Env) (g:Nat->Option SV) (T:bA) (t:TypeId) (x:Operand) (lab:Nat):Option bR:=
 match ev Γ g x with
 | some v=>match Be T (cellsOf v) with
   | true=>some { val:=.ptr lab true 0,new:=[.own (cellsOf v) t] }
   | false=>none
 | none=>none
theorem YG (ht:dG V g a) (hg:cC Γ V) {T':bA} (bC:∀ l B,T' l=some B->T l=some B) (hT:aG w0 M V T w) {t:TypeId} {x:Operand} (cM:o.op = .box t x) {lab:Nat} (hf:V.fresh lab) (he:aDd Γ g T' t x lab=some e):pU P w0 M V T lab e o a w:=by
 unfold aDd at he
 split at he
 .rename_i v hx
  split at he
  .rename_i iX
   simp only [Option.some.injEq] at he
   subst he
   have ex:=bT ht hg hx
   refine Tu hT hf (rE bC hT iX ex) ?_
   unfold execOp
   simp [cM,Instr.box,newVar,newRow]
  .cases he
 .cases he
end Gv
section Gv
variable {P:Program} {Γ:Env} {V:bF} {w w0:World} {M:Nat->Prop} {T:bA} {g:Nat->Option SV} {a:Act} {o:Oper} {e:bR}
def Td (Γ:Env) (g:Nat->Option SV) (x:Operand):Option bR:=(ev Γ g x).bind lit
theorem Ng (ht:dG V g a) (hg:cC Γ V) (hT:aG w0 M V T w) {x:Operand} (cM:o.op = .move x\/o.op = .assign x) (he:Td Γ g x=some e) (lab:Nat):pU P w0 M V T lab e o a w:=by
 simp only [Td,Option.bind_eq_some_iff,lit,Option.some.injEq] at he
 obtain ⟨v,hv,rfl⟩:=he
 refine bK (x:=a.eval x) ?_ (bT ht hg hv) rfl rfl hT
 unfold execOp
 rcases cM with h | h <;> simp only [h] <;> rfl
def EW (Γ:Env) (g:Nat->Option SV) (c x y:Operand):Option bR:=
 match ev Γ g c with
 | some (.bool true b)=>match b with
   | true=>(ev Γ g x).bind lit
   | false=>(ev Γ g y).bind lit
 | _=>none
theorem MG (ht:dG V g a) (hg:cC Γ V) (hT:aG w0 M V T w) {c x y:Operand} (cM:o.op = .pick c x y) (he:EW Γ g c x y=some e) (lab:Nat):pU P w0 M V T lab e o a w:=by
 unfold EW at he
 split at he
 .rename_i b hc
  have ec:=bT ht hg hc
  simp only [den,Option.some.injEq] at ec
  split at he
  .simp only [Option.bind_eq_some_iff,lit,Option.some.injEq] at he
   obtain ⟨v,hv,rfl⟩:=he
   refine bK (x:=a.eval x) ?_ (bT ht hg hv) rfl rfl hT
   unfold execOp
   simp only [cM,<- ec]
   rfl
  .simp only [Option.bind_eq_some_iff,lit,Option.some.injEq] at he
   obtain ⟨v,hv,rfl⟩:=he
   refine bK (x:=a.eval y) ?_ (bT ht hg hv) rfl rfl hT
   unfold execOp
   simp only [cM,<- ec]
   rfl
 .cases he
def aDa (Γ:Env) (g:Nat->Option SV) (x:Operand):Option bR:=
 match ev Γ g x with
 | some (.ptr l s off)=>lit (.ptr l s off)
 | some (.mT l off)=>lit (.mT l off)
 | some (.jS t v)=>lit (.jS t v)
 | some (.fn (.func f) xs cs)=>lit (.fn (.func f) xs cs)
 | _=>none
theorem YC (ht:dG V g a) (hg:cC Γ V) (hT:aG w0 M V T w) {x:Operand} (cM:o.op = .nilCheck x) (he:aDa Γ g x=some e) (lab:Nat):pU P w0 M V T lab e o a w:=by
 unfold aDa at he
 split at he <;> first | (cases he;done) | skip
 all_goals
  rename_i hx
  simp only [lit,Option.some.injEq] at he
  subst he
  have ex:=bT ht hg hx
  refine bK (x:=a.eval x) ?_ ex rfl rfl hT
  simp only [den,Option.map_eq_some_iff,Option.bind_eq_some_iff] at ex
 .obtain ⟨p,_,ex⟩:=ex;unfold execOp;simp only [cM,<- ex];rfl
 .split at ex
  .simp only [Option.some.injEq] at ex;unfold execOp;simp only [cM,<- ex];rfl
  .cases ex
 .obtain ⟨p,_,ex⟩:=ex;unfold execOp;simp only [cM,<- ex];rfl
 .obtain ⟨p,_,q,_,ex⟩:=ex;unfold execOp;simp only [cM,<- ex];rfl
def Co (Γ:Env) (g:Nat->Option SV) (x:Operand) (i:Nat):Option bR:=
 match ev Γ g x with
 | some (.eD vs)=>(vs[i]?).bind lit
 | _=>none
theorem Nv (ht:dG V g a) (hg:cC Γ V) (hT:aG w0 M V T w) {x:Operand} {i:Nat} (cM:o.op = .extract x i) (he:Co Γ g x i=some e) (lab:Nat):pU P w0 M V T lab e o a w:=by
 unfold Co at he
 split at he
 .rename_i vs hx
  simp only [Option.bind_eq_some_iff,lit,Option.some.injEq] at he
  obtain ⟨v,hv,rfl⟩:=he
  have ex:=bT ht hg hx
  simp only [den,Option.map_eq_some_iff] at ex
  obtain ⟨xs,qC,ex⟩:=ex
  obtain ⟨y,hy,hd⟩:=eF qC i v hv
  refine bK (x:=y) ?_ hd rfl rfl hT
  unfold execOp
  simp [cM,<- ex,Instr.extract,hy]
 .cases he
def xP (Γ:Env) (g:Nat->Option SV) (f:Fn) (xs cs:Array Operand):Option bR:=
 match PL Γ g xs.toList,PL Γ g cs.toList with
 | some us,some vs=>lit (.fn f us vs)
 | _,_=>none
theorem Jp (ht:dG V g a) (hg:cC Γ V) (hT:aG w0 M V T w) {f:Fn} {xs cs:Array Operand} (cM:o.op = .makeFunc f xs cs) (he:xP Γ g f xs cs=some e) (lab:Nat):pU P w0 M V T lab e o a w:=by
 unfold xP at he
 split at he
 .rename_i us vs h1 h2
  simp only [lit,Option.some.injEq] at he
  subst he
  refine bK (x:=.func f (xs.map a.eval) (cs.map a.eval)) ?_ ?_ rfl rfl hT
  .unfold execOp;simp only [cM];rfl
  .simp only [den,Ie ht hg h1,Ie ht hg h2,Option.bind_some,Option.map_some]
   congr 2 <;> (rw [<- Array.toList_inj];simp)
 .cases he
def aSz:TypeDesc->Bool
 | .interface _=>false
 | _=>true
def tH (Γ:Env) (g:Nat->Option SV) (t:TypeId) (x:Operand):Option bR:=
 match ev Γ g x,Γ.ty t with
 | some v,some ti=>match aSz ti.desc with
   | true=>lit (.jS t v)
   | false=>none
 | _,_=>none
theorem Ek (aM:cG P Γ) (ht:dG V g a) (hg:cC Γ V) (hT:aG w0 M V T w) {t:TypeId} {x:Operand} (cM:o.op = .makeInterface t x) (he:tH Γ g t x=some e) (lab:Nat):pU P w0 M V T lab e o a w:=by
 unfold tH at he
 split at he
 .rename_i v ti hv fN
  split at he
  .rename_i hc
   simp only [lit,Option.some.injEq] at he
   subst he
   refine bK (x:=.iface t (a.eval x)) ?_ (by simp [den,bT ht hg hv]) rfl rfl hT
   unfold execOp
   simp only [cM,Instr.makeInterface,Sem.run_bind,run_underlying (aM t ti fN).1 w,Result.andThen_ok]
   cases hd:ti.desc <;> first | rfl | (rw [hd] at hc;cases hc)
  .cases he
 .cases he
def Qf (Γ:Env) (g:Nat->Option SV) (t:TypeId) (x:Operand) (n:Nat):Option bR:=
 match ev Γ g x,Γ.ty t with
 | some (.ptr l s off),some ti=>match ti.desc with
   | .struct fs=>match fs.toList[n]? with
     | some f=>match Γ.ty f.type with
       | some tf=>match Nat.beq tf.size 0 with
         | true=>none
         | false=>lit (.ptr l s (off+f.offset))
       | none=>none
     | none=>none
   | _=>none
 | _,_=>none
theorem Yy (aM:cG P Γ) (ht:dG V g a) (hg:cC Γ V) (hT:aG w0 M V T w) {t:TypeId} {x:Operand} {n:Nat} (cM:o.op = .fieldAddr t x n) (he:Qf Γ g t x n=some e) (lab:Nat):pU P w0 M V T lab e o a w:=by
 unfold Qf at he
 split at he
 .rename_i l s off ti hx fN
  split at he
  .rename_i fs hfs
   split at he
   .rename_i f hf
    split at he
    .rename_i tf htf
     split at he
     .cases he
     .rename_i kD
      simp only [lit,Option.some.injEq] at he
      subst he
      have ex:=bT ht hg hx
      simp only [den,Option.map_eq_some_iff] at ex
      obtain ⟨⟨b,base⟩,hβ,ex⟩:=ex
      obtain ⟨_,i,z,hi,cZ,_⟩:=aM f.type tf htf
      have dP:¬ i.size=0:=by
       rw [cZ];intro h0;rw [h0] at kD;cases kD
      refine bK (x:=.pointer (some ⟨b,base+(off+f.offset),none⟩)) ?_ (by simp [den,hβ]) rfl rfl hT
      have hu:=(aM t ti fN).1
      rw [hfs] at hu
      have hf':fs[n]?=some f:=by rw [<- Array.getElem?_toList];exact hf
      unfold execOp
      simp only [cM,<- ex,Instr.fieldAt,Sem.run_bind,run_underlying hu w,Result.andThen_ok,hf',Instr.sureAddr,Sem.run_pure,fieldPlace,run_sizeOf hi,if_neg dP,bY,Nat.add_assoc]
    .cases he
   .cases he
  .cases he
 .cases he
def tI (Γ:Env) (g:Nat->Option SV) (t:TypeId) (x y:Operand):Option bR:=
 match ev Γ g x,ev Γ g y,Γ.ty t with
 | some (.ptr l s off),some (.int sk _ k),some ti=>match ti.desc with
   | .array len el=>match Γ.ty el with
     | some te=>match sO sk (0<=k/\k<len) with
       | some ob=>some (eA (.ptr l (s&&sk) (off+k.toNat*te.size)) ob)
       | none=>none
     | none=>none
   | _=>none
 | some (.aI l s off len _),some (.int sk _ k),some ti=>match ti.desc with
   | .slice el=>match Γ.ty el with
     | some te=>match sO (s&&sk) (0<=k/\k<len) with
       | some ob=>some (eA (.ptr l (s&&sk) (off+k.toNat*te.size)) ob)
       | none=>none
     | none=>none
   | _=>none
 | some (.dO l off len _),some (.int sk _ k),some ti=>match ti.desc with
   | .slice el=>match Γ.ty el with
     | some te=>match sO sk (0<=k/\k<len) with
       | some ob=>some (eA (.ptr l sk (off+k.toNat*te.size)) ob)
       | none=>none
     | none=>none
   | _=>none
 | some (.rT _ n _ sz j le),some (.int _ _ k),some ti=>match ti.desc with
   | .slice el=>match Γ.ty el with
     | some te=>match Nat.beq te.size sz with
       | true=>some (eA (.ptr le true 0) [0<=k/\k<n/\k.toNat=j])
       | false=>none
     | none=>none
   | _=>none
 | some (.dX l n),some (.int _ _ k),some ti=>match ti.desc with
   | .slice el=>match Γ.ty el with
     | some te=>match Nat.beq te.size 1 with
       | true=>some (eA (.mT l k.toNat) [0<=k/\k<n])
       | false=>none
     | none=>none
   | _=>none
 | _,_,_=>none
theorem El (aM:cG P Γ) (ht:dG V g a) (hg:cC Γ V) (hT:aG w0 M V T w) {t:TypeId} {x y:Operand} (cM:o.op = .indexAddr t x y) (he:tI Γ g t x y=some e) (ho:∀ q∈e.bV,q) (lab:Nat):pU P w0 M V T lab e o a w:=by
 unfold tI at he
 split at he
 .rename_i l s off sk kk k ti hx hy fN
  split at he
  .rename_i len el hd
   split at he
   .rename_i te gM
    split at he
    .rename_i ob tN
     simp only [eA,Option.some.injEq] at he
     subst he
     have hb:=iR tN ho
     have ex:=bT ht hg hx
     have ey:=bT ht hg hy
     simp only [den,Option.map_eq_some_iff,Option.some.injEq] at ex ey
     obtain ⟨⟨b,base⟩,hβ,ex⟩:=ex
     obtain ⟨_,i,z,hi,cZ,_⟩:=aM el te gM
     have hu:=(aM t ti fN).1
     rw [hd] at hu
     refine bK (x:=.pointer (some ⟨b,base+(off+k.toNat*te.size),none⟩)) ?_ (by simp [den,hβ]) rfl rfl hT
     unfold execOp
     simp only [cM,<- ex,<- ey,Instr.indexAt,asIntOf,Sem.run_bind,Sem.run_pure,run_underlying hu w,Result.andThen_ok,Instr.sureAddr,if_pos hb,run_sizeOf hi,cZ,bY,Nat.add_assoc]
    .cases he
   .cases he
  .cases he
 .rename_i l s off len cap sk kk k ti hx hy fN
  split at he
  .rename_i el hd
   split at he
   .rename_i te gM
    split at he
    .rename_i ob tN
     simp only [eA,Option.some.injEq] at he
     subst he
     have hb:=iR tN ho
     have ex:=bT ht hg hx
     have ey:=bT ht hg hy
     simp only [den,Option.map_eq_some_iff,Option.some.injEq] at ex ey
     obtain ⟨⟨b,base⟩,hβ,ex⟩:=ex
     obtain ⟨_,i,z,hi,cZ,_⟩:=aM el te gM
     have hu:=(aM t ti fN).1
     rw [hd] at hu
     refine bK (x:=.pointer (some ⟨b,base+(off+k.toNat*te.size),none⟩)) ?_ (by simp [den,hβ]) rfl rfl hT
     unfold execOp
     simp only [cM,<- ex,<- ey,Instr.indexAt,asIntOf,Sem.run_bind,Sem.run_pure,run_underlying hu w,Result.andThen_ok,if_pos hb,run_sizeOf hi,cZ,bY,Nat.add_assoc]
    .cases he
   .cases he
  .cases he
 .rename_i l off len lo sk kk k ti hx hy fN
  split at he
  .rename_i el hd
   split at he
   .rename_i te gM
    split at he
    .rename_i ob tN
     simp only [eA,Option.some.injEq] at he
     subst he
     have hb:=iR tN ho
     have ex:=bT ht hg hx
     have ey:=bT ht hg hy
     simp only [den,Option.map_eq_some_iff,Option.bind_eq_some_iff,Option.some.injEq] at ex ey
     obtain ⟨⟨b,base⟩,hβ,c,_,ex⟩:=ex
     obtain ⟨_,i,z,hi,cZ,_⟩:=aM el te gM
     have hu:=(aM t ti fN).1
     rw [hd] at hu
     refine bK (x:=.pointer (some ⟨b,base+(off+k.toNat*te.size),none⟩)) ?_ (by simp [den,hβ]) rfl rfl hT
     unfold execOp
     simp only [cM,<- ex,<- ey,Instr.indexAt,asIntOf,Sem.run_bind,Sem.run_pure,run_underlying hu w,Result.andThen_ok,if_pos hb,run_sizeOf hi,cZ,bY,Nat.add_assoc]
    .cases he
   .cases he
  .cases he
 .rename_i l n bCm sz j le kk0 kk k ti hx hy fN
  split at he
  .rename_i el hd
   split at he
   .rename_i te gM
    split at he
    .rename_i lV
     have lV:=Nat.eq_of_beq_eq_true lV
     simp only [eA,Option.some.injEq] at he
     subst he
     obtain ⟨sL,rU,NZ⟩:0<=k/\k<n/\k.toNat=j:=ho _ (by simp)
     have ex:=bT ht hg hx
     have ey:=bT ht hg hy
     simp only [den,Option.bind_eq_some_iff,Option.some.injEq] at ex ey
     obtain ⟨⟨b,base⟩,hβ,q,hq,ex⟩:=ex
     split at ex
     case h_2=>cases ex
     rename_i hdq
     have hdq:=of_decide_eq_true hdq
     simp only [Option.some.injEq] at ex
     subst hdq
     obtain ⟨_,i,z,hi,cZ,_⟩:=aM el te gM
     have hu:=(aM t ti fN).1
     rw [hd] at hu
     refine bK (x:=.pointer (some ⟨b,base+(k.toNat*te.size),none⟩)) ?_ (by simp [den,hq,NZ,lV]) rfl rfl hT
     unfold execOp
     simp only [cM,<- ex,<- ey,Instr.indexAt,asIntOf,Sem.run_bind,Sem.run_pure,run_underlying hu w,Result.andThen_ok,if_pos (show 0<=k/\k<(n:Int) from ⟨sL,rU⟩),run_sizeOf hi,cZ,bY]
    .cases he
   .cases he
  .cases he
 .rename_i l n kk0 kk k ti hx hy fN
  split at he
  .rename_i el hd
   split at he
   .rename_i te gM
    split at he
    .rename_i lV
     have lV:=Nat.eq_of_beq_eq_true lV
     simp only [eA,Option.some.injEq] at he
     subst he
     have hb:0<=k/\k<n:=ho _ (by simp)
     have ex:=bT ht hg hx
     have ey:=bT ht hg hy
     simp only [den,Option.bind_eq_some_iff,Option.some.injEq] at ex ey
     obtain ⟨v,hσ,ex⟩:=ex
     obtain ⟨exv,hv⟩:=rI ex
     rcases hv with ⟨_,h0⟩ | ⟨b,base,c,rfl,_⟩
     .omega
     obtain ⟨_,i,z,hi,cZ,_⟩:=aM el te gM
     have hu:=(aM t ti fN).1
     rw [hd] at hu
     refine bK (x:=.pointer (some ⟨b,base+k.toNat*te.size,none⟩)) ?_ (by simp [den,hσ,bY,lV]) rfl rfl hT
     unfold execOp
     simp only [cM,exv,<- ey,Instr.indexAt,asIntOf,Sem.run_bind,Sem.run_pure,run_underlying hu w,Result.andThen_ok,if_pos hb,run_sizeOf hi,cZ,bY]
    .cases he
   .cases he
  .cases he
 .cases he
def Jg (Γ:Env) (g:Nat->Option SV) (t:TypeId) (x:Operand) (n:Nat):Option bR:=
 match ev Γ g x,Γ.ty t with
 | some (.agg cs),some ti=>match ti.desc with
   | .struct fs=>match fs.toList[n]? with
     | some f=>match Γ.ty f.type with
       | some tf=>match wP tf.desc with
         | true=>lit (.agg ((cs.drop f.offset).take tf.size))
         | false=>(cs[f.offset]?).bind lit
       | none=>none
     | none=>none
   | _=>none
 | _,_=>none
theorem vN {α:Type} (l:List α) (i j:Nat):l.toArray.extract i (i+j)=((l.drop i).take j).toArray:=by
 apply Array.ext'
 simp [List.extract_eq_take_drop]
theorem Rp (aM:cG P Γ) (ht:dG V g a) (hg:cC Γ V) (hT:aG w0 M V T w) {t:TypeId} {x:Operand} {n:Nat} (cM:o.op = .field t x n) (he:Jg Γ g t x n=some e) (lab:Nat):pU P w0 M V T lab e o a w:=by
 unfold Jg at he
 split at he
 .rename_i cs ti hx fN
  split at he
  .rename_i fs hfs
   split at he
   .rename_i f hf
    split at he
    .rename_i tf htf
     have ex:=bT ht hg hx
     simp only [den,Option.map_eq_some_iff] at ex
     obtain ⟨xs,qC,ex⟩:=ex
     obtain ⟨huf,i,z,hi,cZ,_⟩:=aM f.type tf htf
     have hu:=(aM t ti fN).1
     rw [hfs] at hu
     have hf':fs[n]?=some f:=by rw [<- Array.getElem?_toList];exact hf
     split at he
     .rename_i iM
      simp only [lit,Option.some.injEq] at he
      subst he
      refine bK (x:=.agg ((xs.drop f.offset).take tf.size).toArray) ?_ (by simp [den,eB _ (iA _ qC)]) rfl rfl hT
      unfold execOp
      simp only [cM,<- ex,Instr.field,Sem.run_bind,run_underlying hu w,Result.andThen_ok,hf',asAgg,Sem.run_pure,part,fS huf,iM,if_true,run_sizeOf hi,cZ,vN]
     .rename_i iM
      simp only [Option.bind_eq_some_iff,lit,Option.some.injEq] at he
      obtain ⟨v,hv,rfl⟩:=he
      obtain ⟨y,hy,hdy⟩:=eF qC _ v hv
      refine bK (x:=y) ?_ hdy rfl rfl hT
      have hy':xs.toArray[f.offset]?=some y:=by simpa using hy
      unfold execOp
      simp only [cM,<- ex,Instr.field,Sem.run_bind,run_underlying hu w,Result.andThen_ok,hf',asAgg,Sem.run_pure,part,fS huf,iM,Bool.false_eq_true,if_false,hy']
    .cases he
   .cases he
  .cases he
 .cases he
def Je (Γ:Env) (g:Nat->Option SV) (t:TypeId) (x y:Operand):Option bR:=
 match ev Γ g x,ev Γ g y,Γ.ty t with
 | some (.agg cs),some (.int true _ k),some ti=>match ti.desc with
   | .array len el=>match Γ.ty el with
     | some te=>match decide (0<=k/\k<len),wP te.desc with
       | true,true=>lit (.agg ((cs.drop (k.toNat*te.size)).take te.size))
       | true,false=>(cs[k.toNat*te.size]?).bind lit
       | _,_=>none
     | none=>none
   | _=>none
 | some (.raw (.string s)),some (.int true _ k),some ti=>match ti.desc,decide (0<=k),s[k.toNat]? with
   | .string,true,some b=>lit (.int true .u8 b.toNat)
   | _,_,_=>none
 | _,_,_=>none
theorem Rn (aM:cG P Γ) (ht:dG V g a) (hg:cC Γ V) (hT:aG w0 M V T w) {t:TypeId} {x y:Operand} (cM:o.op = .index t x y) (he:Je Γ g t x y=some e) (lab:Nat):pU P w0 M V T lab e o a w:=by
 unfold Je at he
 split at he
 .rename_i cs kk k ti hx hy fN
  split at he
  .rename_i len el hd
   split at he
   .rename_i te gM
    have ex:=bT ht hg hx
    have ey:=bT ht hg hy
    simp only [den,Option.map_eq_some_iff,Option.some.injEq] at ex ey
    obtain ⟨xs,qC,ex⟩:=ex
    obtain ⟨Zs,i,z,hi,cZ,_⟩:=aM el te gM
    have hu:=(aM t ti fN).1
    rw [hd] at hu
    split at he
    .rename_i hb iM
     have iZ:=of_decide_eq_true hb
     simp only [lit,Option.some.injEq] at he
     subst he
     refine bK (x:=.agg ((xs.drop (k.toNat*te.size)).take te.size).toArray) ?_ (by simp [den,eB _ (iA _ qC)]) rfl rfl hT
     unfold execOp
     simp only [cM,<- ex,<- ey,Instr.index,asIntOf,Sem.run_bind,Sem.run_pure,run_underlying hu w,Result.andThen_ok,if_pos iZ,part,fS Zs,iM,if_true,run_sizeOf hi,cZ,vN]
    .rename_i hb iM
     have iZ:=of_decide_eq_true hb
     simp only [Option.bind_eq_some_iff,lit,Option.some.injEq] at he
     obtain ⟨v,hv,rfl⟩:=he
     obtain ⟨u,hu',hdu⟩:=eF qC _ v hv
     refine bK (x:=u) ?_ hdu rfl rfl hT
     have hy':xs.toArray[k.toNat*te.size]?=some u:=by simpa using hu'
     unfold execOp
     simp only [cM,<- ex,<- ey,Instr.index,asIntOf,Sem.run_bind,Sem.run_pure,run_underlying hu w,Result.andThen_ok,if_pos iZ,part,fS Zs,iM,Bool.false_eq_true,if_false,run_sizeOf hi,cZ,hy']
    .cases he
   .cases he
  .cases he
 .rename_i s kk k ti hx hy fN
  split at he
  .rename_i b hd hk hb
   have jK:=of_decide_eq_true hk
   have ex:=bT ht hg hx
   have ey:=bT ht hg hy
   simp only [den,Option.some.injEq] at ex ey
   have hu:=(aM t ti fN).1
   rw [hd] at hu
   simp only [lit,Option.some.injEq] at he
   subst he
   refine bK (x:=.int .u8 b.toNat) ?_ rfl rfl rfl hT
   unfold execOp
   simp only [cM,<- ex,<- ey,Instr.index,asIntOf,Sem.run_bind,Sem.run_pure,run_underlying hu w,Result.andThen_ok,if_pos jK,hb]
  .cases he
 .cases he
def aDb (Γ:Env) (T:bA) (d:TypeDesc) (v:SV):Option bR:=
 match d,v with
 | .slice _,.aI _ s _ len _=>lit (.int s .i64 len)
 | .slice _,.raw (.slice _ n _)=>lit (.int true .i64 n)
 | .slice _,.dO _ _ len _=>lit (.int true .i64 len)
 | .slice _,.buf l=>match T l with
   | some (.cD _ xs _)=>lit (.int false .i64 xs.length)
   | some (.bO _ n _)=>lit (.int false .i64 n)
   | _=>none
 | .slice _,.mS _ lo hi=>lit (.int false .i64 ((hi-lo:Nat):Int))
 | .slice _,.dX _ n=>lit (.int false .i64 n)
 | .slice _,.rT _ n _ _ _ _=>lit (.int false .i64 n)
 | .array n _,_=>lit (.int true .i64 n)
 | .pointer el,_=>match Γ.ty el with
   | some te=>match te.desc with
     | .array n _=>lit (.int true .i64 n)
     | _=>none
   | none=>none
 | .string,.raw (.string s)=>lit (.int true .i64 s.size)
 | _,_=>none
theorem Nr {ty:TypeId} {sz n:Nat} {v:Value} {cs:List Value} (h:w.ownsRow 0 ty sz v n cs):∃ b c,v = .slice b n c:=by
 rcases h.2 with ⟨rfl,rfl⟩ | ⟨gb,cap,cur,rfl,_⟩
 .exact ⟨_,_,rfl⟩
 .exact ⟨_,_,rfl⟩
theorem YD (aM:cG P Γ) {T':bA} (bC:∀ l B,T' l=some B->T l=some B) (hT:aG w0 M V T w) {Dt:Array TypeId} {t ty:TypeId} {d:TypeDesc} {v:SV} {x:Value} (Er:Dt[0]?=some t) (hu:P.underlying t=some d)
 (hv:den V v=some x) (he:aDb Γ T' d v=some e):∃ y,(Builtin.len_ Dt ty #[x]).run P w = .ok y w/\den V e.val=some y/\e.new=[]/\e.wr=[]:=by
 unfold aDb at he
 split at he
 .simp only [lit,Option.some.injEq] at he
  subst he
  simp only [den,Option.map_eq_some_iff] at hv
  obtain ⟨p,_,rfl⟩:=hv
  exact ⟨_,by simp [Builtin.len_,Er,run_underlying hu w];rfl,rfl,rfl,rfl⟩
 .simp only [lit,Option.some.injEq] at he
  subst he
  simp only [den,Option.some.injEq] at hv
  subst hv
  exact ⟨_,by simp [Builtin.len_,Er,run_underlying hu w];rfl,rfl,rfl,rfl⟩
 .simp only [lit,Option.some.injEq] at he
  subst he
  simp only [den,Option.map_eq_some_iff,Option.bind_eq_some_iff] at hv
  obtain ⟨p,_,c,_,rfl⟩:=hv
  exact ⟨_,by simp [Builtin.len_,Er,run_underlying hu w];rfl,rfl,rfl,rfl⟩
 .split at he
  .rename_i l _ k xs ty hB
   simp only [lit,Option.some.injEq] at he
   subst he
   obtain ⟨cs,hc,u,hσ,cN⟩:=hT.ok l _ (bC l _ hB)
   simp only [den,hσ,Option.some.injEq] at hv
   subst hv
   obtain ⟨b,c,rfl⟩:=Nr cN
   exact ⟨_,by simp [Builtin.len_,Er,run_underlying hu w];rfl,rfl,rfl,rfl⟩
  .rename_i l _ sz n ty hB
   simp only [lit,Option.some.injEq] at he
   subst he
   obtain ⟨cs,hc,u,us,hσ,cN,_⟩:=hT.ok l _ (bC l _ hB)
   simp only [den,hσ,Option.some.injEq] at hv
   subst hv
   rcases cN.2 with ⟨rfl,rfl⟩ | ⟨g,cap,cur,rfl,_⟩
   .exact ⟨_,by simp [Builtin.len_,Er,run_underlying hu w];rfl,rfl,rfl,rfl⟩
   .exact ⟨_,by simp [Builtin.len_,Er,run_underlying hu w];rfl,rfl,rfl,rfl⟩
  .cases he
 .simp only [lit,Option.some.injEq] at he
  subst he
  simp only [den] at hv
  split at hv
  .cases hv
   exact ⟨_,by simp [Builtin.len_,Er,run_underlying hu w];rfl,rfl,rfl,rfl⟩
  .cases hv
 .simp only [lit,Option.some.injEq] at he
  subst he
  simp only [den,Option.bind_eq_some_iff] at hv
  obtain ⟨v,_,hv⟩:=hv
  obtain ⟨rfl,⟨⟨_,rfl⟩,rfl⟩ | ⟨b,o,c,rfl,_⟩⟩:=rI hv
  .exact ⟨_,by simp [Builtin.len_,Er,run_underlying hu w];rfl,rfl,rfl,rfl⟩
  .exact ⟨_,by simp [Builtin.len_,Er,run_underlying hu w];rfl,rfl,rfl,rfl⟩
 .simp only [lit,Option.some.injEq] at he
  subst he
  simp only [den,Option.bind_eq_some_iff] at hv
  obtain ⟨p,_,q,_,hv⟩:=hv
  split at hv
  case h_2=>cases hv
  cases hv
  exact ⟨_,by simp [Builtin.len_,Er,run_underlying hu w];rfl,rfl,rfl,rfl⟩
 .simp only [lit,Option.some.injEq] at he
  subst he
  exact ⟨_,by simp [Builtin.len_,Er,run_underlying hu w];rfl,rfl,rfl,rfl⟩
 .split at he
  .rename_i el _ te gM
   split at he
   .rename_i n el' hd
    simp only [lit,Option.some.injEq] at he
    subst he
    have hu2:=(aM el te gM).1
    rw [hd] at hu2
    exact ⟨_,by simp [Builtin.len_,Er,run_underlying hu w,run_underlying hu2 w];rfl,rfl,rfl,rfl⟩
   .cases he
  .cases he
 .simp only [lit,Option.some.injEq] at he
  subst he
  simp only [den,Option.some.injEq] at hv
  subst hv
  exact ⟨_,by simp [Builtin.len_,Er,run_underlying hu w];rfl,rfl,rfl,rfl⟩
 .cases he
def aDc (v:SV):Option bR:=
 match v with
 | .aI _ s _ _ cap=>lit (.int s .i64 cap)
 | .raw (.slice _ _ n)=>lit (.int true .i64 n)
 | _=>none
theorem YF {Dt:Array TypeId} {t ty el:TypeId} {v:SV} {x:Value} (Er:Dt[0]?=some t) (hu:P.underlying t=some (.slice el)) (hv:den V v=some x) (he:aDc v=some e) :
 ∃ y,(Builtin.cap_ Dt ty #[x]).run P w = .ok y w/\den V e.val=some y/\e.new=[]/\e.wr=[]:=by
 unfold aDc at he
 split at he
 .simp only [lit,Option.some.injEq] at he
  subst he
  simp only [den,Option.map_eq_some_iff] at hv
  obtain ⟨p,_,rfl⟩:=hv
  exact ⟨_,by simp [Builtin.cap_,Er,run_underlying hu w];rfl,rfl,rfl,rfl⟩
 .simp only [lit,Option.some.injEq] at he
  subst he
  simp only [den,Option.some.injEq] at hv
  subst hv
  exact ⟨_,by simp [Builtin.cap_,Er,run_underlying hu w];rfl,rfl,rfl,rfl⟩
 .cases he
end Gv
section Gv
variable {P:Program} {Γ:Env} {V:bF} {w w0:World} {M:Nat->Prop} {T:bA} {g:Nat->Option SV} {a:Act} {o:Oper} {e:bR}
def Dr (Γ:Env) (g:Nat->Option SV) (x:Option Operand) (s:Bool) (bAn:Nat):Option (Bool × Int):=
 match x with
 | none=>some (s,bAn)
 | some x=>match ev Γ g x with
   | some (.int s _ k)=>some (s,k)
   | _=>none
def yT (lo:Option Operand) (m l:Int) (off size:Nat):Nat:=match lo with
 | none=>off
 | some _=>if m=l then off else off+l.toNat*size
def Qd (Γ:Env) (g:Nat->Option SV) (T:bA) (t:TypeId) (x:Operand) (lo hi mx:Option Operand):Option bR:=
 match ev Γ g x,Γ.ty t with
 | some (.ptr l s off),some ti=>match ti.desc with
   | .array n el=>match Γ.ty el,Dr Γ g mx true n,Dr Γ g hi true n,Dr Γ g lo true 0 with
     | some te,some (sm,m),some (sh,h),some (sl,k)=>match mx.isSome&&hi.isNone with
       | true=>none
       | false=>(sO (s&&sm&&sh&&sl) (0<=m/\m<=n/\0<=h/\h<=m/\0<=k/\k<=h)).map
         (eA (.aI l (s&&sm&&sh&&sl) (yT lo m k off te.size) (h.toNat-k.toNat) (m.toNat-k.toNat)))
     | _,_,_,_=>none
   | _=>none
 | some (.aI l s off len cap),some ti=>match ti.desc with
   | .slice el=>match Γ.ty el,Dr Γ g mx s cap,Dr Γ g hi s len,Dr Γ g lo true 0 with
     | some te,some (sm,m),some (sh,h),some (sl,k)=>match mx.isSome&&hi.isNone with
       | true=>none
       | false=>(sO (s&&sm&&sh&&sl) (0<=m/\m<=cap/\0<=h/\h<=m/\0<=k/\k<=h)).map
         (eA (.aI l (s&&sm&&sh&&sl) (yT lo m k off te.size) (h.toNat-k.toNat) (m.toNat-k.toNat)))
     | _,_,_,_=>none
   | _=>none
 | some (.raw (.slice none 0 0)),some ti=>match ti.desc with
   | .slice el=>match Γ.ty el,Dr Γ g mx true 0,Dr Γ g hi true 0,Dr Γ g lo true 0 with
     | some _,some (sm,m),some (sh,h),some (sl,k)=>match mx.isSome&&hi.isNone with
       | true=>none
       | false=>(sO (sm&&sh&&sl) (0<=m/\m<=(0:Nat)/\0<=h/\h<=m/\0<=k/\k<=h)).map (eA (.raw (.slice none 0 0)))
     | _,_,_,_=>none
   | _=>none
 | some (.dO l off len l0),some ti=>match ti.desc with
   | .slice el=>match Γ.ty el,T l,Dr Γ g hi true len,Dr Γ g lo true 0 with
     | some te,some (.row sz cells _),some (true,h),some (true,k)=>match Nat.beq te.size sz&&Nat.blt 0 sz&&Nat.beq off (l0*sz)&&Nat.ble (off+len*sz) cells.length,mx with
       | true,none=>match decide (0<=k/\k<=h/\(h<=len\/off+h.toNat*sz<=cells.length)/\(k<len\/k=0)) with
         | true=>some { val:=.dO l (off+k.toNat*sz) (h.toNat-k.toNat) (l0+k.toNat) }
         | false=>none
       | true,some y=>match Dr Γ g (some y) true 0,hi.isSome with
         | some (true,m),true=>match decide (0<=k/\k<=h/\h<=m/\m<=len) with
           | true=>some { val:=.aI l true (yT lo m k off sz) (h.toNat-k.toNat) (m.toNat-k.toNat) }
           | false=>none
         | _,_=>none
       | _,_=>none
     | _,_,_,_=>none
   | _=>none
 | some (.buf l),some ti=>match ti.desc,mx with
   | .slice el,none=>match Γ.ty el,T l with
     | some te,some (.cD _ xs _)=>match Dr Γ g hi false xs.length,Dr Γ g lo true 0,Nat.beq te.size 1 with
       | some (_,h),some (_,k),true=>some (eA (.mS l k.toNat h.toNat) [0<=k/\k<=h/\h<=xs.length])
       | _,_,_=>none
     | _,_=>none
   | _,_=>none
 | _,_=>none
theorem cV (k:IntKind) (i:Int) (y:Nat) (code:BoundsCode) (h:0<=i/\i<=y):(Instr.sliceBound (.int k i) y code).run P w = .ok i.toNat w:=by
 simp [Instr.sliceBound,asIntOf,h]
theorem fR (ht:dG V g a) (hg:cC Γ V) {x:Option Operand} {s sb:Bool} {d:Nat} {n:Int} (h:Dr Γ g x s d=some (sb,n)) :
 (x=none/\n=d)\/∃ y k,x=some y/\a.eval y = .int k n:=by
 unfold Dr at h
 split at h
 .simp only [Option.some.injEq,Prod.mk.injEq] at h;exact .inl ⟨rfl,h.2.symm⟩
 .rename_i y
  split at h
  .rename_i s' k n' hy
   simp only [Option.some.injEq,Prod.mk.injEq] at h
   obtain ⟨rfl,rfl⟩:=h
   have:=bT ht hg hy
   simp only [den,Option.some.injEq] at this
   exact .inr ⟨y,k,rfl,this.symm⟩
  .cases h
theorem Nq (isS:Bool) (len cap:Nat) {lo hi mx:Option Value} {m h k:Int}
 (hm:(mx=none/\m=cap)\/∃ kk,mx=some (.int kk m)) (hh:(hi=none/\h=len)\/∃ kk,hi=some (.int kk h))
 (hl:(lo=none/\k=(0:Nat))\/∃ kk,lo=some (.int kk k)) (hx:(mx.isSome&&hi.isNone)=false) (hb:0<=m/\m<=cap/\0<=h/\h<=m/\0<=k/\k<=h) :
 (Instr.sliceBounds isS len cap lo hi mx).run P w = .ok (k.toNat,h.toNat,m.toNat) w:=by
 obtain ⟨h1,h2,h3,h4,h5,h6⟩:=hb
 rcases hm with ⟨rfl,rfl⟩ | ⟨km,rfl⟩ <;> rcases hh with ⟨rfl,rfl⟩ | ⟨kh,rfl⟩ <;> rcases hl with ⟨rfl,rfl⟩ | ⟨kl,rfl⟩
 .simp [Instr.sliceBounds]
 .simp only [Instr.sliceBounds,Sem.run_bind,Sem.run_pure,Result.andThen_ok]
  rw [cV _ _ _ _ (by omega)];simp
 .simp only [Instr.sliceBounds,Sem.run_bind,Sem.run_pure,Result.andThen_ok]
  rw [cV _ _ _ _ (by omega)];simp
 .simp only [Instr.sliceBounds,Sem.run_bind,Sem.run_pure,Result.andThen_ok]
  rw [cV _ _ _ _ (by omega)]
  simp only [Result.andThen_ok]
  rw [cV _ _ _ _ (by omega)];simp
 .simp at hx
 .simp at hx
 .simp only [Instr.sliceBounds,Sem.run_bind,Sem.run_pure,Result.andThen_ok]
  rw [cV _ _ _ _ (by omega)]
  simp only [Result.andThen_ok]
  rw [cV _ _ _ _ (by omega)];simp
 .simp only [Instr.sliceBounds,Sem.run_bind,Sem.run_pure]
  rw [cV _ _ _ _ (by omega)]
  simp only [Result.andThen_ok]
  rw [cV _ _ _ _ (by omega)]
  simp only [Result.andThen_ok]
  rw [cV _ _ _ _ (by omega)];simp
theorem gR (isS:Bool) (len cap:Nat) {lo hi mx:Option Operand} {m h k:Int}
 (hm:(mx=none/\m=cap)\/∃ y kk,mx=some y/\a.eval y = .int kk m) (hh:(hi=none/\h=len)\/∃ y kk,hi=some y/\a.eval y = .int kk h)
 (hl:(lo=none/\k=(0:Nat))\/∃ y kk,lo=some y/\a.eval y = .int kk k) (hx:(mx.isSome&&hi.isNone)=false) (hb:0<=m/\m<=cap/\0<=h/\h<=m/\0<=k/\k<=h) :
 (Instr.sliceBounds isS len cap (lo.map a.eval) (hi.map a.eval) (mx.map a.eval)).run P w = .ok (k.toNat,h.toNat,m.toNat) w:=by
 refine Nq isS len cap ?_ ?_ ?_ (by simpa using hx) hb
 .rcases hm with ⟨rfl,e⟩ | ⟨y,kk,rfl,e⟩
  .exact .inl ⟨rfl,e⟩
  .exact .inr ⟨kk,by rw [Option.map_some,e]⟩
 .rcases hh with ⟨rfl,e⟩ | ⟨y,kk,rfl,e⟩
  .exact .inl ⟨rfl,e⟩
  .exact .inr ⟨kk,by rw [Option.map_some,e]⟩
 .rcases hl with ⟨rfl,e⟩ | ⟨y,kk,rfl,e⟩
  .exact .inl ⟨rfl,e⟩
  .exact .inr ⟨kk,by rw [Option.map_some,e]⟩
theorem Yw (aM:cG P Γ) (ht:dG V g a) (hg:cC Γ V) {T':bA} (bC:∀ l B,T' l=some B->T l=some B) (hT:aG w0 M V T w) {t:TypeId} {x:Operand} {lo hi mx:Option Operand} (cM:o.op = .slice t x lo hi mx)
 (he:Qd Γ g T' t x lo hi mx=some e) (ho:∀ q∈e.bV,q) (lab:Nat):pU P w0 M V T lab e o a w:=by
 unfold Qd at he
 split at he
 .rename_i l s off ti hx fN
  split at he
  .rename_i n el hd
   split at he
   .rename_i te sm m sh h sl k gM hm hh hl
    split at he
    .cases he
    .rename_i hxx
     simp only [Option.map_eq_some_iff] at he
     obtain ⟨ob,tN,rfl⟩:=he
     have hb:=iR tN ho
     have ex:=bT ht hg hx
     simp only [den,Option.map_eq_some_iff] at ex
     obtain ⟨⟨b,base⟩,hβ,ex⟩:=ex
     have hu:=(aM t ti fN).1
     rw [hd] at hu
     obtain ⟨_,i,z,fZ,cZ,_⟩:=aM el te gM
     have hr:=gR (P:=P) (w:=w) (a:=a) false n n (fR ht hg hm) (fR ht hg hh) (fR ht hg hl) hxx hb
     refine bK (x:=.slice (some ⟨b,base+yT lo m k off te.size,none⟩) (h.toNat-k.toNat) (m.toNat-k.toNat)) ?_ (by simp [eA,den,hβ]) rfl rfl hT
     have Ed:(if m.toNat=k.toNat then (⟨b,base+off,none⟩:Addr) else (⟨b,base+off,none⟩:Addr).add (k.toNat*i.size))=⟨b,base+yT lo m k off te.size,none⟩:=by
      unfold yT
      cases lo with
      | none=>
        simp only [Dr,Option.some.injEq,Prod.mk.injEq] at hl
        obtain ⟨_,rfl⟩:=hl
        split
        .rfl
        .rw [bY];simp
      | some y=>
        have e1:(m.toNat=k.toNat)<->m=k:=by omega
        by_cases Gq:m=k
        .simp only [if_pos (e1.2 Gq),if_pos Gq]
        .simp only [if_neg (fun q=>Gq (e1.1 q)),if_neg Gq];rw [bY,cZ,Nat.add_assoc]
     unfold execOp
     simp only [cM,<- ex,Instr.sliceAt,Sem.run_bind,run_underlying hu w,Result.andThen_ok,Instr.sureAddr,Sem.run_pure,hr,run_sizeOf fZ,Ed]
   .cases he
  .cases he
 .rename_i l s off len cap ti hx fN
  split at he
  .rename_i el hd
   split at he
   .rename_i te sm m sh h sl k gM hm hh hl
    split at he
    .cases he
    .rename_i hxx
     simp only [Option.map_eq_some_iff] at he
     obtain ⟨ob,tN,rfl⟩:=he
     have hb:=iR tN ho
     have ex:=bT ht hg hx
     simp only [den,Option.map_eq_some_iff] at ex
     obtain ⟨⟨b,base⟩,hβ,ex⟩:=ex
     have hu:=(aM t ti fN).1
     rw [hd] at hu
     obtain ⟨_,i,z,fZ,cZ,_⟩:=aM el te gM
     have hr:=gR (P:=P) (w:=w) (a:=a) true len cap (fR ht hg hm) (fR ht hg hh) (fR ht hg hl) hxx hb
     refine bK (x:=.slice (some ⟨b,base+yT lo m k off te.size,none⟩) (h.toNat-k.toNat) (m.toNat-k.toNat)) ?_ (by simp [eA,den,hβ]) rfl rfl hT
     have Ed:(if m.toNat=k.toNat then some (⟨b,base+off,none⟩:Addr) else (some (⟨b,base+off,none⟩:Addr)).map (·.add (k.toNat*i.size)))=some ⟨b,base+yT lo m k off te.size,none⟩:=by
      unfold yT
      cases lo with
      | none=>
        simp only [Dr,Option.some.injEq,Prod.mk.injEq] at hl
        obtain ⟨_,rfl⟩:=hl
        split
        .rfl
        .rw [Option.map_some,bY];simp
      | some y=>
        have e1:(m.toNat=k.toNat)<->m=k:=by omega
        by_cases Gq:m=k
        .simp only [if_pos (e1.2 Gq),if_pos Gq]
        .simp only [if_neg (fun q=>Gq (e1.1 q)),if_neg Gq];rw [Option.map_some,bY,cZ,Nat.add_assoc]
     unfold execOp
     simp only [cM,<- ex,Instr.sliceAt,Instr.slice,Sem.run_bind,run_underlying hu w,Result.andThen_ok,Sem.run_pure,hr,run_sizeOf fZ,Ed]
   .cases he
  .cases he
 .rename_i ti hx fN
  split at he
  .rename_i el hd
   split at he
   .rename_i te sm m sh h sl k gM hm hh hl
    split at he
    .cases he
    .rename_i hxx
     simp only [Option.map_eq_some_iff] at he
     obtain ⟨ob,tN,rfl⟩:=he
     have hb:=iR tN ho
     have ex:=bT ht hg hx
     simp only [den,Option.some.injEq] at ex
     have hu:=(aM t ti fN).1
     rw [hd] at hu
     obtain ⟨_,i,z,fZ,cZ,_⟩:=aM el te gM
     have hr:=gR (P:=P) (w:=w) (a:=a) true 0 0 (fR ht hg hm) (fR ht hg hh) (fR ht hg hl) hxx hb
     have e0:m.toNat=0/\h.toNat=0/\k.toNat=0:=by omega
     refine bK (x:=.slice none 0 0) ?_ rfl rfl rfl hT
     unfold execOp
     simp only [cM,<- ex,Instr.sliceAt,Instr.slice,Sem.run_bind,run_underlying hu w,Result.andThen_ok,Sem.run_pure,hr,run_sizeOf fZ,e0.1,e0.2.1,e0.2.2,if_true,Nat.sub_self]
   .cases he
  .cases he
 .rename_i l off len l0 ti hx fN
  split at he
  .rename_i el hd
   split at he
   .rename_i te sz cells ty0 h k gM hB hh hl
    have ex:=bT ht hg hx
    simp only [den,Option.map_eq_some_iff,Option.bind_eq_some_iff] at ex
    obtain ⟨⟨b,base⟩,hβ,c,sP,ex⟩:=ex
    obtain ⟨cs,nK,b',cap,cur,hβ',hσ,_,_,_,⟨n,hn,ZF⟩,_⟩:=hT.ok l _ (bC l _ hB)
    rw [hβ] at hβ'
    cases hβ'
    rw [hσ] at sP
    simp only [qM,Option.some.injEq,Int.toNat_natCast] at sP
    subst sP
    have hu:=(aM t ti fN).1
    rw [hd] at hu
    obtain ⟨_,i,z,fZ,cZ,_⟩:=aM el te gM
    have sK:=bN (show aJ V cells=some cs from nK)
    have aBm:(Nat.beq te.size sz&&Nat.blt 0 sz&&Nat.beq off (l0*sz)&&Nat.ble (off+len*sz) cells.length)=true->te.size=sz/\0<sz/\off=l0*sz/\l0+len<=cap:=by
     intro hq
     simp only [Bool.and_eq_true] at hq
     obtain ⟨⟨⟨q1,q2⟩,q3⟩,q4⟩:=hq
     have q1:=Nat.eq_of_beq_eq_true q1
     have q2:0<sz:=by simpa [Nat.blt_eq] using q2
     have q3:=Nat.eq_of_beq_eq_true q3
     have q4:=Nat.le_of_ble_eq_true q4
     refine ⟨q1,q2,q3,Nat.le_trans ?_ ZF⟩
     rw [<- sK,hn,q3,<- Nat.add_mul] at q4
     exact Nat.le_of_mul_le_mul_right q4 q2
    split at he
    .rename_i hq
     obtain ⟨q1,q2,q3,q4⟩:=aBm hq
     split at he
     .rename_i BT
      have Dp:=of_decide_eq_true BT
      have hb:0<=k/\k<=h/\h<=((cap-l0:Nat):Int)/\(k<len\/k=0):=by
       refine ⟨Dp.1,Dp.2.1,?_,Dp.2.2.2⟩
       rcases Dp.2.2.1 with h1 | h1
       .omega
       .have h2:l0+h.toNat<=cap:=by
         refine Nat.le_trans ?_ ZF
         rw [<- sK,hn,q3,<- Nat.add_mul] at h1
         exact Nat.le_of_mul_le_mul_right h1 q2
        omega
      simp only [Option.some.injEq] at he
      subst he
      have hr:=gR (P:=P) (w:=w) (a:=a) true len (cap-l0) (lo:=lo) (hi:=hi) (mx:=none) (m:=((cap-l0:Nat):Int)) (.inl ⟨rfl,rfl⟩) (fR ht hg hh) (fR ht hg hl) rfl (by omega)
      simp only [Int.toNat_natCast] at hr
      have Ed:(if cap-l0=k.toNat then some (⟨b,0+off,none⟩:Addr) else (some (⟨b,0+off,none⟩:Addr)).map (·.add (k.toNat*sz)))=some ⟨b,0+(off+k.toNat*sz),none⟩:=by
       by_cases hk:k.toNat=0
       .rw [hk];split
        .simp
        .rw [Option.map_some,bY];simp
       .rw [if_neg (by omega),Option.map_some,bY,Nat.add_assoc]
      refine bK (x:=.slice (some ⟨b,0+(off+k.toNat*sz),none⟩) (h.toNat-k.toNat) (cap-(l0+k.toNat))) ?_ (by simp [den,hβ,hσ,qM]) rfl rfl hT
      unfold execOp
      simp only [cM,<- ex,Instr.sliceAt,Instr.slice,Sem.run_bind,run_underlying hu w,Result.andThen_ok,Sem.run_pure,hr,run_sizeOf fZ,cZ,q1,Ed]
      rw [Nat.sub_add_eq]
     .cases he
    .rename_i y hq
     obtain ⟨q1,q2,q3,q4⟩:=aBm hq
     split at he
     .rename_i m hm his
      split at he
      .rename_i BT
       have hb:=of_decide_eq_true BT
       simp only [Option.some.injEq] at he
       subst he
       have vV:(some y=none/\m=((cap-l0:Nat):Int))\/∃ y' kk,some y=some y'/\a.eval y' = .int kk m:=by
        rcases fR ht hg hm with ⟨h1,_⟩ | h1
        .cases h1
        .exact .inr h1
       have hr:=gR (P:=P) (w:=w) (a:=a) true len (cap-l0) (lo:=lo) (hi:=hi) (mx:=some y) (m:=m) vV (fR ht hg hh) (fR ht hg hl) (by simpa using his) (by omega)
       have Ed:(if m.toNat=k.toNat then some (⟨b,0+off,none⟩:Addr) else (some (⟨b,0+off,none⟩:Addr)).map (·.add (k.toNat*sz)))=some ⟨b,0+yT lo m k off sz,none⟩:=by
        unfold yT
        cases lo with
        | none=>
          simp only [Dr,Option.some.injEq,Prod.mk.injEq] at hl
          obtain ⟨_,rfl⟩:=hl
          split
          .rfl
          .rw [Option.map_some,bY];simp
        | some y=>
          have e1:(m.toNat=k.toNat)<->m=k:=by omega
          by_cases Gq:m=k
          .simp only [if_pos (e1.2 Gq),if_pos Gq]
          .simp only [if_neg (fun q=>Gq (e1.1 q)),if_neg Gq];rw [Option.map_some,bY,Nat.add_assoc]
       refine bK (x:=.slice (some ⟨b,0+yT lo m k off sz,none⟩) (h.toNat-k.toNat) (m.toNat-k.toNat)) ?_ (by simp [den,hβ]) rfl rfl hT
       unfold execOp
       simp only [cM,<- ex,Instr.sliceAt,Instr.slice,Sem.run_bind,run_underlying hu w,Result.andThen_ok,Sem.run_pure,hr,run_sizeOf fZ,cZ,q1,Ed]
      .cases he
     .cases he
    .cases he
   .cases he
  .cases he
 .rename_i l ti hx fN
  split at he
  .rename_i el hd
   split at he
   .rename_i te k0 xs ty0 gM hB
    split at he
    .rename_i sh h sl k hh hl kD
     simp only [eA,Option.some.injEq] at he
     subst he
     have hb:0<=k/\k<=h/\h<=xs.length:=ho _ (by simp)
     have ex:=bT ht hg hx
     obtain ⟨cs,hc,u,hσ,cN⟩:=hT.ok l _ (bC l _ hB)
     simp only [den,hσ,Option.some.injEq] at ex
     have hu:=(aM t ti fN).1
     rw [hd] at hu
     obtain ⟨_,i,z,fZ,cZ,_⟩:=aM el te gM
     have aCk:i.size=1:=by rw [cZ];exact Nat.eq_of_beq_eq_true kD
     obtain ⟨A,cap,hA,sP⟩:∃ A cap,u = .slice A xs.length cap/\xs.length<=cap:=by
      rcases cN.2 with ⟨rfl,h0⟩ | ⟨gb,cap,cur,rfl,_,_,hle,_⟩
      .exact ⟨none,0,by rw [h0],by omega⟩
      .exact ⟨_,cap,rfl,hle⟩
     subst hA
     have hr:=gR (P:=P) (w:=w) (a:=a) true xs.length cap (lo:=lo) (hi:=hi) (mx:=none) (m:=cap) (.inl ⟨rfl,rfl⟩) (fR ht hg hh) (fR ht hg hl) rfl (by omega)
     simp only [Option.map_none,Int.toNat_natCast] at hr
     refine bK (x:=.slice (if cap=k.toNat then A else A.map (·.add k.toNat)) (h.toNat-k.toNat) (cap-k.toNat)) ?_ (by simp [den,hσ]) rfl rfl hT
     unfold execOp
     simp only [cM,<- ex,Instr.sliceAt,Instr.slice,Sem.run_bind,run_underlying hu w,Result.andThen_ok,Sem.run_pure,hr,run_sizeOf fZ,aCk,Nat.mul_one,Option.map_none]
    .cases he
   .cases he
  .cases he
 .cases he
def Jd (Γ:Env) (g:Nat->Option SV) (T:bA) (t:TypeId) (x:Operand) (lo hi mx:Option Operand) (lab:Nat):Option bR:=
 match ev Γ g x,Γ.ty t,mx with
 | some (.dX l n),some ti,none=>match ti.desc with
   | .slice el=>match Γ.ty el,T l,Dr Γ g hi false n,Dr Γ g lo true 0 with
     | some te,some (.dK k xs),some (_,h),some (_,j)=>match Nat.beq te.size 1 with
       | true=>some { bV:=[0<=j/\j<=h/\h<=n],val:=.dX lab (h.toNat-j.toNat),new:=[.dK k ((xs.drop j.toNat).take (h.toNat-j.toNat))] }
       | false=>none
     | _,_,_,_=>none
   | _=>none
 | _,_,_=>none
theorem Rm (aM:cG P Γ) (ht:dG V g a) (hg:cC Γ V) {T':bA} (bC:∀ l B,T' l=some B->T l=some B) (hT:aG w0 M V T w) {t:TypeId} {x:Operand} {lo hi mx:Option Operand} (cM:o.op = .slice t x lo hi mx) {lab:Nat} (hf:V.fresh lab)
 (he:Jd Γ g T' t x lo hi mx lab=some e) (ho:∀ q∈e.bV,q):pU P w0 M V T lab e o a w:=by
 unfold Jd at he
 split at he
 case h_2=>cases he
 rename_i l n ti hx fN
 split at he
 case h_2=>cases he
 rename_i el hd
 split at he
 case h_2=>cases he
 rename_i te k xs sh h sj j gM hB hh hj
 split at he
 case h_2=>cases he
 rename_i lV
 have lV:=Nat.eq_of_beq_eq_true lV
 simp only [Option.some.injEq] at he
 subst he
 have hb:0<=j/\j<=h/\h<=n:=ho _ (by simp)
 have ex:=bT ht hg hx
 simp only [den,Option.bind_eq_some_iff] at ex
 obtain ⟨v,hσ,ex⟩:=ex
 obtain ⟨exv,hv⟩:=rI ex
 obtain ⟨cs,hc,v',mN,cN⟩:=hT.ok l _ (bC l _ hB)
 rw [hσ] at mN
 cases mN
 simp only [SB.cells,Option.some.injEq] at hc
 subst hc
 have hu:=(aM t ti fN).1
 rw [hd] at hu
 obtain ⟨_,i,z,fZ,cZ,_⟩:=aM el te gM
 obtain ⟨y,iJ,Ab,hy3,hy4⟩:∃ y:Value,(execOp a.eval o).run P w = .ok (.value y) w/\yR (h.toNat-j.toNat) y=some y/\(∀ m,xY y=some m->xY v=some m) /\
  ((CI y/\(xs.drop j.toNat).take (h.toNat-j.toNat)=[])\/∃ b o c,y = .slice (some ⟨b,o,none⟩) ((xs.drop j.toNat).take (h.toNat-j.toNat)).length c/\b<w.heap.size/\((xs.drop j.toNat).take (h.toNat-j.toNat)).length<=c/\∀ (i:Nat) (u:Value),(((xs.drop j.toNat).take (h.toNat-j.toNat)).map (Value.int k))[i]?=some u->w.cell? ⟨b,o+i,none⟩=some u):=by
  rcases cN with ⟨⟨ad,rfl⟩,rfl⟩ | ⟨b,base,c,rfl,cK,hle,kK⟩
  .have hn:n=0:=by
    rcases hv with ⟨_,h0⟩ | ⟨_,_,_,h0,_⟩
    .exact h0
    .injection h0 with _ h0 _;exact h0.symm
   subst hn
   have hr:=gR (P:=P) (w:=w) (a:=a) true 0 0 (mx:=none) (m:=((0:Nat):Int)) (.inl ⟨rfl,rfl⟩) (fR ht hg hh) (fR ht hg hj) rfl (by omega)
   have e0:h.toNat=0/\j.toNat=0:=by omega
   refine ⟨.slice ad 0 0,?_,by cases ad <;> simp [yR,e0.1,e0.2],fun m hm=>hm,.inl ⟨⟨_,rfl⟩,by simp⟩⟩
   unfold execOp
   simp only [cM,exv,Option.map_none,Instr.sliceAt,Instr.slice,Sem.run_bind,run_underlying hu w,Result.andThen_ok,Sem.run_pure,run_sizeOf fZ] at hr |-
   simp only [hr,Result.andThen_ok,e0.1,e0.2,if_true,Nat.sub_self,Int.toNat_natCast]
  .have hn:n=xs.length:=by
    rcases hv with ⟨⟨_,h0⟩,h1⟩ | ⟨_,_,_,h0,_⟩
    .injection h0 with _ h0 _;omega
    .injection h0 with _ h0 _;exact h0.symm
   subst hn
   have hr:=gR (P:=P) (w:=w) (a:=a) true xs.length c (lo:=lo) (hi:=hi) (mx:=none) (m:=(c:Int)) (h:=h) (k:=j) (.inl ⟨rfl,rfl⟩) (fR ht hg hh) (fR ht hg hj) rfl ⟨by omega,by omega,by omega,by omega,by omega,by omega⟩
   have hlen:((xs.drop j.toNat).take (h.toNat-j.toNat)).length=h.toNat-j.toNat:=by simp;omega
   refine ⟨.slice (if c=j.toNat then some ⟨b,base,none⟩ else some ⟨b,base+j.toNat,none⟩) (h.toNat-j.toNat) (c-j.toNat),?_,?_,?_,.inr ?_⟩
   .have Ed:(if c=j.toNat then some (⟨b,base,none⟩:Addr) else (some (⟨b,base,none⟩:Addr)).map (·.add (j.toNat*te.size)))=(if c=j.toNat then some ⟨b,base,none⟩ else some ⟨b,base+j.toNat,none⟩):=by
     split
     .rfl
     .rw [Option.map_some,bY,lV,Nat.mul_one]
    unfold execOp
    simp only [cM,exv,Option.map_none,Instr.sliceAt,Instr.slice,Sem.run_bind,run_underlying hu w,Result.andThen_ok,Sem.run_pure,run_sizeOf fZ] at hr |-
    simp only [hr,Result.andThen_ok,cZ,Int.toNat_natCast,Ed]
   .by_cases ZI:c=j.toNat
    .rw [if_pos ZI];unfold yR;exact if_pos ⟨rfl,by omega,.inr rfl⟩
    .rw [if_neg ZI];unfold yR;exact if_pos ⟨rfl,by omega,.inr rfl⟩
   .intro m hm
    by_cases ZI:c=j.toNat
    .rw [ZI,Nat.sub_self] at hm;cases hm
    .rw [if_neg ZI] at hm
     obtain ⟨m',rfl⟩:∃ m,c=m+1:=⟨c-1,by omega⟩
     exact hY hm
   .by_cases ZI:c=j.toNat
    .refine ⟨b,base,c-j.toNat,by rw [hlen,if_pos ZI],cK,by omega,fun i u hi=>?_⟩
     have:h.toNat-j.toNat=0:=by omega
     rw [this] at hi
     simp at hi
    .refine ⟨b,base+j.toNat,c-j.toNat,by rw [hlen,if_neg ZI],cK,by omega,fun i u hi=>?_⟩
     rw [Nat.add_assoc]
     apply kK
     simp only [List.map_take,List.map_drop,List.getElem?_take] at hi
     split at hi
     .rwa [List.getElem?_drop] at hi
     .cases hi
 intro K Q hK
 unfold Oper.wp
 rw [iJ,Oper.upon_value]
 refine hK (V.bL lab y) y w (bF.dU hf lab (Nat.le_refl _) (by omega) y) ?_ ?_
 .simp [den,bF.bL,Ab]
 .refine hT.step (N:=fun m=>if m=lab then some (.dK k ((xs.drop j.toNat).take (h.toNat-j.toNat))) else none) (bF.dU hf lab (Nat.le_refl _) (by omega) y).1 (fun m C hm=>?_) (fun m C hm=>?_) (fun m C q hm hq=>?_) (fun m C m' C' q dP hm vV yL _=>?_) (Nat.le_refl _) (fun _ _ _=>rfl) rfl rfl rfl
  .unfold fL bR.fM at hm
   simp only [iE,List.nil_append,look] at hm
   by_cases e:m=lab
   .subst e
    left
    simpa using hm
   .right
    refine ⟨if_neg e,?_⟩
    have:Nat.beq lab m=false:=by
     cases rU:Nat.beq lab m with
     | false=>rfl
     | true=>exact absurd (Nat.eq_of_beq_eq_true rU).symm e
    simpa [this] using hm
  .split at hm
   .rename_i e
    subst e
    cases hm
    exact ⟨_,rfl,y,by simp [bF.bL],hy4⟩
   .cases hm
  .split at hm
   .rename_i e
    subst e
    cases hm
    refine .inr (.inr ⟨rfl,fun l2 B2 hn2 Kd yL rU=>?_⟩)
    simp only [SB.bB,bF.bL,if_pos,Option.bind_some] at hq
    have hq':=hy3 q hq
    have dP:l2≠l:=fun e=>by subst e;rw [bC _ _ hB] at Kd;cases Kd;cases yL
    exact hT.kF l2 B2 l _ q dP Kd (bC _ _ hB) yL rU (by simp [SB.bB,hσ,hq'])
   .cases hm
  .split at hm
   .cases hm;cases yL
   .cases hm
end Gv
section Gv
variable {P:Program} {Γ:Env} {V:bF} {w w0:World} {M:Nat->Prop} {T:bA} {g:Nat->Option SV} {a:Act} {o:Oper} {e:bR}
def tG (Γ:Env) (g:Nat->Option SV) (t:TypeId) (x y:Operand) (lab:Nat):Option bR:=
 match ev Γ g x,ev Γ g y,Γ.ty t with
 | some (.int sx _ n),some (.int sy _ c),some ti=>match ti.desc with
   | .slice el=>match Γ.ty el with
     | some te=>match sO (sx&&sy) (0<=n/\n<=c/\(te.bytes:Int)*c<=2^48/\c<2^63) with
       | some ob=>match te.zero,Nat.beq te.size 1 with
         | [.int _ k z],true=>match sx&&sy with
           | true=>some { bV:=ob,val:=.aI lab true 0 n.toNat c.toNat,new:=[.own (List.replicate c.toNat (.int true k z)) el] }
           | false=>some { bV:=ob,val:=.aI lab sx 0 n.toNat c.toNat,new:=[.ints k (List.replicate c.toNat z) el] }
         | _,_=>none
       | none=>none
     | none=>none
   | _=>none
 | _,_,_=>none
theorem Fm {n:Int} (h1 : -(2^63)<=n) (h2:n<2^63):IntKind.i64.wrap n=n:=by
 have e:IntKind.i64.wrap n=if (n%2^64:Int)>=2^63 then n%2^64-2^64 else n%2^64:=by
  simp [IntKind.wrap,IntKind.bits,IntKind.signed]
 rw [e]
 split <;> omega
theorem vQ {t el:TypeId} {i:TypeInfo} {k:IntKind} {z:Int} {zv:Value} {kx ky:IntKind} {n c:Int} (hu:P.underlying t=some (.slice el)) (hi:P.info? el=some i) (hz:i.zero=some zv) (NP:zv.cells = #[.int k z]) (hs:i.size=1)
 (h:0<=n/\n<=c/\(i.bytes:Int)*c<=2^48/\c<2^63) :
 (Instr.makeSlice t (.int kx n) (.int ky c)).run P w = .ok (.slice (some ⟨w.heap.size,0,none⟩) n.toNat c.toNat) (w.alloc (.cells (List.replicate c.toNat (Value.int k z)).toArray el)):=by
 obtain ⟨h1,h2,h3,h4⟩:=h
 have en:IntKind.i64.wrap n=n:=Fm (by omega) (by omega)
 have ec:IntKind.i64.wrap c=c:=Fm (by omega) (by omega)
 have fN:(typeInfo el).run P w = .ok i w:=by simp [typeInfo,hi]
 have cT:((Array.range (c.toNat*1)).map fun j=>(#[Value.int k z]:Array Value)[j%(#[Value.int k z]:Array Value).size]!)=(List.replicate c.toNat (Value.int k z)).toArray:=by
  apply Array.ext'
  simp only [Nat.mul_one,Array.toList_map,Array.toList_range]
  apply List.ext_getElem
  .simp
  .intro j h1 h2
   simp [Nat.mod_one]
 have Ln:(c<0||(i.bytes:Int)*c>2^48||n<0||n>c)=false:=by simp;omega
 unfold Instr.makeSlice
 simp only [Sem.run_bind,run_underlying hu w,Result.andThen_ok,asInt,asIntOf,Sem.run_pure,fN,en,ec,Ln,Bool.false_eq_true,if_false,run_askRoom,run_sizeOf hi,hs]
 by_cases wA:c.toNat*1=0
 .have:c.toNat=0:=by omega
  simp [this,newRow,show Array.range 0 = #[] from rfl]
 .simp only [if_neg wA,Sem.run_bind,fK hi hz,Result.andThen_ok,Sem.run_pure,NP,cT,newRow,run_newObj,World.alloc_eq]
theorem Ej (aM:cG P Γ) (ht:dG V g a) (hg:cC Γ V) (hT:aG w0 M V T w) {t:TypeId} {x y:Operand} (cM:o.op = .makeSlice t x y) {lab:Nat} (hf:V.fresh lab) (he:tG Γ g t x y lab=some e) (ho:∀ q∈e.bV,q):pU P w0 M V T lab e o a w:=by
 unfold tG at he
 split at he
 .rename_i sx kx n sy ky c ti hx hy fN
  split at he
  .rename_i el hd
   split at he
   .rename_i te gM
    split at he
    .rename_i ob tN
     have ex:=bT ht hg hx
     have ey:=bT ht hg hy
     simp only [den,Option.some.injEq] at ex ey
     have hu:=(aM t ti fN).1
     rw [hd] at hu
     obtain ⟨_,i,zv,hi,cZ,hby,hz,hzero⟩:=aM el te gM
     split at he
     .rename_i sz k z hzz kD
      have lV:i.size=1:=by rw [cZ];exact Nat.eq_of_beq_eq_true kD
      have NP:zv.cells = #[.int k z]:=by
       have:=hzero V
       rw [hzz] at this
       simp only [aJ,den,Option.bind_some,Option.map_some,Option.some.injEq] at this
       rw [<- Array.toList_inj,<- this]
      have aXx:∀ q∈ob,q:=by split at he <;> (cases he;exact ho)
      have hb:=iR tN aXx
      rw [<- hby] at hb
      have gG:=vQ (P:=P) (w:=w) (kx:=kx) (ky:=ky) hu hi hz NP lV hb
      have aQq:(execOp a.eval o).run P w = .ok (.value (.slice (some ⟨w.heap.size,0,none⟩) n.toNat c.toNat)) (w.alloc (.cells (List.replicate c.toNat (Value.int k z)).toArray el)):=by
       unfold execOp
       simp only [cM,<- ex,<- ey,Sem.run_bind,gG,Result.andThen_ok,Sem.run_pure]
      intro K Q hK
      unfold Oper.wp
      rw [aQq,Oper.upon_value]
      split at he
      .cases he
       have hc:aJ V (List.replicate c.toNat (.int true k z))=some (List.replicate c.toNat (Value.int k z)):=by
        generalize c.toNat=m
        induction m with
        | zero=>simp [aJ]
        | succ m ih=>simp [List.replicate_succ,aJ,den,ih]
       exact hK _ _ _ (bF.lO hf lab (Nat.le_refl _) (by omega) _) (by simp [den,bF.put]) (hT.alloc hf (B:=.own _ el) (.inl rfl) hc _ _)
      .cases he
       exact hK _ _ _ (bF.lO hf lab (Nat.le_refl _) (by omega) _) (by simp [den,bF.put]) (hT.alloc hf (B:=.ints k _ el) (.inr (.inl rfl)) (by simp [SB.cells]) _ _)
     .cases he
    .cases he
   .cases he
  .cases he
 .cases he
theorem Jo (vs:List Value):∀ (cells:Array Value) (off j0:Nat),off+j0+vs.length<=cells.size ->
 ((vs.zipIdx j0).foldl (fun cs (p:Value × Nat)=>cs.setIfInBounds (off+p.2) p.1) cells).toList=cells.toList.take (off+j0)++vs++cells.toList.drop (off+j0+vs.length):=by
 induction vs with
 | nil=>intro cells off j0 _;simp
 | cons v vs ih=>
   intro cells off j0 h
   simp only [List.length_cons] at h
   simp only [List.zipIdx_cons,List.foldl_cons]
   rw [ih (cells.setIfInBounds (off+j0) v) off (j0+1) (by simp;omega)]
   have e:=list_seg_step cells.toList (off+j0) v vs (by simp;omega)
   simpa [Array.toList_setIfInBounds,Nat.add_assoc] using e
def Bl (T:bA) (place:Nat->Option (Nat × Nat)) (cells:List SV):List (Nat × SV)->Option (List SV)
 | []=>some cells
 | (i,v)::rest=>match place i with
   | none=>none
   | some (off,size)=>match Nat.beq (cellsOf v).length size,Be T (cellsOf v),Nat.ble (off+(cellsOf v).length) cells.length with
     | true,true,true=>Bl T place (cells.take off++cellsOf v++cells.drop (off+(cellsOf v).length)) rest
     | _,_,_=>none
theorem vH {T':bA} (bC:∀ l B,T' l=some B->T l=some B) (hT:aG w0 M V T w) {place:Nat->Option (Nat × Nat)}:∀ {parts:List (Nat × SV)} {fV:List (Nat × Value)} {cells:List SV} {cs:List Value} {r:List SV},
 Bl T' place cells parts=some r->aJ V cells=some cs->fV.map (·.1)=parts.map (·.1)->aJ V (parts.map (·.2))=some (fV.map (·.2)) ->
 ∃ rs,Instr.fill place cs.toArray fV=some rs/\aJ V r=some rs.toList
 | [],fV,cells,cs,r,h,hc,h1,_=>by
   simp only [Bl,Option.some.injEq] at h
   subst h
   have:fV=[]:=by simpa using h1
   subst this
   exact ⟨cs.toArray,rfl,by simpa using hc⟩
 | (i,v)::rest,fV,cells,cs,r,h,hc,h1,h2=>by
   obtain ⟨⟨i',x⟩,bCg,rfl⟩:∃ p l,fV=p::l:=by cases fV with | nil=>simp at h1 | cons p l=>exact ⟨p,l,rfl⟩
   simp only [List.map_cons,List.cons.injEq] at h1
   obtain ⟨rfl,h1⟩:=h1
   simp only [List.map_cons,aJ,Option.map_eq_some_iff,Option.bind_eq_some_iff] at h2
   obtain ⟨x',hx,ys,hy,h2⟩:=h2
   simp only [List.cons.injEq] at h2
   obtain ⟨rfl,rfl⟩:=h2
   simp only [Bl] at h
   split at h
   .cases h
   .rename_i off size hp
    split at h
    .rename_i kD iX hle
     have aXs:=Nat.eq_of_beq_eq_true kD
     have QM:=Nat.le_of_ble_eq_true hle
     have cT:=rE bC hT iX hx
     have hlen:=bN cT
     have bCi:=bN hc
     have BS:=cJ (cJ (eB off hc) cT) (iA (off+(cellsOf v).length) hc)
     obtain ⟨rs,Vl,hd⟩:=vH bC hT h BS h1 hy
     refine ⟨rs,?_,hd⟩
     have qC:x'.cells.size=(cellsOf v).length:=by rw [<- hlen];simp
     have Ln:(x'.cells.size≠size||off+x'.cells.size>cs.toArray.size)=false:=by
      simp [qC,aXs];omega
     have hsp:=Jo x'.cells.toList cs.toArray off 0 (by simp;omega)
     have bCh:(x'.cells.zipIdx.foldl (fun cs (p:Value × Nat)=>cs.setIfInBounds (off+p.2) p.1) cs.toArray)=(cs.take off++x'.cells.toList++cs.drop (off+(cellsOf v).length)).toArray:=by
      apply Array.ext'
      have e:x'.cells.zipIdx.foldl (fun cs (p:Value × Nat)=>cs.setIfInBounds (off+p.2) p.1) cs.toArray=(x'.cells.toList.zipIdx 0).foldl (fun cs (p:Value × Nat)=>cs.setIfInBounds (off+p.2) p.1) cs.toArray:=by
       rw [<- Array.foldl_toList,Array.toList_zipIdx]
      rw [e,hsp]
      simp [qC]
     unfold Instr.fill
     simp only [hp,Ln,Bool.false_eq_true,if_false]
     rw [<- Vl]
     congr 1
    .cases h
end Gv
section Gv
variable {P:Program} {Γ:Env} {V:bF} {w w0:World} {M:Nat->Prop} {T:bA} {g:Nat->Option SV} {a:Act} {o:Oper} {e:bR}
def BB (T:bA) (k:IntKind):SV->Option (List Prop × List Int)
 | .aI l s off len _=>match T l with
   | some (.ints k2 xs _)=>match decide (k=k2) with
     | true=>some ([off+len<=xs.length],(xs.drop off).take len)
     | false=>none
   | some (.oD k2 xs)=>match decide (k=k2) with
     | true=>some ([off+len<=xs.length],(xs.drop off).take len)
     | false=>none
   | some B=>match Rz B s off len with
     | some (ob,r)=>(dV k r).map fun ns=>(ob,ns)
     | none=>none
   | none=>none
 | .buf l=>match T l with
   | some (.cD k2 xs _)=>match decide (k=k2) with
     | true=>some ([],xs)
     | false=>none
   | _=>none
 | .mS l lo hi=>match T l with
   | some (.cD k2 xs _)=>match decide (k=k2) with
     | true=>some ([lo<=hi/\hi<=xs.length],(xs.drop lo).take (hi-lo))
     | false=>none
   | _=>none
 | .raw (.slice none 0 0)=>some ([],[])
 | .dX l _=>match T l with
   | some (.dK k2 xs)=>match decide (k=k2) with
     | true=>some ([],xs)
     | false=>none
   | _=>none
 | _=>none
def FP (w:World) (x:Value) (cs:List Value):Prop:=
 (x = .slice none 0 0/\cs=[])\/∃ ad c,x = .slice (some ad) cs.length c/\∀ (j:Nat) (u:Value),cs[j]?=some u->w.cell? (ad.add j)=some u
theorem Is {k:IntKind} {v:SV} {x:Value} {ob:List Prop} {ys:List Int} (hT:aG w0 M V T w) (hv:den V v=some x) (h:BB T k v=some (ob,ys)) (ho:∀ q∈ob,q) :
 FP w x (ys.map (Value.int k)):=by
 have rd:∀ (l:Nat) (B:SB) (s:Bool) (off len c:Nat) (r:List SV) (p:Nat × Nat),T l=some B->V.β l=some p->Rz B s off len=some (ob,r)->aJ V r=some (ys.map (Value.int k)) ->
  FP w (.slice (some ⟨p.1,p.2+off,none⟩) len c) (ys.map (Value.int k)):=by
  intro l B s off len c r p hB hβ hr hd
  obtain ⟨xs,h1,h2,h3⟩:=pD (hT.ok l B hB) (b:=p.1) (o:=p.2) hβ hr ho
  rw [hd] at h1
  cases h1
  exact .inr ⟨_,c,by rw [h2],fun j u hj=>by rw [bY];exact h3 j u hj⟩
 have aLg:∀ (l:Nat) (B:SB) (xs:List Int) (off len c:Nat) (p:Nat × Nat),(B = .ints k xs (match B with | .ints _ _ ty=>ty | _=>0)\/B = .oD k xs)->T l=some B->V.β l=some p->off+len<=xs.length->ys=(xs.drop off).take len ->
  FP w (.slice (some ⟨p.1,p.2+off,none⟩) len c) (ys.map (Value.int k)):=by
  intro l B xs off len c p hBk hB hβ hle sJ
  have hr:Rz B false off len=some ([off+len<=xs.length],(List.range len).map fun j=>.int false k (xs.getD (off+j) 0)):=by
   rcases hBk with e | e <;> rw [e] <;> rfl
  obtain ⟨zs,h1,h2,h3⟩:=pD (hT.ok l B hB) (b:=p.1) (o:=p.2) hβ hr (by intro q hq;simp only [List.mem_singleton] at hq;subst hq;exact hle)
  have hd:=fT (V:=V) len (fun j=>.int false k (xs.getD (off+j) 0)) (fun j=>.int k (xs.getD (off+j) 0)) (fun j _=>rfl)
  rw [hd] at h1
  cases h1
  have e:(List.range len).map (fun j=>Value.int k (xs.getD (off+j) 0))=ys.map (Value.int k):=by
   subst sJ
   apply List.ext_getElem
   .simp;omega
   .intro j h4 h5
    simp only [List.length_map,List.length_range] at h4
    have h6:off+j<xs.length:=by omega
    simp [List.getD_eq_getElem?_getD,h6]
  rw [e] at h3
  have hlen:len=(ys.map (Value.int k)).length:=by rw [<- e];simp
  exact .inr ⟨_,c,by rw [<- hlen],fun j u hj=>by rw [bY];exact h3 j u hj⟩
 unfold BB at h
 split at h
 .rename_i l s off len c
  simp only [den,Option.map_eq_some_iff] at hv
  obtain ⟨p,hβ,rfl⟩:=hv
  split at h
  .rename_i k2 xs ty hB
   split at h
   .rename_i hd
    have:=of_decide_eq_true hd
    subst this
    simp only [Option.some.injEq,Prod.mk.injEq] at h
    obtain ⟨rfl,rfl⟩:=h
    exact aLg l _ xs off len c p (.inl rfl) hB hβ (ho _ (by simp)) rfl
   .cases h
  .rename_i k2 xs hB
   split at h
   .rename_i hd
    have:=of_decide_eq_true hd
    subst this
    simp only [Option.some.injEq,Prod.mk.injEq] at h
    obtain ⟨rfl,rfl⟩:=h
    exact aLg l _ xs off len c p (.inr rfl) hB hβ (ho _ (by simp)) rfl
   .cases h
  .rename_i B _ _ hB
   split at h
   .rename_i ob' r hr
    simp only [Option.map_eq_some_iff,Prod.mk.injEq] at h
    obtain ⟨ns,hns,rfl,rfl⟩:=h
    exact rd l B s off len c r p hB hβ hr (dQ hns)
   .cases h
  .cases h
 .rename_i l
  split at h
  .rename_i k2 xs ty hB
   split at h
   .rename_i hd
    have:=of_decide_eq_true hd
    subst this
    simp only [Option.some.injEq,Prod.mk.injEq] at h
    obtain ⟨rfl,rfl⟩:=h
    obtain ⟨cs,hc,u,hσ,cN⟩:=hT.ok l _ hB
    simp only [SB.cells,Option.some.injEq] at hc
    subst hc
    simp only [den,hσ,Option.some.injEq] at hv
    subst hv
    rcases cN.2 with ⟨rfl,h0⟩ | ⟨gb,cap,cur,rfl,_,hh,_,_,_,eQ⟩
    .have:xs=[]:=List.eq_nil_of_length_eq_zero h0
     subst this
     exact .inl ⟨rfl,rfl⟩
    .refine .inr ⟨⟨gb,0,none⟩,cap,by simp,fun j u hj=>?_⟩
     rw [bY,cell_of_row w gb _ _ _ _ hh]
     rw [<- eQ,List.getElem?_take] at hj
     split at hj
     .simpa using hj
     .cases hj
   .cases h
  .cases h
 .rename_i l lo hi
  split at h
  .rename_i k2 xs ty hB
   split at h
   .rename_i hd
    have:=of_decide_eq_true hd
    subst this
    simp only [Option.some.injEq,Prod.mk.injEq] at h
    obtain ⟨rfl,rfl⟩:=h
    have hb:lo<=hi/\hi<=xs.length:=ho _ (by simp)
    obtain ⟨cs,hc,u,hσ,cN⟩:=hT.ok l _ hB
    simp only [SB.cells,Option.some.injEq] at hc
    subst hc
    simp only [den,hσ] at hv
    rcases cN.2 with ⟨rfl,h0⟩ | ⟨gb,cap,cur,rfl,_,hh,hle,_,_,eQ⟩
    .have:xs=[]:=List.eq_nil_of_length_eq_zero h0
     subst this
     simp only [Option.some.injEq] at hv
     have e1:lo=0/\hi=0:=by simp at hb;omega
     obtain ⟨rfl,rfl⟩:=e1
     left
     refine ⟨by rw [<- hv];simp,by simp⟩
    .simp only [Option.some.injEq] at hv
     right
     have hlen:((((xs.drop lo).take (hi-lo)).map (Value.int k)).length)=hi-lo:=by simp;omega
     by_cases sK:cap=lo
     .rw [if_pos sK] at hv
      have h0:hi-lo=0:=by omega
      refine ⟨_,cap-lo,by rw [hlen];exact hv.symm,fun j u hj=>?_⟩
      rw [h0] at hj
      simp at hj
     .rw [if_neg sK] at hv
      refine ⟨_,cap-lo,by rw [hlen];exact hv.symm,fun j u hj=>?_⟩
      show w.cell? (((⟨gb,0,none⟩:Addr).add lo).add j)=some u
      rw [bY,bY,cell_of_row w gb _ _ _ _ hh]
      have h5:(xs.map (Value.int k))[lo+j]?=some u:=by
       simp only [List.map_take,List.map_drop,List.getElem?_take] at hj
       split at hj
       .rwa [List.getElem?_drop] at hj
       .cases hj
      rw [<- eQ,List.getElem?_take] at h5
      split at h5
      .simpa using h5
      .cases h5
   .cases h
  .cases h
 .simp only [Option.some.injEq,Prod.mk.injEq] at h
  obtain ⟨rfl,rfl⟩:=h
  simp only [den,Option.some.injEq] at hv
  exact .inl ⟨hv.symm,rfl⟩
 .rename_i l n
  split at h
  .rename_i k2 xs hB
   split at h
   .rename_i hd
    have:=of_decide_eq_true hd
    subst this
    simp only [Option.some.injEq,Prod.mk.injEq] at h
    obtain ⟨rfl,rfl⟩:=h
    obtain ⟨cs,hc,u,hσ,cN⟩:=hT.ok l _ hB
    simp only [SB.cells,Option.some.injEq] at hc
    subst hc
    simp only [den,Option.bind_eq_some_iff] at hv
    obtain ⟨u',mN,hv⟩:=hv
    rw [hσ] at mN
    cases mN
    obtain ⟨rfl,_⟩:=rI hv
    rcases cN with ⟨⟨ad,rfl⟩,rfl⟩ | ⟨b,o,c,rfl,_,_,hh⟩
    .cases ad with
     | none=>exact .inl ⟨rfl,rfl⟩
     | some ad=>exact .inr ⟨ad,0,rfl,fun j u hj=>by simp at hj⟩
    .exact .inr ⟨⟨b,o,none⟩,c,by simp,fun j u hj=>by rw [bY];exact hh j u hj⟩
   .cases h
  .cases h
 .cases h
end Gv
section Gv
variable {P:Program} {Γ:Env} {V:bF} {w w0:World} {M:Nat->Prop} {T:bA} {g:Nat->Option SV} {a:Act} {o:Oper} {e:bR}
theorem tJ {t ty el:TypeId} {i:TypeInfo} {z:Value} {v v' x:Value} {w':World} {n:Nat} {xs news:List Value} (ht:P.underlying t=some (.slice el)) (hi:P.info? el=some i) (hz:i.zero=some z)
 (jC:w.ownsRow 0 el i.size v n xs) {ad:Addr} {m c:Nat} (hx:x = .slice (some ad) m c) (hl:news.length=m*i.size) (EJ:∀ (j:Nat) (u:Value),news[j]?=some u->w.cell? (ad.add j)=some u)
 (h1:∀ u∈news,u.oneCell'=true) (h63:n+m<=maxLen) (HC:(n+m)*i.bytes<=140737488355328)
 (hr:(Builtin.append_ #[t,t] ty #[v,x]).run P w = .ok v' w'):v'.ownBlock=v.ownBlock\/v'.ownBlock=some w.heap.size:=by
 subst hx
 have bCf:n+m<=9223372036854775807:=by simp only [maxLen] at h63;omega
 rcases jC.2 with ⟨rfl,rfl⟩ | ⟨gb,cap,cur,rfl,_,hg,ZF,hcm,nK,eQ⟩
 .by_cases hm:m=0
  .subst hm
   have hn:news=[]:=List.eq_nil_of_length_eq_zero (by simpa using hl)
   subst hn
   have:(Builtin.append_ #[t,t] ty #[.slice none 0 0,.slice (some ad) 0 c]).run P w = .ok (.slice none 0 0) w:=by
    simp [Builtin.append_,run_underlying ht,sizeOf,typeInfo,hi,Builtin.lenOf,Builtin.firstCells,loadCells,loadCellsFrom]
   rw [this] at hr
   cases hr
   exact .inl rfl
  .rw [run_append_nil (P:=P) w t ty el i z ht hi hz ad m c news hl EJ (by omega) (by omega) (by simp only [Nat.zero_add] at HC;omega)] at hr
   cases hr
   exact .inr rfl
 .by_cases aBi:n+m<=cap
  .rw [run_append_room (P:=P) w t ty el i ht hi gb n cap cur hg ad m c news hl EJ h1 aBi (by rw [hl,nK,<- Nat.add_mul];exact Nat.mul_le_mul_right _ aBi)] at hr
   cases hr
   exact .inl rfl
  .have holds:∀ (j:Nat) (u:Value),xs[j]?=some u->w.cell? ((⟨gb,0,none⟩:Addr).add j)=some u:=fun j u hj=>by
    rw [bY,cell_of_row w gb _ _ _ _ hg]
    rw [<- eQ,List.getElem?_take] at hj
    split at hj
    .simpa using hj
    .cases hj
   rw [run_append_grow (P:=P) w t ty el i z ht hi hz ⟨gb,0,none⟩ n cap xs jC.1 holds ad m c news hl EJ (by omega) (by omega) (growslice_fits (by omega) HC)] at hr
   cases hr
   exact .inr rfl
def FJ (T:bA) (k:IntKind) (el:TypeId):SV->Option (Option Nat × List Prop × List Int)
 | .raw (.slice none 0 0)=>some (none,[],[])
 | .buf l=>match T l with
   | some (.cD k2 xs ty)=>match decide (k2=k),Nat.beq ty el with
     | true,true=>some (some l,[],xs)
     | _,_=>none
   | _=>none
 | .aI l s 0 len cap=>match T l with
   | some (.ints k2 xs ty)=>match decide (k2=k),Nat.beq ty el with
     | true,true=>some (some l,[cap=xs.length/\len<=cap/\cap<=9223372036854775807],xs.take len)
     | _,_=>none
   | some (.own cells ty)=>match s,dV k cells,Nat.beq ty el with
     | true,some xs,true=>match Nat.beq cap cells.length,Nat.ble len cap,Nat.ble cap 9223372036854775807 with
       | true,true,true=>some (some l,[],xs.take len)
       | _,_,_=>none
     | _,_,_=>none
   | _=>none
 | _=>none
theorem MR {k:IntKind} {el:TypeId} {v:SV} {x:Value} {lo:Option Nat} {ob:List Prop} {xs:List Int} (hT:aG w0 M V T w) (hv:den V v=some x) (h:FJ T k el v=some (lo,ob,xs)) (ho:∀ q∈ob,q) :
 w.ownsRow 0 el 1 x xs.length (xs.map (Value.int k))/\(lo=none->x.ownBlock=none)/\∀ l,lo=some l->∃ B,T l=some B/\B.owned=true/\∀ n,x.ownBlock=some n->B.bB V l=some n:=by
 have full:∀ (l:Nat) (B:SB) (ys:List Int) (len cap:Nat),T l=some B->B.owned=true->V.β l≠none->(∃ b,V.β l=some (b,0)/\B.bB V l=some b/\w.heap[b]?=some (.cells (ys.map (Value.int k)).toArray el (0,0)))->cap=ys.length->len<=cap->cap<=9223372036854775807 ->
  den V (.aI l true 0 len cap)=some x->w.ownsRow 0 el 1 x (ys.take len).length ((ys.take len).map (Value.int k))/\∃ B,T l=some B/\B.owned=true/\∀ n,x.ownBlock=some n->B.bB V l=some n:=by
  intro l B ys len cap hB jC _ ⟨b,hβ,gA,hh⟩ sP hle Wj hd
  simp only [den,hβ,Option.map_some,Option.some.injEq,Nat.add_zero] at hd
  subst hd
  have hlen:(ys.take len).length=len:=by simp;omega
  refine ⟨⟨by simp,.inr ⟨b,cap,_,by rw [hlen],Nat.zero_le _,hh,by omega,by simp only [maxLen];omega,by simp [sP],by rw [hlen];simp [List.map_take]⟩⟩,B,hB,jC,fun n hn=>?_⟩
  simp only [Value.ownBlock,Option.some.injEq] at hn
  subst hn
  exact gA
 unfold FJ at h
 split at h
 .simp only [Option.some.injEq,Prod.mk.injEq] at h
  obtain ⟨rfl,rfl,rfl⟩:=h
  simp only [den,Option.some.injEq] at hv
  subst hv
  exact ⟨World.ownsRow_nil w 0 el 1,fun _=>rfl,fun l hl=>(by cases hl)⟩
 .rename_i l
  split at h
  .rename_i k2 ys ty hB
   split at h
   .rename_i h1 h2
    have:=of_decide_eq_true h1
    subst this
    have:=Nat.eq_of_beq_eq_true h2
    subst this
    simp only [Option.some.injEq,Prod.mk.injEq] at h
    obtain ⟨rfl,rfl,rfl⟩:=h
    obtain ⟨cs,hc,u,hσ,cN⟩:=hT.ok l _ hB
    simp only [SB.cells,Option.some.injEq] at hc
    subst hc
    simp only [den,hσ,Option.some.injEq] at hv
    subst hv
    refine ⟨cN,fun h=>(by cases h),fun l' sB=>?_⟩
    cases sB
    exact ⟨_,hB,rfl,fun n hn=>by simp [SB.bB,hσ,hn]⟩
   .cases h
  .cases h
 .rename_i l s len cap
  have NR:den V (.aI l true 0 len cap)=some x:=hv
  split at h
  .rename_i k2 ys ty hB
   split at h
   .rename_i h1 h2
    have:=of_decide_eq_true h1
    subst this
    have:=Nat.eq_of_beq_eq_true h2
    subst this
    simp only [Option.some.injEq,Prod.mk.injEq] at h
    obtain ⟨rfl,rfl,rfl⟩:=h
    obtain ⟨sP,hle,Wj⟩:cap=ys.length/\len<=cap/\cap<=9223372036854775807:=ho _ (by simp)
    obtain ⟨cs,hc,b,hβ,hh⟩:=hT.ok l _ hB
    simp only [SB.cells,Option.some.injEq] at hc
    subst hc
    obtain ⟨r1,r2⟩:=full l _ ys len cap hB rfl (by rw [hβ];simp) ⟨b,hβ,by simp [SB.bB,hβ],hh⟩ sP hle Wj NR
    exact ⟨r1,fun h=>(by cases h),fun l' sB=>(by cases sB;exact r2)⟩
   .cases h
  .rename_i cells ty hB
   split at h
   .rename_i ys sJ h2
    have:=Nat.eq_of_beq_eq_true h2
    subst this
    split at h
    .rename_i h3 h4 h5
     simp only [Option.some.injEq,Prod.mk.injEq] at h
     obtain ⟨rfl,rfl,rfl⟩:=h
     obtain ⟨cs,hc,b,hβ,hh⟩:=hT.ok l _ hB
     have PI:=dQ (V:=V) sJ
     rw [show SB.cells V (.own cells ty)=aJ V cells from rfl,PI] at hc
     cases hc
     have Kd:=bN PI
     obtain ⟨r1,r2⟩:=full l _ ys len cap hB rfl (by rw [hβ];simp) ⟨b,hβ,by simp [SB.bB,hβ],hh⟩ (by rw [Nat.eq_of_beq_eq_true h3];simpa using Kd.symm) (Nat.le_of_ble_eq_true h4) (Nat.le_of_ble_eq_true h5) NR
     exact ⟨r1,fun h=>(by cases h),fun l' sB=>(by cases sB;exact r2)⟩
    .cases h
   .cases h
  .cases h
 .cases h
def jP:Option Nat->List (Nat × SB)
 | some l=>[(l,.gone)]
 | none=>[]
theorem aG.Jm (h:aG w0 M V T w) {lab:Nat} (hf:V.fresh lab) {w':World} {v v':Value} {lo:Option Nat} {B:SB}
 (oW:okB (V.bL lab v') w' lab B) (Of:∀ n,B.bB (V.bL lab v') lab=some n->v'.ownBlock=some n) (yM:w.grownBy w' v.ownBlock)
 (gA:v'.ownBlock=v.ownBlock\/v'.ownBlock=some w.heap.size) (oO:lo=none->v.ownBlock=none)
 (Vn:∀ l,lo=some l->∃ B,T l=some B/\B.owned=true/\∀ n,v.ownBlock=some n->B.bB V l=some n) (rv:SV) (ob:List Prop) :
 aG w0 M (V.bL lab v') (fL T lab { bV:=ob,val:=rv,new:=[B],wr:=jP lo }) w':=by
 have bW:=bF.dU hf lab (Nat.le_refl _) (by omega) v'
 have kE:∀ l,lo=some l->l≠lab:=by
  intro l hl e
  subst e
  obtain ⟨B1,h1,h2,_⟩:=Vn l hl
  rcases h.known h1 (by rintro rfl;cases h2) with h3 | h3
  .exact h3 (hf l (Nat.le_refl _) (by omega)).1
  .exact h3 (hf l (Nat.le_refl _) (by omega)).2
 have Li:∀ n,v.ownBlock=some n->∃ l B0,lo=some l/\T l=some B0/\B0.owned=true/\B0.bB V l=some n:=by
  intro n hn
  cases mO:lo with
  | none=>rw [oO mO] at hn;cases hn
  | some l=>obtain ⟨B1,h1,h2,h3⟩:=Vn l mO;exact ⟨l,B1,rfl,h1,h2,h3 n hn⟩
 refine h.step (N:=fun k=>if k=lab then some B else if lo=some k then some .gone else none) bW.1 (fun k C hk=>?_) (fun k C hk=>?_) (fun k C n hk hb=>?_) (fun k C k' C' n dP hk jK jC hb=>?_) yM.size (fun n hn hx=>?_) yM.os yM.tape yM.output
 .have fU:look k (jP lo++[(lab,B)])=some C\/(look k (jP lo++[(lab,B)])=none/\T k=some C):=by
   unfold fL bR.fM at hk
   simp only [iE] at hk
   split at hk
   .rename_i C' hC;cases hk;exact .inl hC
   .rename_i hC;exact .inr ⟨hC,hk⟩
  rw [cI] at fU
  by_cases e:k=lab
  .subst e
   left
   have h0:look k (jP lo)=none:=by
    cases mO:lo with
    | none=>rfl
    | some l=>simp only [jP];rw [aF (kE l mO)];rfl
   rw [h0] at fU
   simp only [aL] at fU
   rcases fU with fU | ⟨fU,_⟩
   .simpa using fU
   .cases fU
  .have h0:look k [(lab,B)]=none:=by rw [aF (fun x=>e x.symm)];rfl
   rw [h0] at fU
   cases mO:lo with
   | none=>
     rw [mO] at fU
     simp only [jP,look] at fU
     rcases fU with fU | ⟨_,fU⟩
     .cases fU
     .right;exact ⟨by simp [e],fU⟩
   | some l=>
     rw [mO] at fU
     simp only [jP] at fU
     by_cases e2:l=k
     .subst e2
      rw [aL] at fU
      rcases fU with fU | ⟨fU,_⟩
      .left;simp only [Option.some.injEq] at fU;subst fU;simp [e]
      .cases fU
     .rw [aF e2] at fU
      simp only [look] at fU
      rcases fU with fU | ⟨_,fU⟩
      .cases fU
      .right;exact ⟨by simp [e,e2],fU⟩
 .by_cases e:k=lab
  .subst e
   simp only [if_true,Option.some.injEq] at hk
   subst hk
   exact oW
  .simp only [e,if_false] at hk
   split at hk
   .cases hk;exact ⟨[],rfl,trivial⟩
   .cases hk
 .by_cases e:k=lab
  .subst e
   simp only [if_true,Option.some.injEq] at hk
   subst hk
   have iZ:v'.ownBlock=some n:=Of n hb
   rcases gA with rU | rU
   .rw [rU] at iZ
    obtain ⟨l,B0,h0,h1,h2,h3⟩:=Li n iZ
    exact .inr (.inl ⟨l,B0,h1,h2,h3,by simp [kE l h0,h0]⟩)
   .rw [rU] at iZ;cases iZ;exact .inl (Nat.le_refl _)
  .simp only [e,if_false] at hk
   split at hk
   .cases hk;simp [SB.bB] at hb
   .cases hk
 .by_cases e:k=lab
  .subst e
   have e':k'≠k:=fun x=>dP x.symm
   simp only [e',if_false] at jK
   split at jK
   .cases jK;simp [SB.bB]
   .cases jK
  .simp only [e,if_false] at hk
   split at hk
   .cases hk;cases jC
   .cases hk
 .refine yM.block n hn fun e=>?_
  obtain ⟨l,B0,h0,h1,h2,h3⟩:=Li n e.symm
  exact hx l B0 h1 h2 (by simp [kE l h0,h0]) h3
theorem aG.append (h:aG w0 M V T w) {lab:Nat} (hf:V.fresh lab) {w':World} {v v':Value} {lo:Option Nat} {B:SB} {cs:List Value} {el:TypeId} {sz n:Nat}
 (hB:∃ k xs,B = .cD k xs el/\sz=1/\n=xs.length) (hc:B.cells V=some cs) (cN:w'.ownsRow 0 el sz v' n cs) (yM:w.grownBy w' v.ownBlock)
 (gA:v'.ownBlock=v.ownBlock\/v'.ownBlock=some w.heap.size) (oO:lo=none->v.ownBlock=none)
 (Vn:∀ l,lo=some l->∃ B,T l=some B/\B.owned=true/\∀ n,v.ownBlock=some n->B.bB V l=some n) (rv:SV) (ob:List Prop) :
 aG w0 M (V.bL lab v') (fL T lab { bV:=ob,val:=rv,new:=[B],wr:=jP lo }) w':=by
 have bW:=bF.dU hf lab (Nat.le_refl _) (by omega) v'
 have Ap:(V.bL lab v').σ lab=some v':=by simp [bF.bL]
 refine h.Jm hf ⟨cs,SB.iU bW.1 hc,?_⟩ (fun n hb=>?_) yM gA oO Vn rv ob
 .obtain ⟨kk,xs,rfl,rfl,rfl⟩:=hB
  exact ⟨v',Ap,cN⟩
 .obtain ⟨kk,xs,rfl,_⟩:=hB
  simpa [SB.bB,Ap] using hb
theorem aG.Jl (h:aG w0 M V T w) {lab:Nat} (hf:V.fresh lab) {w':World} {v':Value} {own:Option Nat} {lo:Option Nat} {cells:List SV} {cs:List Value} {el:TypeId} {sz nn:Nat}
 (hc:aJ V cells=some cs) (cN:w'.ownsRow 0 el sz v' nn cs) (Wh:v' ≠ .slice none 0 0) (yM:w.grownBy w' own)
 (gA:v'.ownBlock=own\/v'.ownBlock=some w.heap.size) (oO:lo=none->own=none)
 (Vn:∀ l,lo=some l->∃ B,T l=some B/\B.owned=true/\∀ n,own=some n->B.bB V l=some n) (rv:SV) (ob:List Prop) :
 ∃ b cap,v' = .slice (some ⟨b,0,none⟩) nn cap/\aG w0 M (V.Hd lab (b,0) (.int .i64 (cap:Nat))) (fL T lab { bV:=ob,val:=rv,new:=[.row sz cells el],wr:=jP lo }) w':=by
 obtain ⟨b,cap,cur,rfl,_,Lm,aQn,hcm,nK,eQ⟩:=cN.2.resolve_left (fun q=>Wh q.1)
 refine ⟨b,cap,rfl,?_⟩
 have bW:=bF.vD hf lab (Nat.le_refl _) (by omega) (b,0) (.int .i64 (cap:Nat))
 have Ap:(V.Hd lab (b,0) (.int .i64 (cap:Nat))).β lab=some (b,0):=by simp [bF.Hd,bF.put,bF.bL]
 have aHp:(V.Hd lab (b,0) (.int .i64 (cap:Nat))).σ lab=some (.int .i64 (cap:Nat)):=by simp [bF.Hd,bF.put,bF.bL]
 have kE:∀ l,lo=some l->l≠lab:=by
  intro l hl e
  subst e
  obtain ⟨B1,h1,h2,_⟩:=Vn l hl
  rcases h.known h1 (by rintro rfl;cases h2) with h3 | h3
  .exact h3 (hf l (Nat.le_refl _) (by omega)).1
  .exact h3 (hf l (Nat.le_refl _) (by omega)).2
 have Li:∀ n,own=some n->∃ l B0,lo=some l/\T l=some B0/\B0.owned=true/\B0.bB V l=some n:=by
  intro n hn
  cases mO:lo with
  | none=>rw [oO mO] at hn;cases hn
  | some l=>obtain ⟨B1,h1,h2,h3⟩:=Vn l mO;exact ⟨l,B1,rfl,h1,h2,h3 n hn⟩
 refine h.step (N:=fun k=>if k=lab then some (.row sz cells el) else if lo=some k then some .gone else none) bW.1 (fun k C hk=>?_) (fun k C hk=>?_) (fun k C n hk hb=>?_) (fun k C k' C' n dP hk jK jC hb=>?_) yM.size (fun n hn hx=>?_) yM.os yM.tape yM.output
 .have fU:look k (jP lo++[(lab,SB.row sz cells el)])=some C\/(look k (jP lo++[(lab,SB.row sz cells el)])=none/\T k=some C):=by
   unfold fL bR.fM at hk
   simp only [iE] at hk
   split at hk
   .rename_i C' hC;cases hk;exact .inl hC
   .rename_i hC;exact .inr ⟨hC,hk⟩
  rw [cI] at fU
  by_cases e:k=lab
  .subst e
   left
   have h0:look k (jP lo)=none:=by
    cases mO:lo with
    | none=>rfl
    | some l=>simp only [jP];rw [aF (kE l mO)];rfl
   rw [h0] at fU
   simp only [aL] at fU
   rcases fU with fU | ⟨fU,_⟩
   .simpa using fU
   .cases fU
  .have h0:look k [(lab,SB.row sz cells el)]=none:=by rw [aF (fun x=>e x.symm)];rfl
   rw [h0] at fU
   cases mO:lo with
   | none=>
     rw [mO] at fU
     simp only [jP,look] at fU
     rcases fU with fU | ⟨_,fU⟩
     .cases fU
     .right;exact ⟨by simp [e],fU⟩
   | some l=>
     rw [mO] at fU
     simp only [jP] at fU
     by_cases e2:l=k
     .subst e2
      rw [aL] at fU
      rcases fU with fU | ⟨fU,_⟩
      .left;simp only [Option.some.injEq] at fU;subst fU;simp [e]
      .cases fU
     .rw [aF e2] at fU
      simp only [look] at fU
      rcases fU with fU | ⟨_,fU⟩
      .cases fU
      .right;exact ⟨by simp [e,e2],fU⟩
 .by_cases e:k=lab
  .subst e
   simp only [if_true,Option.some.injEq] at hk
   subst hk
   refine ⟨cs,dI bW.1 hc,b,cap,cur,Ap,aHp,Lm,hcm,nK,⟨nn,cN.1,aQn⟩,?_⟩
   rw [cN.1];exact eQ
  .simp only [e,if_false] at hk
   split at hk
   .cases hk;exact ⟨[],rfl,trivial⟩
   .cases hk
 .by_cases e:k=lab
  .subst e
   simp only [if_true,Option.some.injEq] at hk
   subst hk
   have iZ:(Value.slice (some ⟨b,0,none⟩) nn cap).ownBlock=some n:=by
    simpa [SB.bB,Ap,Value.ownBlock] using hb
   rcases gA with rU | rU
   .rw [rU] at iZ
    obtain ⟨l,B0,h0,h1,h2,h3⟩:=Li n iZ
    exact .inr (.inl ⟨l,B0,h1,h2,h3,by simp [kE l h0,h0]⟩)
   .rw [rU] at iZ;cases iZ;exact .inl (Nat.le_refl _)
  .simp only [e,if_false] at hk
   split at hk
   .cases hk;simp [SB.bB] at hb
   .cases hk
 .by_cases e:k=lab
  .subst e
   have e':k'≠k:=fun x=>dP x.symm
   simp only [e',if_false] at jK
   split at jK
   .cases jK;simp [SB.bB]
   .cases jK
  .simp only [e,if_false] at hk
   split at hk
   .cases hk;cases jC
   .cases hk
 .refine yM.block n hn fun e=>?_
  obtain ⟨l,B0,h0,h1,h2,h3⟩:=Li n e.symm
  exact hx l B0 h1 h2 (by simp [kE l h0,h0]) h3
end Gv
section Gv
variable {P:Program} {Γ:Env} {V:bF} {w w0:World} {M:Nat->Prop} {T:bA} {g:Nat->Option SV} {a:Act} {o:Oper} {e:bR}
def wQ (P:Program) (w0:World) (M:Nat->Prop) (V:bF) (T:bA) (lab:Nat) (e:bR) (s:Sem Value) (w:World):Prop:=
 ∃ V' x w',s.run P w = .ok x w'/\V.ext lab V'/\den V' e.val=some x/\aG w0 M V' (fL T lab e) w'
theorem oU {lab:Nat} {s:Sem Value} (h:∃ x,s.run P w = .ok x w/\den V e.val=some x/\e.new=[]/\e.wr=[]) (hT:aG w0 M V T w):wQ P w0 M V T lab e s w:=by
 obtain ⟨x,h1,h2,h3,h4⟩:=h
 exact ⟨V,x,w,h1,V.dR lab,h2,by rw [kL T lab h3 h4];exact hT⟩
theorem aG.sub {T':bA} (h:aG w0 M V T w) (bC:∀ l B,T' l=some B->T l=some B):aG w0 M V T' w:=
 ⟨fun l B hl=>h.ok l B (bC l B hl),fun l B l' B' n dP hl sB=>h.kF l B l' B' n dP (bC l B hl) (bC l' B' sB),fun l B n hl=>h.perm l B n (bC l B hl),h.frame⟩
def aCj:TypeDesc->Option IntKind
 | .int k=>some k
 | _=>none
def FD (T:bA) (te:TI) (el:TypeId) (lab:Nat) (x y:SV):Option bR:=
 match aCj te.desc,Nat.beq te.size 1,Nat.blt 0 te.bytes&&Nat.beq te.zero.length 1 with
 | some k,true,true=>match FJ T k el x,BB T k y with
   | some (lo,o1,xs),some (o2,ys)=>some { bV:=[(xs.length+ys.length)*te.bytes<=140737488355328]++o1++o2,val:=.buf lab,new:=[.cD k (xs++ys) el],wr:=jP lo }
   | _,_=>none
 | _,_,_=>none
theorem MN (aM:cG P Γ) {T':bA} (bC:∀ l B,T' l=some B->T l=some B) (hT:aG w0 M V T w) {lab:Nat} (hf:V.fresh lab) {t ty el:TypeId} {te:TI} (ht:P.underlying t=some (.slice el)) (gM:Γ.ty el=some te)
 {x y:SV} {u v:Value} (hx:den V x=some u) (hy:den V y=some v) (he:FD T' te el lab x y=some e) (ho:∀ q∈e.bV,q):wQ P w0 M V T lab e (Builtin.append_ #[t,t] ty #[u,v]) w:=by
 unfold FD at he
 split at he
 .rename_i k hk kD hby
  split at he
  .rename_i lo o1 xs o2 ys h1 h2
   simp only [Option.some.injEq] at he
   subst he
   obtain ⟨_,i,z,hi,cZ,tU,hz,hzero⟩:=aM el te gM
   have lV:i.size=1:=by rw [cZ];exact Nat.eq_of_beq_eq_true kD
   simp only [Bool.and_eq_true] at hby
   have sL:0<te.bytes:=by simpa [Nat.blt_eq] using hby.1
   have hbound:(xs.length+ys.length)*te.bytes<=140737488355328:=ho _ (by simp)
   have hd:=MR (hT.sub bC) hx h1 (fun q hq=>ho q (by simp [hq]))
   have hh:=Is (hT.sub bC) hy h2 (fun q hq=>ho q (by simp [hq]))
   obtain ⟨cN,oO,Vn⟩:=hd
   have mO:∀ l,lo=some l->∃ B,T l=some B/\B.owned=true/\∀ n,u.ownBlock=some n->B.bB V l=some n:=fun l hl=>by
    obtain ⟨B,h1,h2,h3⟩:=Vn l hl;exact ⟨B,bC l B h1,h2,h3⟩
   have aLu:xs.length+ys.length<=maxLen:=by
    have:=Nat.le_mul_of_pos_right (xs.length+ys.length) sL
    simp only [maxLen];omega
   have ZA:z.cells.size=1:=by
    have h1:=bN (hzero V)
    have h2:=Nat.eq_of_beq_eq_true hby.2
    simpa [h2] using h1
   rcases hh with ⟨rfl,sJ⟩ | ⟨ad,c,rfl,cT⟩
   .have:ys=[]:=by simpa using sJ
    subst this
    have hr:=run_append_owned_none (P:=P) (w:=w) 0 t ty el i 1 ht hi u xs.length _ cN
    refine ⟨V.bL lab u,u,w,hr,bF.dU hf lab (Nat.le_refl _) (by omega) u,by simp [den,bF.bL],?_⟩
    exact hT.append hf ⟨k,xs++[],rfl,rfl,rfl⟩ (show SB.cells V (.cD k (xs++[]) el)=some ((xs++[]).map (Value.int k)) from rfl) (by simpa using cN) ⟨rfl,rfl,rfl,Nat.le_refl _,fun _ _ _=>rfl⟩ (.inl rfl) oO mO _ _
   .have iX:∀ q∈ys.map (Value.int k),q.oneCell'=true:=by
     intro q hq
     obtain ⟨n,_,rfl⟩:=List.mem_map.1 hq
     rfl
    have hl:(ys.map (Value.int k)).length=(ys.map (Value.int k)).length*i.size:=by rw [lV];simp
    have aBh:w.ownsRow 0 el i.size u xs.length (xs.map (Value.int k)):=by rw [lV];exact cN
    obtain ⟨v',w',hr,Fe,yM,_⟩:=run_append_own (P:=P) w 0 t ty el i z i.size i.bytes ht hi hz rfl rfl (by rw [lV];exact ZA) (by omega) u xs.length (xs.map (Value.int k)) aBh ad _ c _ hl cT iX (by simpa using aLu) (by rw [tU];simpa using hbound) (Nat.zero_le _)
    have gA:=tJ (P:=P) ht hi hz aBh rfl hl cT iX (by simpa using aLu) (by rw [tU];simpa using hbound) hr
    refine ⟨V.bL lab v',v',w',hr,bF.dU hf lab (Nat.le_refl _) (by omega) v',by simp [den,bF.bL],?_⟩
    rw [lV] at Fe
    exact hT.append hf ⟨k,xs++ys,rfl,rfl,rfl⟩ (show SB.cells V (.cD k (xs++ys) el)=some ((xs++ys).map (Value.int k)) from rfl) (by simpa using Fe) yM gA oO mO _ _
  .cases he
 .cases he
end Gv
section Gv
variable {P:Program} {Γ:Env} {V:bF} {w w0:World} {M:Nat->Prop} {T:bA} {g:Nat->Option SV} {a:Act} {o:Oper} {e:bR}
def HP (w:World) (sz:Nat) (x:Value) (m:Nat) (cs:List Value):Prop:=
 (x = .slice none 0 0/\m=0/\cs=[])\/∃ ad c,x = .slice (some ad) m c/\cs.length=m*sz/\∀ (j:Nat) (u:Value),cs[j]?=some u->w.cell? (ad.add j)=some u
def Ha (T:bA) (sz:Nat):SV->Option (Nat × List SV)
 | .aI l s off len _=>match T l with
   | some B=>match Rz B s off (len*sz) with
     | some ([],r)=>match nN r with
       | true=>some (len,r)
       | false=>none
     | _=>none
   | none=>none
 | .dO l off len _=>match T l with
   | some B=>match Rz B true off (len*sz) with
     | some ([],r)=>match nN r with
       | true=>some (len,r)
       | false=>none
     | _=>none
   | none=>none
 | .raw (.slice none 0 0)=>some (0,[])
 | _=>none
theorem zL {sz:Nat} {v:SV} {x:Value} {m:Nat} {r:List SV} (hT:aG w0 M V T w) (hv:den V v=some x) (h:Ha T sz v=some (m,r)) :
 ∃ cs,aJ V r=some cs/\nN r=true/\HP w sz x m cs:=by
 have rd:∀ (l:Nat) (B:SB) (s:Bool) (off len c:Nat) (r:List SV) (p:Nat × Nat),T l=some B->V.β l=some p->Rz B s off (len*sz)=some ([],r) ->
  ∃ cs,aJ V r=some cs/\HP w sz (.slice (some ⟨p.1,p.2+off,none⟩) len c) len cs:=by
  intro l B s off len c r p hB hβ hr
  obtain ⟨xs,h1,h2,h3⟩:=pD (hT.ok l B hB) (b:=p.1) (o:=p.2) hβ hr (by simp)
  exact ⟨xs,h1,.inr ⟨_,c,rfl,h2,fun j u hj=>by rw [bY];exact h3 j u hj⟩⟩
 unfold Ha at h
 split at h
 .rename_i l s off len c
  simp only [den,Option.map_eq_some_iff] at hv
  obtain ⟨p,hβ,rfl⟩:=hv
  split at h
  .rename_i B hB
   split at h
   .rename_i r' hr
    split at h
    .rename_i iX
     simp only [Option.some.injEq,Prod.mk.injEq] at h
     obtain ⟨rfl,rfl⟩:=h
     obtain ⟨cs,h1,h2⟩:=rd l B s off len c r' p hB hβ hr
     exact ⟨cs,h1,iX,h2⟩
    .cases h
   .cases h
  .cases h
 .rename_i l off len lo
  simp only [den,Option.map_eq_some_iff,Option.bind_eq_some_iff] at hv
  obtain ⟨p,hβ,c,_,rfl⟩:=hv
  split at h
  .rename_i B hB
   split at h
   .rename_i r' hr
    split at h
    .rename_i iX
     simp only [Option.some.injEq,Prod.mk.injEq] at h
     obtain ⟨rfl,rfl⟩:=h
     obtain ⟨cs,h1,h2⟩:=rd l B true off len (c-lo) r' p hB hβ hr
     exact ⟨cs,h1,iX,h2⟩
    .cases h
   .cases h
  .cases h
 .simp only [Option.some.injEq,Prod.mk.injEq] at h
  obtain ⟨rfl,rfl⟩:=h
  simp only [den,Option.some.injEq] at hv
  exact ⟨[],rfl,rfl,.inl ⟨hv.symm,rfl,rfl⟩⟩
 .cases h
def Lq (T:bA) (el:TypeId) (sz:Nat):SV->Option (Option Nat × Nat × List SV)
 | .raw (.slice none 0 0)=>some (none,0,[])
 | .dO l 0 len 0=>match T l with
   | some (.row sz2 cells ty)=>match Nat.beq sz2 sz,Nat.beq ty el,Nat.ble (len*sz) cells.length&&Nat.blt 0 sz with
     | true,true,true=>some (some l,len,cells.take (len*sz))
     | _,_,_=>none
   | _=>none
 | .aI l true 0 len cap=>match T l with
   | some (.own cells ty)=>match Nat.beq (cap*sz) cells.length,Nat.beq ty el,Nat.ble len cap&&Nat.ble cap 9223372036854775807 with
     | true,true,true=>some (some l,len,cells.take (len*sz))
     | _,_,_=>none
   | _=>none
 | _=>none
theorem Nj {el:TypeId} {sz:Nat} {v:SV} {x:Value} {lo:Option Nat} {n:Nat} {r:List SV} (hT:aG w0 M V T w) (hv:den V v=some x) (h:Lq T el sz v=some (lo,n,r)) :
 ∃ cs,aJ V r=some cs/\w.ownsRow 0 el sz x n cs/\(lo=none->x = .slice none 0 0)/\(∀ l,lo=some l->x ≠ .slice none 0 0)/\∀ l,lo=some l->∃ B,T l=some B/\B.owned=true/\∀ n,x.ownBlock=some n->B.bB V l=some n:=by
 unfold Lq at h
 split at h
 .simp only [Option.some.injEq,Prod.mk.injEq] at h
  obtain ⟨rfl,rfl,rfl⟩:=h
  simp only [den,Option.some.injEq] at hv
  subst hv
  exact ⟨[],rfl,World.ownsRow_nil w 0 el sz,fun _=>rfl,fun l hl=>(by cases hl),fun l hl=>(by cases hl)⟩
 .rename_i l len
  split at h
  .rename_i sz2 cells ty hB
   split at h
   .rename_i h1 h2 h3
    have:=Nat.eq_of_beq_eq_true h1
    subst this
    have:=Nat.eq_of_beq_eq_true h2
    subst this
    simp only [Bool.and_eq_true] at h3
    have h3a:=Nat.le_of_ble_eq_true h3.1
    have h3b:0<sz2:=by simpa [Nat.blt_eq] using h3.2
    simp only [Option.some.injEq,Prod.mk.injEq] at h
    obtain ⟨rfl,rfl,rfl⟩:=h
    obtain ⟨cs,hc,b,cap,cur,hβ,hσ,hh,hcm,nK,⟨n,hn,ZF⟩,eQ⟩:=hT.ok l _ hB
    have sK:=bN (show aJ V cells=some cs from hc)
    simp only [den,hβ,hσ,qM,Option.bind_some,Option.map_some,Option.some.injEq,Nat.add_zero,Nat.sub_zero,Int.toNat_natCast] at hv
    subst hv
    have hle:len<=n:=by
     rw [<- sK,hn] at h3a
     exact Nat.le_of_mul_le_mul_right h3a h3b
    refine ⟨cs.take (len*sz2),eB _ hc,⟨by rw [List.length_take,sK];omega,.inr ⟨b,cap,cur,rfl,Nat.zero_le _,hh,by omega,hcm,nK,?_⟩⟩,fun h=>(by cases h),fun _ _ h=>(by cases h),fun l' sB=>?_⟩
    .rw [<- eQ,List.take_take,Nat.min_eq_left (by rw [sK];exact h3a)]
    .cases sB
     exact ⟨_,hB,rfl,fun n hn=>by simpa [SB.bB,hβ,Value.ownBlock] using hn⟩
   .cases h
  .cases h
 .rename_i l len cap
  split at h
  .rename_i cells ty hB
   split at h
   .rename_i h1 h2 h3
    have h1:=Nat.eq_of_beq_eq_true h1
    have:=Nat.eq_of_beq_eq_true h2
    subst this
    simp only [Bool.and_eq_true] at h3
    have h3a:=Nat.le_of_ble_eq_true h3.1
    have h3b:=Nat.le_of_ble_eq_true h3.2
    simp only [Option.some.injEq,Prod.mk.injEq] at h
    obtain ⟨rfl,rfl,rfl⟩:=h
    obtain ⟨cs,hc,b,hβ,hh⟩:=hT.ok l _ hB
    have sK:=bN (show aJ V cells=some cs from hc)
    simp only [den,hβ,Option.map_some,Option.some.injEq,Nat.add_zero] at hv
    subst hv
    have hle:len*sz<=cells.length:=by rw [<- h1];exact Nat.mul_le_mul_right _ h3a
    refine ⟨cs.take (len*sz),eB _ hc,⟨by rw [List.length_take,sK];omega,.inr ⟨b,cap,cs.toArray,rfl,Nat.zero_le _,hh,h3a,by simp only [maxLen];omega,by simp [sK,h1],rfl⟩⟩,fun h=>(by cases h),fun _ _ h=>(by cases h),fun l' sB=>?_⟩
    cases sB
    exact ⟨_,hB,rfl,fun n hn=>by simpa [SB.bB,hβ,Value.ownBlock] using hn⟩
   .cases h
  .cases h
 .cases h
def Uc:Option Nat->Bool
 | none=>true
 | some _=>false
def FE (T:bA) (te:TI) (el:TypeId) (lab:Nat) (x y:SV):Option bR:=
 match Nat.blt 0 te.size,Nat.beq te.zero.length te.size with
 | true,true=>match Ha T te.size y with
   | some (m,ys)=>match x with
     | .aI _ _ _ 0 0=>match Nat.blt 0 m,Nat.ble (m*te.bytes) 140737488355328&&Nat.ble m 9223372036854775807 with
       | true,true=>some { val:=.dO lab 0 m 0,new:=[.row te.size ys el] }
       | _,_=>none
     | _=>match Lq T el te.size x with
       | some (lo,n,xs)=>match Nat.blt 0 (n+m) || !Uc lo,Nat.ble ((n+m)*te.bytes) 140737488355328&&Nat.ble (n+m) 9223372036854775807 with
         | true,true=>match y with
           | .raw _=>match lo with
             | none=>none
             | some _=>some { val:=x }
           | _=>some { val:=.dO lab 0 (n+m) 0,new:=[.row te.size (xs++ys) el],wr:=jP lo }
         | false,true=>match y with
           | .raw _=>some { val:=x }
           | _=>none
         | _,_=>none
       | none=>none
   | none=>none
 | _,_=>none
theorem MO (aM:cG P Γ) {T':bA} (bC:∀ l B,T' l=some B->T l=some B) (hT:aG w0 M V T w) {lab:Nat} (hf:V.fresh lab) {t ty el:TypeId} {te:TI} (ht:P.underlying t=some (.slice el)) (gM:Γ.ty el=some te)
 {x y:SV} {u v:Value} (hx:den V x=some u) (hy:den V y=some v) (he:FE T' te el lab x y=some e):wQ P w0 M V T lab e (Builtin.append_ #[t,t] ty #[u,v]) w:=by
 unfold FE at he
 split at he
 case h_2=>cases he
 rename_i vZ NQ
 have vZ:0<te.size:=by simpa [Nat.blt_eq] using vZ
 have NQ:=Nat.eq_of_beq_eq_true NQ
 obtain ⟨_,i,z,hi,cZ,tU,hz,hzero⟩:=aM el te gM
 have ZA:z.cells.size=i.size:=by
  have h1:=bN (hzero V)
  rw [cZ,<- NQ,<- h1];simp
 split at he
 case h_2=>cases he
 rename_i m ys BP
 obtain ⟨cy,PG,iX,hh⟩:=zL (hT.sub bC) hy BP
 have h1:=rN iX PG
 rw [<- cZ] at hh vZ
 split at he
 .rename_i l s off
  split at he
  case h_2=>cases he
  rename_i hm hb
  have hm:0<m:=by simpa [Nat.blt_eq] using hm
  simp only [Bool.and_eq_true] at hb
  have sL:=Nat.le_of_ble_eq_true hb.1
  have rU:=Nat.le_of_ble_eq_true hb.2
  simp only [Option.some.injEq] at he
  subst he
  rcases hh with ⟨_,h0,_⟩ | ⟨ad,c,rfl,hl,cT⟩
  .omega
  simp only [den,Option.map_eq_some_iff] at hx
  obtain ⟨p,_,rfl⟩:=hx
  have hr:=run_append_grow (P:=P) w t ty el i z ht hi hz ⟨p.1,p.2+off,none⟩ 0 0 [] (by simp) (by intro j u hj;simp at hj) ad m c cy hl cT (by omega) (by simp only [Nat.zero_add];omega) (growslice_fits (by omega) (by rw [tU];simpa using sL))
  have hgc:=grownCap_ge w (0+m) 0 el
  have hgm:grownCap w (0+m) 0 el<=maxLen:=grownCap_le_maxLen w (0+m) 0 el (by simp only [maxLen];omega)
  have cN:(w.drew.alloc (.cells ((([]:List Value)).toArray++cy.toArray++Builtin.zeroCells z.cells (grownCap w (0+m) 0 el-(0+m))) el)).ownsRow 0 el i.size (.slice (some ⟨w.heap.size,0,none⟩) (0+m) (grownCap w (0+m) 0 el)) (0+m) cy:=by
   refine ⟨by simpa using hl,.inr ⟨w.heap.size,_,_,rfl,Nat.zero_le _,heap_alloc_new w.drew _,hgc,hgm,?_,?_⟩⟩
   .simp only [Array.size_append,List.size_toArray,size_zeroCells,ZA,hl,List.length_nil,Nat.zero_add,<- Nat.add_mul]
    congr 1
    simp only [Nat.zero_add] at hgc
    omega
   .rw [Nat.zero_add,<- hl];simp
  have yM:w.grownBy (w.drew.alloc (.cells ((([]:List Value)).toArray++cy.toArray++Builtin.zeroCells z.cells (grownCap w (0+m) 0 el-(0+m))) el)) none:=⟨rfl,rfl,rfl,by simp,fun k hk _=>heap_alloc_old w.drew _ hk⟩
  rw [Nat.zero_add] at hr cN yM
  obtain ⟨b,cap,NR,tQ⟩:=hT.Jl (lab:=lab) hf (lo:=none) (own:=none) PG cN (by simp) yM (.inr rfl) (fun _=>rfl) (fun l hl=>(by cases hl)) (.dO lab 0 m 0) []
  refine ⟨_,_,_,hr,bF.vD hf lab (Nat.le_refl _) (by omega) _ _,?_,by rw [<- cZ];exact tQ⟩
  simp [den,bF.Hd,bF.put,bF.bL,qM,NR]
 .split at he
  case h_2=>cases he
  rename_i lo n xs QP
  obtain ⟨cx,hcx,cN,oO,aQe,Vn⟩:=Nj (hT.sub bC) hx QP
  rw [<- cZ] at cN
  have mO:∀ l,lo=some l->∃ B,T l=some B/\B.owned=true/\∀ n,u.ownBlock=some n->B.bB V l=some n:=fun l hl=>by
   obtain ⟨B,h1,h2,h3⟩:=Vn l hl;exact ⟨B,bC l B h1,h2,h3⟩
  have rW:∀ {q:Value},y = .raw q->wQ P w0 M V T lab { val:=x } (Builtin.append_ #[t,t] ty #[u,v]) w:=by
   intro q hq
   subst hq
   unfold Ha at BP
   split at BP <;> first | (cases BP;done) | skip
   all_goals first
    | (rename_i heq;cases heq;done)
    | (rename_i heq;cases heq;simp only [den,Option.some.injEq] at hy;subst hy;exact oU ⟨u,run_append_owned_none (P:=P) (w:=w) 0 t ty el i i.size ht hi u n _ cN,hx,rfl,rfl⟩ hT)
    | (simp only [den,Option.some.injEq] at hy;subst hy;exact oU ⟨u,run_append_owned_none (P:=P) (w:=w) 0 t ty el i i.size ht hi u n _ cN,hx,rfl,rfl⟩ hT)
  split at he
  .rename_i Wg hb
   simp only [Bool.and_eq_true] at hb
   have sL:=Nat.le_of_ble_eq_true hb.1
   have rU:=Nat.le_of_ble_eq_true hb.2
   split at he
   .split at he
    .cases he
    .simp only [Option.some.injEq] at he
     subst he
     exact rW rfl
   .rename_i hnr
    simp only [Option.some.injEq] at he
    subst he
    rcases hh with ⟨rfl,rfl,rfl⟩ | ⟨ad,c,rfl,hl,cT⟩
    .exfalso
     have:∀ s:SV,den V s=some (.slice none 0 0)->Ha T' te.size s=some (0,ys)->∃ q,s = .raw q:=by
      intro s lV Zu
      unfold Ha at Zu
      split at Zu
      .simp only [den,Option.map_eq_some_iff] at lV
       obtain ⟨p,_,hp⟩:=lV
       cases hp
      .simp only [den,Option.map_eq_some_iff,Option.bind_eq_some_iff] at lV
       obtain ⟨p,_,c,_,hp⟩:=lV
       cases hp
      .exact ⟨_,rfl⟩
      .cases Zu
     obtain ⟨q,hq⟩:=this y hy BP
     exact hnr q hq
    .obtain ⟨v',w',hr,Fe,yM,Wh⟩:=run_append_own (P:=P) w 0 t ty el i z i.size i.bytes ht hi hz rfl rfl ZA vZ u n cx cN ad m c cy hl cT h1 (by simp only [maxLen];omega) (by rw [tU];exact sL) (Nat.zero_le _)
     have gA:=tJ (P:=P) ht hi hz cN rfl hl cT h1 (by simp only [maxLen];omega) (by rw [tU];exact sL) hr
     have dP:v' ≠ .slice none 0 0:=by
      intro h
      obtain ⟨h2,h3⟩:=Wh.1 h
      cases aLw:lo with
      | none=>
        simp only [aLw,Uc,Bool.not_true,Bool.or_false] at Wg
        have:0<n+m:=by simpa [Nat.blt_eq] using Wg
        subst h2
        rcases cN.2 with ⟨_,h4⟩ | ⟨_,_,_,h4,_⟩
        .omega
        .cases h4
      | some l=>exact aQe l aLw h2
     obtain ⟨b,cap,NR,tQ⟩:=hT.Jl (lab:=lab) hf (lo:=lo) (own:=u.ownBlock) (cJ hcx PG) Fe dP yM gA (fun h=>by rw [oO h];rfl) mO (.dO lab 0 (n+m) 0) []
     refine ⟨_,_,_,hr,bF.vD hf lab (Nat.le_refl _) (by omega) _ _,?_,by rw [<- cZ];exact tQ⟩
     simp [den,bF.Hd,bF.put,bF.bL,qM,NR]
  .split at he
   .simp only [Option.some.injEq] at he
    subst he
    exact rW rfl
   .cases he
  .cases he
def OV (T:bA):SV->Bool
 | .buf l=>match T l with
   | some (.bO _ _ _)=>true
   | _=>false
 | _=>false
def rdX (T:bA) (sz:Nat):SV->Option Nat
 | .buf l=>match T l with
   | some (.bO AD n _)=>match Nat.beq AD sz with
     | true=>some n
     | false=>none
   | _=>none
 | v=>match Ha T sz v with
   | some (m,_)=>some m
   | none=>none
def dsX (T:bA) (el:TypeId) (sz:Nat):SV->Option (Option Nat × Nat)
 | .buf l=>match T l with
   | some (.bO AD n ty)=>match Nat.beq AD sz&&Nat.beq ty el with
     | true=>some (some l,n)
     | false=>none
   | _=>none
 | v=>match Lq T el sz v with
   | some (lo,n,xs)=>match nN xs with
     | true=>some (lo,n)
     | false=>none
   | none=>none
def FB (T:bA) (te:TI) (el:TypeId) (lab:Nat) (x y:SV):Option bR:=
 match OV T x||(OV T y||Nat.blt 1 te.size),Nat.blt 0 te.size&&Nat.beq te.zero.length te.size,dsX T el te.size x,rdX T te.size y with
 | true,true,some (lo,n),some m=>some { bV:=[(n+m)*te.bytes<=140737488355328/\n+m<=9223372036854775807],val:=.buf lab,new:=[.bO te.size (n+m) el],wr:=jP lo }
 | _,_,_,_=>none
theorem aGf {sz:Nat} {v:SV} {x:Value} {m:Nat} (hT:aG w0 M V T w) (hv:den V v=some x) (h:rdX T sz v=some m) :
 (x = .slice none 0 0/\m=0)\/∃ (ad:Addr) (c:Nat) (cy:List Value),x = .slice (some ad) m c/\cy.length=m*sz/\(∀ (j:Nat) (u:Value),cy[j]?=some u->w.cell? (ad.add j)=some u)/\∀ q∈cy,q.oneCell'=true:=by
 have gen:∀ v:SV,den V v=some x->(match Ha T sz v with | some (m,_)=>some m | none=>none)=some m->(x = .slice none 0 0/\m=0)\/∃ (ad:Addr) (c:Nat) (cy:List Value),x = .slice (some ad) m c/\cy.length=m*sz/\(∀ (j:Nat) (u:Value),cy[j]?=some u->w.cell? (ad.add j)=some u)/\∀ q∈cy,q.oneCell'=true:=by
  intro v hv h
  split at h
  .rename_i m' ys hs
   cases h
   obtain ⟨cy,PG,iX,hh⟩:=zL hT hv hs
   have h1:=rN iX PG
   rcases hh with ⟨rfl,rfl,_⟩ | ⟨ad,c,rfl,hl,cT⟩
   .exact .inl ⟨rfl,rfl⟩
   .exact .inr ⟨ad,c,cy,rfl,hl,cT,h1⟩
  .cases h
 unfold rdX at h
 split at h
 .rename_i l
  split at h
  .rename_i AD n ty hB
   split at h
   case h_2=>cases h
   rename_i kD
   cases h
   have kD:=Nat.eq_of_beq_eq_true kD
   subst kD
   obtain ⟨cs,hc,u,us,hσ,cN,hq⟩:=hT.ok l _ hB
   simp only [den,hσ,Option.some.injEq] at hv
   subst hv
   rcases cN.2 with ⟨rfl,rfl⟩ | ⟨g,cap,cur,rfl,_,hh,hle,_,nK,eQ⟩
   .exact .inl ⟨rfl,rfl⟩
   .refine .inr ⟨⟨g,0,none⟩,cap,us,rfl,cN.1,fun j u hj=>?_,hq⟩
    rw [<- eQ,List.getElem?_take] at hj
    split at hj
    .have:w.cell? ⟨g,0+j,none⟩=some u:=by rw [cell_of_row w g _ _ _ _ hh];simpa using hj
     rw [bY]
     exact this
    .cases hj
  .cases h
 .exact gen _ hv h
theorem aJr {el:TypeId} {sz:Nat} {v:SV} {x:Value} {lo:Option Nat} {n:Nat} (hT:aG w0 M V T w) (hv:den V v=some x) (h:dsX T el sz v=some (lo,n)) :
 ∃ cs:List Value,w.ownsRow 0 el sz x n cs/\(∀ q∈cs,q.oneCell'=true)/\(lo=none->x.ownBlock=none)/\∀ l,lo=some l->∃ B,T l=some B/\B.owned=true/\∀ n,x.ownBlock=some n->B.bB V l=some n:=by
 have gen:∀ v:SV,den V v=some x->(match Lq T el sz v with | some (lo,n,xs)=>(match nN xs with | true=>some (lo,n) | false=>none) | none=>none)=some (lo,n)->∃ cs:List Value,w.ownsRow 0 el sz x n cs/\(∀ q∈cs,q.oneCell'=true)/\(lo=none->x.ownBlock=none)/\∀ l,lo=some l->∃ B,T l=some B/\B.owned=true/\∀ n,x.ownBlock=some n->B.bB V l=some n:=by
  intro v hv h
  split at h
  .rename_i lo' n' xs hd
   split at h
   case h_2=>cases h
   rename_i iX
   cases h
   obtain ⟨cs,nK,cN,hn,_,hl⟩:=Nj hT hv hd
   exact ⟨cs,cN,rN iX nK,fun e=>by rw [hn e];rfl,hl⟩
  .cases h
 unfold dsX at h
 split at h
 .rename_i l
  split at h
  .rename_i AD n' ty hB
   split at h
   case h_2=>cases h
   rename_i oF
   simp only [Bool.and_eq_true] at oF
   cases h
   have h1:=Nat.eq_of_beq_eq_true oF.1
   have h2:=Nat.eq_of_beq_eq_true oF.2
   subst h1 h2
   obtain ⟨cs,hc,u,us,hσ,cN,hq⟩:=hT.ok l _ hB
   simp only [den,hσ,Option.some.injEq] at hv
   subst hv
   exact ⟨us,cN,hq,fun e=>by (cases e),fun l' e=>by cases e;exact ⟨_,hB,rfl,fun n hn=>by simp [SB.bB,hσ,hn]⟩⟩
  .cases h
 .exact gen _ hv h
theorem ML (aM:cG P Γ) {T':bA} (bC:∀ l B,T' l=some B->T l=some B) (hT:aG w0 M V T w) {lab:Nat} (hf:V.fresh lab) {t ty el:TypeId} {te:TI} (ht:P.underlying t=some (.slice el)) (gM:Γ.ty el=some te)
 {x y:SV} {u v:Value} (hx:den V x=some u) (hy:den V y=some v) (he:FB T' te el lab x y=some e) (ho:∀ q∈e.bV,q):wQ P w0 M V T lab e (Builtin.append_ #[t,t] ty #[u,v]) w:=by
 unfold FB at he
 split at he
 case h_2=>cases he
 rename_i lo n m _ kD hd hr
 cases he
 simp only [Bool.and_eq_true] at kD
 have vZ:0<te.size:=by simpa [Nat.blt_eq] using kD.1
 have NQ:=Nat.eq_of_beq_eq_true kD.2
 obtain ⟨_,i,z,hi,cZ,tU,hz,hzero⟩:=aM el te gM
 have ZA:z.cells.size=i.size:=by
  have h1:=bN (hzero V)
  rw [cZ,<- NQ,<- h1];simp
 obtain ⟨sL,rU⟩:=ho _ List.mem_cons_self
 obtain ⟨cx,cN,hox,oO,Vn⟩:=aJr (hT.sub bC) hx hd
 have mO:∀ l,lo=some l->∃ B,T l=some B/\B.owned=true/\∀ n,u.ownBlock=some n->B.bB V l=some n:=fun l hl=>by
  obtain ⟨B,h1,h2,h3⟩:=Vn l hl;exact ⟨B,bC l B h1,h2,h3⟩
 rw [<- cZ] at cN vZ
 have Wj:n+m<=maxLen:=by simp only [maxLen];omega
 rcases aGf (hT.sub bC) hy hr with ⟨rfl,rfl⟩ | ⟨ad,c,cy,rfl,hl,cT,iX⟩
 .have gG:=run_append_owned_none (P:=P) (w:=w) 0 t ty el i i.size ht hi u n _ cN
  refine ⟨V.bL lab u,u,w,gG,bF.dU hf lab (Nat.le_refl _) (by omega) u,by simp [den,bF.bL],?_⟩
  have oW:okB (V.bL lab u) w lab (.bO te.size (n+0) el):=⟨[],rfl,u,cx,by simp [bF.bL],by rw [<- cZ];exact cN,hox⟩
  refine hT.Jm hf oW (fun n hb=>by simpa [SB.bB,bF.bL] using hb) ⟨rfl,rfl,rfl,Nat.le_refl _,fun _ _ _=>rfl⟩ (.inl rfl) oO mO _ _
 .rw [<- cZ] at hl
  obtain ⟨v',w',gG,Fe,yM,_⟩:=run_append_own (P:=P) w 0 t ty el i z i.size i.bytes ht hi hz rfl rfl ZA vZ u n cx cN ad m c cy hl cT iX Wj (by rw [tU];exact sL) (Nat.zero_le _)
  have gA:=tJ (P:=P) ht hi hz cN rfl hl cT iX Wj (by rw [tU];exact sL) gG
  refine ⟨V.bL lab v',v',w',gG,bF.dU hf lab (Nat.le_refl _) (by omega) v',by simp [den,bF.bL],?_⟩
  have oW:okB (V.bL lab v') w' lab (.bO te.size (n+m) el):=⟨[],rfl,v',cx++cy,by simp [bF.bL],by rw [<- cZ];exact Fe,fun q hq=>?_⟩
  refine hT.Jm hf oW (fun n hb=>by simpa [SB.bB,bF.bL] using hb) yM gA oO mO _ _
  rcases List.mem_append.1 hq with hq | hq
  .exact hox q hq
  .exact iX q hq
end Gv
section Gv
variable {P:Program} {Γ:Env} {V:bF} {w w0:World} {M:Nat->Prop} {T:bA} {g:Nat->Option SV} {a:Act} {o:Oper} {e:bR}
def Kz:SV->Option (Nat × Nat × Nat)
 | .aI l true off len _=>some (l,off,len)
 | .dO l off len _=>some (l,off,len)
 | _=>none
theorem Cb {v:SV} {x:Value} {l off len:Nat} (h:Kz v=some (l,off,len)) (hv:den V v=some x):∃ p c,V.β l=some p/\x = .slice (some ⟨p.1,p.2+off,none⟩) len c:=by
 unfold Kz at h
 split at h
 .simp only [Option.some.injEq,Prod.mk.injEq] at h
  obtain ⟨rfl,rfl,rfl⟩:=h
  simp only [den,Option.map_eq_some_iff] at hv
  obtain ⟨p,hβ,rfl⟩:=hv
  exact ⟨p,_,hβ,rfl⟩
 .simp only [Option.some.injEq,Prod.mk.injEq] at h
  obtain ⟨rfl,rfl,rfl⟩:=h
  simp only [den,Option.map_eq_some_iff,Option.bind_eq_some_iff] at hv
  obtain ⟨p,hβ,c,_,rfl⟩:=hv
  exact ⟨p,_,hβ,rfl⟩
 .cases h
def Qh (T:bA) (sz:Nat) (x y:SV):Option bR:=
 match Kz x,Ha T sz y with
 | some (l,off,len),some (m,ys)=>match T l with
   | some B=>match NF B true off (ys.take (Nat.min m len*sz)) with
     | some ([],B')=>some { val:=.int true .i64 ((Nat.min m len:Nat):Int),wr:=[(l,B')] }
     | _=>none
   | none=>none
 | none,some _=>match x with
   | .raw (.slice none 0 0)=>some { val:=.int true .i64 0 }
   | _=>none
 | _,_=>none
theorem Za (aM:cG P Γ) {T':bA} (bC:∀ l B,T' l=some B->T l=some B) (hT:aG w0 M V T w) {lab:Nat} {dT sT ty el:TypeId} {te:TI} (ht:P.underlying dT=some (.slice el)) (gM:Γ.ty el=some te)
 {x y:SV} {u v:Value} (hx:den V x=some u) (hy:den V y=some v) (he:Qh T' te.size x y=some e):wQ P w0 M V T lab e (Builtin.copy_ #[dT,sT] ty #[u,v]) w:=by
 unfold Qh at he
 split at he
 case h_3=>cases he
 case h_2=>
  rename_i q hs hq
  split at he
  case h_2=>cases he
  cases he
  simp only [den,Option.some.injEq] at hx
  subst hx
  obtain ⟨_,i,z,hi,cZ,_⟩:=aM el te gM
  refine ⟨V,.int .i64 0,w,?_,V.dR lab,rfl,by rw [kL T lab rfl rfl];exact hT⟩
  obtain ⟨m,ys⟩:=q
  obtain ⟨cy,PG,iX,hh⟩:=zL (hT.sub bC) hy hq
  rcases hh with ⟨rfl,rfl,rfl⟩ | ⟨ad,c',rfl,hl,cT⟩
  .have hf:=run_firstCells_none (P:=P) (w:=w) te.size 0 0 0
   simp [Builtin.copy_,run_underlying ht,Builtin.lenOf,run_sizeOf hi,cZ,hf,goInt]
  .have hf:=run_firstCells_some (P:=P) (w:=w) te.size 0 ad m c' [] (by simp) (fun j q hj=>by simp at hj)
   simp [Builtin.copy_,run_underlying ht,Builtin.lenOf,run_sizeOf hi,cZ,hf,goInt]
 rename_i l off len m ys hs hq
 split at he
 case h_2=>cases he
 rename_i B hB
 split at he
 case h_2=>cases he
 rename_i B' hw
 simp only [Option.some.injEq] at he
 subst he
 obtain ⟨_,i,z,hi,cZ,_⟩:=aM el te gM
 obtain ⟨p,c,hβ,rfl⟩:=Cb hs hx
 obtain ⟨cy,PG,iX,hh⟩:=zL (hT.sub bC) hy hq
 have h1:=rN iX PG
 have hd:=eB (Nat.min m len*te.size) PG
 obtain ⟨w',hr,tQ⟩:=Hq (P:=P) lab (.int true .i64 ((Nat.min m len:Nat):Int)) hT (bC l B hB) (b:=p.1) (o:=p.2) hβ hw (by simp) hd (fun q hq=>h1 q (List.mem_of_mem_take hq))
 refine ⟨V,_,w',?_,V.dR lab,rfl,tQ⟩
 rcases hh with ⟨rfl,rfl,rfl⟩ | ⟨ad,c',rfl,hl,cT⟩
 .have hf:=run_firstCells_none (P:=P) (w:=w) te.size 0 0 0
  simp only [List.take_nil] at hr
  simp [Builtin.copy_,run_underlying ht,Builtin.lenOf,run_sizeOf hi,cZ,hf,hr,goInt]
 .have hf:=run_firstCells_some (P:=P) (w:=w) te.size (Nat.min m len) ad m c' (cy.take (Nat.min m len*te.size))
   (by rw [List.length_take,hl];exact Nat.min_eq_left (Nat.mul_le_mul_right _ (Nat.min_le_left _ _)))
   (fun j q hj=>by
    rw [List.getElem?_take] at hj
    split at hj
    .exact cT j q hj
    .cases hj)
  simp [Builtin.copy_,run_underlying ht,Builtin.lenOf,run_sizeOf hi,cZ,hf,hr,goInt]
def wW (zero:List SV) (n:Nat):List SV:=(List.range (n*zero.length)).map fun j=>zero.getD (j%zero.length) (.raw undef)
theorem Fl {zero:List SV} {z:Array Value} (h:aJ V zero=some z.toList) (h0:0<zero.length) (n:Nat):aJ V (wW zero n)=some (((Array.range (n*z.size)).map fun j=>z[j%z.size]!).toList):=by
 have hl:z.size=zero.length:=by have:=bN h;simpa using this
 have:=fT (V:=V) (n*zero.length) (fun j=>zero.getD (j%zero.length) (.raw undef)) (fun j=>z[j%zero.length]!) (fun j _=>by
  have cK:j%zero.length<zero.length:=Nat.mod_lt _ h0
  obtain ⟨x,hx,hd⟩:=eF h (j%zero.length) _ (List.getElem?_eq_getElem cK)
  have e1:zero.getD (j%zero.length) (.raw undef)=zero[j%zero.length]:=by simp [List.getD_eq_getElem?_getD,cK]
  rw [e1,hd]
  have hz:j%zero.length<z.size:=by omega
  simp only [Array.getElem?_toList,Array.getElem?_eq_getElem hz,Option.some.injEq] at hx
  rw [<- hx]
  simp [getElem!_def,Array.getElem?_eq_getElem hz])
 rw [wW,this,hl]
 simp [Array.toList_range]
def Ji (T:bA) (te:TI) (x:SV):Option bR:=
 match x with
 | .raw (.slice none _ _)=>some { val:=.eD [] }
 | _=>match Kz x,Nat.blt 0 te.zero.length&&nN te.zero with
   | some (l,off,len),true=>match T l with
     | some B=>match NF B true off (wW te.zero len) with
       | some ([],B')=>some { val:=.eD [],wr:=[(l,B')] }
       | _=>none
     | none=>none
   | _,_=>none
theorem Xn {vs:List SV} (h:nN vs=true) {v:SV} (hv:v∈vs):QE v=true:=by
 unfold nN at h
 exact List.all_eq_true.1 h v hv
theorem Nn {zero:List SV} (h:nN zero=true) (h0:0<zero.length) (n:Nat):nN (wW zero n)=true:=by
 unfold nN wW
 rw [List.all_eq_true]
 intro v hv
 obtain ⟨j,_,rfl⟩:=List.mem_map.1 hv
 have cK:j%zero.length<zero.length:=Nat.mod_lt _ h0
 simp only [List.getD_eq_getElem?_getD,List.getElem?_eq_getElem cK,Option.getD_some]
 exact Xn h (List.getElem_mem cK)
theorem Rr (aM:cG P Γ) {T':bA} (bC:∀ l B,T' l=some B->T l=some B) (hT:aG w0 M V T w) {lab:Nat} {t ty el:TypeId} {te:TI} (ht:P.underlying t=some (.slice el)) (gM:Γ.ty el=some te)
 {x:SV} {u:Value} (hx:den V x=some u) (he:Ji T' te x=some e):wQ P w0 M V T lab e (Builtin.clear_ #[t] ty #[u]) w:=by
 unfold Ji at he
 split at he
 .simp only [Option.some.injEq] at he
  subst he
  simp only [den,Option.some.injEq] at hx
  subst hx
  exact oU ⟨.tuple #[],by simp [Builtin.clear_,run_underlying ht],by simp [den,aJ],rfl,rfl⟩ hT
 .split at he
  case h_2=>cases he
  rename_i l off len hs hz
  split at he
  case h_2=>cases he
  rename_i B hB
  split at he
  case h_2=>cases he
  rename_i B' hw
  simp only [Option.some.injEq] at he
  subst he
  simp only [Bool.and_eq_true] at hz
  have h0:0<te.zero.length:=by simpa [Nat.blt_eq] using hz.1
  obtain ⟨_,i,z,hi,cZ,_,hzz,hzero⟩:=aM el te gM
  obtain ⟨p,c,hβ,rfl⟩:=Cb hs hx
  have hd:=Fl (V:=V) (hzero V) h0 len
  have h1:=rN (Nn hz.2 h0 len) hd
  obtain ⟨w',hr,tQ⟩:=Hq (P:=P) lab (.eD []) hT (bC l B hB) (b:=p.1) (o:=p.2) hβ hw (by simp) hd h1
  cases len with
  | zero=>
    refine ⟨V,.tuple #[],w,?_,V.dR lab,by simp [den,aJ],?_⟩
    .simp [Builtin.clear_,run_underlying ht]
    .have:w'=w:=by
      have e0:((Array.range (0*z.cells.size)).map fun j=>z.cells[j%z.cells.size]!).toList=[]:=by simp
      rw [e0] at hr
      simp only [storeCells,Sem.run_pure,Result.ok.injEq,true_and] at hr
      exact hr.symm
     rw [<- this];exact tQ
  | succ n=>
    refine ⟨V,.tuple #[],w',?_,V.dR lab,by simp [den,aJ],tQ⟩
    have NP:(Builtin.zeroCells z.cells (n+1)).toList=((Array.range ((n+1)*z.cells.size)).map fun j=>z.cells[j%z.cells.size]!).toList:=rfl
    rw [<- NP] at hr
    simp [Builtin.clear_,run_underlying ht,fK hi hzz,hr]
def evP (Γ:Env) (g:Nat->Option SV):List (Nat × Operand)->Option (List (Nat × SV))
 | []=>some []
 | (i,x)::r=>match ev Γ g x,evP Γ g r with
   | some v,some vs=>some ((i,v)::vs)
   | _,_=>none
theorem Pz (ht:dG V g a) (hg:cC Γ V):∀ {ps:List (Nat × Operand)} {vs:List (Nat × SV)},evP Γ g ps=some vs ->
 (ps.map fun p=>(p.1,a.eval p.2)).map (·.1)=vs.map (·.1)/\aJ V (vs.map (·.2))=some ((ps.map fun p=>(p.1,a.eval p.2)).map (·.2))
 | [],vs,h=>by simp only [evP,Option.some.injEq] at h;subst h;simp [aJ]
 | (i,x)::r,vs,h=>by
   simp only [evP] at h
   split at h
   .rename_i v us hv Gm
    cases h
    obtain ⟨h1,h2⟩:=Pz ht hg Gm
    refine ⟨by simp only [List.map_cons,h1],?_⟩
    simp only [List.map_cons,aJ,bT ht hg hv,Option.bind_some,h2,Option.map_some]
   .cases h
def placesOf (Γ:Env):List Field->Option (List (Nat × Nat))
 | []=>some []
 | f::r=>match Γ.ty f.type,placesOf Γ r with
   | some ti,some ps=>some ((f.offset,ti.size)::ps)
   | _,_=>none
theorem yF (aM:cG P Γ) (w:World):∀ {fs:List Field} {ps:List (Nat × Nat)},placesOf Γ fs=some ps ->
 (fs.mapM (m:=Sem) fun f=>do pure (f.offset,<- sizeOf f.type)).run P w = .ok ps w
 | [],ps,h=>by simp only [placesOf,Option.some.injEq] at h;subst h;simp
 | f::r,ps,h=>by
   simp only [placesOf] at h
   split at h
   .rename_i ti qs fN hqs
    cases h
    obtain ⟨_,i,z,hi,cZ,_⟩:=aM _ _ fN
    have ih:=yF aM w hqs
    simp only [List.mapM_cons,Sem.run_bind,run_sizeOf hi,Result.andThen_ok,Sem.run_pure,ih,cZ]
   .cases h
def Lr (a b:IntKind):Bool:=decide (a=b)
def cQ (k:IntKind) (n:Nat) (xs:List Int):List SV:=(List.range n).map fun j=>.int false k (xs.getD j 0)
theorem vG {V:bF} {k:IntKind} {n:Nat} {xs:List Int} (h:xs.length=n):aJ V (cQ k n xs)=some (xs.map (Value.int k)):=by
 unfold cQ
 rw [fT (V:=V) n (fun j=>.int false k (xs.getD j 0)) (fun j=>.int k (xs.getD j 0)) (fun j _=>rfl)]
 congr 1
 apply List.ext_getElem
 .simp [h]
 .intro i h1 h2
  have h3:i<xs.length:=by simpa using h2
  simp [List.getD_eq_getElem?_getD,h3]
def Hg (place:Nat->Option (Nat × Nat)):List (Nat × SV)->List Prop × List (Nat × SV)
 | []=>([],[])
 | (i,v)::r=>match Hg place r with
   | (ob,r')=>match v,place i with
     | .ai k xs,some (_,n)=>((xs.length=n)::ob,(i,.agg (cQ k n xs))::r')
     | v,_=>(ob,(i,v)::r')
theorem zP {place:Nat->Option (Nat × Nat)}:∀ {l r:List (Nat × SV)} {ob:List Prop},Hg place l=(ob,r)->(∀ q∈ob,q)->r.map (·.1)=l.map (·.1)/\aJ V (r.map (·.2))=aJ V (l.map (·.2))
 | [],r,ob,h,ho=>by simp only [Hg,Prod.mk.injEq] at h;obtain ⟨_,rfl⟩:=h;exact ⟨rfl,rfl⟩
 | (i,v)::l,r,ob,h,ho=>by
   simp only [Hg] at h
   obtain ⟨ob1,r1,h1⟩:∃ ob1 r1,Hg place l=(ob1,r1):=⟨_,_,rfl⟩
   rw [h1] at h
   simp only at h
   have plain:(ob1,(i,v)::r1)=(ob,r)->r.map (·.1)=((i,v)::l).map (·.1)/\aJ V (r.map (·.2))=aJ V (((i,v)::l).map (·.2)):=by
    intro h
    simp only [Prod.mk.injEq] at h
    obtain ⟨rfl,rfl⟩:=h
    obtain ⟨e1,e2⟩:=zP h1 ho
    exact ⟨by simp [e1],by simp only [List.map_cons,aJ,e2]⟩
   split at h
   .rename_i k xs _ n _
    simp only [Prod.mk.injEq] at h
    obtain ⟨rfl,rfl⟩:=h
    obtain ⟨e1,e2⟩:=zP h1 (fun q hq=>ho q (List.mem_cons_of_mem _ hq))
    have hn:xs.length=n:=ho _ List.mem_cons_self
    exact ⟨by simp [e1],by simp only [List.map_cons,aJ,den,e2,vG hn,Option.map_some]⟩
   .exact plain h
def Qi (Γ:Env) (g:Nat->Option SV) (T:bA) (t:TypeId) (parts:Array (Nat × Operand)):Option bR:=
 match Γ.ty t,evP Γ g parts.toList with
 | some ti,some vs=>match ti.desc with
   | .struct fs=>match placesOf Γ fs.toList with
     | some ps=>match Hg (fun i=>ps[i]?) vs with
       | (ob,vs)=>(Bl T (fun i=>ps[i]?) ti.zero vs).map fun r=>{ bV:=ob,val:=.agg r }
     | none=>none
   | .array _ el=>match Γ.ty el with
     | some te=>match Hg (fun i=>some (i*te.size,te.size)) vs with
       | (ob,vs)=>(Bl T (fun i=>some (i*te.size,te.size)) ti.zero vs).map fun r=>{ bV:=ob,val:=.agg r }
     | none=>none
   | _=>none
 | _,_=>none
theorem Zb (aM:cG P Γ) (ht:dG V g a) (hg:cC Γ V) {T':bA} (bC:∀ l B,T' l=some B->T l=some B) (hT:aG w0 M V T w) {t:TypeId} {parts:Array (Nat × Operand)} (cM:o.op = .build t parts) (he:Qi Γ g T' t parts=some e) (ho:∀ q∈e.bV,q) (lab:Nat):pU P w0 M V T lab e o a w:=by
 unfold Qi at he
 split at he
 case h_2=>cases he
 rename_i ti vs fN hvs
 obtain ⟨hu,i,z,hi,cZ,_,hz,hzero⟩:=aM t ti fN
 obtain ⟨h1,h2⟩:=Pz ht hg hvs
 have hpl:(parts.map fun (p:Nat × Operand)=>(p.1,a.eval p.2)).toList=parts.toList.map fun p=>(p.1,a.eval p.2):=by simp
 split at he
 .rename_i fs hd
  rw [hd] at hu
  split at he
  case h_2=>cases he
  rename_i ps hps
  obtain ⟨ob,Jq,hex⟩:∃ ob Jq,Hg (fun i=>ps[i]?) vs=(ob,Jq):=⟨_,_,rfl⟩
  rw [hex] at he
  simp only [Option.map_eq_some_iff] at he
  obtain ⟨r,hr,rfl⟩:=he
  obtain ⟨e1,e2⟩:=zP (V:=V) hex ho
  obtain ⟨rs,Vl,hdr⟩:=vH (V:=V) bC hT hr (hzero V) (h1.trans e1.symm) (e2.trans h2)
  refine bK (x:=.agg rs) ?_ (by simp [den,hdr]) rfl rfl hT
  have hm:(fs.mapM (m:=Sem) fun f=>do pure (f.offset,<- sizeOf f.type)).run P w = .ok ps.toArray w:=by
   rw [Array.mapM_eq_mapM_toList]
   simp only [map_eq_pure_bind,Sem.run_bind,yF aM w hps,Result.andThen_ok,Sem.run_pure]
  have Pd:Instr.fill (fun i=>ps.toArray[i]?) z.cells (parts.toList.map fun p=>(p.1,a.eval p.2))=some rs:=by
   simpa using Vl
  unfold execOp
  simp only [cM,Instr.build,Sem.run_bind,fK hi hz,Result.andThen_ok,run_underlying hu w,hm,hpl,Pd,Sem.run_pure]
 .rename_i n el hd
  rw [hd] at hu
  split at he
  case h_2=>cases he
  rename_i te gM
  obtain ⟨_,i2,z2,PD,aQo,_⟩:=aM el te gM
  obtain ⟨ob,Jq,hex⟩:∃ ob Jq,Hg (fun i=>some (i*te.size,te.size)) vs=(ob,Jq):=⟨_,_,rfl⟩
  rw [hex] at he
  simp only [Option.map_eq_some_iff] at he
  obtain ⟨r,hr,rfl⟩:=he
  obtain ⟨e1,e2⟩:=zP (V:=V) hex ho
  obtain ⟨rs,Vl,hdr⟩:=vH (V:=V) bC hT hr (hzero V) (h1.trans e1.symm) (e2.trans h2)
  refine bK (x:=.agg rs) ?_ (by simp [den,hdr]) rfl rfl hT
  have Pd:Instr.fill (fun i=>some (i*te.size,te.size)) z.cells (parts.toList.map fun p=>(p.1,a.eval p.2))=some rs:=by
   simpa using Vl
  unfold execOp
  simp only [cM,Instr.build,Sem.run_bind,fK hi hz,Result.andThen_ok,run_underlying hu w,run_sizeOf PD,aQo,hpl,Pd,Sem.run_pure]
 .cases he
def rC (Γ:Env) (g:Nat->Option SV) (t:TypeId) (len:Nat) (parts:Array (Nat × Operand)) (lab:Nat):Option bR:=
 match Γ.ty t,evP Γ g parts.toList with
 | some ti,some vs=>match ti.desc with
   | .slice el=>match Γ.ty el with
     | some te=>match Nat.blt 0 te.size&&Nat.beq te.zero.length te.size&&Nat.ble (len*te.size) 16777216 with
       | true=>(Bl (fun _=>none) (fun i=>some (i*te.size,te.size)) (wW te.zero len) vs).map fun r=>{ val:=.aI lab true 0 len len,new:=[.own r el] }
       | false=>none
     | none=>none
   | _=>none
 | _,_=>none
theorem Dd (aM:cG P Γ) (ht:dG V g a) (hg:cC Γ V) (hT:aG w0 M V T w) {t:TypeId} {len:Nat} {parts:Array (Nat × Operand)} (cM:o.op = .buildSlice t len parts) {lab:Nat} (hf:V.fresh lab)
 (he:rC Γ g t len parts lab=some e):pU P w0 M V T lab e o a w:=by
 unfold rC at he
 split at he
 case h_2=>cases he
 rename_i ti vs fN hvs
 obtain ⟨hu,_⟩:=aM t ti fN
 obtain ⟨h1,h2⟩:=Pz ht hg hvs
 have hpl:(parts.map fun (p:Nat × Operand)=>(p.1,a.eval p.2)).toList=parts.toList.map fun p=>(p.1,a.eval p.2):=by simp
 split at he
 case h_2=>cases he
 rename_i el hd
 rw [hd] at hu
 split at he
 case h_2=>cases he
 rename_i te gM
 obtain ⟨_,i,z,hi,cZ,_,hz,hzero⟩:=aM el te gM
 split at he
 case h_2=>cases he
 rename_i hc
 simp only [Bool.and_eq_true] at hc
 have AR:0<te.size:=by simpa [Nat.blt_eq] using hc.1.1
 have PI:=Nat.eq_of_beq_eq_true hc.1.2
 have hc3:=Nat.le_of_ble_eq_true hc.2
 have ZA:z.cells.size=te.size:=by
  have h1:=bN (hzero V)
  rw [<- PI,<- h1];simp
 simp only [Option.map_eq_some_iff] at he
 obtain ⟨r,hr,rfl⟩:=he
 have aXl:=Fl (V:=V) (hzero V) (by omega) len
 obtain ⟨rs,Vl,hdr⟩:=vH (V:=V) (T':=fun _=>none) (fun _ _ h=>by cases h) hT hr aXl h1 h2
 intro K Q hK
 unfold Oper.wp
 have Pd:Instr.fill (fun i=>some (i*te.size,te.size)) ((Array.range (len*te.size)).map (z.cells[· % z.cells.size]!)) (parts.toList.map fun p=>(p.1,a.eval p.2))=some rs:=by
  rw [<- Vl,ZA]
 have gG:(execOp a.eval o).run P w = .ok (.value (.slice (some ⟨w.heap.size,0,none⟩) len len)) (w.alloc (.cells rs el)):=by
  unfold execOp
  have Kr:¬ (len*te.size>2^24):=by omega
  by_cases h0:len*te.size=0
  .have hlen:len=0:=by
    rcases Nat.mul_eq_zero.1 h0 with h | h
    .exact h
    .omega
   subst hlen
   have hr0:Array.range (0*te.size) = #[]:=by rw [Nat.zero_mul];rfl
   rw [hr0,Array.map_empty] at Pd
   simp only [cM,Instr.buildSlice,Sem.run_bind,run_underlying hu w,Result.andThen_ok,run_sizeOf hi,cZ,if_neg Kr,if_pos h0,Sem.run_pure,hr0,Array.map_empty,hpl,Pd]
   simp [newRow]
  .simp only [cM,Instr.buildSlice,Sem.run_bind,run_underlying hu w,Result.andThen_ok,run_sizeOf hi,cZ,if_neg Kr,if_neg h0,fK hi hz,Sem.run_pure,hpl,Pd]
   simp [newRow]
 rw [gG,Oper.upon_value]
 have:=hT.alloc hf (B:=.own r el) (cs:=rs.toList) (.inl rfl) hdr (.aI lab true 0 len len) []
 exact hK (V.put lab (w.heap.size,0)) _ _ (bF.lO hf lab (Nat.le_refl _) (by omega) _) (by simp [den,bF.put]) this
def aDe (Γ:Env) (g:Nat->Option SV) (t:TypeId) (x:Operand):Option bR:=
 match Γ.ty t,ev Γ g x with
 | some ti,some v=>match ti.desc,Kz v with
   | .array n _,some (l,off,len)=>match Nat.ble n len with
     | true=>some { val:=.ptr l true off }
     | false=>none
   | .array n _,none=>match v with
     | .aI l false off len _=>some { bV:=[n<=len],val:=.ptr l false off }
     | _=>none
   | _,_=>none
 | _,_=>none
theorem YH (aM:cG P Γ) (ht:dG V g a) (hg:cC Γ V) (hT:aG w0 M V T w) {t:TypeId} {x:Operand} (cM:o.op = .sliceToArrayPointer t x) (he:aDe Γ g t x=some e) (ho:∀ q∈e.bV,q) (lab:Nat):pU P w0 M V T lab e o a w:=by
 unfold aDe at he
 split at he
 case h_2=>cases he
 rename_i ti v fN hv
 split at he
 case h_3=>cases he
 case h_2=>
  rename_i n el hd hs
  split at he
  case h_2=>cases he
  rename_i l off len cap
  simp only [Option.some.injEq] at he
  subst he
  have hle:n<=len:=ho _ List.mem_cons_self
  obtain ⟨hu,_⟩:=aM t ti fN
  rw [hd] at hu
  have hx:=bT ht hg hv
  simp only [den,Option.map_eq_some_iff] at hx
  obtain ⟨p,hβ,hx⟩:=hx
  refine bK (x:=.pointer (some ⟨p.1,p.2+off,none⟩)) ?_ (by simp [den,hβ]) rfl rfl hT
  unfold execOp
  have Kr:¬ len<n:=by omega
  simp only [cM,<- hx,Instr.arrayAt,Sem.run_bind,run_underlying hu w,Result.andThen_ok,if_neg Kr,Sem.run_pure]
 rename_i n el l off len hd hs
 split at he
 case h_2=>cases he
 rename_i hle
 have hle:=Nat.le_of_ble_eq_true hle
 simp only [Option.some.injEq] at he
 subst he
 obtain ⟨hu,_⟩:=aM t ti fN
 rw [hd] at hu
 obtain ⟨p,c,hβ,hx⟩:=Cb hs (bT ht hg hv)
 refine bK (x:=.pointer (some ⟨p.1,p.2+off,none⟩)) ?_ (by simp [den,hβ]) rfl rfl hT
 unfold execOp
 have Kr:¬ len<n:=by omega
 simp only [cM,hx,Instr.arrayAt,Sem.run_bind,run_underlying hu w,Result.andThen_ok,if_neg Kr,Sem.run_pure]
def Cp (d:TypeDesc) (te:TI) (el:TypeId) (lab:Nat) (x y:SV):Option bR:=
 match d,x,y with
 | .int _,.raw (.slice none 0 0),.int true _ n=>match decide (0<n/\n*te.bytes<=140737488355328/\n<=9223372036854775807),te.zero,Nat.beq te.size 1 with
   | true,[.int _ k z],true=>some { val:=.dO lab 0 n.toNat 0,new:=[.row 1 (List.replicate n.toNat (.int true k z)) el] }
   | _,_,_=>none
 | _,_,_=>none
theorem oB (v:Value) (n:Nat):Builtin.zeroCells #[v] n=(List.replicate n v).toArray:=by
 apply Array.ext
 .simp [Builtin.zeroCells]
 .intro i h1 h2
  simp [Builtin.zeroCells,Nat.mod_one]
theorem zE (w:World) {t t2 ty el:TypeId} {ik:IntKind} {i:TypeInfo} {z:Value} (ht:P.underlying t=some (.slice el)) (ht2:P.underlying t2=some (.int ik)) (hi:P.info? el=some i) (hz:i.zero=some z) (kD:i.size=1) (k0:IntKind) (n:Nat)
 (h0:0<n) (h63:(n:Int)<=9223372036854775807) (hb:n*i.bytes<=140737488355328) :
 (Builtin.append_ #[t,t2] ty #[.slice none 0 0,.int k0 n]).run P w = .ok (.slice (some ⟨w.heap.size,0,none⟩) n (grownCap w n 0 el))
  (w.drew.alloc (.cells (Builtin.zeroCells z.cells n++Builtin.zeroCells z.cells (grownCap w n 0 el-n)) el)):=by
 have hw:IntKind.i64.wrap (n:Int)=n:=IntWalk.i64_in _ (by omega)
 have hn:n≠0:=by omega
 have aYp:¬ (9223372036854775807<(n:Int)):=by omega
 have h1:¬ ((n:Int)<0):=by omega
 have h2:¬ (281474976710656<(n:Int)*(i.bytes:Int)):=by
  have:((n*i.bytes:Nat):Int)<=140737488355328:=by omega
  rw [Int.natCast_mul] at this
  omega
 have aYq:¬ (281474976710656<Builtin.nextslicecap n 0*i.bytes):=by rw [nextslicecap_zero h0];omega
 simp [Builtin.append_,run_underlying ht,run_underlying ht2,sizeOf,typeInfo,zeroValue,hi,hz,kD,asInt,asIntOf,hw,h1,h2,hn,aYp,aYq,Question.forced,newRow,grownCap,Builtin.firstCells]
theorem Nx (aM:cG P Γ) (hT:aG w0 M V T w) {lab:Nat} (hf:V.fresh lab) {t t2 ty el:TypeId} {d:TypeDesc} {te:TI} (ht:P.underlying t=some (.slice el)) (ht2:P.underlying t2=some d) (gM:Γ.ty el=some te)
 {x y:SV} {u v:Value} (hx:den V x=some u) (hy:den V y=some v) (he:Cp d te el lab x y=some e):wQ P w0 M V T lab e (Builtin.append_ #[t,t2] ty #[u,v]) w:=by
 unfold Cp at he
 split at he
 case h_2=>cases he
 rename_i ik kk n
 split at he
 case h_2=>cases he
 rename_i s k z hc NQ hs
 obtain ⟨h1,h2,h3⟩:=of_decide_eq_true hc
 have hs:=Nat.eq_of_beq_eq_true hs
 simp only [Option.some.injEq] at he
 subst he
 simp only [den,Option.some.injEq] at hx hy
 subst hx hy
 obtain ⟨_,i,zv,hi,cZ,tU,hz,hzero⟩:=aM el te gM
 obtain ⟨m,rfl⟩:=Int.eq_ofNat_of_zero_le (Int.le_of_lt h1)
 have hm:0<m:=by omega
 have NP:zv.cells = #[.int k z]:=by
  have:=hzero V
  rw [NQ] at this
  simp only [aJ,den,Option.bind_some,Option.map_some,Option.some.injEq] at this
  apply Array.ext'
  exact this.symm
 have hb:m*i.bytes<=140737488355328:=by
  rw [tU]
  have:((m*te.bytes:Nat):Int)<=140737488355328:=by rw [Int.natCast_mul];exact h2
  exact Int.ofNat_le.1 this
 have hr:=zE (P:=P) (ty:=ty) w ht ht2 hi hz (cZ.trans hs) kk m hm h3 hb
 have hgc:=grownCap_ge w m 0 el
 have hgm:grownCap w m 0 el<=maxLen:=grownCap_le_maxLen w m 0 el (by simp only [maxLen];omega)
 have cN:(w.drew.alloc (.cells (Builtin.zeroCells zv.cells m++Builtin.zeroCells zv.cells (grownCap w m 0 el-m)) el)).ownsRow 0 el 1 (.slice (some ⟨w.heap.size,0,none⟩) m (grownCap w m 0 el)) m (List.replicate m (Value.int k z)):=by
  refine ⟨by simp,.inr ⟨w.heap.size,_,_,rfl,Nat.zero_le _,heap_alloc_new w.drew _,hgc,hgm,?_,?_⟩⟩
  .rw [NP];simp [oB];omega
  .rw [NP];simp [oB]
 have yM:w.grownBy (w.drew.alloc (.cells (Builtin.zeroCells zv.cells m++Builtin.zeroCells zv.cells (grownCap w m 0 el-m)) el)) none:=⟨rfl,rfl,rfl,by simp,fun k hk _=>heap_alloc_old w.drew _ hk⟩
 have Pf:aJ V (List.replicate m (SV.int true k z))=some (List.replicate m (Value.int k z)):=by
  clear hr hgc hgm cN yM hb h1 h2 h3 hm hc
  induction m with
  | zero=>rfl
  | succ m ih=>simp [List.replicate_succ,aJ,den,ih]
 obtain ⟨b,cap,NR,tQ⟩:=hT.Jl (lab:=lab) hf (lo:=none) (own:=none) Pf cN (by simp) yM (.inr rfl) (fun _=>rfl) (fun l hl=>(by cases hl)) (.dO lab 0 m 0) []
 refine ⟨_,_,_,hr,bF.vD hf lab (Nat.le_refl _) (by omega) _ _,?_,tQ⟩
 simp [den,bF.Hd,bF.put,bF.bL,qM,NR]
def CH (Γ:Env) (d:TypeDesc):Option IntKind:=match d with
 | .array _ el=>match Γ.ty el with
   | some te=>match te.desc,Nat.beq te.size 1 with
     | .int k,true=>some k
     | _,_=>none
   | none=>none
 | _=>none
def Qe (Γ:Env) (g:Nat->Option SV) (T:bA) (t:TypeId) (x:Operand):Option bR:=
 match ev Γ g x,Γ.ty t with
 | some (.ptr l s off),some ti=>match CH Γ ti.desc,T l with
   | some _,some (.ints k xs _)=>match s&&Nat.beq off 0 with
     | true=>some (eA (.ai k xs) [xs.length=ti.size])
     | false=>some (eA (.ai k ((xs.drop off).take ti.size)) [off+ti.size<=xs.length])
   | some _,some (.oD k xs)=>some (eA (.ai k ((xs.drop off).take ti.size)) [off+ti.size<=xs.length])
   | _,_=>none
 | _,_=>none
theorem pS (xs:List Int) (off n:Nat) (h:off+n<=xs.length) (k:IntKind):(List.range n).map (fun j=>Value.int k (xs.getD (off+j) 0))=((xs.drop off).take n).map (Value.int k):=by
 apply List.ext_getElem
 .simp;omega
 .intro i h1 h2
  simp only [List.length_map,List.length_range] at h1
  have h3:off+i<xs.length:=by omega
  simp [List.getD_eq_getElem?_getD,h3]
theorem Yx (aM:cG P Γ) (ht:dG V g a) (hg:cC Γ V) {T':bA} (bC:∀ l B,T' l=some B->T l=some B) (hT:aG w0 M V T w) {t:TypeId} {x:Operand} (cM:o.op = .load t x)
 (he:Qe Γ g T' t x=some e) (ho:∀ q∈e.bV,q) (lab:Nat):pU P w0 M V T lab e o a w:=by
 unfold Qe at he
 split at he
 case h_2=>cases he
 rename_i l s off ti hx fN
 have ex:=bT ht hg hx
 simp only [den,Option.map_eq_some_iff] at ex
 obtain ⟨⟨b,base⟩,hβ,ex⟩:=ex
 obtain ⟨hu,i,z,hi,kD,_⟩:=aM t ti fN
 have main:∀ (B:SB) (k:IntKind) (xs ys:List Int),(B = .ints k xs (match B with | .ints _ _ ty=>ty | _=>0)\/B = .oD k xs)->T' l=some B->wP ti.desc=true->off+ti.size<=xs.length->ys=(xs.drop off).take ti.size->e.val = .ai k ys->e.new=[]->e.wr=[]->pU P w0 M V T lab e o a w:=by
  intro B k xs ys hBk hB iM hle sJ h1 h2 h3
  have hr:Rz B false off ti.size=some ([off+ti.size<=xs.length],(List.range ti.size).map fun j=>.int false k (xs.getD (off+j) 0)):=by
   rcases hBk with q | q <;> rw [q] <;> rfl
  obtain ⟨zs,g1,g2,g3⟩:=pD (hT.ok l B (bC l B hB)) hβ hr (by intro q hq;simp only [List.mem_singleton] at hq;subst hq;exact hle)
  rw [fT (V:=V) ti.size (fun j=>.int false k (xs.getD (off+j) 0)) (fun j=>.int k (xs.getD (off+j) 0)) (fun j _=>rfl),pS xs off ti.size hle k] at g1
  cases g1
  have:=(eI hu hi b (base+off) _ (by rw [g2,kD]) g3).1 iM
  refine bK (x:=.agg (((xs.drop off).take ti.size).map (Value.int k)).toArray) ?_ (by rw [h1,sJ];rfl) h2 h3 hT
  unfold execOp
  simp only [cM,<- ex,Instr.loadAt,Instr.sureAddr,Sem.run_bind,Sem.run_pure,Result.andThen_ok,this]
 have iM:∀ k0,CH Γ ti.desc=some k0->wP ti.desc=true:=by
  intro k0 h
  unfold CH at h
  split at h
  .rename_i hd;rw [hd];rfl
  .cases h
 split at he
 .rename_i k0 k xs ty ha hB
  split at he
  .rename_i hs
   simp only [Bool.and_eq_true] at hs
   have h0:=Nat.eq_of_beq_eq_true hs.2
   subst h0
   simp only [eA,Option.some.injEq] at he
   subst he
   have hl:xs.length=ti.size:=ho _ (by simp)
   exact main (.ints k xs ty) k xs xs (.inl rfl) hB (iM _ ha) (by omega) (by rw [List.drop_zero,<- hl,List.take_length]) rfl rfl rfl
  .simp only [eA,Option.some.injEq] at he
   subst he
   exact main (.ints k xs ty) k xs _ (.inl rfl) hB (iM _ ha) (ho _ (by simp)) rfl rfl rfl rfl
 .rename_i k0 k xs ha hB
  simp only [eA,Option.some.injEq] at he
  subst he
  exact main (.oD k xs) k xs _ (.inr rfl) hB (iM _ ha) (ho _ (by simp)) rfl rfl rfl rfl
 .cases he
def wrA (B:SB) (s:Bool) (off n:Nat) (k:IntKind) (xs:List Int):Option (List Prop × SB):=
 match B with
 | .ints k2 ys ty=>match Lr k k2,s&&Nat.beq off 0 with
   | true,true=>some ([xs.length=n/\ys.length=n],.ints k xs ty)
   | true,false=>some ([xs.length=n/\off+n<=ys.length],.ints k (ys.take off++xs++ys.drop (off+n)) ty)
   | _,_=>none
 | .own cs ty=>match s&&(Nat.beq off 0&&Nat.beq cs.length n) with
   | true=>some ([xs.length=n],.ints k xs ty)
   | false=>match NF (.own cs ty) s off (cQ k n xs) with
     | some (ob,B')=>some ((xs.length=n)::ob,B')
     | none=>none
 | B=>match NF B s off (cQ k n xs) with
   | some (ob,B')=>some ((xs.length=n)::ob,B')
   | none=>none
def Jc (Γ:Env) (g:Nat->Option SV) (T:bA) (t:TypeId) (x y:Operand):Option bR:=
 match ev Γ g x,ev Γ g y,Γ.ty t with
 | some (.ptr l s off),some (.ai k xs),some ti=>match T l with
   | some B=>match wrA B s off ti.size k xs with
     | some (ob,B')=>some { bV:=ob,val:=.raw undef,wr:=[(l,B')] }
     | none=>none
   | none=>none
 | _,_,_=>none
theorem oT {l:Nat} {ys xs:List Int} {ty:TypeId} {k:IntKind} {off b o:Nat} (lab:Nat) (rv:SV) (ob:List Prop)
 (hT:aG w0 M V T w) (hl:T l=some (.ints k ys ty)) (hβ:V.β l=some (b,o)) (hle:off+xs.length<=ys.length) :
 ∃ w',(storeCells ⟨b,o+off,none⟩ (xs.map (Value.int k))).run P w = .ok () w'/\aG w0 M V (fL T lab { bV:=ob,val:=rv,wr:=[(l,.ints k (ys.take off++xs++ys.drop (off+xs.length)) ty)] }) w':=by
 obtain ⟨cs,hc,b',hb,hh⟩:=hT.ok l _ hl
 rw [hβ] at hb;cases hb
 simp only [SB.cells,Option.some.injEq] at hc
 subst hc
 refine ⟨_,run_storeCells_at P b (0+off) ty _ 0 _ w hh (by simp;omega) (by intro x hx;simp only [List.mem_map] at hx;obtain ⟨y,_,rfl⟩:=hx;rfl),?_⟩
 have cT:SB.cells V (.ints k (ys.take off++xs++ys.drop (off+xs.length)) ty)=some ((ys.map (Value.int k)).take off++xs.map (Value.int k)++(ys.map (Value.int k)).drop (off+(xs.map (Value.int k)).length)):=by
  simp [SB.cells,List.map_take,List.map_drop]
 have:=hT.write (B0:=.ints k ys ty) (B:=.ints k (ys.take off++xs++ys.drop (off+xs.length)) ty) hl hβ rfl (by simp [SB.bB,hβ]) hh cT (.inr (.inl rfl)) lab rv ob
 simpa using this
theorem aDt {l:Nat} {B B':SB} {s:Bool} {off n:Nat} {k:IntKind} {xs:List Int} {ob:List Prop} {b o:Nat} (lab:Nat) (rv:SV)
 (hT:aG w0 M V T w) (hl:T l=some B) (hβ:V.β l=some (b,o)) (h:wrA B s off n k xs=some (ob,B')) (ho:∀ q∈ob,q) :
 xs.length=n/\∃ w',(storeCells ⟨b,o+off,none⟩ (xs.map (Value.int k))).run P w = .ok () w'/\aG w0 M V (fL T lab { bV:=ob,val:=rv,wr:=[(l,B')] }) w':=by
 have rest:∀ ob',(match NF B s off (cQ k n xs) with
  | some (ob,B')=>some ((xs.length=n)::ob,B')
  | none=>none)=some (ob',B')->(∀ q∈ob',q)->ob'=ob->xs.length=n/\∃ w',(storeCells ⟨b,o+off,none⟩ (xs.map (Value.int k))).run P w = .ok () w'/\aG w0 M V (fL T lab { bV:=ob,val:=rv,wr:=[(l,B')] }) w':=by
  intro ob' h lI tN
  split at h
  .rename_i ob2 B2 h2
   cases h
   have hn:xs.length=n:=lI _ List.mem_cons_self
   refine ⟨hn,?_⟩
   obtain ⟨w',h3,h4⟩:=Hq (P:=P) lab rv hT hl hβ h2 (fun q hq=>lI q (List.mem_cons_of_mem _ hq)) (vG hn) (by intro x hx;simp only [List.mem_map] at hx;obtain ⟨y,_,rfl⟩:=hx;rfl)
   exact ⟨w',h3,h4⟩
  .cases h
 cases B with
 | ints k2 ys ty=>
   simp only [wrA] at h
   split at h
   .rename_i hk hs
    cases h
    have hk:k=k2:=of_decide_eq_true hk
    subst hk
    simp only [Bool.and_eq_true] at hs
    have h0:=Nat.eq_of_beq_eq_true hs.2
    subst h0
    obtain ⟨h1,h2⟩:xs.length=n/\ys.length=n:=ho _ (by simp)
    refine ⟨h1,?_⟩
    obtain ⟨w',h3,h4⟩:=oT (P:=P) (xs:=xs) (off:=0) lab rv [xs.length=n/\ys.length=n] hT hl hβ (by omega)
    refine ⟨w',h3,?_⟩
    have e:ys.take 0++xs++ys.drop (0+xs.length)=xs:=by
     rw [Nat.zero_add,h1,<- h2,List.drop_length];simp
    rw [e] at h4
    exact h4
   .rename_i hk hs
    cases h
    have hk:k=k2:=of_decide_eq_true hk
    subst hk
    obtain ⟨h1,h2⟩:xs.length=n/\off+n<=ys.length:=ho _ (by simp)
    refine ⟨h1,?_⟩
    subst h1
    exact oT (P:=P) lab rv _ hT hl hβ h2
   .cases h
 | own cells ty=>
   simp only [wrA] at h
   split at h
   .rename_i hs
    cases h
    simp only [Bool.and_eq_true] at hs
    have h0:=Nat.eq_of_beq_eq_true hs.2.1
    have sK:=Nat.eq_of_beq_eq_true hs.2.2
    subst h0
    have h1:xs.length=n:=ho _ (by simp)
    refine ⟨h1,?_⟩
    obtain ⟨cs,hc,b',hb,hh⟩:=hT.ok l _ hl
    rw [hβ] at hb;cases hb
    have nK:=bN (show aJ V cells=some cs from hc)
    refine ⟨_,run_storeCells_at P b (0+0) ty _ 0 _ w hh (by simp;omega) (by intro x hx;simp only [List.mem_map] at hx;obtain ⟨y,_,rfl⟩:=hx;rfl),?_⟩
    have e:cs.take 0++xs.map (Value.int k)++cs.drop (0+(xs.map (Value.int k)).length)=xs.map (Value.int k):=by
     simp;omega
    have:=hT.write (B0:=.own cells ty) (B:=.ints k xs ty) hl hβ rfl (by simp [SB.bB,hβ]) hh rfl (.inr (.inl rfl)) lab rv [xs.length=n]
    rw [<- e] at this
    simpa using this
   .exact rest ob h ho rfl
 | row sz cells ty=>exact rest ob h ho rfl
 | eY cells=>exact rest ob h ho rfl
 | oD k xs=>exact rest ob h ho rfl
 | cD k xs ty=>exact rest ob h ho rfl
 | bO sz n ty=>exact rest ob h ho rfl
 | fV vs ty=>exact rest ob h ho rfl
 | dK k xs=>exact rest ob h ho rfl
 | gone=>exact rest ob h ho rfl
theorem Rl (aM:cG P Γ) (ht:dG V g a) (hg:cC Γ V) {T':bA} (bC:∀ l B,T' l=some B->T l=some B) (hT:aG w0 M V T w) {t:TypeId} {x y:Operand} (cM:o.op = .store t x y)
 (he:Jc Γ g T' t x y=some e) (ho:∀ q∈e.bV,q) (lab:Nat):pU P w0 M V T lab e o a w:=by
 unfold Jc at he
 split at he
 case h_2=>cases he
 rename_i l s off k xs ti hx hy fN
 split at he
 case h_2=>cases he
 rename_i B hB
 split at he
 case h_2=>cases he
 rename_i ob B' hw
 simp only [Option.some.injEq] at he
 subst he
 have ex:=bT ht hg hx
 simp only [den,Option.map_eq_some_iff] at ex
 obtain ⟨⟨b,base⟩,hβ,ex⟩:=ex
 have ey:=bT ht hg hy
 simp only [den,Option.some.injEq] at ey
 obtain ⟨hu,i,z,hi,kD,_⟩:=aM t ti fN
 obtain ⟨hn,w',h1,h2⟩:=aDt (P:=P) lab (.raw undef) hT (bC l B hB) hβ hw ho
 intro K Q hK
 unfold Oper.wp
 have hl:(a.eval y).cells.size=i.size:=by rw [<- ey,kD,<- hn];simp [Value.cells]
 have sK:(a.eval y).cells.toList=xs.map (Value.int k):=by rw [<- ey];simp [Value.cells]
 have gG:(execOp a.eval o).run P w = .ok .skip w':=by
  unfold execOp
  simp [cM,<- ex,Instr.storeAt,Instr.sureAddr,storeVar,run_sizeOf hi,hl,sK,h1]
 rw [gG,Oper.upon_skip]
 exact hK V undef w' (V.dR lab) rfl h2
def Jb (Γ:Env) (g:Nat->Option SV) (T:bA) (t:TypeId) (x y:Operand):Option bR:=
 match ev Γ g x,ev Γ g y,Γ.ty t with
 | some (.ptr l true off),some (.buf l2),some ti=>match T l,QX T l2,Nat.beq ti.size 1 with
   | some (.own cs ty),true,true=>match Nat.blt off cs.length with
     | true=>some { val:=.raw undef,wr:=[(l,.own (cs.take off++[.buf l2]++cs.drop (off+1)) ty)] }
     | false=>none
   | _,_,_=>none
 | _,_,_=>none
theorem Rk (aM:cG P Γ) (ht:dG V g a) (hg:cC Γ V) {T':bA} (bC:∀ l B,T' l=some B->T l=some B) (hT:aG w0 M V T w) {t:TypeId} {x y:Operand} (cM:o.op = .store t x y)
 (he:Jb Γ g T' t x y=some e) (lab:Nat):pU P w0 M V T lab e o a w:=by
 unfold Jb at he
 split at he
 case h_2=>cases he
 rename_i l off l2 ti hx hy fN
 split at he
 case h_2=>cases he
 rename_i cells ty hB aYk kD
 split at he
 case h_2=>cases he
 rename_i cK
 have cK:off<cells.length:=by simpa [Nat.blt_eq] using cK
 simp only [Option.some.injEq] at he
 subst he
 have ex:=bT ht hg hx
 simp only [den,Option.map_eq_some_iff] at ex
 obtain ⟨⟨b,base⟩,hβ,ex⟩:=ex
 have ey:=bT ht hg hy
 obtain ⟨hu,i,z,hi,cZ,_⟩:=aM t ti fN
 obtain ⟨h1,h2⟩:=Va bC hT aYk ey
 obtain ⟨cs,hc,b',hb,hh⟩:=hT.ok l _ (bC l _ hB)
 rw [hβ] at hb;cases hb
 have hlen:=bN (show aJ V cells=some cs from hc)
 have cT:aJ V (cells.take off++[SV.buf l2]++cells.drop (off+1))=some (cs.take off++[a.eval y]++cs.drop (off+[a.eval y].length)):=
  cJ (cJ (eB off hc) (by simp only [aJ,ey,Option.bind_some,Option.map_some])) (iA _ hc)
 obtain ⟨w',h3,h4⟩:∃ w',(storeCells ⟨b,0+off,none⟩ [a.eval y]).run P w = .ok () w'/\aG w0 M V (fL T lab { val:=.raw undef,wr:=[(l,.own (cells.take off++[SV.buf l2]++cells.drop (off+1)) ty)] }) w':=by
  refine ⟨_,run_storeCells_at P b (0+off) ty [a.eval y] 0 cs.toArray w hh (by simp;omega) (fun q hq=>by simp only [List.mem_singleton] at hq;subst hq;exact h1),?_⟩
  have:=hT.write (B0:=.own cells ty) (B:=.own (cells.take off++[SV.buf l2]++cells.drop (off+1)) ty) (bC l _ hB) hβ rfl (by simp [SB.bB,hβ]) hh cT (.inl rfl) lab (.raw undef) []
  simpa using this
 intro K Q hK
 unfold Oper.wp
 have aCk:i.size=1:=by rw [cZ];exact Nat.eq_of_beq_eq_true kD
 have gG:(execOp a.eval o).run P w = .ok .skip w':=by
  unfold execOp
  simp only [Nat.zero_add] at h3
  simp [cM,<- ex,Instr.storeAt,Instr.sureAddr,storeVar,run_sizeOf hi,h2,aCk,h3]
 rw [gG,Oper.upon_skip]
 exact hK V undef w' (V.dR lab) rfl h4
def FA (Γ:Env) (g:Nat->Option SV) (t:TypeId) (x:Operand) (lab:Nat):Option bR:=
 match ev Γ g x with
 | some (.ai k xs)=>some { val:=.ptr lab true 0,new:=[.ints k xs t] }
 | _=>none
theorem MK (ht:dG V g a) (hg:cC Γ V) (hT:aG w0 M V T w) {t:TypeId} {x:Operand} (cM:o.op = .box t x) {lab:Nat} (hf:V.fresh lab) (he:FA Γ g t x lab=some e):pU P w0 M V T lab e o a w:=by
 unfold FA at he
 split at he
 case h_2=>cases he
 rename_i k xs hx
 simp only [Option.some.injEq] at he
 subst he
 have ex:=bT ht hg hx
 simp only [den,Option.some.injEq] at ex
 intro K Q hK
 unfold Oper.wp
 have hr:(execOp a.eval o).run P w = .ok (.value (.pointer (some ⟨w.heap.size,0,none⟩))) (w.alloc (.cells (xs.map (Value.int k)).toArray t)):=by
  unfold execOp
  simp [cM,<- ex,Instr.box,newVar,newRow,Value.cells]
 rw [hr,Oper.upon_value]
 have:=hT.alloc hf (B:=.ints k xs t) (.inr (.inl rfl)) rfl (.ptr lab true 0) []
 exact hK _ _ _ (bF.lO hf lab (Nat.le_refl _) (by omega) _) (by simp [den,bF.put]) this
def Jf (Γ:Env) (g:Nat->Option SV) (t:TypeId) (x y:Operand):Option bR:=
 match ev Γ g x,ev Γ g y,Γ.ty t with
 | some (.ai k xs),some (.int _ _ i),some ti=>match ti.desc with
   | .array len el=>match Γ.ty el with
     | some te=>match Nat.beq te.size 1,wP te.desc with
       | true,false=>some (eA (.int false k (xs.getD i.toNat 0)) [0<=i/\i<len/\i.toNat<xs.length])
       | _,_=>none
     | none=>none
   | _=>none
 | _,_,_=>none
theorem Ro (aM:cG P Γ) (ht:dG V g a) (hg:cC Γ V) (hT:aG w0 M V T w) {t:TypeId} {x y:Operand} (cM:o.op = .index t x y) (he:Jf Γ g t x y=some e) (ho:∀ q∈e.bV,q) (lab:Nat):pU P w0 M V T lab e o a w:=by
 unfold Jf at he
 split at he
 case h_2=>cases he
 rename_i k xs s2 k2 i ti hx hy fN
 split at he
 case h_2=>cases he
 rename_i len el hd
 split at he
 case h_2=>cases he
 rename_i te gM
 split at he
 case h_2=>cases he
 rename_i lV iM
 have lV:=Nat.eq_of_beq_eq_true lV
 simp only [eA,Option.some.injEq] at he
 subst he
 obtain ⟨h1,h2,h3⟩:0<=i/\i<len/\i.toNat<xs.length:=ho _ (by simp)
 have ex:=bT ht hg hx
 have ey:=bT ht hg hy
 simp only [den,Option.some.injEq] at ex ey
 obtain ⟨Zs,ii,z,hi,cZ,_⟩:=aM el te gM
 have hu:=(aM t ti fN).1
 rw [hd] at hu
 refine bK (x:=.int k (xs.getD i.toNat 0)) ?_ rfl rfl rfl hT
 have hy':(xs.map (Value.int k)).toArray[i.toNat*te.size]?=some (.int k (xs.getD i.toNat 0)):=by
  rw [lV,Nat.mul_one];simp [h3,List.getD_eq_getElem?_getD]
 unfold execOp
 simp only [cM,<- ex,<- ey,Instr.index,asIntOf,Sem.run_bind,Sem.run_pure,run_underlying hu w,Result.andThen_ok,if_pos (And.intro h1 h2),part,fS Zs,iM,Bool.false_eq_true,if_false,run_sizeOf hi,cZ,hy']
def qL:List SV->Option (IntKind × List Int)
 | .int s k n::r=>(dV k (.int s k n::r)).map fun ns=>(k,ns)
 | _=>none
theorem Ck {V:bF} {vs:List SV} {k:IntKind} {ns:List Int} (h:qL vs=some (k,ns)):aJ V vs=some (ns.map (Value.int k)):=by
 unfold qL at h
 split at h
 .simp only [Option.map_eq_some_iff,Prod.mk.injEq] at h
  obtain ⟨ms,hm,rfl,rfl⟩:=h
  exact dQ hm
 .cases h
def cY:SV->Option (IntKind × List Int)
 | .ai k xs=>some (k,xs)
 | .agg vs=>qL vs
 | _=>none
theorem Gd {v:SV} {k:IntKind} {xs:List Int} (h:cY v=some (k,xs)):den V v=some (.agg (xs.map (Value.int k)).toArray):=by
 unfold cY at h
 split at h
 .cases h;rfl
 .simp only [den,Ck h,Option.map_some]
 .cases h
end Gv
def bF.top (V:bF) (F:Nat):Prop:=∀ l,F<=l->V.β l=none/\V.σ l=none
def aH (P:Program) (Γ:Env) (f:FuncId) (S:Sum):Prop:=
 ∀ vs T lab F e,S vs T lab F=some e->(∀ q∈e.bV,q)->∀ (w0:World) (M:Nat->Prop) (V:bF) (T2:bA) (w:World) (xs:List Value),
   (∀ l B,T l=some B->T2 l=some B)->aG w0 M V T2 w->cC Γ V->V.fresh lab->V.top F->aJ V vs=some xs ->
   ∀ (o:Oper) (a:Act) K Q,(∀ V' x w',V.ext lab V'->den V' e.val=some x->aG w0 M V' (fL T2 lab e) w'->K (a.put o.dst x) w') ->
     o.upon P a K Q ((callFunc f xs.toArray).run P w)
def Bz (P:Program) (Γ:Env) (f:FuncId) (S:Sum):Prop:=
 ∀ vs T lab F e,S vs T lab F=some e->(∀ q∈e.bV,q)->∀ (w0:World) (M:Nat->Prop) (V:bF) (T2:bA) (w:World) (xs:List Value),
   (∀ l B,T l=some B->T2 l=some B)->aG w0 M V T2 w->cC Γ V->V.fresh lab->V.top F->aJ V vs=some xs ->
   ∀ (fn:Func) (tmps:Array Value) (ds:List Deferred) (R:Ending->World->Prop),(∀ V' w',V.ext lab V'->aG w0 M V' (fL T2 lab e) w'->Leaves P fn tmps R ds .returning w') ->
     ∀ aS cs:Array Value,aS.toList++cs.toList=xs->Leaves P fn tmps R ({ target:=.fn (.func f) cs,args:=aS }::ds) .returning w
def bX (P:Program) (Γ:Env):Prop:=(∀ f S,Γ.sum f=some S->aH P Γ f S)/\(∀ f S,Γ.QW f=some S->Bz P Γ f S) /\
 (∀ t,Γ.cmp.elem t=true->∀ i,P.info? t=some i->i.comparable=true)/\∃ d,P.depth=d+2
def yK (a b:Option bR):Option bR:=match a with
 | some e=>some e
 | none=>b
def Vc (a b:IntKind):Bool:=decide (a=b)
def Po:SB->Bool
 | .own .. | .ints .. | .fV .. | .row .. => true
 | _=>false
def mR:List SV->List SV->Option (Bool × Bool)
 | [],[]=>some (true,true)
 | .int s k a::xs,.int s' k' b::ys=>match Vc k k',mR xs ys with
   | true,some (l,r)=>some (s&&(s'&&l),(a==b)&&r)
   | _,_=>none
 | _,_=>none
def Qa (op:BinOp) (s b:Bool):Option bR:=match op with
 | .eql=>some { val:=.bool s b }
 | .neq=>some { val:=.bool s (!b) }
 | _=>none
def PU (T:bA) (l o:Nat):Option ByteArray:=match T l,o with
 | some (.eY (.raw (.string s)::_)),0=>some s
 | _,_=>none
def neS:List UInt8->List UInt8->Bool
 | [],[]=>false
 | x::r,y::q=>match Nat.beq x.toNat y.toNat with
   | true=>neS r q
   | false=>true
 | _,_=>true
theorem GS:∀ {s q:List UInt8},neS s q=true->s≠q
 | [],[],h,_=>by simp [neS] at h
 | [],y::q,_,e=>by cases e
 | x::r,[],_,e=>by cases e
 | x::r,y::q,h,e=>by
   cases e
   simp only [neS,Nat.beq_refl] at h
   exact GS h rfl
def Tc (Γ:Env) (g:Nat->Option SV) (T:bA) (op:BinOp) (t:TypeId) (x y:Operand):Option bR:=
 match ev Γ g x,ev Γ g y with
 | some (.ptr l _ o),some (.ptr l' _ o')=>match Γ.ty t with
   | some ti=>match ti.desc with
     | .pointer el=>match Γ.ty el with
       | some te=>match Nat.beq l l' with
         | true=>match Nat.beq o o' with
           | true=>tV op true
           | false=>match Nat.beq te.size 0 with
             | true=>none
             | false=>tV op false
         | false=>match Nat.beq te.size 0,T l,T l' with
           | false,some B,some B'=>match Po B&&Po B' with
             | true=>tV op false
             | false=>none
           | _,_,_=>none
       | none=>none
     | _=>none
   | none=>none
 | some (.jS t1 (.ptr l _ o)),some (.jS t2 (.ptr l' _ o'))=>match Γ.ty t,Γ.ty t1 with
   | some ti,some t1i=>match ti.desc,t1i.desc with
     | .interface _,.pointer el=>match Γ.ty el with
       | some te=>match Nat.beq t1 t2&&(Nat.beq l l'&&(Nat.beq o o'&&Γ.cmp.elem t1)) with
         | true=>tV op true
         | false=>match Nat.beq t1 t2&&(Γ.cmp.elem t1 && !Nat.beq te.size 0),PU T l o,PU T l' o' with
           | true,some s,some s'=>match neS s.data.toList s'.data.toList with
             | true=>tV op false
             | false=>none
           | _,_,_=>none
       | none=>none
     | _,_=>none
   | _,_=>none
 | some (.agg xs),some (.agg ys)=>match Γ.ty t with
   | some ti=>match ti.desc with
     | .array n el=>match Γ.ty el with
       | some te=>match te.desc,Nat.beq te.size 1&&Nat.beq xs.length n,mR xs ys with
         | .int _,true,some (l,r)=>Qa op l r
         | _,_,_=>none
       | none=>none
     | _=>none
   | none=>none
 | _,_=>none
def Ii (op:BinOp) (n:Nat) (xs ys:List Int):Option bR:=match op with
 | .eql=>some { bV:=[xs.length=n/\ys.length=n],val:=.bool false (decide (xs=ys)) }
 | .neq=>some { bV:=[xs.length=n/\ys.length=n],val:=.bool false (!decide (xs=ys)) }
 | _=>none
def Ij (Γ:Env) (g:Nat->Option SV) (op:BinOp) (t:TypeId) (x y:Operand):Option bR:=
 match (ev Γ g x).bind cY,(ev Γ g y).bind cY,Γ.ty t with
 | some (k,xs),some (k2,ys),some ti=>match ti.desc with
   | .array n el=>match Γ.ty el with
     | some te=>match te.desc,Nat.beq te.size 1,Lr k k2 with
       | .int _,true,true=>Ii op n xs ys
       | _,_,_=>none
     | none=>none
   | _=>none
 | _,_,_=>none
section YQ
variable {P:Program} {Γ:Env} {V:bF} {w w0:World} {M:Nat->Prop} {T:bA} {g:Nat->Option SV} {a:Act} {o:Oper} {e:bR}
def FC (T:bA) (te:TI) (x y:SV):Option bR:=
 match x,aCj te.desc,Nat.beq te.size 1 with
 | .aI l true 0 len cap,some k,true=>match T l with
   | some (.ints k2 xs ty)=>match Lr k k2,BB T k y with
     | true,some (ob,ys)=>some { bV:=(cap=xs.length/\len+ys.length<=cap)::ob,val:=.aI l true 0 (len+ys.length) cap,wr:=[(l,.ints k (xs.take len++ys++xs.drop (len+ys.length)) ty)] }
     | _,_=>none
   | _=>none
 | _,_,_=>none
theorem MM (aM:cG P Γ) {T':bA} (bC:∀ l B,T' l=some B->T l=some B) (hT:aG w0 M V T w) {lab:Nat} {t ty el:TypeId} {te:TI} (ht:P.underlying t=some (.slice el)) (gM:Γ.ty el=some te)
 {x y:SV} {u v:Value} (hx:den V x=some u) (hy:den V y=some v) (he:FC T' te x y=some e) (ho:∀ q∈e.bV,q):wQ P w0 M V T lab e (Builtin.append_ #[t,t] ty #[u,v]) w:=by
 unfold FC at he
 split at he
 case h_2=>cases he
 rename_i l len cap k hk kD
 split at he
 case h_2=>cases he
 rename_i k2 xs ety hB
 split at he
 case h_2=>cases he
 rename_i ob ys Dm hq
 simp only [Option.some.injEq] at he
 subst he
 have Dm:k=k2:=of_decide_eq_true Dm
 subst Dm
 obtain ⟨sP,hle⟩:=ho _ List.mem_cons_self
 obtain ⟨_,i,z,hi,cZ,tU,hz,hzero⟩:=aM el te gM
 have lV:i.size=1:=by rw [cZ];exact Nat.eq_of_beq_eq_true kD
 have hh:=Is (hT.sub bC) hy hq (fun q hq=>ho q (List.mem_cons_of_mem _ hq))
 simp only [den,Option.map_eq_some_iff] at hx
 obtain ⟨p,hβ,rfl⟩:=hx
 obtain ⟨w',hr,tQ⟩:=oT (P:=P) (xs:=ys) (off:=len) lab (.aI l true 0 (len+ys.length) cap) ((cap=xs.length/\len+ys.length<=cap)::ob) hT (bC l _ hB) (b:=p.1) (o:=p.2) hβ (by omega)
 have aMe:(⟨p.1,p.2,none⟩:Addr).add len=⟨p.1,p.2+len,none⟩:=by cases len <;> simp [Addr.add]
 refine ⟨V,.slice (some ⟨p.1,p.2+0,none⟩) (len+ys.length) cap,w',?_,V.dR lab,by simp [den,hβ],tQ⟩
 rcases hh with ⟨rfl,sJ⟩ | ⟨ad,c,rfl,cT⟩
 .have:ys=[]:=by simpa using sJ
  subst this
  have hf:=run_firstCells_none (P:=P) (w:=w) 1 0 0 0
  have QM:len<=cap:=by simpa using hle
  simp at hr
  simp [Builtin.append_,run_underlying ht,Builtin.lenOf,run_sizeOf hi,lV,hf,QM,aMe,hr]
 .have hf:=run_firstCells_some (P:=P) (w:=w) 1 ys.length ad ys.length c (ys.map (Value.int k)) (by simp) cT
  simp [Builtin.append_,run_underlying ht,Builtin.lenOf,run_sizeOf hi,lV,hf,hle,aMe,hr]
def Qg (T:bA) (te:TI) (x y:SV):Option bR:=
 match x,aCj te.desc,Nat.beq te.size 1 with
 | .aI l false off len _,some k,true=>match T l with
   | some (.ints k2 xs ty)=>match Lr k k2,BB T k y with
     | true,some (ob,ys)=>some { bV:=(ys.length<=len/\off+ys.length<=xs.length)::ob,val:=.int false .i64 ys.length,wr:=[(l,.ints k (xs.take off++ys++xs.drop (off+ys.length)) ty)] }
     | _,_=>none
   | _=>none
 | _,_,_=>none
theorem Yz (aM:cG P Γ) {T':bA} (bC:∀ l B,T' l=some B->T l=some B) (hT:aG w0 M V T w) {lab:Nat} {dT sT ty el:TypeId} {te:TI} (ht:P.underlying dT=some (.slice el)) (gM:Γ.ty el=some te)
 {x y:SV} {u v:Value} (hx:den V x=some u) (hy:den V y=some v) (he:Qg T' te x y=some e) (ho:∀ q∈e.bV,q):wQ P w0 M V T lab e (Builtin.copy_ #[dT,sT] ty #[u,v]) w:=by
 unfold Qg at he
 split at he
 case h_2=>cases he
 rename_i l off len cap k hk kD
 split at he
 case h_2=>cases he
 rename_i k2 xs ety hB
 split at he
 case h_2=>cases he
 rename_i ob ys Dm hq
 simp only [Option.some.injEq] at he
 subst he
 have Dm:k=k2:=of_decide_eq_true Dm
 subst Dm
 obtain ⟨hle,aYd⟩:=ho _ List.mem_cons_self
 obtain ⟨_,i,z,hi,cZ,tU,hz,hzero⟩:=aM el te gM
 have lV:i.size=1:=by rw [cZ];exact Nat.eq_of_beq_eq_true kD
 have hh:=Is (hT.sub bC) hy hq (fun q hq=>ho q (List.mem_cons_of_mem _ hq))
 simp only [den,Option.map_eq_some_iff] at hx
 obtain ⟨p,hβ,rfl⟩:=hx
 obtain ⟨w',hr,tQ⟩:=oT (P:=P) (xs:=ys) (off:=off) lab (.int false .i64 ys.length) ((ys.length<=len/\off+ys.length<=xs.length)::ob) hT (bC l _ hB) (b:=p.1) (o:=p.2) hβ aYd
 refine ⟨V,.int .i64 ys.length,w',?_,V.dR lab,rfl,tQ⟩
 rcases hh with ⟨rfl,sJ⟩ | ⟨ad,c,rfl,cT⟩
 .have:ys=[]:=by simpa using sJ
  subst this
  have hf:=run_firstCells_none (P:=P) (w:=w) 1 0 0 0
  simp at hr
  simp [Builtin.copy_,run_underlying ht,Builtin.lenOf,run_sizeOf hi,lV,hf,hr,goInt]
 .have Pe:ys.length.min len=ys.length:=Nat.min_eq_left hle
  have hf:=run_firstCells_some (P:=P) (w:=w) 1 ys.length ad ys.length c (ys.map (Value.int k)) (by simp) cT
  simp [Builtin.copy_,run_underlying ht,Builtin.lenOf,run_sizeOf hi,lV,hf,hr,goInt,Pe]
def Jh (T:bA) (te:TI) (x:SV):Option bR:=
 match x,te.zero,Nat.beq te.size 1 with
 | .aI l false off len _,[.int _ k z],true=>match T l with
   | some (.ints k2 xs ty)=>match Lr k k2 with
     | true=>some { bV:=[off+len<=xs.length],val:=.eD [],wr:=[(l,.ints k (xs.take off++List.replicate len z++xs.drop (off+len)) ty)] }
     | _=>none
   | _=>none
 | _,_,_=>none
theorem Rq (aM:cG P Γ) {T':bA} (bC:∀ l B,T' l=some B->T l=some B) (hT:aG w0 M V T w) {lab:Nat} {t ty el:TypeId} {te:TI} (ht:P.underlying t=some (.slice el)) (gM:Γ.ty el=some te)
 {x:SV} {u:Value} (hx:den V x=some u) (he:Jh T' te x=some e) (ho:∀ q∈e.bV,q):wQ P w0 M V T lab e (Builtin.clear_ #[t] ty #[u]) w:=by
 unfold Jh at he
 split at he
 case h_2=>cases he
 rename_i l off len cap sz k z hzz kD
 split at he
 case h_2=>cases he
 rename_i k2 xs ety hB
 split at he
 case h_2=>cases he
 rename_i Dm
 simp only [Option.some.injEq] at he
 subst he
 have Dm:k=k2:=of_decide_eq_true Dm
 subst Dm
 have hle:=ho _ List.mem_cons_self
 obtain ⟨_,i,zv,hi,cZ,tU,hz,hzero⟩:=aM el te gM
 have NP:zv.cells = #[.int k z]:=by
  have:=hzero V
  rw [hzz] at this
  simp only [aJ,den,Option.bind_some,Option.map_some,Option.some.injEq] at this
  rw [<- Array.toList_inj,<- this]
 simp only [den,Option.map_eq_some_iff] at hx
 obtain ⟨p,hβ,rfl⟩:=hx
 obtain ⟨w',hr,tQ⟩:=oT (P:=P) (xs:=List.replicate len z) (off:=off) lab (.eD []) [off+len<=xs.length] hT (bC l _ hB) (b:=p.1) (o:=p.2) hβ (by simpa using hle)
 rw [List.length_replicate] at tQ
 cases len with
 | zero=>
   refine ⟨V,.tuple #[],w',?_,V.dR lab,by simp [den,aJ],tQ⟩
   simp only [List.replicate_zero,List.map_nil,storeCells,Sem.run_pure,Result.ok.injEq,true_and] at hr
   subst hr
   simp [Builtin.clear_,run_underlying ht]
 | succ n=>
   refine ⟨V,.tuple #[],w',?_,V.dR lab,by simp [den,aJ],tQ⟩
   have hzl:(Builtin.zeroCells zv.cells (n+1)).toList=(List.replicate (n+1) z).map (Value.int k):=by
    rw [NP,oB]
    simp
   rw [<- hzl] at hr
   simp [Builtin.clear_,run_underlying ht,fK hi hz,hr]
end YQ
def vI (Γ:Env) (T:bA) (lab:Nat) (b:Builtin) (ts:List TypeId) (vs:List SV):Option bR:=
 match b,ts,vs with
 | .len,t::_,[v]=>match Γ.ty t with
   | some ti=>aDb Γ T ti.desc v
   | none=>none
 | .cap,t::_,[v]=>match Γ.ty t with
   | some ti=>match ti.desc with
     | .slice _=>aDc v
     | _=>none
   | none=>none
 | .append,[t,t2],[x,y]=>match Nat.beq t t2,y with
   | false,.int .. => match Γ.ty t,Γ.ty t2 with
     | some ti,some ti2=>match ti.desc with
       | .slice el=>match Γ.ty el with
         | some te=>Cp ti2.desc te el lab x y
         | none=>none
       | _=>none
     | _,_=>none
   | _,_=>match Γ.ty t,Nat.beq t t2 with
     | some ti,true=>match ti.desc with
       | .slice el=>match Γ.ty el with
         | some te=>yK (FC T te x y) (yK (FB T te el lab x y) (yK (FE T te el lab x y) (FD T te el lab x y)))
         | none=>none
       | _=>none
     | _,_=>none
 | .copy,[t,_],[x,y]=>match Γ.ty t with
   | some ti=>match ti.desc with
     | .slice el=>match Γ.ty el with
       | some te=>yK (Qg T te x y) (Qh T te.size x y)
       | none=>none
     | _=>none
   | none=>none
 | .clear,[t],[x]=>match Γ.ty t with
   | some ti=>match ti.desc with
     | .slice el=>match Γ.ty el with
       | some te=>yK (Jh T te x) (Ji T te x)
       | none=>none
     | _=>none
   | none=>none
 | _,_,_=>none
def EZ (Γ:Env) (g:Nat->Option SV) (T:bA) (lab F:Nat) (c:Call):Option bR:=
 match PL Γ g c.args.toList with
 | none=>none
 | some vs=>match c.callee with
   | .builtin b=>vI Γ T lab b c.argTypes.toList vs
   | .value f=>match ev Γ g f with
     | some (.fn (.func id) first Hk)=>match Γ.sum id with
       | some S=>S (first++vs++Hk) T lab F
       | none=>none
     | _=>none
   | .invoke _ _=>none
def Bd (Γ:Env) (g:Nat->Option SV) (T:bA) (lab F:Nat) (h:Option Bool) (o:Oper):Option bR:=
 match o.op with
 | .move x=>Td Γ g x
 | .assign x=>Td Γ g x
 | .pick c x y=>EW Γ g c x y
 | .alloc t=>Qj Γ t lab
 | .box t x=>yK (aDd Γ g T t x lab) (FA Γ g t x lab)
 | .build t ps=>Qi Γ g T t ps
 | .buildSlice t n ps=>rC Γ g t n ps lab
 | .load t x=>yK (Qe Γ g T t x) (EX Γ g T t x)
 | .store t x y=>yK (Qc Γ g T t x y) (yK (Jc Γ g T t x y) (Jb Γ g T t x y))
 | .nilCheck x=>aDa Γ g x
 | .binOp op t x y _=>match op with
   | .eql=>yK (CF Γ g h .eql t x y) (yK (Tc Γ g T .eql t x y) (Ij Γ g .eql t x y))
   | .neq=>yK (CF Γ g h .neq t x y) (yK (Tc Γ g T .neq t x y) (Ij Γ g .neq t x y))
   | _=>CF Γ g h op t x y
 | .unOp op _ x=>eUn Γ g op x
 | .convert s d x=>EY Γ g s d x
 | .sliceToArrayPointer t x=>aDe Γ g t x
 | .makeInterface t x=>tH Γ g t x
 | .makeFunc f xs cs=>xP Γ g f xs cs
 | .makeSlice t x y=>tG Γ g t x y lab
 | .slice t x lo hi mx=>yK (Qd Γ g T t x lo hi mx) (Jd Γ g T t x lo hi mx lab)
 | .fieldAddr t x n=>Qf Γ g t x n
 | .field t x n=>Jg Γ g t x n
 | .indexAddr t x y=>tI Γ g t x y
 | .index t x y=>yK (Je Γ g t x y) (Jf Γ g t x y)
 | .extract x i=>Co Γ g x i
 | .call c=>EZ Γ g T lab F c
 | _=>none
theorem nH {a b:Nat} (h:Nat.beq a b=false):a≠b:=fun e=>by subst e;rw [Nat.beq_refl] at h;cases h
section Gv
variable {P:Program} {Γ:Env} {V:bF} {w w0:World} {M:Nat->Prop} {T:bA} {g:Nat->Option SV} {a:Act} {o:Oper} {e:bR}
theorem Nb {xs:Array Operand} {vs:List SV} (ht:dG V g a) (hg:cC Γ V) (h:PL Γ g xs.toList=some vs):aJ V vs=some (xs.map a.eval).toList:=by
 rw [Array.toList_map];exact Ie ht hg h
theorem qW {v:SV} {xs:List Value} (h:aJ V [v]=some xs):∃ x,xs=[x]/\den V v=some x:=by
 simp only [aJ,Option.map_eq_some_iff,Option.bind_eq_some_iff] at h
 obtain ⟨x,hx,ys,hy,rfl⟩:=h
 simp only [Option.some.injEq] at hy
 subst hy
 exact ⟨x,rfl,hx⟩
theorem Cq {u v:SV} {xs:List Value} (h:aJ V [u,v]=some xs):∃ x y,xs=[x,y]/\den V u=some x/\den V v=some y:=by
 simp only [aJ,Option.map_eq_some_iff,Option.bind_eq_some_iff] at h
 obtain ⟨x,hx,ys,⟨y,hy,zs,hz,rfl⟩,rfl⟩:=h
 simp only [Option.some.injEq] at hz
 subst hz
 exact ⟨x,y,rfl,hx,hy⟩
def bBu (b:Builtin) (Dt:Array TypeId) (ty:TypeId) (xs:Array Value):Sem Value:=match b with
 | .len=>Builtin.len_ Dt ty xs
 | .cap=>Builtin.cap_ Dt ty xs
 | .append=>Builtin.append_ Dt ty xs
 | .copy=>Builtin.copy_ Dt ty xs
 | .clear=>Builtin.clear_ Dt ty xs
 | _=>stuck ""
theorem Nw (aM:cG P Γ) {T':bA} (bC:∀ l B,T' l=some B->T l=some B) (hT:aG w0 M V T w) {lab:Nat} (hf:V.fresh lab) {b:Builtin} {Dt:Array TypeId} {ty:TypeId} {vs:List SV} {xs:Array Value}
 (hv:aJ V vs=some xs.toList) (he:vI Γ T' lab b Dt.toList vs=some e) (ho:∀ q∈e.bV,q) :
 wQ P w0 M V T lab e (bBu b Dt ty xs) w:=by
 obtain ⟨ts,hts⟩:∃ ts,Dt.toList=ts:=⟨_,rfl⟩
 rw [hts] at he
 unfold vI at he
 split at he
 .rename_i t r v
  split at he
  case h_2=>cases he
  rename_i ti fN
  obtain ⟨x,hx,hd⟩:=qW hv
  have qC:xs = #[x]:=by apply Array.ext';simpa using hx
  subst qC
  have Er:Dt[0]?=some t:=by rw [<- Array.getElem?_toList,hts];rfl
  exact oU (YD (ty:=ty) aM bC hT Er (aM t ti fN).1 hd he) hT
 .rename_i t r v
  split at he
  case h_2=>cases he
  rename_i ti fN
  split at he
  case h_2=>cases he
  rename_i el AQ
  obtain ⟨x,hx,hd⟩:=qW hv
  have qC:xs = #[x]:=by apply Array.ext';simpa using hx
  subst qC
  have Er:Dt[0]?=some t:=by rw [<- Array.getElem?_toList,hts];rfl
  have hu:=(aM t ti fN).1
  rw [AQ] at hu
  exact oU (YF (ty:=ty) Er hu hd he) hT
 .rename_i t t2 x y
  split at he
  .rename_i s k n ZB
   split at he
   case h_2=>cases he
   rename_i ti ti2 fN aXp
   split at he
   case h_2=>cases he
   rename_i el AQ
   split at he
   case h_2=>cases he
   rename_i te gM
   obtain ⟨p,q,hx,hp,hq⟩:=Cq hv
   have qC:xs = #[p,q]:=by apply Array.ext';simpa using hx
   subst qC
   have Ph:Dt = #[t,t2]:=by apply Array.ext';simpa using hts
   subst Ph
   have hu:=(aM t ti fN).1
   rw [AQ] at hu
   exact Nx (ty:=ty) aM hT hf hu (aM t2 ti2 aXp).1 gM hp hq he
  .split at he
   case h_2=>cases he
   rename_i ti fN ZB
   have:=Nat.eq_of_beq_eq_true ZB
   subst this
   split at he
   case h_2=>cases he
   rename_i el AQ
   split at he
   case h_2=>cases he
   rename_i te gM
   obtain ⟨p,q,hx,hp,hq⟩:=Cq hv
   have qC:xs = #[p,q]:=by apply Array.ext';simpa using hx
   subst qC
   have Ph:Dt = #[t,t]:=by apply Array.ext';simpa using hts
   subst Ph
   have hu:=(aM t ti fN).1
   rw [AQ] at hu
   unfold yK at he
   split at he
   .rename_i e' lE
    cases he
    exact MM (ty:=ty) aM bC hT hu gM hp hq lE ho
   .split at he
    .rename_i e' lE
     cases he
     exact ML (ty:=ty) aM bC hT hf hu gM hp hq lE ho
    .split at he
     .rename_i e' lE
      cases he
      exact MO (ty:=ty) aM bC hT hf hu gM hp hq lE
     .exact MN (ty:=ty) aM bC hT hf hu gM hp hq he ho
 .rename_i t t2 x y
  split at he
  case h_2=>cases he
  rename_i ti fN
  split at he
  case h_2=>cases he
  rename_i el AQ
  split at he
  case h_2=>cases he
  rename_i te gM
  obtain ⟨p,q,hx,hp,hq⟩:=Cq hv
  have qC:xs = #[p,q]:=by apply Array.ext';simpa using hx
  subst qC
  have Ph:Dt = #[t,t2]:=by apply Array.ext';simpa using hts
  subst Ph
  have hu:=(aM t ti fN).1
  rw [AQ] at hu
  unfold yK at he
  split at he
  .rename_i e' lE
   cases he
   exact Yz (ty:=ty) aM bC hT hu gM hp hq lE ho
  .exact Za (ty:=ty) aM bC hT hu gM hp hq he
 .rename_i t x
  split at he
  case h_2=>cases he
  rename_i ti fN
  split at he
  case h_2=>cases he
  rename_i el AQ
  split at he
  case h_2=>cases he
  rename_i te gM
  obtain ⟨p,hx,hp⟩:=qW hv
  have qC:xs = #[p]:=by apply Array.ext';simpa using hx
  subst qC
  have Ph:Dt = #[t]:=by apply Array.ext';simpa using hts
  subst Ph
  have hu:=(aM t ti fN).1
  rw [AQ] at hu
  unfold yK at he
  split at he
  .rename_i e' lE
   cases he
   exact Rq (ty:=ty) aM bC hT hu gM hp lE ho
  .exact Rr (ty:=ty) aM bC hT hu gM hp he
 .cases he
theorem Np {lab:Nat} {s:Sem Value} (h:wQ P w0 M V T lab e s w) (hr:execOp a.eval o=(do pure (.value (<- s)))):pU P w0 M V T lab e o a w:=by
 obtain ⟨V',x,w',h1,h2,h3,h4⟩:=h
 intro K Q hK
 unfold Oper.wp
 rw [hr]
 simp only [Sem.run_bind,h1,Result.andThen_ok,Sem.run_pure,Oper.upon_value]
 exact hK V' x w' h2 h3 h4
theorem MJ (aM:cG P Γ) (aE:bX P Γ) (ht:dG V g a) (hg:cC Γ V) {T':bA} (bC:∀ l B,T' l=some B->T l=some B) (hT:aG w0 M V T w) {lab F:Nat} (hf:V.fresh lab) (hF:V.top F) {c:Call} (cM:o.op = .call c)
 (he:EZ Γ g T' lab F c=some e) (ho:∀ q∈e.bV,q):pU P w0 M V T lab e o a w:=by
 unfold EZ at he
 split at he
 case h_1=>cases he
 rename_i vs hvs
 have hd:=Nb ht hg hvs
 split at he
 .rename_i b hb
  have hs:=Nw (P:=P) (ty:=o.type) aM bC hT hf hd he ho
  refine Np hs ?_
  unfold execOp
  simp only [cM,resolve,hb]
  unfold vI at he
  split at he <;> first | (cases he;done) | rfl
 .rename_i f hb
  split at he
  case h_2=>cases he
  rename_i id first Hk hfv
  split at he
  case h_2=>cases he
  rename_i S hS
  have ef:=bT ht hg hfv
  simp only [den,Option.bind_eq_some_iff,Option.map_eq_some_iff] at ef
  obtain ⟨xf,hxf,xc,hxc,ef⟩:=ef
  intro K Q hK
  have jN:=cJ (cJ hxf hd) hxc
  have:=aE.1 id S hS _ _ _ _ _ he ho w0 M V T w _ bC hT hg hf hF jN o a K Q hK
  unfold Oper.wp
  have gG:(execOp a.eval o).run P w=(callFunc id ((xf++(c.args.map a.eval).toList++xc).toArray)).run P w:=by
   unfold execOp
   simp only [cM,resolve,hb,<- ef,Deferred.ofValue,invoke]
   have:(xf++(c.args.map a.eval).toList++xc).toArray=xf.toArray++c.args.map a.eval++xc.toArray:=by
    apply Array.ext';simp
   rw [this]
   rfl
  rw [gG]
  exact this
 .cases he
theorem Fo {l:Nat} {B:SB} {p:Nat × Nat} (h:Po B=true) (hβ:V.β l=some p) (oW:okB V w l B):B.owned=true/\B.bB V l=some p.1/\p.2=0/\∃ cs ty,w.heap[p.1]?=some (.cells cs ty (0,0)):=by
 obtain ⟨cs,_,h2⟩:=oW
 cases B with
 | own cells ty=>obtain ⟨b,hb,hh⟩:=h2;rw [hβ] at hb;cases hb;exact ⟨rfl,by simp [SB.bB,hβ],rfl,_,_,hh⟩
 | ints k xs ty=>obtain ⟨b,hb,hh⟩:=h2;rw [hβ] at hb;cases hb;exact ⟨rfl,by simp [SB.bB,hβ],rfl,_,_,hh⟩
 | fV vs ty=>obtain ⟨b,hb,hh⟩:=h2;rw [hβ] at hb;cases hb;exact ⟨rfl,by simp [SB.bB,hβ],rfl,_,_,hh⟩
 | row sz cells ty=>obtain ⟨b,_,_,hb,_,hh,_⟩:=h2;rw [hβ] at hb;cases hb;exact ⟨rfl,by simp [SB.bB,hβ],rfl,_,_,hh⟩
 | _=>cases h
theorem kA (d:Nat) {e:TypeId} {k0:IntKind} (he:P.underlying e=some (.int k0)) (aS bs:Array Value) :
 ∀ (xs ys:List SV) (j:Nat) (l r:Bool),mR xs ys=some (l,r)->aJ V xs=some (aS.toList.drop j)->aJ V ys=some (bs.toList.drop j)->(Op.eqItems (d+1) e 1 aS bs (List.range' j xs.length)).run P w = .ok r w
 | [],[],j,l,r,h,_,_=>by
   simp only [mR,Option.some.injEq,Prod.mk.injEq] at h
   obtain ⟨rfl,rfl⟩:=h
   simp [Op.eqItems]
 | .int s k a::xs,y::ys,j,l,r,h,hx,hy=>by
   cases y <;> simp only [mR] at h <;> first | (cases h;done) | skip
   rename_i s' k' b
   split at h
   case h_2=>cases h
   rename_i l' r' hk hr
   have:=of_decide_eq_true hk
   subst this
   simp only [Option.some.injEq,Prod.mk.injEq] at h
   obtain ⟨rfl,rfl⟩:=h
   simp only [aJ,den,Option.bind_some,Option.map_eq_some_iff] at hx hy
   obtain ⟨as',qC,hxa⟩:=hx
   obtain ⟨bs',sJ,hyb⟩:=hy
   have ga:aS[j]?=some (.int k a):=by
    have:(aS.toList.drop j)[0]?=some (.int k a):=by rw [<- hxa];rfl
    simpa using this
   have gb:bs[j]?=some (.int k b):=by
    have:(bs.toList.drop j)[0]?=some (.int k b):=by rw [<- hyb];rfl
    simpa using this
   have da:as'=aS.toList.drop (j+1):=by
    have:=congrArg (List.drop 1) hxa
    simpa using this
   have db:bs'=bs.toList.drop (j+1):=by
    have:=congrArg (List.drop 1) hyb
    simpa using this
   have iM:wP (.int k0)=false:=rfl
   have ih:=kA d he aS bs xs ys (j+1) l' r' hr (da ▸ qC) (db ▸ sJ)
   have pa:(part e aS (j*1)).run P w = .ok (.int k a) w:=by
    simp only [Nat.mul_one,part,Sem.run_bind,fS he,iM,Result.andThen_ok,Bool.false_eq_true,if_false,ga,Sem.run_pure]
   have pb:(part e bs (j*1)).run P w = .ok (.int k b) w:=by
    simp only [Nat.mul_one,part,Sem.run_bind,fS he,iM,Result.andThen_ok,Bool.false_eq_true,if_false,gb,Sem.run_pure]
   simp only [List.length_cons,List.range'_succ,Op.eqItems,Sem.run_bind,pa,pb,Result.andThen_ok,run_equalIn_int w d e k k0 a b he]
   cases AT:(a==b) with
   | true=>simp [ih]
   | false=>simp
 | [],_::_,_,_,_,h,_,_=>by simp [mR] at h
 | x::_,[],_,_,_,h,_,_=>by cases x <;> simp [mR] at h
 | .bool .. :: _,_::_,_,_,_,h,_,_=>by simp [mR] at h
 | .ptr .. :: _,_::_,_,_,_,h,_,_=>by simp [mR] at h
 | .aI .. :: _,_::_,_,_,_,h,_,_=>by simp [mR] at h
 | .agg .. :: _,_::_,_,_,_,h,_,_=>by simp [mR] at h
 | .eD .. :: _,_::_,_,_,_,h,_,_=>by simp [mR] at h
 | .fn .. :: _,_::_,_,_,_,h,_,_=>by simp [mR] at h
 | .jS .. :: _,_::_,_,_,_,h,_,_=>by simp [mR] at h
 | .raw .. :: _,_::_,_,_,_,h,_,_=>by simp [mR] at h
 | .buf .. :: _,_::_,_,_,_,h,_,_=>by simp [mR] at h
 | .mT .. :: _,_::_,_,_,_,h,_,_=>by simp [mR] at h
 | .mS .. :: _,_::_,_,_,_,h,_,_=>by simp [mR] at h
 | .dX .. :: _,_::_,_,_,_,h,_,_=>by simp [mR] at h
 | .ai .. :: _,_::_,_,_,_,h,_,_=>by simp [mR] at h
 | .dO .. :: _,_::_,_,_,_,h,_,_=>by simp [mR] at h
theorem Nf (aM:cG P Γ) (aE:bX P Γ) (ht:dG V g a) (hg:cC Γ V) {T':bA} (bC:∀ l B,T' l=some B->T l=some B) (hT:aG w0 M V T w) {op:BinOp} {t t2:TypeId} {x y:Operand} (cM:o.op = .binOp op t x y t2)
 (he:Tc Γ g T' op t x y=some e) (lab:Nat):pU P w0 M V T lab e o a w:=by
 have fin:∀ {u v:Value} {b:Bool},a.eval x=u->a.eval y=v->(Op.equal t u v).run P w = .ok b w->(binOp .eql t u v=(do pure (.bool (<- Op.equal t u v)))/\binOp .neq t u v=(do pure (.bool (!(<- Op.equal t u v))))) ->
  ¬ (u = .nilIface/\v = .nilIface)->(∀ cs,u ≠ .agg cs)->tV op b=some e->pU P w0 M V T lab e o a w:=by
  intro u v b hu hv hr hb Kc hn2 he
  have Kf:=dS (P:=P) w op t x y u v Kc hn2
  have hx:∃ z,((do eqGuard op t x y u v;binOp op t u v):Sem Value).run P w = .ok z w/\den V e.val=some z/\e.new=[]/\e.wr=[]:=by
   cases op <;> simp only [tV] at he <;> first | (cases he;done) | skip
   .simp only [lit,Option.some.injEq] at he;subst he
    exact ⟨.bool b,by rw [Sem.run_bind,Kf,Result.andThen_ok,hb.1,Sem.run_bind,hr];rfl,rfl,rfl,rfl⟩
   .simp only [lit,Option.some.injEq] at he;subst he
    exact ⟨.bool (!b),by rw [Sem.run_bind,Kf,Result.andThen_ok,hb.2,Sem.run_bind,hr];rfl,rfl,rfl,rfl⟩
  obtain ⟨z,h1,h2,h3,h4⟩:=hx
  refine bK (x:=z) ?_ h2 h3 h4 hT
  unfold execOp
  simp only [cM,hu,hv]
  rw [Sem.run_bind,h1]
  rfl
 unfold Tc at he
 split at he
 .rename_i l s1 off l' s2 Oz hx hy
  have ex:=bT ht hg hx
  have ey:=bT ht hg hy
  simp only [den,Option.map_eq_some_iff] at ex ey
  obtain ⟨p,hp,ex⟩:=ex
  obtain ⟨q,hq,ey⟩:=ey
  split at he
  case h_2=>cases he
  rename_i ti fN
  split at he
  case h_2=>cases he
  rename_i el hd
  split at he
  case h_2=>cases he
  rename_i te gM
  have hu:=(aM t ti fN).1
  rw [hd] at hu
  obtain ⟨_,i,z,hi,kD,_⟩:=aM el te gM
  have aYj:∀ (n0:Nat) (b:Bool),(i.size≠0->(sameAddr ⟨p.1,p.2+off,none⟩ ⟨q.1,q.2+Oz,none⟩).run P w = .ok b w)->(i.size=0->((⟨p.1,p.2+off,none⟩:Addr)==⟨q.1,q.2+Oz,none⟩)=true/\b=true) ->
   (Op.equalIn (n0+1) t (.pointer (some ⟨p.1,p.2+off,none⟩)) (.pointer (some ⟨q.1,q.2+Oz,none⟩))).run P w = .ok b w:=by
   intro n0 b h1 h2
   simp only [Op.equalIn,Sem.run_bind,run_underlying hu w,Result.andThen_ok,run_sizeOf hi]
   by_cases h0:i.size=0
   .rw [if_neg (by simp [h0])]
    obtain ⟨h3,rfl⟩:=h2 h0
    rw [if_pos h3];rfl
   .rw [if_pos (by simpa using h0)]
    exact h1 h0
  have heq:∀ (b:Bool),(i.size≠0->(sameAddr ⟨p.1,p.2+off,none⟩ ⟨q.1,q.2+Oz,none⟩).run P w = .ok b w)->(i.size=0->((⟨p.1,p.2+off,none⟩:Addr)==⟨q.1,q.2+Oz,none⟩)=true/\b=true) ->
   (Op.equal t (.pointer (some ⟨p.1,p.2+off,none⟩)) (.pointer (some ⟨q.1,q.2+Oz,none⟩))).run P w = .ok b w:=fun b=>aYj 9999 b
  split at he
  .rename_i hll
   have:=Nat.eq_of_beq_eq_true hll
   subst this
   rw [hp] at hq;cases hq
   split at he
   .rename_i hoo
    have:=Nat.eq_of_beq_eq_true hoo
    subst this
    exact fin ex.symm ey.symm (heq true (fun _=>run_sameAddr_same w _) (fun _=>⟨by simp,rfl⟩)) ⟨rfl,rfl⟩ (by simp) (by simp) he
   .rename_i hoo
    have dP:=nH hoo
    split at he
    .cases he
    .rename_i hz
     have hz:=nH hz
     refine fin ex.symm ey.symm (heq false (fun _=>?_) (fun h=>absurd (kD ▸ h) hz)) ⟨rfl,rfl⟩ (by simp) (by simp) he
     simp [sameAddr]
  .rename_i hll
   have dP:=nH hll
   split at he
   case h_2=>cases he
   rename_i B B' hz hB hB'
   have hz:=nH hz
   split at he
   case h_2=>cases he
   rename_i hw
   simp only [Bool.and_eq_true] at hw
   obtain ⟨o1,b1,z1,cs1,ty1,h1⟩:=Fo hw.1 hp (hT.ok l B (bC l B hB))
   obtain ⟨o2,b2,z2,cs2,ty2,h2⟩:=Fo hw.2 hq (hT.ok l' B' (bC l' B' hB'))
   have Gs:p.1≠q.1:=fun e=>hT.kF l B l' B' p.1 dP (bC l B hB) (bC l' B' hB') o1 b1 (e ▸ b2)
   refine fin ex.symm ey.symm (heq false (fun _=>?_) (fun h=>absurd (kD ▸ h) hz)) ⟨rfl,rfl⟩ (by simp) (by simp) he
   exact run_sameAddr_other w (by simp) h1 h2
 .rename_i t1 l s1 off t2' l' s2 Oz hx hy
  have ex:=bT ht hg hx
  have ey:=bT ht hg hy
  simp only [den,Option.map_eq_some_iff] at ex ey
  obtain ⟨_,⟨p,hp,rfl⟩,ex⟩:=ex
  obtain ⟨_,⟨q,hq,rfl⟩,ey⟩:=ey
  split at he
  case h_2=>cases he
  rename_i ti t1i fN ht1
  split at he
  case h_2=>cases he
  rename_i ms el hd Zy
  split at he
  case h_2=>cases he
  rename_i te gM
  have hu:=(aM t ti fN).1
  rw [hd] at hu
  obtain ⟨hu1,i1,z1,tO,_⟩:=aM t1 t1i ht1
  rw [Zy] at hu1
  obtain ⟨_,i2,z2,PD,aXr,_⟩:=aM el te gM
  split at he
  .rename_i hc
   simp only [Bool.and_eq_true] at hc
   obtain ⟨c1,c2,c3,c4⟩:=hc
   have:=Nat.eq_of_beq_eq_true c1
   subst this
   have:=Nat.eq_of_beq_eq_true c2
   subst this
   have:=Nat.eq_of_beq_eq_true c3
   subst this
   rw [hp] at hq;cases hq
   have aCp:=aE.2.2.1 t1 c4 i1 tO
   exact fin ex.symm ey.symm (run_equalIn_iface_ptr_same w 9998 _ hu hu1 tO aCp PD) ⟨rfl,rfl⟩ (by simp) (by simp) he
  .split at he
   case h_2=>cases he
   rename_i s s' hc hs Gp
   split at he
   case h_2=>cases he
   rename_i dP
   simp only [Bool.and_eq_true,Bool.not_eq_true'] at hc
   obtain ⟨c1,c4,c5⟩:=hc
   have:=Nat.eq_of_beq_eq_true c1
   subst this
   have aCp:=aE.2.2.1 t1 c4 i1 tO
   have look:∀ {l o:Nat} {s:ByteArray} {p:Nat × Nat},PU T' l o=some s->V.β l=some p->o=0/\tZ w p.1/\w.cell? ⟨p.1,p.2,none⟩=some (.string s):=by
    intro l o s p h hp
    unfold PU at h
    split at h
    case h_2=>cases h
    rename_i s0 r hB
    cases h
    obtain ⟨cs,nK,b,o,hb,h0,hh⟩:=hT.ok l _ (bC l _ hB)
    rw [hp] at hb;cases hb
    simp only [SB.cells,aJ,den,Option.bind_eq_some_iff,Option.map_eq_some_iff] at nK
    obtain ⟨v,hv,w',_,rfl⟩:=nK
    cases hv
    refine ⟨rfl,h0.2 s rfl,?_⟩
    have:=hh 0 (.string s) rfl
    simpa using this
   obtain ⟨rfl,⟨ca,ta,ha⟩,jM⟩:=look hs hp
   obtain ⟨rfl,⟨cb,tb,hb⟩,PH⟩:=look Gp hq
   have AT:(⟨p.1,p.2+0,none⟩:Addr)≠⟨q.1,q.2+0,none⟩:=fun e=>by
    simp only [Nat.add_zero] at e
    rw [e] at jM
    have:=jM.symm.trans PH
    simp only [Option.some.injEq,Value.string.injEq] at this
    exact GS dP (by rw [this])
   exact fin ex.symm ey.symm (run_equalIn_iface_ptr_other w 9998 hu hu1 tO aCp PD (by rw [aXr];exact nH c5) AT ha hb) ⟨rfl,rfl⟩ (by simp) (by simp) he
 .rename_i xs ys hx hy
  have ex:=bT ht hg hx
  have ey:=bT ht hg hy
  simp only [den,Option.map_eq_some_iff] at ex ey
  obtain ⟨aS,has,ex⟩:=ex
  obtain ⟨bs,AS,ey⟩:=ey
  split at he
  case h_2=>cases he
  rename_i ti fN
  split at he
  case h_2=>cases he
  rename_i n el hd
  split at he
  case h_2=>cases he
  rename_i te gM
  split at he
  case h_2=>cases he
  rename_i k0 l r hdk oF heq
  simp only [Bool.and_eq_true] at oF
  have h1:=Nat.eq_of_beq_eq_true oF.1
  have h2:=Nat.eq_of_beq_eq_true oF.2
  have hu:=(aM t ti fN).1
  rw [hd] at hu
  obtain ⟨Zs,i,z,hi,kD,_⟩:=aM el te gM
  rw [hdk] at Zs
  have kK:P.cellsOf el=1:=by simp [Program.cellsOf,hi,kD,h1]
  have hr:(Op.equal t (.agg aS.toArray) (.agg bs.toArray)).run P w = .ok r w:=by
   have:=run_equalIn_array (P:=P) w 9999 aS.toArray bs.toArray hu hi
   refine Eq.trans this ?_
   rw [kK,<- h2,List.range_eq_range']
   exact kA 9998 Zs aS.toArray bs.toArray xs ys 0 l r heq (by simpa using has) (by simpa using AS)
  have Kf:∀ op:BinOp,(eqGuard op t x y (.agg aS.toArray) (.agg bs.toArray)).run P w = .ok () w:=fun op=>by
   refine run_eqGuard_agg w op t x y _ _ ?_
   obtain ⟨d,aCo⟩:=aE.2.2.2
   rw [aCo]
   simp [Program.eqGuardType,hu,Zs]
  refine bK (x:=match op with | .eql=>.bool r | _=>.bool (!r)) ?_ ?_ ?_ ?_ hT
  .unfold execOp
   simp only [cM,<- ex,<- ey]
   cases op <;> simp only [Qa] at he <;> first | (cases he;done) | skip
   .rw [Sem.run_bind,Sem.run_bind,Kf,Result.andThen_ok]
    show (((do pure (.bool (<- Op.equal t (.agg aS.toArray) (.agg bs.toArray)))):Sem Value).run P w).andThen _=_
    rw [Sem.run_bind,hr];rfl
   .rw [Sem.run_bind,Sem.run_bind,Kf,Result.andThen_ok]
    show (((do pure (.bool (!(<- Op.equal t (.agg aS.toArray) (.agg bs.toArray))))):Sem Value).run P w).andThen _=_
    rw [Sem.run_bind,hr];rfl
  all_goals (cases op <;> simp only [Qa] at he <;> first | (cases he;done) | (cases he;rfl))
 .cases he
theorem Nc (k:IntKind):∀ (xs ys:List Int),xs.length=ys.length->∃ l,mR (xs.map (SV.int false k)) (ys.map (SV.int false k))=some (l,decide (xs=ys))
 | [],[],_=>⟨true,rfl⟩
 | [],_::_,h=>by simp at h
 | _::_,[],h=>by simp at h
 | x::xs,y::ys,h=>by
   obtain ⟨l,hl⟩:=Nc k xs ys (by simpa using h)
   refine ⟨false&&(false&&l),?_⟩
   simp only [List.map_cons,mR,Vc,decide_true,hl]
   by_cases e:x=y
   .subst e;simp
   .simp [e]
theorem Gg (aM:cG P Γ) (aE:bX P Γ) (ht:dG V g a) (hg:cC Γ V) (hT:aG w0 M V T w) {op:BinOp} {t t2:TypeId} {x y:Operand} (cM:o.op = .binOp op t x y t2)
 (he:Ij Γ g op t x y=some e) (ho:∀ q∈e.bV,q) (lab:Nat):pU P w0 M V T lab e o a w:=by
 unfold Ij at he
 split at he
 case h_2=>cases he
 rename_i k xs k2 ys ti hx hy fN
 split at he
 case h_2=>cases he
 rename_i n el hd
 split at he
 case h_2=>cases he
 rename_i te gM
 split at he
 case h_2=>cases he
 rename_i k0 hdk lV Dm
 have lV:=Nat.eq_of_beq_eq_true lV
 have Dm:k=k2:=of_decide_eq_true Dm
 subst Dm
 simp only [Option.bind_eq_some_iff] at hx hy
 obtain ⟨vx,hx,PC⟩:=hx
 obtain ⟨vy,hy,hiy⟩:=hy
 have ex:=(bT ht hg hx).symm.trans (Gd PC)
 have ey:=(bT ht hg hy).symm.trans (Gd hiy)
 simp only [Option.some.injEq] at ex ey
 have hu:=(aM t ti fN).1
 rw [hd] at hu
 obtain ⟨Zs,i,z,hi,kD,_⟩:=aM el te gM
 rw [hdk] at Zs
 have kK:P.cellsOf el=1:=by simp [Program.cellsOf,hi,kD,lV]
 have hlen:xs.length=n/\ys.length=n:=by
  cases op <;> simp only [Ii] at he <;> first | (cases he;done) | (cases he;exact ho _ (by simp))
 obtain ⟨l,hl⟩:=Nc k xs ys (by omega)
 have dm:∀ zs:List Int,aJ V (zs.map (SV.int false k))=some (zs.map (Value.int k)):=fun zs=>by
  induction zs with
  | nil=>rfl
  | cons z zs ih=>simp [aJ,den,ih]
 have hr:(Op.equal t (.agg (xs.map (Value.int k)).toArray) (.agg (ys.map (Value.int k)).toArray)).run P w = .ok (decide (xs=ys)) w:=by
  have:=run_equalIn_array (P:=P) w 9999 (xs.map (Value.int k)).toArray (ys.map (Value.int k)).toArray hu hi
  refine Eq.trans this ?_
  rw [kK,<- hlen.1,List.range_eq_range']
  have:=kA (P:=P) (w:=w) (V:=V) 9998 Zs (xs.map (Value.int k)).toArray (ys.map (Value.int k)).toArray (xs.map (SV.int false k)) (ys.map (SV.int false k)) 0 l _ hl (by simpa using dm xs) (by simpa using dm ys)
  simpa using this
 have Kf:∀ op:BinOp,(eqGuard op t x y (.agg (xs.map (Value.int k)).toArray) (.agg (ys.map (Value.int k)).toArray)).run P w = .ok () w:=fun op=>by
  refine run_eqGuard_agg w op t x y _ _ ?_
  obtain ⟨d,aCo⟩:=aE.2.2.2
  rw [aCo]
  simp [Program.eqGuardType,hu,Zs]
 refine bK (x:=match op with | .eql=>.bool (decide (xs=ys)) | _=>.bool (!decide (xs=ys))) ?_ ?_ ?_ ?_ hT
 .unfold execOp
  simp only [cM,ex,ey]
  cases op <;> simp only [Ii] at he <;> first | (cases he;done) | skip
  .rw [Sem.run_bind,Sem.run_bind,Kf,Result.andThen_ok]
   show (((do pure (.bool (<- Op.equal t (.agg (xs.map (Value.int k)).toArray) (.agg (ys.map (Value.int k)).toArray)))):Sem Value).run P w).andThen _=_
   rw [Sem.run_bind,hr];rfl
  .rw [Sem.run_bind,Sem.run_bind,Kf,Result.andThen_ok]
   show (((do pure (.bool (!(<- Op.equal t (.agg (xs.map (Value.int k)).toArray) (.agg (ys.map (Value.int k)).toArray))))):Sem Value).run P w).andThen _=_
   rw [Sem.run_bind,hr];rfl
 all_goals (cases op <;> simp only [Ii] at he <;> first | (cases he;done) | (cases he;rfl))
theorem Mp (aM:cG P Γ) (aE:bX P Γ) (ht:dG V g a) (hg:cC Γ V) {T':bA} (bC:∀ l B,T' l=some B->T l=some B) (hT:aG w0 M V T w) {lab F:Nat} (hf:V.fresh lab) (hF:V.top F) {h:Option Bool}
 (he:Bd Γ g T' lab F h o=some e) (ho:∀ q∈e.bV,q):pU P w0 M V T lab e o a w:=by
 unfold Bd at he
 split at he
 .rename_i cM;exact Ng ht hg hT (.inl cM) he lab
 .rename_i cM;exact Ng ht hg hT (.inr cM) he lab
 .rename_i cM;exact MG ht hg hT cM he lab
 .rename_i cM;exact Zc aM hT cM hf he
 .rename_i cM
  unfold yK at he
  split at he
  .rename_i h1;cases he;exact YG ht hg bC hT cM hf h1
  .exact MK ht hg hT cM hf he
 .rename_i cM;exact Zb aM ht hg bC hT cM he ho lab
 .rename_i cM;exact Dd aM ht hg hT cM hf he
 .rename_i cM
  unfold yK at he
  split at he
  .rename_i h1;cases he;exact Yx aM ht hg bC hT cM h1 ho lab
  .exact MH aM ht hg bC hT cM he ho lab
 .rename_i cM
  unfold yK at he
  split at he
  .rename_i h1;cases he;exact Yv aM ht hg bC hT cM h1 ho lab
  .split at he
   .rename_i h1;cases he;exact Rl aM ht hg bC hT cM h1 ho lab
   .exact Rk aM ht hg bC hT cM he lab
 .rename_i cM;exact YC ht hg hT cM he lab
 .rename_i cM
  split at he
  .unfold yK at he
   split at he
   .rename_i e' lE;cases he;exact Jj aM ht hg hT cM lE ho lab
   .split at he
    .rename_i h1;cases he;exact Nf aM aE ht hg bC hT cM h1 lab
    .exact Gg aM aE ht hg hT cM he ho lab
  .unfold yK at he
   split at he
   .rename_i e' lE;cases he;exact Jj aM ht hg hT cM lE ho lab
   .split at he
    .rename_i h1;cases he;exact Nf aM aE ht hg bC hT cM h1 lab
    .exact Gg aM aE ht hg hT cM he ho lab
  .exact Jj aM ht hg hT cM he ho lab
 .rename_i cM;exact aJb ht hg hT cM he lab
 .rename_i cM;exact MI aM ht hg hT cM he lab
 .rename_i cM;exact YH aM ht hg hT cM he ho lab
 .rename_i cM;exact Ek aM ht hg hT cM he lab
 .rename_i cM;exact Jp ht hg hT cM he lab
 .rename_i cM;exact Ej aM ht hg hT cM hf he ho
 .rename_i cM
  unfold yK at he
  split at he
  .rename_i h1;cases he;exact Yw aM ht hg bC hT cM h1 ho lab
  .exact Rm aM ht hg bC hT cM hf he ho
 .rename_i cM;exact Yy aM ht hg hT cM he lab
 .rename_i cM;exact Rp aM ht hg hT cM he lab
 .rename_i cM;exact El aM ht hg hT cM he ho lab
 .rename_i cM
  unfold yK at he
  split at he
  .rename_i h1;cases he;exact Rn aM ht hg hT cM h1 lab
  .exact Ro aM ht hg hT cM he ho lab
 .rename_i cM;exact Nv ht hg hT cM he lab
 .rename_i cM;exact MJ aM aE ht hg bC hT hf hF cM he ho
 .cases he
end Gv
inductive Tr (α:Type) where
 | lf
 | nd (l:Tr α) (v:Option α) (r:Tr α)
noncomputable def Tr.get {α:Type} (t:Tr α):Nat->Option α:=Tr.rec (motive:=fun _=>Nat->Option α) (fun _=>none)
 (fun _ v _ ihl ihr n=>Bool.rec (Bool.rec (ihr (n/2-1)) (ihl (n/2)) (Nat.beq (n%2) 1)) v (Nat.beq n 0)) t
noncomputable def Tr.new {α:Type} (v:α) (f:Nat):Nat->Tr α:=Nat.rec (motive:=fun _=>Nat->Tr α) (fun _=>.nd .lf (some v) .lf)
 (fun _ ih n=>Bool.rec (Bool.rec (.nd .lf none (ih (n/2-1))) (.nd (ih (n/2)) none .lf) (Nat.beq (n%2) 1)) (.nd .lf (some v) .lf) (Nat.beq n 0)) f
noncomputable def Tr.put {α:Type} (v:α) (f:Nat) (t:Tr α):Nat->Option (Tr α):=Tr.rec (motive:=fun _=>Nat->Option (Tr α)) (fun n=>Bool.rec none (some (Tr.new v f n)) (Nat.ble (n+1) (2^f)))
 (fun l u r ihl ihr n=>Bool.rec (Bool.rec (Option.rec none (fun r'=>some (.nd l u r')) (ihr (n/2-1))) (Option.rec none (fun l'=>some (.nd l' u r)) (ihl (n/2))) (Nat.beq (n%2) 1)) (some (.nd l (some v) r)) (Nat.beq n 0)) t
theorem Tr.kZ {α:Type} (n:Nat):(Tr.lf:Tr α).get n=none:=rfl
theorem Tr.oA {α:Type} (l r:Tr α) (v:Option α) (n:Nat):(Tr.nd l v r).get n=if n=0 then v else if n%2=1 then l.get (n/2) else r.get (n/2-1):=by
 show Bool.rec (motive:=fun _=>Option α) (Bool.rec (motive:=fun _=>Option α) (r.get (n/2-1)) (l.get (n/2)) (Nat.beq (n%2) 1)) v (Nat.beq n 0)=_
 by_cases h0:n=0
 .subst h0;rfl
 .rw [if_neg h0]
  have e0:Nat.beq n 0=false:=by
   cases hb:Nat.beq n 0 with
   | false=>rfl
   | true=>exact absurd (Nat.eq_of_beq_eq_true hb) h0
  rw [e0]
  by_cases h1:n%2=1
  .rw [if_pos h1,h1];rfl
  .rw [if_neg h1]
   have e1:Nat.beq (n%2) 1=false:=by
    cases hb:Nat.beq (n%2) 1 with
    | false=>rfl
    | true=>exact absurd (Nat.eq_of_beq_eq_true hb) h1
   rw [e1]
theorem beq_false {a b:Nat} (h:Nat.beq a b=false):a≠b:=fun e=>by subst e;rw [Nat.beq_refl] at h;cases h
theorem Tr.Iv {α:Type} (v:α):∀ (f n m:Nat),n<2^f->(Tr.new v f n).get m=if m=n then some v else none
 | 0,n,m,h=>by
   have h0:n=0:=by simpa using h
   subst h0
   show (Tr.nd .lf (some v) .lf).get m=_
   rw [Tr.oA,Tr.kZ,Tr.kZ]
   split
   .rfl
   .split <;> rfl
 | f+1,n,m,h=>by
   have h2:n/2<2^f:=by rw [Nat.pow_succ] at h;omega
   show Tr.get (Bool.rec (motive:=fun _=>Tr α) (Bool.rec (motive:=fun _=>Tr α) (.nd .lf none (Tr.new v f (n/2-1))) (.nd (Tr.new v f (n/2)) none .lf) (Nat.beq (n%2) 1)) (.nd .lf (some v) .lf) (Nat.beq n 0)) m=_
   cases h0:Nat.beq n 0 with
   | true=>
     have:=Nat.eq_of_beq_eq_true h0
     subst this
     show (Tr.nd .lf (some v) .lf).get m=_
     rw [Tr.oA,Tr.kZ,Tr.kZ]
     split
     .rfl
     .split <;> rfl
   | false=>
     have hn0:=beq_false h0
     cases h1:Nat.beq (n%2) 1 with
     | true=>
       have Kc:=Nat.eq_of_beq_eq_true h1
       show (Tr.nd (Tr.new v f (n/2)) none .lf).get m=_
       rw [Tr.oA,Tr.kZ,Tr.Iv v f _ _ h2]
       by_cases e:m=n
       .subst e;rw [if_neg hn0,if_pos Kc,if_pos rfl,if_pos rfl]
       .rw [if_neg e]
        split
        .rfl
        .split
         .rw [if_neg (by omega)]
         .rfl
     | false=>
       have Kc:=beq_false h1
       show (Tr.nd .lf none (Tr.new v f (n/2-1))).get m=_
       rw [Tr.oA,Tr.kZ,Tr.Iv v f _ _ (by omega)]
       by_cases e:m=n
       .subst e;rw [if_neg hn0,if_neg Kc,if_pos rfl,if_pos rfl]
       .rw [if_neg e]
        split
        .rfl
        .split
         .rfl
         .rw [if_neg (by omega)]
theorem Tr.gX {α:Type} (v:α) (f:Nat) (t:Tr α):∀ (n:Nat) (t':Tr α),Tr.put v f t n=some t'->∀ m,t'.get m=if m=n then some v else t.get m:=by
 induction t with
 | lf=>
   intro n t' h m
   have h:Bool.rec (motive:=fun _=>Option (Tr α)) none (some (Tr.new v f n)) (Nat.ble (n+1) (2^f))=some t':=h
   cases hb:Nat.ble (n+1) (2^f) with
   | false=>rw [hb] at h;cases h
   | true=>
     rw [hb] at h
     cases h
     have:=Nat.le_of_ble_eq_true hb
     rw [Tr.Iv v f n m (by omega),Tr.kZ]
 | nd l u r ihl ihr=>
   intro n t' h m
   have h:Bool.rec (motive:=fun _=>Option (Tr α)) (Bool.rec (motive:=fun _=>Option (Tr α)) (Option.rec (motive:=fun _=>Option (Tr α)) none (fun r'=>some (.nd l u r')) (Tr.put v f r (n/2-1))) (Option.rec (motive:=fun _=>Option (Tr α)) none (fun l'=>some (.nd l' u r)) (Tr.put v f l (n/2))) (Nat.beq (n%2) 1)) (some (.nd l (some v) r)) (Nat.beq n 0)=some t':=h
   cases h0:Nat.beq n 0 with
   | true=>
     rw [h0] at h
     cases h
     have:=Nat.eq_of_beq_eq_true h0
     subst this
     rw [Tr.oA,Tr.oA]
     by_cases e:m=0
     .subst e;rfl
     .rw [if_neg e,if_neg e,if_neg e]
   | false=>
     have hn0:=beq_false h0
     rw [h0] at h
     cases h1:Nat.beq (n%2) 1 with
     | true=>
       have Kc:=Nat.eq_of_beq_eq_true h1
       rw [h1] at h
       cases hp:Tr.put v f l (n/2) with
       | none=>rw [hp] at h;cases h
       | some l'=>
         rw [hp] at h
         cases h
         have ih:=ihl (n/2) l' hp
         rw [Tr.oA,Tr.oA]
         by_cases e:m=n
         .subst e;rw [if_neg hn0,if_pos Kc,ih,if_pos rfl,if_pos rfl]
         .rw [if_neg e]
          split
          .rfl
          .split
           .rw [ih,if_neg (by omega)]
           .rfl
     | false=>
       have Kc:=beq_false h1
       rw [h1] at h
       cases hp:Tr.put v f r (n/2-1) with
       | none=>rw [hp] at h;cases h
       | some r'=>
         rw [hp] at h
         cases h
         have ih:=ihr (n/2-1) r' hp
         rw [Tr.oA,Tr.oA]
         by_cases e:m=n
         .subst e;rw [if_neg hn0,if_neg Kc,ih,if_pos rfl,if_pos rfl]
         .rw [if_neg e]
          split
          .rfl
          .split
           .rfl
           .rw [ih,if_neg (by omega)]
structure St where
 g:Tr SV
 tb:Tr SB
 nx:Nat
 ws:List Nat
 ob:List Prop
 df:List SV:=[]
 hs:List Bool:=[]
noncomputable def St.T (B:bA) (s:St):bA:=fun l=>match s.tb.get l with
 | some b=>some b
 | none=>B l
noncomputable def BF (F0:Nat):List (Nat × SB)->Tr SB->List Nat->Option (Tr SB × List Nat)
 | [],t,ws=>some (t,ws)
 | (l,b)::r,t,ws=>match BF F0 r t ws with
   | none=>none
   | some (t,ws)=>match Tr.put b 64 t l with
     | none=>none
     | some t=>some (t,match Nat.blt l F0,ws.elem l with
       | true,false=>l::ws
       | _,_=>ws)
theorem Mo {F0:Nat}:∀ {r:List (Nat × SB)} {t t':Tr SB} {ws ws':List Nat},BF F0 r t ws=some (t',ws') ->
 (∀ l,t'.get l=match look l r with | some b=>some b | none=>t.get l)/\(∀ l,l∈ws->l∈ws')/\(∀ l b,look l r=some b->l<F0->l∈ws')
 | [],t,t',ws,ws',h=>by
   simp only [BF,Option.some.injEq,Prod.mk.injEq] at h
   obtain ⟨rfl,rfl⟩:=h
   exact ⟨fun l=>rfl,fun l hl=>hl,fun l b hl=>by cases hl⟩
 | (k,c)::r,t,t',ws,ws',h=>by
   simp only [BF] at h
   split at h
   .cases h
   .rename_i t1 ws1 h1
    obtain ⟨i1,i2,i3⟩:=Mo h1
    split at h
    .cases h
    .rename_i t2 h2
     simp only [Option.some.injEq,Prod.mk.injEq] at h
     obtain ⟨rfl,hws⟩:=h
     have hg:=Tr.gX c 64 t1 k t2 h2
     have bC:∀ l,l∈ws1->l∈ws':=by
      intro l hl
      rw [<- hws]
      split
      .exact List.mem_cons_of_mem _ hl
      .exact hl
     have hk:k<F0->k∈ws':=by
      intro cK
      rw [<- hws]
      split
      .exact List.mem_cons_self
      .rename_i NS
       have hb:Nat.blt k F0=true:=by simpa [Nat.blt_eq] using cK
       cases he:ws1.elem k with
       | true=>simpa using he
       | false=>exact (NS hb he).elim
     refine ⟨fun l=>?_,fun l hl=>bC l (i2 l hl),fun l b hl cK=>?_⟩
     .rw [hg l]
      by_cases e:k=l
      .subst e;rw [aL,if_pos rfl]
      .rw [aF e,if_neg (fun x=>e x.symm)];exact i1 l
     .by_cases e:k=l
      .subst e;exact hk cK
      .rw [aF e] at hl
       exact bC l (i3 l b hl cK)
noncomputable def St.step (F0 N:Nat) (s:St) (dst:Option Tmp) (e:bR) (lab nx:Nat):Option St:=
 match BF F0 (e.fM lab) s.tb s.ws,Nat.ble e.new.length 8&&e.wr.all (fun p=>Nat.blt p.1 nx) with
 | some (tb,ws),true=>match dst with
   | none=>some { g:=s.g,tb:=tb,nx:=nx,ws:=ws,ob:=e.bV++s.ob,df:=s.df,hs:=s.hs }
   | some d=>match Tr.put e.val 64 s.g d,Nat.blt d N with
     | some g,true=>some { g:=g,tb:=tb,nx:=nx,ws:=ws,ob:=e.bV++s.ob,df:=s.df,hs:=s.hs }
     | _,_=>none
 | _,_=>none
def zJ (ops:Array Oper) (g:Nat->Option SV) (o:Oper):Option Bool:=
 match o.guard with
 | none=>some true
 | some (j,want)=>match (ops[j]?).bind (·.dst) with
   | none=>none
   | some d=>match g d with
     | some (.bool true b)=>some (b==want)
     | some (.raw v)=>match v with
       | .bool _=>none
       | _=>some false
     | _=>none
theorem St.Tt {F0 N:Nat} {s s':St} {dst:Option Tmp} {e:bR} {lab nx:Nat} (h:s.step F0 N dst e lab nx=some s'):s'.df=s.df:=by
 unfold St.step at h
 split at h
 .split at h
  .cases h;rfl
  .split at h
   .cases h;rfl
   .cases h
 .cases h
def toD:Value->Deferred
 | .func f xs ys=>{ target:=.fn f ys,args:=xs }
 | _=>{ target:=.nil,args := #[] }
structure Inv (P:Program) (Γ:Env) (w0:World) (M:Nat->Prop) (B:bA) (N F0:Nat) (V0:bF) (s:St) (V:bF) (a:Act) (w:World):Prop where
 tmp:dG V s.g.get a
 keys:∀ d v,s.g.get d=some v->d<N
 size:N<=a.tmps.size
 defers:∃ xs,aJ V s.df=some xs/\a.defers=xs.map toD
 fM:aG w0 M V (s.T B) w
 aU:cC Γ V
 top:V.top s.nx
 le:V0.le V
 low:∀ l,l<F0->V.β l=V0.β l/\V.σ l=V0.σ l
 ch:∀ l,l<F0->l ∉ s.ws->s.tb.get l=none
 nx:F0<=s.nx
 hi:∀ l,s.nx<=l->s.T B l=none
theorem bF.top.fresh {V:bF} {F:Nat} (h:V.top F):V.fresh F:=fun l h1 _=>h l h1
theorem bF.top.mono {V:bF} {F F':Nat} (h:V.top F) (hl:F<=F'):V.top F':=fun l h1=>h l (Nat.le_trans hl h1)
theorem pK {ops:Array Oper} {V:bF} {g:Nat->Option SV} {a:Act} (ht:dG V g a) (hs:∀ d v,g d=some v->d<a.tmps.size) {o:Oper} {b:Bool} (h:zJ ops g o=some b):Region.wanted o (yielded ops a.tmps)=b:=by
 unfold zJ at h
 unfold Region.wanted
 split at h
 .rename_i hg;simp only [Option.some.injEq] at h;subst h;rw [hg]
 .rename_i j want hg
  rw [hg]
  split at h
  .cases h
  .rename_i d hd
   split at h
   .rename_i c hc
    simp only [Option.some.injEq] at h
    subst h
    have hv:=ht d _ hc
    have cK:=hs d _ hc
    simp only [den,Option.some.injEq,Act.eval] at hv
    have rX:a.tmps[d]?=some (.bool c):=by
     rw [Array.getElem?_eq_getElem cK]
     rw [Array.getD_eq_getD_getElem?,Array.getElem?_eq_getElem cK,Option.getD_some] at hv
     rw [hv]
    simp only [yielded,hd,Option.bind_some,rX]
    cases c <;> cases want <;> rfl
   .rename_i v hc
    split at h
    .cases h
    .rename_i OZ
     simp only [Option.some.injEq] at h
     subst h
     have hv:=ht d _ hc
     have cK:=hs d _ hc
     simp only [den,Option.some.injEq,Act.eval] at hv
     have rX:a.tmps[d]?=some v:=by
      rw [Array.getElem?_eq_getElem cK]
      rw [Array.getD_eq_getD_getElem?,Array.getElem?_eq_getElem cK,Option.getD_some] at hv
      rw [hv]
     have hy:yielded ops a.tmps j=none:=by
      simp only [yielded,hd,Option.bind_some,rX]
      split
      .rename_i b' hq;cases hq;exact absurd rfl (OZ b')
      .rfl
     show (yielded ops a.tmps j==some want)=false
     rw [hy]
     rfl
   .cases h
theorem St.eJ {F0 N:Nat} {s s':St} {dst:Option Tmp} {e:bR} {lab nx:Nat} (B:bA) (h:s.step F0 N dst e lab nx=some s') :
 s'.T B=fL (s.T B) lab e/\s'.nx=nx/\s'.ob=e.bV++s.ob/\(∀ l,l∈s.ws->l∈s'.ws)/\(∀ l,l<F0->l ∉ s'.ws->s.tb.get l=none->s'.tb.get l=none) /\
  (∀ m,s'.g.get m=if dst=some m then some e.val else s.g.get m)/\(∀ d,dst=some d->d<N)/\e.new.length<=8/\(∀ l b,look l e.wr=some b->l<nx):=by
 unfold St.step at h
 split at h
 case h_2=>cases h
 rename_i tb ws hp oF
 obtain ⟨i1,i2,i3⟩:=Mo hp
 simp only [Bool.and_eq_true] at oF
 have aMc:=Nat.le_of_ble_eq_true oF.1
 have aMb:∀ l b,look l e.wr=some b->l<nx:=fun l b hl=>by
  have:=List.all_eq_true.1 oF.2 _ (gQ hl)
  simpa [Nat.blt_eq] using this
 have hT:∀ g nx ob df hs,(St.mk g tb nx ws ob df hs).T B=fL (s.T B) lab e:=by
  intro g nx ob df hs
  funext l
  simp only [St.T,fL,i1 l]
  cases look l (e.fM lab) <;> rfl
 have hch:∀ l,l<F0->l ∉ ws->s.tb.get l=none->tb.get l=none:=by
  intro l hl hn h0
  rw [i1 l]
  cases hk:look l (e.fM lab) with
  | none=>exact h0
  | some b=>exact (hn (i3 l b hk hl)).elim
 split at h
 .simp only [Option.some.injEq] at h
  subst h
  exact ⟨hT _ _ _ _ _,rfl,rfl,i2,hch,fun m=>by simp,(fun d hd=>by cases hd),aMc,aMb⟩
 .rename_i d
  split at h
  .rename_i g hg cK
   simp only [Option.some.injEq] at h
   subst h
   refine ⟨hT _ _ _ _ _,rfl,rfl,i2,hch,fun m=>?_,fun d' ZH=>?_,aMc,aMb⟩
   .rw [Tr.gX _ _ _ _ _ hg m]
    by_cases e:m=d
    .subst e;simp
    .rw [if_neg e,if_neg (by simp;exact fun x=>e x.symm)]
   .cases ZH;simpa [Nat.blt_eq] using cK
  .cases h
theorem Inv.step {P:Program} {Γ:Env} {w0 w w':World} {M:Nat->Prop} {B:bA} {N F0:Nat} {V0 V V':bF} {s s':St} {a:Act} {dst:Option Tmp} {e:bR} {x:Value} {lab nx:Nat}
 (h:Inv P Γ w0 M B N F0 V0 s V a w) (hs:s.step F0 N dst e lab nx=some s') (hle:s.nx<=lab) (hn:lab+8<=nx) (hV:V.ext lab V') (hx:dst.isSome=true->den V' e.val=some x)
 (hT:aG w0 M V' (fL (s.T B) lab e) w'):Inv P Γ w0 M B N F0 V0 s' V' (a.put dst x) w':=by
 obtain ⟨h1,h2,h3,h4,h5,h6,h7,h8,h9⟩:=St.eJ B hs
 refine ⟨fun t v hv=>?_,fun d v hv=>?_,?_,?_,by rw [h1];exact hT,fun n l hl=>hV.1.1 _ _ (h.aU n l hl),fun l hl=>?_,bF.le_trans h.le hV.1,fun l hl=>?_,fun l hl hw=>?_,?_,fun l hl=>?_⟩
 .rw [h6] at hv
  by_cases hd:dst=some t
  .subst hd
   simp only [if_true,Option.some.injEq] at hv
   subst hv
   have cK:t<a.tmps.size:=Nat.lt_of_lt_of_le (h7 t rfl) h.size
   rw [hx rfl]
   simp [Act.eval,Act.put,Array.getD_eq_getD_getElem?,cK]
  .rw [if_neg hd] at hv
   rw [kO hV.1 (h.tmp t v hv)]
   rw [Act.eval_put (fun d ZH hq=>hd (by cases hq;exact ZH))]
 .rw [h6] at hv
  by_cases hd:dst=some d
  .exact h7 d hd
  .rw [if_neg hd] at hv;exact h.keys d v hv
 .cases dst with
  | none=>exact h.size
  | some d=>simpa [Act.put] using h.size
 .obtain ⟨xs,gL,oV⟩:=h.defers
  refine ⟨xs,by rw [St.Tt hs];exact dI hV.1 gL,?_⟩
  cases dst <;> exact oV
 .rw [h2] at hl
  have:=hV.2 l (.inr (by omega))
  rw [this.1,this.2]
  exact h.top l (by omega)
 .have:=hV.2 l (.inl (by have:=h.nx;omega))
  rw [this.1,this.2]
  exact h.low l hl
 .exact h5 l hl hw (h.ch l hl (fun q=>hw (h4 l q)))
 .rw [h2];have:=h.nx;omega
 .rw [h2] at hl
  rw [h1]
  unfold fL bR.fM
  rw [cI]
  cases hk:look l e.wr with
  | some b=>have:=h9 l b hk;omega
  | none=>
    have:look l (iE lab e.new)=none:=by
     rw [fD]
     split
     .apply List.getElem?_eq_none;omega
     .rfl
    simp only [this]
    exact h.hi l (by omega)
def Qk (Γ:Env) (g:Nat->Option SV) (c:Call):Option SV:=match PL Γ g c.args.toList,c.callee with
 | some vs,.value f=>match ev Γ g f with
   | some (.fn f first Hk)=>some (.fn f (first++vs) Hk)
   | _=>none
 | _,_=>none
theorem Zj {P:Program} {Γ:Env} {V:bF} {g:Nat->Option SV} {a:Act} {w:World} (ht:dG V g a) (hg:cC Γ V) {c:Call} {o:Oper} (cM:o.op = .defer c) {v:SV} (h:Qk Γ g c=some v) :
 ∃ x,den V v=some x/\(execOp a.eval o).run P w = .ok (.defer (toD x)) w:=by
 unfold Qk at h
 split at h
 case h_2=>cases h
 rename_i vs f hvs hc
 split at h
 case h_2=>cases h
 rename_i f' first Hk hf
 cases h
 have hd:=Nb ht hg hvs
 have ef:=bT ht hg hf
 simp only [den,Option.bind_eq_some_iff,Option.map_eq_some_iff] at ef
 obtain ⟨xf,hxf,xc,hxc,ef⟩:=ef
 refine ⟨.func f' (xf++(c.args.map a.eval).toList).toArray xc.toArray,by simp only [den,cJ hxf hd,hxc,Option.bind_some,Option.map_some],?_⟩
 unfold execOp
 simp only [cM,resolve,hc,<- ef,Deferred.ofValue,Sem.run_bind,Sem.run_pure,Result.andThen_ok,toD]
 have:(xf++(c.args.map a.eval).toList).toArray=xf.toArray++c.args.map a.eval:=by
  apply Array.ext';simp
 rw [this]
noncomputable def BX (ops:Array Oper) (o:Oper) (s:St):Option St:=match o.guard with
 | none=>some s
 | some (j,_)=>match (ops[j]?).bind (·.dst) with
   | none=>some s
   | some d=>match s.g.get d with
     | some (.bool false b)=>match s.hs with
       | true::r=>match Tr.put (.bool true true) 64 s.g d with
         | some g=>some { s with g:=g,ob:=(b=true)::s.ob,hs:=r }
         | none=>none
       | false::r=>match Tr.put (.bool true false) 64 s.g d with
         | some g=>some { s with g:=g,ob:=(b=false)::s.ob,hs:=r }
         | none=>none
       | []=>none
     | _=>some s
theorem WZ {ops:Array Oper} {o:Oper} {s s':St} (h:BX ops o s=some s'):∀ q∈s.ob,q∈s'.ob:=by
 intro q hq
 unfold BX at h
 split at h
 .cases h;exact hq
 split at h
 .cases h;exact hq
 split at h
 .split at h
  .split at h
   .cases h;exact List.mem_cons_of_mem _ hq
   .cases h
  .split at h
   .cases h;exact List.mem_cons_of_mem _ hq
   .cases h
  .cases h
 .cases h;exact hq
theorem Inv.known {P:Program} {Γ:Env} {w0:World} {M:Nat->Prop} {B:bA} {N F0:Nat} {V0:bF} {s:St} {V:bF} {a:Act} {w:World} (hi:Inv P Γ w0 M B N F0 V0 s V a w) {d:Nat} {b c:Bool} {g:Tr SV} {ob:List Prop} {hs:List Bool}
 (hd:s.g.get d=some (.bool false b)) (hp:Tr.put (.bool true c) 64 s.g d=some g) (hb:b=c):Inv P Γ w0 M B N F0 V0 { s with g:=g,ob:=ob,hs:=hs } V a w:=by
 refine ⟨fun m v hv=>?_,fun m v hv=>?_,hi.size,hi.defers,hi.fM,hi.aU,hi.top,hi.le,hi.low,hi.ch,hi.nx,hi.hi⟩
 .have hv:g.get m=some v:=hv
  rw [Tr.gX _ _ _ _ _ hp m] at hv
  split at hv
  .rename_i e
   cases hv
   have:=hi.tmp d _ hd
   rw [e]
   rw [hb] at this
   exact this
  .exact hi.tmp m v hv
 .have hv:g.get m=some v:=hv
  rw [Tr.gX _ _ _ _ _ hp m] at hv
  split at hv
  .rename_i e;rw [e];exact hi.keys d _ hd
  .exact hi.keys m v hv
theorem WY {P:Program} {Γ:Env} {w0:World} {M:Nat->Prop} {B:bA} {N F0:Nat} {V0:bF} {s s':St} {V:bF} {a:Act} {w:World} {ops:Array Oper} {o:Oper} (hi:Inv P Γ w0 M B N F0 V0 s V a w)
 (h:BX ops o s=some s') (ho:∀ q∈s'.ob,q):Inv P Γ w0 M B N F0 V0 s' V a w:=by
 unfold BX at h
 split at h
 .cases h;exact hi
 split at h
 .cases h;exact hi
 split at h
 .rename_i hd
  split at h
  .split at h
   .rename_i g hp;cases h;exact hi.known hd hp (ho _ List.mem_cons_self)
   .cases h
  .split at h
   .rename_i g hp;cases h;exact hi.known hd hp (ho _ List.mem_cons_self)
   .cases h
  .cases h
 .cases h;exact hi
noncomputable def Si (Γ:Env) (B:bA) (F0 N:Nat) (ops:Array Oper) (o:Oper) (s:St):Option St:=match zJ ops s.g.get o with
 | some true=>match o.op with
   | .defer c=>match Qk Γ s.g.get c with
     | some v=>match s.step F0 N o.dst { val:=.raw undef } s.nx (s.nx+8) with
       | some s'=>some { s' with df:=v::s'.df }
       | none=>none
     | none=>none
   | _=>match Bd Γ s.g.get (s.T B) s.nx (s.nx+8) none o with
     | some e=>s.step F0 N o.dst e s.nx (s.nx+8)
     | none=>none
 | some false=>s.step F0 N o.dst { val:=.raw undef } s.nx (s.nx+8)
 | none=>none
theorem Mc {Γ:Env} {B:bA} {F0 N:Nat} {ops:Array Oper} {o:Oper} {s s':St} (h:Si Γ B F0 N ops o s=some s'):∀ q∈s.ob,q∈s'.ob:=by
 intro q hq
 unfold Si at h
 split at h
 .split at h
  .split at h
   .split at h
    .rename_i s1 h1
     cases h
     show q∈s1.ob
     rw [(St.eJ B h1).2.2.1];exact List.mem_append_right _ hq
    .cases h
   .cases h
  .split at h
   .rw [(St.eJ B h).2.2.1];exact List.mem_append_right _ hq
   .cases h
 .rw [(St.eJ B h).2.2.1];exact List.mem_append_right _ hq
 .cases h
noncomputable def Gz (Γ:Env) (B:bA) (F0 N:Nat) (ops:Array Oper):List Oper->St->Option St
 | [],s=>some s
 | o::r,s=>match BX ops o s with
   | some s1=>match Si Γ B F0 N ops o s1 with
     | some s2=>Gz Γ B F0 N ops r s2
     | none=>none
   | none=>none
theorem uC {Γ:Env} {B:bA} {F0 N:Nat} {ops:Array Oper}:∀ {l:List Oper} {s s':St},Gz Γ B F0 N ops l s=some s'->∀ q∈s.ob,q∈s'.ob
 | [],s,s',h,q,hq=>by simp only [Gz,Option.some.injEq] at h;subst h;exact hq
 | o::r,s,s',h,q,hq=>by
   unfold Gz at h
   split at h
   .rename_i s1 h1
    split at h
    .rename_i s2 h2
     exact uC h q (Mc h2 q (WZ h1 q hq))
    .cases h
   .cases h
theorem uB {P:Program} {Γ:Env} {w0:World} {M:Nat->Prop} {B:bA} {N F0:Nat} {V0:bF} (aM:cG P Γ) (aE:bX P Γ) {ops:Array Oper} {Q:Exit->Act->World->Prop} :
 ∀ {l:List Oper} {s s':St} {V:bF} {a:Act} {w:World},Gz Γ B F0 N ops l s=some s'->(∀ q∈s'.ob,q)->Inv P Γ w0 M B N F0 V0 s V a w ->
   (∀ V' a' w',Inv P Γ w0 M B N F0 V0 s' V' a' w'->Q .normal a' w')->wpList P ops Q l a w
 | [],s,s',V,a,w,h,ho,hi,hQ=>by
   simp only [Gz,Option.some.injEq] at h
   subst h
   exact wpList_nil (hQ V a w hi)
 | o::r,s0,s',V,a,w,h,ho,Zw,hQ=>by
   unfold Gz at h
   split at h
   case h_2=>cases h
   rename_i s aYh
   split at h
   case h_2=>cases h
   rename_i s2 Gn
   have hi:=WY Zw aYh (fun q hq=>ho q (uC h q (Mc Gn q hq)))
   unfold Si at Gn
   split at Gn
   .rename_i hw
    have hw:=pK hi.tmp (fun d v hd=>Nat.lt_of_lt_of_le (hi.keys d v hd) hi.size) hw
    split at Gn
    .rename_i c cM
     split at Gn
     case h_2=>cases Gn
     rename_i v hv
     split at Gn
     case h_2=>cases Gn
     rename_i s1 h1
     cases Gn
     refine wpList_step fun K hK=>?_
     rw [if_pos hw]
     obtain ⟨x,hx,hr⟩:=Zj (P:=P) (w:=w) hi.tmp hi.aU cM hv
     unfold Oper.wp
     rw [hr,Oper.upon_defer]
     have h2:=hi.step (a:=a) (w':=w) (x:=undef) h1 (Nat.le_refl _) (Nat.le_refl _) (V.dR _) (fun _=>rfl) (by rw [kL _ _ rfl rfl];exact hi.fM)
     refine hK _ _ (uB aM aE h ho ⟨?_,h2.keys,?_,?_,h2.fM,h2.aU,h2.top,h2.le,h2.low,h2.ch,h2.nx,h2.hi⟩ hQ)
     .intro t v' NR
      have:=h2.tmp t v' NR
      rw [this]
      cases o.dst <;> rfl
     .have:=h2.size;cases ho:o.dst <;> (rw [ho] at this;exact this)
     .obtain ⟨xs,gL,oV⟩:=h2.defers
      refine ⟨x::xs,by simp only [aJ,hx,gL,Option.bind_some,Option.map_some],?_⟩
      simp only [List.map_cons,<- oV]
      cases o.dst <;> rfl
    .split at Gn
     case h_2=>cases Gn
     rename_i e he
     have h1:=Gn
     have tN:∀ q∈e.bV,q:=fun q hq=>ho q (uC h q (by rw [(St.eJ B h1).2.2.1];exact List.mem_append_left _ hq))
     refine wpList_step fun K hK=>?_
     rw [if_pos hw]
     refine Mp aM aE hi.tmp hi.aU (T':=s.T B) (fun _ _ h=>h) hi.fM hi.top.fresh (hi.top.mono (by omega)) he tN K Q fun V' x w' hV hx hT=>hK _ _ ?_
     exact uB aM aE h ho (hi.step h1 (Nat.le_refl _) (Nat.le_refl _) hV (fun _=>hx) hT) hQ
   .rename_i hw
    have hw:=pK hi.tmp (fun d v hd=>Nat.lt_of_lt_of_le (hi.keys d v hd) hi.size) hw
    have h1:=Gn
    refine wpList_step fun K hK=>?_
    rw [if_neg (by rw [hw];simp)]
    refine hK _ _ (uB aM aE h ho (hi.step h1 (Nat.le_refl _) (Nat.le_refl _) (V.dR _) (fun _=>rfl) ?_) hQ)
    rw [kL _ _ rfl rfl]
    exact hi.fM
   .cases Gn
end Go.Proofs.YtaibhjpgbckbkaaGreatDoor.Sx
