/- The symbolic executor, first text: symbolic values and blocks, what they denote, effects. No program in sight. -/
import Derived.WalkKit
import Derived.Orders
import Derived.Laws.AppendOwnNone
import Derived.Deep.AppendSrc
open Go
set_option maxRecDepth 100000
namespace Go.Proofs.YticicdfijghigaaGreatDoor.Sx
theorem aU.{u} {α:Type u} (a b:α):(some a=some b)=(a=b):=Option.some.injEq a b
theorem cH {n m:Nat} (h:Nat.beq n m=true):n=m:=Nat.eq_of_beq_eq_true h
theorem cM.{u} {α:Type u} {a:α} {l:List α}:a∈a::l:=List.mem_cons_self
abbrev sh {α β:Type} (x:α) (f:α->β):β:=f x
inductive SV where
 | int (s:Bool) (k:IntKind) (n:Int)
 | bool (s:Bool) (b:Bool)
 | ptr (l:Nat) (s:Bool) (off:Nat)
 | aG (l:Nat) (s:Bool) (off len cap:Nat)
 | agg (vs:List SV)
 | eL (vs:List SV)
 | fn (f:Fn) (first Ii:List SV)
 | sH (t:TypeId) (v:SV)
 | raw (v:Value)
 | buf (l:Nat)
 | jH (l:Nat) (off:Nat)
 | mS (l:Nat) (lo hi:Nat)
 | cP (l:Nat) (off len lo:Nat)
 | eV (l n:Nat)
 | ai (k:IntKind) (xs:List Int)
 | Ub (l n cap sz j le:Nat)
 | sP (l n:Nat)
 | wT (l i n:Nat)
 | BZ (l i:Nat)
structure aY where
 β:Nat->Option (Nat × Nat)
 σ:Nat->Option Value
def nP:Option Value->Option Nat
 | some (.int _ c)=>some c.toNat
 | _=>none
def iF (n:Nat):Value->Option Value
 | .slice none m c=>if m=0/\n=0/\c=0 then some (.slice none 0 0) else none
 | .slice (some a) m c=>if m=n/\n<=c/\(c=0\/a.spot=none) then some (.slice (some a) m c) else none
 | _=>none
def Lq (v:Value):Prop:=∃ a,v = .slice a 0 0
theorem Lq.nil:Lq (.slice none 0 0):=⟨none,rfl⟩
theorem cY {n:Nat} {v x:Value} (h:iF n v=some x):x=v/\((Lq v/\n=0)\/∃ b o c,v = .slice (some ⟨b,o,none⟩) n c/\n<=c):=by
 unfold iF at h
 split at h
 .split at h
  .rename_i hc;obtain ⟨rfl,rfl,rfl⟩:=hc;cases h;exact ⟨rfl,.inl ⟨.nil,rfl⟩⟩
  .cases h
 .rename_i a m c
  split at h
  .rename_i hc;obtain ⟨rfl,hn,hs⟩:=hc;cases h
   obtain ⟨b,o,s⟩:=a
   rcases hs with rfl | hs
   .have:m=0:=by omega
    subst this
    exact ⟨rfl,.inl ⟨⟨_,rfl⟩,rfl⟩⟩
   simp only at hs
   subst hs
   exact ⟨rfl,.inr ⟨b,o,c,rfl,hn⟩⟩
  .cases h
 .cases h
def eQ:Value->Option Nat
 | .slice _ _ 0=>none
 | v=>v.ownBlock
theorem dZ {v:Value} {n:Nat} (h:eQ v=some n):v.ownBlock=some n:=by
 unfold eQ at h
 split at h
 .cases h
 .exact h
def zA (n:Nat):Value->Option Value
 | .tuple xs=>xs.toList.head?.bind (iF n)
 | _=>none
def Kx (i n:Nat):Value->Option Value
 | .tuple xs=>(xs.toList[i+1]?).bind (iF n)
 | _=>none
def aFn (i:Nat):Value->Option Value
 | .tuple xs=>xs.toList.head?.bind fun v=>match v with
   | .slice (some a) _ _=>some (.pointer (some (a.add i)))
   | _=>none
 | _=>none
def sZ:Value->Option Nat
 | .tuple xs=>xs.toList.head?.bind Value.ownBlock
 | _=>none
mutual
def den (V:aY):SV->Option Value
 | .int _ k n=>some (.int k n)
 | .bool _ b=>some (.bool b)
 | .ptr l _ off=>(V.β l).map fun p=>.pointer (some ⟨p.1,p.2+off,none⟩)
 | .aG l _ off len cap=>(V.β l).map fun p=>.slice (some ⟨p.1,p.2+off,none⟩) len cap
 | .agg vs=>(aE V vs).map fun xs=>.agg xs.toArray
 | .eL vs=>(aE V vs).map fun xs=>.tuple xs.toArray
 | .fn f fs cs=>(aE V fs).bind fun x=>(aE V cs).map fun y=>.func f x.toArray y.toArray
 | .sH t v=>(den V v).map fun x=>.iface t x
 | .raw v=>some v
 | .buf l=>V.σ l
 | .jH l off=>match V.σ l with
   | some (.slice (some a) _ _)=>some (.pointer (some (a.add off)))
   | _=>none
 | .mS l lo hi=>match V.σ l with
   | some (.slice a _ cap)=>some (.slice (if cap=lo then a else a.map (·.add lo)) (hi-lo) (cap-lo))
   | _=>none
 | .cP l off len lo=>(V.β l).bind fun p=>(nP (V.σ l)).map fun c=>.slice (some ⟨p.1,p.2+off,none⟩) len (c-lo)
 | .eV l n=>(V.σ l).bind (iF n)
 | .ai k xs=>some (.agg (xs.map (Value.int k)).toArray)
 | .Ub l n cap sz j le=>(V.β l).bind fun p=>(V.β le).bind fun q=>match decide (q=(p.1,p.2+j*sz)) with
   | true=>some (.slice (some ⟨p.1,p.2,none⟩) n cap)
   | false=>none
 | .sP l n=>(V.σ l).bind (zA n)
 | .wT l i n=>(V.σ l).bind (Kx i n)
 | .BZ l i=>(V.σ l).bind (aFn i)
def aE (V:aY):List SV->Option (List Value)
 | []=>some []
 | v::vs=>(den V v).bind fun x=>(aE V vs).map fun xs=>x::xs
end
def aY.le (V V':aY):Prop:=(∀ l p,V.β l=some p->V'.β l=some p)/\(∀ l v,V.σ l=some v->V'.σ l=some v)
theorem aY.le_refl (V:aY):V.le V:=⟨fun _ _ h=>h,fun _ _ h=>h⟩
theorem aY.le_trans {U V W:aY} (h:U.le V) (k:V.le W):U.le W:=⟨fun l p e=>k.1 l p (h.1 l p e),fun l v e=>k.2 l v (h.2 l v e)⟩
mutual
theorem oR {V V':aY} (h:V.le V'):∀ {v:SV} {x:Value},den V v=some x->den V' v=some x
 | .int ..,_,e=>by simpa [den] using e
 | .bool ..,_,e=>by simpa [den] using e
 | .ptr l s off,x,e=>by
   simp only [den,Option.map_eq_some_iff] at e |-
   obtain ⟨p,hp,rfl⟩:=e
   exact ⟨p,h.1 l p hp,rfl⟩
 | .aG l s off len cap,x,e=>by
   simp only [den,Option.map_eq_some_iff] at e |-
   obtain ⟨p,hp,rfl⟩:=e
   exact ⟨p,h.1 l p hp,rfl⟩
 | .agg vs,x,e=>by
   simp only [den,Option.map_eq_some_iff] at e |-
   obtain ⟨p,hp,rfl⟩:=e
   exact ⟨p,cZ h hp,rfl⟩
 | .eL vs,x,e=>by
   simp only [den,Option.map_eq_some_iff] at e |-
   obtain ⟨p,hp,rfl⟩:=e
   exact ⟨p,cZ h hp,rfl⟩
 | .fn f fs cs,x,e=>by
   simp only [den,Option.map_eq_some_iff,Option.bind_eq_some_iff] at e |-
   obtain ⟨p,hp,q,hq,rfl⟩:=e
   exact ⟨p,cZ h hp,q,cZ h hq,rfl⟩
 | .sH t v,x,e=>by
   simp only [den,Option.map_eq_some_iff] at e |-
   obtain ⟨p,hp,rfl⟩:=e
   exact ⟨p,oR h hp,rfl⟩
 | .raw v,x,e=>by simpa [den] using e
 | .buf l,x,e=>by simp only [den] at e |-;exact h.2 l x e
 | .jH l off,x,e=>by
   simp only [den] at e |-
   split at e
   .rename_i hs;rw [h.2 l _ hs];exact e
   .cases e
 | .mS l lo hi,x,e=>by
   simp only [den] at e |-
   split at e
   .rename_i hs;rw [h.2 l _ hs];exact e
   .cases e
 | .cP l off len lo,x,e=>by
   simp only [den,Option.map_eq_some_iff,Option.bind_eq_some_iff] at e |-
   obtain ⟨p,hp,c,hc,rfl⟩:=e
   refine ⟨p,h.1 l _ hp,c,?_,rfl⟩
   cases hs:V.σ l with
   | none=>rw [hs] at hc;cases hc
   | some v=>rw [h.2 l v hs,<- hs];exact hc
 | .eV l n,x,e=>by
   simp only [den,Option.bind_eq_some_iff] at e |-
   obtain ⟨v,hv,hx⟩:=e
   exact ⟨v,h.2 l v hv,hx⟩
 | .ai k xs,x,e=>by simpa [den] using e
 | .Ub l n cap sz j le,x,e=>by
   simp only [den,Option.bind_eq_some_iff] at e |-
   obtain ⟨p,hp,q,hq,e⟩:=e
   exact ⟨p,h.1 l p hp,q,h.1 le q hq,e⟩
 | .sP l n,x,e=>by
   simp only [den,Option.bind_eq_some_iff] at e |-
   obtain ⟨v,hv,hx⟩:=e
   exact ⟨v,h.2 l v hv,hx⟩
 | .wT l i n,x,e=>by
   simp only [den,Option.bind_eq_some_iff] at e |-
   obtain ⟨v,hv,hx⟩:=e
   exact ⟨v,h.2 l v hv,hx⟩
 | .BZ l i,x,e=>by
   simp only [den,Option.bind_eq_some_iff] at e |-
   obtain ⟨v,hv,hx⟩:=e
   exact ⟨v,h.2 l v hv,hx⟩
theorem cZ {V V':aY} (h:V.le V'):∀ {vs:List SV} {xs:List Value},aE V vs=some xs->aE V' vs=some xs
 | [],_,e=>by simpa [aE] using e
 | v::vs,xs,e=>by
   simp only [aE,Option.map_eq_some_iff,Option.bind_eq_some_iff] at e |-
   obtain ⟨x,hx,ys,hy,rfl⟩:=e
   exact ⟨x,oR h hx,ys,cZ h hy,rfl⟩
end
theorem bB {V:aY}:∀ {vs:List SV} {xs:List Value},aE V vs=some xs->xs.length=vs.length
 | [],_,e=>by simp only [aE,aU] at e;subst e;rfl
 | v::vs,xs,e=>by
   simp only [aE,Option.map_eq_some_iff,Option.bind_eq_some_iff] at e
   obtain ⟨x,hx,ys,hy,rfl⟩:=e
   simp [bB hy]
theorem dX {V:aY}:∀ {vs:List SV} {xs:List Value},aE V vs=some xs->∀ (i:Nat) (v:SV),vs[i]?=some v->∃ x,xs[i]?=some x/\den V v=some x
 | [],_,_,i,v,hi=>by simp at hi
 | v::vs,xs,e,i,u,hi=>by
   simp only [aE,Option.map_eq_some_iff,Option.bind_eq_some_iff] at e
   obtain ⟨x,hx,ys,hy,rfl⟩:=e
   cases i with
   | zero=>simp only [List.getElem?_cons_zero,aU] at hi;subst hi;exact ⟨x,rfl,hx⟩
   | succ i=>simp only [List.getElem?_cons_succ] at hi |-;exact dX hy i u hi
theorem cF {V:aY}:∀ {vs us:List SV} {xs ys:List Value},aE V vs=some xs->aE V us=some ys->aE V (vs++us)=some (xs++ys)
 | [],us,xs,ys,e,f=>by simp only [aE,aU] at e;subst e;simpa using f
 | v::vs,us,xs,ys,e,f=>by
   simp only [aE,Option.map_eq_some_iff,Option.bind_eq_some_iff,List.cons_append] at e |-
   obtain ⟨x,hx,zs,hz,rfl⟩:=e
   exact ⟨x,hx,zs++ys,cF hz f,rfl⟩
theorem eK {V:aY}:∀ (n:Nat) {vs:List SV} {xs:List Value},aE V vs=some xs->aE V (vs.take n)=some (xs.take n)
 | 0,vs,xs,_=>by simp [aE]
 | n+1,[],xs,e=>by simp only [aE,aU] at e;subst e;simp [aE]
 | n+1,v::vs,xs,e=>by
   simp only [aE,Option.map_eq_some_iff,Option.bind_eq_some_iff,List.take_succ_cons] at e |-
   obtain ⟨x,hx,zs,hz,rfl⟩:=e
   exact ⟨x,hx,zs.take n,eK n hz,rfl⟩
theorem jC {V:aY}:∀ (n:Nat) {vs:List SV} {xs:List Value},aE V vs=some xs->aE V (vs.drop n)=some (xs.drop n)
 | 0,vs,xs,e=>by simpa using e
 | n+1,[],xs,e=>by simp only [aE,aU] at e;subst e;simp [aE]
 | n+1,v::vs,xs,e=>by
   simp only [aE,Option.map_eq_some_iff,Option.bind_eq_some_iff] at e
   obtain ⟨x,hx,zs,hz,rfl⟩:=e
   simpa using jC n hz
def Ec (l:Nat):Nat->List (List Int)->List SV
 | _,[]=>[]
 | i,d::r=>.wT l i d.length::Ec l (i+1) r
def eC (xs:List (Int × Int)):List Value:=xs.flatMap fun p=>[.int .i64 p.1,.int .i64 p.2]
inductive SB where
 | own (cells:List SV) (ty:TypeId)
 | ints (k:IntKind) (xs:List Int) (ty:TypeId)
 | fP (cells:List SV)
 | nM (k:IntKind) (xs:List Int)
 | cT (k:IntKind) (xs:List Int) (ty:TypeId)
 | row (sz:Nat) (cells:List SV) (ty:TypeId)
 | eJ (vs:List Value) (ty:TypeId)
 | gQ (k:IntKind) (xs:List Int)
 | fT (sz n:Nat) (ty:TypeId)
 | iS (pre:List SV) (l:Nat) (ds:List (List Int)) (ty:TypeId)
 | lU (ds:List (List Int))
 | nH (d:List Int)
 | fI (ds:List (List Int)) (ty:TypeId)
 | eM (xs:List (Int × Int)) (ty:TypeId)
 | qI (xs:List (Int × Int))
 | gK (ds:List (List Int)) (z:Nat)
 | gone
def SB.cells (V:aY):SB->Option (List Value)
 | .own cs _=>aE V cs
 | .ints k xs _=>some (xs.map (Value.int k))
 | .fP cs=>aE V cs
 | .nM k xs=>some (xs.map (Value.int k))
 | .cT k xs _=>some (xs.map (Value.int k))
 | .row _ cs _=>aE V cs
 | .eJ vs _=>some vs
 | .gQ k xs=>some (xs.map (Value.int k))
 | .fT _ _ _=>some []
 | .iS pre l ds _=>aE V (pre++Ec l 0 ds)
 | .lU _=>some []
 | .nH _=>some []
 | .fI _ _=>some []
 | .eM xs _=>some (eC xs)
 | .qI xs=>some (eC xs)
 | .gK _ _=>some []
 | .gone=>some []
def SB.owned:SB->Bool
 | .fP _ | .nM _ _ | .gQ _ _ | .lU _ | .nH _ | .qI _ | .gK _ _ | .gone=>false
 | _=>true
def SB.aN (V:aY) (l:Nat):SB->Option Nat
 | .cT .. => (V.σ l).bind Value.ownBlock
 | .gQ .. => (V.σ l).bind eQ
 | .fT .. => (V.σ l).bind Value.ownBlock
 | .fI .. => (V.σ l).bind sZ
 | .eM .. => (V.σ l).bind Value.ownBlock
 | .qI .. => (V.σ l).bind eQ
 | .lU .. => none
 | .nH .. => none
 | .gK .. => none
 | .gone=>none
 | _=>(V.β l).map (·.1)
theorem SB.iV {V V':aY} (h:V.le V') {B:SB} {cs:List Value} (e:B.cells V=some cs):B.cells V'=some cs:=by
 cases B <;> simp only [SB.cells] at e |- <;> first | exact cZ h e | exact e
def uN (w:World) (b:Nat):Prop:=∃ c t,w.heap[b]?=some (.cells c t (0,0))
theorem uN.lt {w:World} {b:Nat} (h:uN w b):b<w.heap.size:=by obtain ⟨c,t,h⟩:=h;exact (Array.getElem?_eq_some_iff.1 h).1
theorem uN.gG {w w':World} {b:Nat} (h:uN w b) (e:w'.heap[b]?=w.heap[b]?):uN w' b:=by obtain ⟨c,t,h⟩:=h;exact ⟨c,t,e.trans h⟩
def Ky (w:World) (b:Nat) (cs:List Value):Prop:=b<w.heap.size/\∀ s,cs[0]?=some (.string s)->uN w b
theorem Ky.lt {w:World} {b:Nat} {cs:List Value} (h:Ky w b cs):b<w.heap.size:=h.1
theorem Ky.of {w:World} {b:Nat} {cs:List Value} {c:Array Value} {t:TypeId} (h:w.heap[b]?=some (.cells c t (0,0))):Ky w b cs:=⟨(Array.getElem?_eq_some_iff.1 h).1,fun _ _=>⟨c,t,h⟩⟩
theorem Ky.gG {w w':World} {b:Nat} {cs:List Value} (h:Ky w b cs) (e:w'.heap[b]?=w.heap[b]?):Ky w' b cs:=
 ⟨Nat.lt_of_not_le fun q=>(by rw [Array.getElem?_eq_none q,Array.getElem?_eq_getElem h.1] at e;cases e),fun s hs=>(h.2 s hs).gG e⟩
def pE (w:World) (k:IntKind) (x:Value) (ys:List Int):Prop:=
 (Lq x/\ys=[])\/∃ b o c,x = .slice (some ⟨b,o,none⟩) ys.length c/\b<w.heap.size/\ys.length<=c/\∀ (j:Nat) (u:Value),(ys.map (Value.int k))[j]?=some u->w.cell? ⟨b,o+j,none⟩=some u
def Lp (w:World) (x:Value) (ys:List (Int × Int)):Prop:=
 (Lq x/\ys=[])\/∃ b o c,x = .slice (some ⟨b,o,none⟩) ys.length c/\b<w.heap.size/\ys.length<=c/\∀ (j:Nat) (u:Value),(eC ys)[j]?=some u->w.cell? ⟨b,o+j,none⟩=some u
def iI (w:World) (k:IntKind) (v:Value):Prop:=∀ b,v.ownBlock=some b->∃ cur ty p,w.heap[b]?=some (.cells cur ty p)/\∀ x∈cur.toList,∃ n,x=Value.int k n
theorem iI.nil {w:World} {k:IntKind} {v:Value} (h:v.ownBlock=none):iI w k v:=fun b hb=>by rw [h] at hb;cases hb
def okB (V:aY) (w:World) (l:Nat) (B:SB):Prop:=
 ∃ cs,B.cells V=some cs /\
 match B with
 | .own _ ty | .ints _ _ ty | .eJ _ ty=>∃ b,V.β l=some (b,0)/\w.heap[b]?=some (.cells cs.toArray ty (0,0))
 | .fP _ | .nM _ _=>∃ b o,V.β l=some (b,o)/\Ky w b cs/\∀ (j:Nat) (v:Value),cs[j]?=some v->w.cell? ⟨b,o+j,none⟩=some v
 | .cT k xs ty=>∃ v,V.σ l=some v/\w.ownsRow 0 ty 1 v xs.length cs/\iI w k v
 | .fT sz n ty=>∃ v us,V.σ l=some v/\w.ownsRow 0 ty sz v n us/\∀ q∈us,q.oneCell'=true
 | .row sz _ ty=>∃ b cap cur,V.β l=some (b,0)/\V.σ l=some (.int .i64 (cap:Nat))/\w.heap[b]?=some (.cells cur ty (0,0))/\cap<=maxLen/\cur.size=cap*sz/\(∃ n,cs.length=n*sz/\n<=cap)/\cur.toList.take cs.length=cs
 | .gQ k xs=>∃ v,V.σ l=some v/\pE w k v xs
 | .iS _ _ _ ty=>∃ b cap cur,V.β l=some (b,0)/\V.σ l=some (.int .i64 (cap:Nat))/\w.heap[b]?=some (.cells cur ty (0,0))/\cap<=maxLen/\cur.size=cap*1/\(∃ n,cs.length=n*1/\n<=cap)/\cur.toList.take cs.length=cs
 | .fI _ ty=>∃ v us,V.σ l=some (.tuple (v::us).toArray)/\w.ownsRow 0 ty 1 v us.length us
 | .eM xs ty=>∃ v,V.σ l=some v/\w.ownsRow 0 ty 2 v xs.length cs
 | .qI xs=>∃ v,V.σ l=some v/\Lp w v xs
 | .lU _=>True
 | .nH _=>True
 | .gK _ _=>True
 | .gone=>True
structure fK (w0:World) (M:Nat->Prop) (w:World):Prop where
 os:w.os=w0.os
 tape:w.tape=w0.tape
 output:w.output=w0.output
 size:w0.heap.size<=w.heap.size
 block:∀ k,k<w0.heap.size->¬ M k->w.heap[k]?=w0.heap[k]?
theorem fK.refl (w:World) (M:Nat->Prop):fK w M w:=⟨rfl,rfl,rfl,Nat.le_refl _,fun _ _ _=>rfl⟩
theorem fK.trans {a b c:World} {M N:Nat->Prop} (h:fK a M b) (k:fK b N c) (hN:∀ n,n<a.heap.size->N n->M n):fK a M c:=
 ⟨k.os.trans h.os,k.tape.trans h.tape,k.output.trans h.output,Nat.le_trans h.size k.size,
  fun i hi hM=>(k.block i (Nat.lt_of_lt_of_le hi h.size) (fun e=>hM (hN i hi e))).trans (h.block i hi hM)⟩
theorem fK.mono {w0 w:World} {M N:Nat->Prop} (h:fK w0 M w) (hN:∀ n,n<w0.heap.size->M n->N n):fK w0 N w:=
 ⟨h.os,h.tape,h.output,h.size,fun k hk hn=>h.block k hk (fun e=>hn (hN k hk e))⟩
abbrev aZ:=Nat->Option SB
def dL (w0:World) (M:Nat->Prop) (u:Value) (d:List Int):Prop:=pE w0 .u8 u d/\∀ n,eQ u=some n->n<w0.heap.size/\¬ M n
def rU (w0:World) (M:Nat->Prop) (v:Value) (us:List Value):Prop:=
 ((Lq v/\us=[])\/∃ b o c,v = .slice (some ⟨b,o,none⟩) us.length c/\b<w0.heap.size/\us.length<=c/\∀ (j:Nat) (u:Value),us[j]?=some u->w0.cell? ⟨b,o+j,none⟩=some u)/\∀ n,eQ v=some n->n<w0.heap.size/\¬ M n
def kR (w0:World) (M:Nat->Prop) (V:aY) (l:Nat):SB->Prop
 | .lU ds=>∃ v us,V.σ l=some (.tuple (v::us).toArray)/\rU w0 M v us/\us.length=ds.length/\∀ (i:Nat) (u:Value) (d:List Int),us[i]?=some u->ds[i]?=some d->dL w0 M u d
 | .nH d=>∃ u,V.σ l=some u/\dL w0 M u d
 | .gK ds z=>∃ v us,V.σ l=some (.tuple (v::us).toArray)/\rU w0 M v us/\us.length=ds.length+z/\(∀ (i:Nat) (u:Value) (d:List Int),us[i]?=some u->ds[i]?=some d->dL w0 M u d)/\∀ (i:Nat) (u:Value),us[i]?=some u->ds.length<=i->u = .slice none 0 0
 | .fI ds _=>∃ v us,V.σ l=some (.tuple (v::us).toArray)/\us.length=ds.length/\∀ (i:Nat) (u:Value) (d:List Int),us[i]?=some u->ds[i]?=some d->dL w0 M u d
 | _=>True
def SB.plain:SB->Bool
 | .lU _ | .fI _ _ | .nH _ | .gK _ _=>false
 | _=>true
theorem cV {w0:World} {M:Nat->Prop} {V:aY} {l:Nat} {B:SB} (h:B.plain=true):kR w0 M V l B:=by
 cases B <;> first | trivial | cases h
structure aC (w0:World) (M:Nat->Prop) (V:aY) (T:aZ) (w:World):Prop where
 ok:∀ l B,T l=some B->okB V w l B
 jN:∀ l B l' B' n,l≠l'->T l=some B->T l'=some B'->B.owned=true->B.aN V l=some n->B'.aN V l'≠some n
 perm:∀ l B n,T l=some B->B.owned=true->B.aN V l=some n->w0.heap.size<=n\/M n
 frame:fK w0 M w
 sL:∀ l B,T l=some B->kR w0 M V l B
structure bJ where
 bM:List Prop:=[]
 val:SV
 new:List SB:=[]
 wr:List (Nat × SB):=[]
def look {α:Type} (l:Nat):List (Nat × α)->Option α
 | []=>none
 | (k,v)::r=>match Nat.beq k l with
   | true=>some v
   | false=>look l r
def fO {α:Type} (lab:Nat):List α->List (Nat × α)
 | []=>[]
 | v::r=>(lab,v)::fO (lab+1) r
def bJ.eG (lab:Nat) (e:bJ):List (Nat × SB):=e.wr++fO lab e.new
def eI (T:aZ) (lab:Nat) (e:bJ):aZ:=fun l=>match look l (e.eG lab) with
 | some B=>some B
 | none=>T l
theorem bY {α:Type} (l:Nat):∀ (a b:List (Nat × α)),look l (a++b)=match look l a with | some v=>some v | none=>look l b
 | [],b=>rfl
 | (k,v)::a,b=>by
   simp only [List.cons_append,look]
   cases h:Nat.beq k l with
   | true=>rfl
   | false=>exact bY l a b
theorem aI {α:Type} (l:Nat) (v:α) (r:List (Nat × α)):look l ((l,v)::r)=some v:=by simp [look,Nat.beq_refl]
theorem aD {α:Type} {l k:Nat} (h:k≠l) (v:α) (r:List (Nat × α)):look l ((k,v)::r)=look l r:=by
 have:Nat.beq k l=false:=by rw [<- Bool.not_eq_true,Nat.beq_eq];exact h
 simp [look,this]
theorem fY {α:Type} {l:Nat} {v:α}:∀ {r:List (Nat × α)},look l r=some v->(l,v)∈r
 | [],h=>by simp [look] at h
 | (k,u)::r,h=>by
   by_cases e:k=l
   .subst e;rw [aI] at h;cases h;exact cM
   .rw [aD e] at h;exact List.mem_cons_of_mem _ (fY h)
theorem fH {α:Type}:∀ (lab:Nat) (l:List α) (k:Nat),look k (fO lab l)=if lab<=k then l[k-lab]? else none
 | lab,[],k=>by simp [fO,look]
 | lab,v::r,k=>by
   by_cases e:lab=k
   .subst e;simp [fO,aI]
   .rw [fO,aD e,fH (lab+1) r k]
    by_cases h:lab<=k
    .rw [if_pos (by omega),if_pos h]
     obtain ⟨d,rfl⟩:∃ d,k=lab+1+d:=⟨k-(lab+1),by omega⟩
     rw [show lab+1+d-lab=d+1 from by omega,show lab+1+d-(lab+1)=d from by omega]
     simp
    .rw [if_neg (by omega),if_neg h]
def aY.ext (V:aY) (lab:Nat) (V':aY):Prop:=V.le V'/\∀ l,(l<lab\/lab+8<=l)->V'.β l=V.β l/\V'.σ l=V.σ l
theorem aY.cN (V:aY) (lab:Nat):V.ext lab V:=⟨V.le_refl,fun _ _=>⟨rfl,rfl⟩⟩
def aY.fresh (V:aY) (lab:Nat):Prop:=∀ l,lab<=l->l<lab+8->V.β l=none/\V.σ l=none
def aY.put (V:aY) (l:Nat) (p:Nat × Nat):aY:={ V with β:=fun k=>if k=l then some p else V.β k }
def aY.aV (V:aY) (l:Nat) (v:Value):aY:={ V with σ:=fun k=>if k=l then some v else V.σ k }
theorem aY.jU {V:aY} {lab:Nat} (hf:V.fresh lab) (l:Nat) (h1:lab<=l) (h2:l<lab+8) (p:Nat × Nat):V.ext lab (V.put l p):=by
 refine ⟨⟨fun k q hk=>?_,fun _ _ h=>h⟩,fun k hk=>⟨?_,rfl⟩⟩
 .show (if k=l then some p else V.β k)=some q
  by_cases e:k=l
  .subst e;rw [(hf k h1 h2).1] at hk;cases hk
  .rw [if_neg e];exact hk
 .show (if k=l then some p else V.β k)=V.β k
  rw [if_neg (by omega)]
def aY.En (V:aY) (l:Nat) (p:Nat × Nat) (v:Value):aY:=(V.put l p).aV l v
theorem aY.bS {V:aY} {lab:Nat} (hf:V.fresh lab) (l:Nat) (h1:lab<=l) (h2:l<lab+8) (v:Value):V.ext lab (V.aV l v):=by
 refine ⟨⟨fun _ _ h=>h,fun k q hk=>?_⟩,fun k hk=>⟨rfl,?_⟩⟩
 .show (if k=l then some v else V.σ k)=some q
  by_cases e:k=l
  .subst e;rw [(hf k h1 h2).2] at hk;cases hk
  .rw [if_neg e];exact hk
 .show (if k=l then some v else V.σ k)=V.σ k
  rw [if_neg (by omega)]
theorem aY.qZ {V:aY} {lab:Nat} (hf:V.fresh lab) (l:Nat) (h1:lab<=l) (h2:l<lab+8) (p:Nat × Nat) (v:Value):V.ext lab (V.En l p v):=by
 refine ⟨⟨fun k q hk=>?_,fun k q hk=>?_⟩,fun k hk=>⟨?_,?_⟩⟩
 .show (if k=l then some p else V.β k)=some q
  by_cases e:k=l
  .subst e;rw [(hf k h1 h2).1] at hk;cases hk
  .rw [if_neg e];exact hk
 .show (if k=l then some v else V.σ k)=some q
  by_cases e:k=l
  .subst e;rw [(hf k h1 h2).2] at hk;cases hk
  .rw [if_neg e];exact hk
 .show (if k=l then some p else V.β k)=V.β k
  rw [if_neg (by omega)]
 .show (if k=l then some v else V.σ k)=V.σ k
  rw [if_neg (by omega)]
structure TI where
 desc:TypeDesc
 size:Nat
 bytes:Nat
 zero:List SV
abbrev Sum:=List SV->aZ->Nat->Nat->Option bJ
structure Env where
 ty:Nat->Option TI
 aR:List (Nat × Nat)
 sum:Nat->Option Sum
 UZ:Nat->Option Sum
 cmp:List Nat:=[]
def cA (P:Program) (Γ:Env):Prop:=∀ t ti,Γ.ty t=some ti->P.underlying t=some ti.desc /\
 ∃ i z,P.info? t=some i/\i.size=ti.size/\i.bytes=ti.bytes/\i.zero=some z/\∀ V,aE V ti.zero=some z.cells.toList
def tC:Value->SV
 | .int k n=>.int true k n
 | .bool b=>.bool true b
 | v=>.raw v
def FV:Value->SV
 | .agg cs=>.agg (cs.toList.map tC)
 | v=>tC v
theorem Tu (V:aY) (v:Value):den V (tC v)=some v:=by cases v <;> simp [tC,den]
theorem rH (V:aY):∀ l:List Value,aE V (l.map tC)=some l
 | []=>by simp [aE]
 | v::l=>by simp [aE,Tu,rH V l]
theorem BR (V:aY) (v:Value):den V (FV v)=some v:=by
 cases v <;> simp [FV,tC,den,rH]
def tiP (P:Program) (t:Nat):Option TI:=match P.info? t with
 | some i=>match P.underlying t,i.zero with
   | some d,some z=>some { desc:=d,size:=i.size,bytes:=i.bytes,zero:=z.cells.toList.map tC }
   | _,_=>none
 | none=>none
theorem cA.prog {P:Program} {Γ:Env} (h:Γ.ty=tiP P):cA P Γ:=by
 intro t ti ht
 rw [h] at ht
 unfold tiP at ht
 split at ht
 case h_2=>cases ht
 rename_i i hi
 split at ht
 case h_2=>cases ht
 rename_i d z hd hz
 cases ht
 exact ⟨hd,i,z,hi,rfl,rfl,hz,fun V=>rH V _⟩
def ev (Γ:Env) (g:Nat->Option SV):Operand->Option SV
 | .tmp t=>g t
 | .const v=>some (FV v)
 | .global n=>(look n Γ.aR).map fun l=>.ptr l true 0
 | .func f=>some (.fn (.func f) [] [])
def cE (V:aY) (g:Nat->Option SV) (a:Act):Prop:=∀ t v,g t=some v->den V v=some (a.eval (.tmp t))
def bL (Γ:Env) (V:aY):Prop:=∀ n l,look n Γ.aR=some l->V.β l=some (n,0)
theorem bF {Γ:Env} {V:aY} {g:Nat->Option SV} {a:Act} (ht:cE V g a) (hg:bL Γ V):∀ {x:Operand} {v:SV},ev Γ g x=some v->den V v=some (a.eval x)
 | .tmp t,v,h=>ht t v h
 | .const c,v,h=>by simp only [ev,aU] at h;subst h;exact BR V c
 | .global n,v,h=>by
   simp only [ev,Option.map_eq_some_iff] at h
   obtain ⟨l,hl,rfl⟩:=h
   simp [den,hg n l hl,Act.eval]
 | .func f,v,h=>by simp only [ev,aU] at h;subst h;simp [den,aE,Act.eval]
def SL (Γ:Env) (g:Nat->Option SV):List Operand->Option (List SV)
 | []=>some []
 | x::r=>match ev Γ g x,SL Γ g r with
   | some v,some vs=>some (v::vs)
   | _,_=>none
theorem Ir {Γ:Env} {V:aY} {g:Nat->Option SV} {a:Act} (ht:cE V g a) (hg:bL Γ V):∀ {xs:List Operand} {vs:List SV},SL Γ g xs=some vs->aE V vs=some (xs.map a.eval)
 | [],vs,h=>by simp only [SL,aU] at h;subst h;simp [aE]
 | x::r,vs,h=>by
   simp only [SL] at h
   split at h
   .rename_i v us hv pA
    cases h
    simp [aE,bF ht hg hv,Ir ht hg pA]
   .cases h
def sB (s:Bool) (p:Prop) [Decidable p]:Option (List Prop):=match s with
 | true=>match decide p with
   | true=>some []
   | false=>none
 | false=>some [p]
theorem hH {s:Bool} {p:Prop} [Decidable p] {l:List Prop} (h:sB s p=some l) (ho:∀ q∈l,q):p:=by
 cases s with
 | true=>
   simp only [sB] at h
   split at h
   .rename_i hd;exact of_decide_eq_true hd
   .cases h
 | false=>simp only [sB,aU] at h;subst h;exact ho p (by simp)
def Xv (h:Option Bool) (s:Bool) (b:Bool):bJ:=match s with
 | true=>{ val:=.bool true b }
 | false=>match h with
   | some c=>{ bM:=[b=c],val:=.bool true c }
   | none=>{ val:=.bool false b }
theorem JL (V:aY) {h:Option Bool} {s b:Bool} (ho:∀ q∈(Xv h s b).bM,q):den V (Xv h s b).val=some (.bool b)/\(Xv h s b).new=[]/\(Xv h s b).wr=[]:=by
 unfold Xv at *
 split
 .simp [den]
 .split
  .rename_i c
   have hb:b=c:=ho (b=c) (by simp)
   subst hb
   simp [den]
  .simp [den]
theorem jW (T:aZ) (lab:Nat) {e:bJ} (hn:e.new=[]) (hw:e.wr=[]):eI T lab e=T:=by
 funext l;simp [eI,bJ.eG,hn,hw,fO,look]
def kE (P:Program) (w0:World) (M:Nat->Prop) (V:aY) (T:aZ) (lab:Nat) (e:bJ) (o:Oper) (a:Act) (w:World):Prop:=
 ∀ K Q,(∀ V' x w',V.ext lab V'->den V' e.val=some x->aC w0 M V' (eI T lab e) w'->K (a.put o.dst x) w')->o.wp P a w K Q
theorem bC {P:Program} {w0:World} {M:Nat->Prop} {V:aY} {T:aZ} {lab:Nat} {e:bJ} {o:Oper} {a:Act} {w:World} {x:Value}
 (hr:(execOp a.eval o).run P w = .ok (.value x) w) (hx:den V e.val=some x) (hn:e.new=[]) (hw:e.wr=[]) (hT:aC w0 M V T w):kE P w0 M V T lab e o a w:=by
 intro K Q hK
 unfold Oper.wp
 rw [hr,Oper.upon_value]
 exact hK V x w (V.cN lab) hx (by rw [jW T lab hn hw];exact hT)
section Tables
variable {w0 w w':World} {M:Nat->Prop} {V V':aY} {T:aZ} {lab:Nat}
theorem aC.known (h:aC w0 M V T w) {l:Nat} {B:SB} (hl:T l=some B) (hg:B ≠ .gone):V.β l≠none\/V.σ l≠none:=by
 obtain ⟨cs,_,h2⟩:=h.ok l B hl
 cases B with
 | own cells ty=>obtain ⟨b,hb,_⟩:=h2;left;rw [hb];simp
 | ints k xs ty=>obtain ⟨b,hb,_⟩:=h2;left;rw [hb];simp
 | eJ vs ty=>obtain ⟨b,hb,_⟩:=h2;left;rw [hb];simp
 | fP cells=>obtain ⟨b,o,hb,_⟩:=h2;left;rw [hb];simp
 | nM k xs=>obtain ⟨b,o,hb,_⟩:=h2;left;rw [hb];simp
 | cT k xs ty=>obtain ⟨v,hv,_⟩:=h2;right;rw [hv];simp
 | fT sz n ty=>obtain ⟨v,us,hv,_⟩:=h2;right;rw [hv];simp
 | row sz cells ty=>obtain ⟨b,_,_,hb,_⟩:=h2;left;rw [hb];simp
 | gQ k xs=>obtain ⟨v,hv,_⟩:=h2;right;rw [hv];simp
 | iS pre k ds ty=>obtain ⟨b,_,_,hb,_⟩:=h2;left;rw [hb];simp
 | lU ds=>obtain ⟨v,us,hv,_⟩:=h.sL l _ hl;right;rw [hv];simp
 | nH d=>obtain ⟨u,hv,_⟩:=h.sL l _ hl;right;rw [hv];simp
 | fI ds ty=>obtain ⟨v,us,hv,_⟩:=h2;right;rw [hv];simp
 | eM xs ty=>obtain ⟨v,hv,_⟩:=h2;right;rw [hv];simp
 | qI xs=>obtain ⟨v,hv,_⟩:=h2;right;rw [hv];simp
 | gK ds z=>obtain ⟨v,us,hv,_⟩:=h.sL l _ hl;right;rw [hv];simp
 | gone=>exact absurd rfl hg
theorem kY {ty:TypeId} {sz n:Nat} {v:Value} {cs:List Value} (h:w.ownsRow 0 ty sz v n cs) {k:Nat} (hk:v.ownBlock=some k):k<w.heap.size:=(h.lt k hk).2
theorem okB.lt {l:Nat} {B:SB} (h:okB V w l B) {n:Nat} (hn:B.aN V l=some n):n<w.heap.size:=by
 obtain ⟨cs,_,h2⟩:=h
 cases B with
 | own cells ty=>obtain ⟨b,hb,hh⟩:=h2;simp [SB.aN,hb] at hn;subst hn;exact (Array.getElem?_eq_some_iff.1 hh).1
 | ints k xs ty=>obtain ⟨b,hb,hh⟩:=h2;simp [SB.aN,hb] at hn;subst hn;exact (Array.getElem?_eq_some_iff.1 hh).1
 | eJ vs ty=>obtain ⟨b,hb,hh⟩:=h2;simp [SB.aN,hb] at hn;subst hn;exact (Array.getElem?_eq_some_iff.1 hh).1
 | fP cells=>obtain ⟨b,o,hb,cI,_⟩:=h2;simp [SB.aN,hb] at hn;subst hn;exact cI.lt
 | nM k xs=>obtain ⟨b,o,hb,cI,_⟩:=h2;simp [SB.aN,hb] at hn;subst hn;exact cI.lt
 | cT k xs ty=>obtain ⟨v,hv,ho⟩:=h2;simp [SB.aN,hv] at hn;exact kY ho.1 hn
 | fT sz n ty=>obtain ⟨v,us,hv,ho,_⟩:=h2;simp [SB.aN,hv] at hn;exact kY ho hn
 | row sz cells ty=>obtain ⟨b,_,_,hb,_,hh,_⟩:=h2;simp [SB.aN,hb] at hn;subst hn;exact (Array.getElem?_eq_some_iff.1 hh).1
 | gQ k xs=>
   obtain ⟨v,hv,ho⟩:=h2
   simp only [SB.aN,hv,Option.bind_some] at hn
   rcases ho with ⟨⟨a,rfl⟩,_⟩ | ⟨b,o,c,rfl,cI,_⟩
   .cases hn
   .cases dZ hn;exact cI
 | fI ds ty=>obtain ⟨v,us,hv,ho⟩:=h2;simp [SB.aN,hv,sZ] at hn;exact kY ho hn
 | iS pre k ds ty=>obtain ⟨b,_,_,hb,_,hh,_⟩:=h2;simp [SB.aN,hb] at hn;subst hn;exact (Array.getElem?_eq_some_iff.1 hh).1
 | eM xs ty=>obtain ⟨v,hv,ho⟩:=h2;simp [SB.aN,hv] at hn;exact kY ho hn
 | qI xs=>
   obtain ⟨v,hv,ho⟩:=h2
   simp only [SB.aN,hv,Option.bind_some] at hn
   rcases ho with ⟨⟨a,rfl⟩,_⟩ | ⟨b,o,c,rfl,cI,_⟩
   .cases hn
   .cases dZ hn;exact cI
 | lU ds=>simp [SB.aN] at hn
 | nH d=>simp [SB.aN] at hn
 | gK ds z=>simp [SB.aN] at hn
 | gone=>simp [SB.aN] at hn
theorem Ot {w w':World} {k:IntKind} {v:Value} (h:iI w k v) (hb:∀ n,v.ownBlock=some n->w'.heap[n]?=w.heap[n]?):iI w' k v:=fun b hv=>by
 obtain ⟨cur,ty,p,h1,h2⟩:=h b hv
 exact ⟨cur,ty,p,by rw [hb b hv];exact h1,h2⟩
theorem lR {ty:TypeId} {sz n:Nat} {v:Value} {cs:List Value} (h:w.ownsRow 0 ty sz v n cs) (hb:∀ k,v.ownBlock=some k->w'.heap[k]?=w.heap[k]?):w'.ownsRow 0 ty sz v n cs:=by
 refine ⟨h.1,?_⟩
 rcases h.2 with hn | ⟨g,cap,cur,rfl,Eh,hh,r⟩
 .exact .inl hn
 .exact .inr ⟨g,cap,cur,rfl,Eh,by rw [hb g rfl];exact hh,r⟩
theorem okB.gG {l:Nat} {B:SB} (h:okB V w l B) (hV:V.le V') (hs:w.heap.size<=w'.heap.size) (hb:∀ n,B.aN V l=some n->w'.heap[n]?=w.heap[n]?):okB V' w' l B:=by
 obtain ⟨cs,hc,h2⟩:=h
 refine ⟨cs,SB.iV hV hc,?_⟩
 cases B with
 | own cells ty=>obtain ⟨b,hβ,hh⟩:=h2;exact ⟨b,hV.1 _ _ hβ,by rw [hb b (by simp [SB.aN,hβ])];exact hh⟩
 | ints k xs ty=>obtain ⟨b,hβ,hh⟩:=h2;exact ⟨b,hV.1 _ _ hβ,by rw [hb b (by simp [SB.aN,hβ])];exact hh⟩
 | eJ vs ty=>obtain ⟨b,hβ,hh⟩:=h2;exact ⟨b,hV.1 _ _ hβ,by rw [hb b (by simp [SB.aN,hβ])];exact hh⟩
 | fP cells=>
   obtain ⟨b,o,hβ,cI,hh⟩:=h2
   refine ⟨b,o,hV.1 _ _ hβ,cI.gG (hb b (by simp [SB.aN,hβ])),fun j v hj=>?_⟩
   rw [<- hh j v hj]
   exact World.cell?_of_block (w:=w) (hb b (by simp [SB.aN,hβ]))
 | nM k xs=>
   obtain ⟨b,o,hβ,cI,hh⟩:=h2
   refine ⟨b,o,hV.1 _ _ hβ,cI.gG (hb b (by simp [SB.aN,hβ])),fun j v hj=>?_⟩
   rw [<- hh j v hj]
   exact World.cell?_of_block (w:=w) (hb b (by simp [SB.aN,hβ]))
 | cT k xs ty=>obtain ⟨v,hσ,ho,hi⟩:=h2;exact ⟨v,hV.2 _ _ hσ,lR ho (fun k hk=>hb k (by simp [SB.aN,hσ,hk])),Ot hi (fun k hk=>hb k (by simp [SB.aN,hσ,hk]))⟩
 | fT sz n ty=>obtain ⟨v,us,hσ,ho,hq⟩:=h2;exact ⟨v,us,hV.2 _ _ hσ,lR ho (fun k hk=>hb k (by simp [SB.aN,hσ,hk])),hq⟩
 | row sz cells ty=>obtain ⟨b,cap,cur,hβ,hσ,hh,r⟩:=h2;exact ⟨b,cap,cur,hV.1 _ _ hβ,hV.2 _ _ hσ,by rw [hb b (by simp [SB.aN,hβ])];exact hh,r⟩
 | gQ k xs=>
   obtain ⟨v,hσ,ho⟩:=h2
   refine ⟨v,hV.2 _ _ hσ,?_⟩
   rcases ho with ho | ⟨b,o,c,rfl,cI,hc,hh⟩
   .exact .inl ho
   .refine .inr ⟨b,o,c,rfl,Nat.lt_of_lt_of_le cI hs,hc,fun j v hj=>?_⟩
    rw [<- hh j v hj]
    have Er:j<xs.length:=by simpa using (List.getElem?_eq_some_iff.1 hj).1
    obtain ⟨m,rfl⟩:∃ m,c=m+1:=⟨c-1,by omega⟩
    exact World.cell?_of_block (w:=w) (hb b (by simp [SB.aN,hσ,eQ,Value.ownBlock]))
 | fI ds ty=>obtain ⟨v,us,hσ,ho⟩:=h2;exact ⟨v,us,hV.2 _ _ hσ,lR ho (fun k hk=>hb k (by simp [SB.aN,hσ,sZ,hk]))⟩
 | iS pre k ds ty=>obtain ⟨b,cap,cur,hβ,hσ,hh,r⟩:=h2;exact ⟨b,cap,cur,hV.1 _ _ hβ,hV.2 _ _ hσ,by rw [hb b (by simp [SB.aN,hβ])];exact hh,r⟩
 | eM xs ty=>obtain ⟨v,hσ,ho⟩:=h2;exact ⟨v,hV.2 _ _ hσ,lR ho (fun k hk=>hb k (by simp [SB.aN,hσ,hk]))⟩
 | qI xs=>
   obtain ⟨v,hσ,ho⟩:=h2
   refine ⟨v,hV.2 _ _ hσ,?_⟩
   rcases ho with ho | ⟨b,o,c,rfl,cI,hc,hh⟩
   .exact .inl ho
   .refine .inr ⟨b,o,c,rfl,Nat.lt_of_lt_of_le cI hs,hc,fun j v hj=>?_⟩
    rw [<- hh j v hj]
    have Er:0<xs.length:=by
     cases xs with
     | nil=>simp [eC] at hj
     | cons a r=>simp
    obtain ⟨m,rfl⟩:∃ m,c=m+1:=⟨c-1,by omega⟩
    exact World.cell?_of_block (w:=w) (hb b (by simp [SB.aN,hσ,eQ,Value.ownBlock]))
 | lU ds=>trivial
 | nH d=>trivial
 | gK ds z=>trivial
 | gone=>trivial
theorem kR.le {l:Nat} {B:SB} (h:kR w0 M V l B) (hV:V.le V'):kR w0 M V' l B:=by
 cases B with
 | lU ds=>obtain ⟨v,us,hσ,r⟩:=h;exact ⟨v,us,hV.2 _ _ hσ,r⟩
 | nH d=>obtain ⟨u,hσ,r⟩:=h;exact ⟨u,hV.2 _ _ hσ,r⟩
 | gK ds z=>obtain ⟨v,us,hσ,r⟩:=h;exact ⟨v,us,hV.2 _ _ hσ,r⟩
 | fI ds ty=>obtain ⟨v,us,hσ,r⟩:=h;exact ⟨v,us,hV.2 _ _ hσ,r⟩
 | _=>trivial
theorem SB.aNl (hV:V.le V') {l:Nat} {B:SB} {n:Nat} (h:B.aN V l=some n):B.aN V' l=some n:=by
 cases B <;> simp only [SB.aN,Option.map_eq_some_iff,Option.bind_eq_some_iff] at h |-
 case gone=>cases h
 case cT=>obtain ⟨v,hv,e⟩:=h;exact ⟨v,hV.2 _ _ hv,e⟩
 case fT=>obtain ⟨v,hv,e⟩:=h;exact ⟨v,hV.2 _ _ hv,e⟩
 case gQ=>obtain ⟨v,hv,e⟩:=h;exact ⟨v,hV.2 _ _ hv,e⟩
 case fI=>obtain ⟨v,hv,e⟩:=h;exact ⟨v,hV.2 _ _ hv,e⟩
 case eM=>obtain ⟨v,hv,e⟩:=h;exact ⟨v,hV.2 _ _ hv,e⟩
 case qI=>obtain ⟨v,hv,e⟩:=h;exact ⟨v,hV.2 _ _ hv,e⟩
 case lU=>cases h
 case nH=>cases h
 case gK=>cases h
 all_goals (obtain ⟨p,hp,e⟩:=h;exact ⟨p,hV.1 _ _ hp,e⟩)
theorem okB.tK {l:Nat} {B:SB} (h:okB V w l B) (hV:V.le V'):B.aN V' l=B.aN V l:=by
 obtain ⟨cs,_,h2⟩:=h
 cases B with
 | own cells ty=>obtain ⟨b,hb,_⟩:=h2;simp [SB.aN,hb,hV.1 _ _ hb]
 | ints k xs ty=>obtain ⟨b,hb,_⟩:=h2;simp [SB.aN,hb,hV.1 _ _ hb]
 | eJ vs ty=>obtain ⟨b,hb,_⟩:=h2;simp [SB.aN,hb,hV.1 _ _ hb]
 | fP cells=>obtain ⟨b,o,hb,_⟩:=h2;simp [SB.aN,hb,hV.1 _ _ hb]
 | nM k xs=>obtain ⟨b,o,hb,_⟩:=h2;simp [SB.aN,hb,hV.1 _ _ hb]
 | cT k xs ty=>obtain ⟨v,hv,_⟩:=h2;simp [SB.aN,hv,hV.2 _ _ hv]
 | fT sz n ty=>obtain ⟨v,us,hv,_⟩:=h2;simp [SB.aN,hv,hV.2 _ _ hv]
 | row sz cells ty=>obtain ⟨b,_,_,hb,_⟩:=h2;simp [SB.aN,hb,hV.1 _ _ hb]
 | gQ k xs=>obtain ⟨v,hv,_⟩:=h2;simp [SB.aN,hv,hV.2 _ _ hv]
 | fI ds ty=>obtain ⟨v,us,hv,_⟩:=h2;simp [SB.aN,hv,hV.2 _ _ hv]
 | iS pre k ds ty=>obtain ⟨b,_,_,hb,_⟩:=h2;simp [SB.aN,hb,hV.1 _ _ hb]
 | eM xs ty=>obtain ⟨v,hv,_⟩:=h2;simp [SB.aN,hv,hV.2 _ _ hv]
 | qI xs=>obtain ⟨v,hv,_⟩:=h2;simp [SB.aN,hv,hV.2 _ _ hv]
 | lU ds=>simp [SB.aN]
 | nH d=>simp [SB.aN]
 | gK ds z=>simp [SB.aN]
 | gone=>simp [SB.aN]
theorem aC.step (h:aC w0 M V T w) (hV:V.le V') {N T':aZ}
 (hT:∀ l B,T' l=some B->N l=some B\/(N l=none/\T l=some B))
 (hN:∀ l B,N l=some B->okB V' w' l B)
 (fA:∀ l B n,N l=some B->B.aN V' l=some n->w.heap.size<=n\/(∃ l0 B0,T l0=some B0/\B0.owned=true/\B0.aN V l0=some n/\N l0≠none)\/B.owned=false/\∀ l2 B2,N l2=none->T l2=some B2->B2.owned=true->B2.aN V l2≠some n)
 (aTr:∀ l B l' B' n,l≠l'->N l=some B->N l'=some B'->B.owned=true->B.aN V' l=some n->B'.aN V' l'≠some n)
 (Ux:w.heap.size<=w'.heap.size)
 (Uz:∀ n,n<w.heap.size->(∀ l B0,T l=some B0->B0.owned=true->N l≠none->B0.aN V l≠some n)->w'.heap[n]?=w.heap[n]?)
 (hos:w'.os=w.os) (Md:w'.tape=w.tape) (DV:w'.output=w.output)
 (aZd:∀ l B,N l=some B->kR w0 M V' l B:=by intro l B h;(repeat' split at h) <;> first | (cases h;done) | (cases h;trivial)):aC w0 M V' T' w' where
 sL:=fun l B hl=>by
  rcases hT l B hl with hn | ⟨_,ho⟩
  .exact aZd l B hn
  .exact (h.sL l B ho).le hV
 ok:=fun l B hl=>by
  rcases hT l B hl with hn | ⟨hn,ho⟩
  .exact hN l B hn
  .refine (h.ok l B ho).gG hV Ux (fun n hb=>Uz n ((h.ok l B ho).lt hb) fun l1 B1 h1 h2 h3 h4=>?_)
   by_cases e:l1=l
   .subst e;exact h3 hn
   .exact h.jN l1 B1 l B n e h1 ho h2 h4 hb
 jN:=fun l B l' B' n dD hl rK fJ hb=>by
  rcases hT l B hl with hn | ⟨hn,ho⟩ <;> rcases hT l' B' rK with Oy | ⟨Oy,kQ⟩
  .exact aTr l B l' B' n dD hn Oy fJ hb
  .rw [(h.ok l' B' kQ).tK hV]
   intro iE
   rcases fA l B n hn hb with RG | ⟨l0,B0,h0,h1,h2,h3⟩ | ⟨hf,_⟩
   .have:=(h.ok l' B' kQ).lt iE;omega
   .exact h.jN l0 B0 l' B' n (fun e=>h3 (e ▸ Oy)) h0 kQ h1 h2 iE
   .rw [hf] at fJ;cases fJ
  .rw [(h.ok l B ho).tK hV] at hb
   intro iE
   rcases fA l' B' n Oy iE with RG | ⟨l0,B0,h0,h1,h2,h3⟩ | ⟨_,hf⟩
   .have:=(h.ok l B ho).lt hb;omega
   .exact h.jN l B l0 B0 n (fun e=>h3 (e ▸ hn)) ho h0 fJ hb h2
   .exact hf l B hn ho fJ hb
  .rw [(h.ok l B ho).tK hV] at hb
   rw [(h.ok l' B' kQ).tK hV]
   exact h.jN l B l' B' n dD ho kQ fJ hb
 perm:=fun l B n hl fJ hb=>by
  rcases hT l B hl with hn | ⟨hn,ho⟩
  .rcases fA l B n hn hb with RG | ⟨l0,B0,h0,h1,h2,_⟩ | ⟨hf,_⟩
   .left;have:=h.frame.size;omega
   .exact h.perm l0 B0 n h0 h1 h2
   .rw [hf] at fJ;cases fJ
  .rw [(h.ok l B ho).tK hV] at hb
   exact h.perm l B n ho fJ hb
 frame:=by
  refine ⟨hos.trans h.frame.os,Md.trans h.frame.tape,DV.trans h.frame.output,Nat.le_trans h.frame.size Ux,fun k hk hM=>?_⟩
  rw [<- h.frame.block k hk hM]
  refine Uz k (Nat.lt_of_lt_of_le hk h.frame.size) fun l B0 h1 h2 _ h4=>?_
  rcases h.perm l B0 k h1 h2 h4 with RG | hm
  .omega
  .exact hM hm
theorem aC.alloc (h:aC w0 M V T w) (hf:V.fresh lab) {B:SB} {cs:List Value} {ty:TypeId} (hB:B = .own (match B with | .own c _=>c | _=>[]) ty\/B = .ints (match B with | .ints k _ _=>k | _=>.i8) (match B with | .ints _ xs _=>xs | _=>[]) ty\/B = .eJ (match B with | .eJ vs _=>vs | _=>[]) ty) (hc:B.cells V=some cs) (v:SV) (l:List Prop) :
 aC w0 M (V.put lab (w.heap.size,0)) (eI T lab { bM:=l,val:=v,new:=[B] }) (w.alloc (.cells cs.toArray ty)):=by
 have bN:=aY.jU hf lab (Nat.le_refl _) (by omega) (w.heap.size,0)
 have Bh:(V.put lab (w.heap.size,0)).β lab=some (w.heap.size,0):=by simp [aY.put]
 refine h.step (N:=fun k=>if k=lab then some B else none) bN.1 (fun k C hk=>?_) (fun k C hk=>?_) (fun k C n hk hb=>?_) (fun k C k' C' n dD hk gW=>?_) (by simp) (fun n hn _=>heap_alloc_old w _ hn) rfl rfl rfl (fun k C hk=>cV ?_)
 .simp only [eI,bJ.eG,fO,List.nil_append] at hk
  by_cases e:lab=k
  .subst e;rw [aI] at hk;left;simpa using hk
  .rw [aD e] at hk;right;simp only [look] at hk;exact ⟨if_neg (fun x=>e x.symm),hk⟩
 .by_cases e:k=lab
  .subst e
   simp only [if_true,aU] at hk
   subst hk
   refine ⟨cs,SB.iV bN.1 hc,?_⟩
   rcases hB with hB | hB | hB <;> rw [hB] <;> exact ⟨w.heap.size,Bh,heap_alloc_new w _⟩
  .simp [e] at hk
 .by_cases e:k=lab
  .subst e
   simp only [if_true,aU] at hk
   subst hk
   left
   rcases hB with hB | hB | hB <;> (rw [hB] at hb;simp [SB.aN,Bh] at hb;omega)
  .simp [e] at hk
 .by_cases e:k=lab
  .by_cases e':k'=lab
   .omega
   .simp [e'] at gW
  .simp [e] at hk
 .split at hk
  .cases hk;rcases hB with e | e | e <;> (rw [e];rfl)
  .cases hk
theorem aC.write (h:aC w0 M V T w) {l:Nat} {B0 B:SB} {b:Nat} {Fl cs:List Value} {ty:TypeId} (hl:T l=some B0) (hβ:V.β l=some (b,0)) (fJ:B0.owned=true) (h0:B0.aN V l=some b)
 (Bx:w.heap[b]?=some (.cells Fl.toArray ty (0,0))) (hc:B.cells V=some cs)
 (hB:B = .own (match B with | .own c _=>c | _=>[]) ty\/B = .ints (match B with | .ints k _ _=>k | _=>.i8) (match B with | .ints _ xs _=>xs | _=>[]) ty\/B = .eJ (match B with | .eJ vs _=>vs | _=>[]) ty) (lab:Nat) (v:SV) (ob:List Prop) :
 aC w0 M V (eI T lab { bM:=ob,val:=v,wr:=[(l,B)] }) (w.setRow b cs.toArray):=by
 have aTt:B.aN V l=some b:=by rcases hB with hB | hB | hB <;> (rw [hB];simp [SB.aN,hβ])
 refine h.step (N:=fun k=>if k=l then some B else none) (aY.le_refl V) (fun k C hk=>?_) (fun k C hk=>?_) (fun k C n hk hb=>?_) (fun k C k' C' n dD hk gW=>?_) (by simp) (fun n hn hx=>?_) rfl rfl rfl (fun k C hk=>cV ?_)
 .simp only [eI,bJ.eG,fO,List.append_nil] at hk
  by_cases e:l=k
  .subst e;rw [aI] at hk;left;simpa using hk
  .rw [aD e] at hk;right;simp only [look] at hk;exact ⟨if_neg (fun x=>e x.symm),hk⟩
 .by_cases e:k=l
  .subst e
   simp only [if_true,aU] at hk
   subst hk
   refine ⟨cs,hc,?_⟩
   have:=setRow_heap w b Fl.toArray cs.toArray ty (0,0) Bx
   rcases hB with hB | hB | hB <;> rw [hB] <;> exact ⟨b,hβ,this⟩
  .simp [e] at hk
 .by_cases e:k=l
  .subst e
   simp only [if_true,aU] at hk
   subst hk
   right;left
   rw [aTt] at hb
   cases hb
   exact ⟨k,B0,hl,fJ,h0,by simp⟩
  .simp [e] at hk
 .by_cases e:k=l
  .by_cases e':k'=l
   .omega
   .simp [e'] at gW
  .simp [e] at hk
 .refine setRow_other w b n _ fun e=>?_
  subst e
  exact hx l B0 hl fJ (by simp) h0
 .split at hk
  .cases hk;rcases hB with e | e | e <;> (rw [e];rfl)
  .cases hk
theorem aC.aUl (h:aC w0 M V T w) (hh:w'.heap=w.heap) (hos:w'.os=w.os) (Md:w'.tape=w.tape) (DV:w'.output=w.output):aC w0 M V T w':=
 h.step (N:=fun _=>none) (aY.le_refl V) (fun l B hl=>.inr ⟨rfl,hl⟩) (fun _ _ hk=>by cases hk) (fun _ _ _ hk=>by cases hk) (fun _ _ _ _ _ _ hk=>by cases hk) (by rw [hh];exact Nat.le_refl _) (fun n _ _=>by rw [hh]) hos Md DV
theorem pE.gG {w w':World} {k:IntKind} {x:Value} {ys:List Int} (h:pE w k x ys) (hs:w.heap.size<=w'.heap.size) (hb:∀ n,eQ x=some n->w'.heap[n]?=w.heap[n]?):pE w' k x ys:=by
 rcases h with ho | ⟨b,o,c,rfl,cI,hc,hh⟩
 .exact .inl ho
 .refine .inr ⟨b,o,c,rfl,Nat.lt_of_lt_of_le cI hs,hc,fun j v hj=>?_⟩
  rw [<- hh j v hj]
  have Er:j<ys.length:=by simpa using (List.getElem?_eq_some_iff.1 hj).1
  obtain ⟨m,rfl⟩:∃ m,c=m+1:=⟨c-1,by omega⟩
  exact World.cell?_of_block (w:=w) (hb b (by simp [eQ,Value.ownBlock]))
theorem dL.gG {w0 w:World} {M M':Nat->Prop} {u:Value} {d:List Int} (h:dL w0 M u d) (hf:fK w0 M w) (hM:∀ n,M' n->w0.heap.size<=n\/M n):dL w M' u d:=by
 refine ⟨h.1.gG hf.size fun n hn=>hf.block n (h.2 n hn).1 (h.2 n hn).2,fun n hn=>⟨Nat.lt_of_lt_of_le (h.2 n hn).1 hf.size,fun hm=>?_⟩⟩
 rcases hM n hm with q | q
 .have:=(h.2 n hn).1;omega
 .exact (h.2 n hn).2 q
theorem rU.gG {w0 w:World} {M M':Nat->Prop} {v:Value} {us:List Value} (h:rU w0 M v us) (hf:fK w0 M w) (hM:∀ n,M' n->w0.heap.size<=n\/M n):rU w M' v us:=by
 refine ⟨?_,fun n hn=>⟨Nat.lt_of_lt_of_le (h.2 n hn).1 hf.size,fun hm=>?_⟩⟩
 .rcases h.1 with ho | ⟨b,o,c,rfl,cI,hc,hh⟩
  .exact .inl ho
  .refine .inr ⟨b,o,c,rfl,Nat.lt_of_lt_of_le cI hf.size,hc,fun j u hj=>?_⟩
   rw [<- hh j u hj]
   have Er:j<us.length:=(List.getElem?_eq_some_iff.1 hj).1
   obtain ⟨m,rfl⟩:∃ m,c=m+1:=⟨c-1,by omega⟩
   have hb:=h.2 b (by simp [eQ,Value.ownBlock])
   exact World.cell?_of_block (w:=w0) (hf.block b hb.1 hb.2)
 .rcases hM n hm with q | q
  .have:=(h.2 n hn).1;omega
  .exact (h.2 n hn).2 q
theorem kR.gG {w0 w:World} {M M':Nat->Prop} {V:aY} {l:Nat} {B:SB} (h:kR w0 M V l B) (hf:fK w0 M w) (hM:∀ n,M' n->w0.heap.size<=n\/M n):kR w M' V l B:=by
 cases B with
 | nH d=>obtain ⟨u,h1,h2⟩:=h;exact ⟨u,h1,h2.gG hf hM⟩
 | lU ds=>obtain ⟨v,us,h1,h2,h3,h4⟩:=h;exact ⟨v,us,h1,h2.gG hf hM,h3,fun i u d hu hd=>(h4 i u d hu hd).gG hf hM⟩
 | fI ds ty=>obtain ⟨v,us,h1,h3,h4⟩:=h;exact ⟨v,us,h1,h3,fun i u d hu hd=>(h4 i u d hu hd).gG hf hM⟩
 | gK ds z=>obtain ⟨v,us,h1,h2,h3,h4,h5⟩:=h;exact ⟨v,us,h1,h2.gG hf hM,h3,fun i u d hu hd=>(h4 i u d hu hd).gG hf hM,h5⟩
 | _=>trivial
theorem pE.eV {k:IntKind} {x:Value} {ys:List Int} (h:pE w k x ys):iF ys.length x=some x:=by
 rcases h with ⟨⟨a,rfl⟩,rfl⟩ | ⟨b,o,c,rfl,_,hc,_⟩
 .cases a <;> simp [iF]
 .unfold iF;exact if_pos ⟨rfl,hc,.inr rfl⟩
theorem aC.swap {l0:Nat} {B C:SB} (hT:aC w0 M V T w) (hl:T l0=some B) (lS:okB V w l0 B->okB V w l0 C) (fA:C.aN V l0=B.aN V l0) (fJ:C.owned=B.owned) (Pk:C.plain=true):aC w0 M V (fun l=>if l=l0 then some C else T l) w:=by
 have src:∀ l D,(if l=l0 then some C else T l)=some D->∃ E,T l=some E/\D.aN V l=E.aN V l/\D.owned=E.owned:=by
  intro l D h
  by_cases e:l=l0
  .subst e;rw [if_pos rfl] at h;cases h;exact ⟨B,hl,fA,fJ⟩
  .rw [if_neg e] at h;exact ⟨D,h,rfl,rfl⟩
 refine ⟨fun l D h=>?_,fun l D l' D' n dD h h' ho hb=>?_,fun l D n h ho hb=>?_,hT.frame,fun l D h=>?_⟩
 .by_cases e:l=l0
  .subst e;simp only [if_true,aU] at h;subst h;exact lS (hT.ok l B hl)
  .simp only [if_neg e] at h;exact hT.ok l D h
 .obtain ⟨E,h1,h2,h3⟩:=src l D h
  obtain ⟨E',Ei,CH,_⟩:=src l' D' h'
  rw [CH]
  exact hT.jN l E l' E' n dD h1 Ei (h3 ▸ ho) (h2 ▸ hb)
 .obtain ⟨E,h1,h2,h3⟩:=src l D h
  exact hT.perm l E n h1 (h3 ▸ ho) (h2 ▸ hb)
 .by_cases e:l=l0
  .subst e;simp only [if_true,aU] at h;subst h;exact cV Pk
  .simp only [if_neg e] at h;exact hT.sL l D h
end Tables
def bU (k:IntKind) (x y:Int):Int:=k.wrap ((BitVec.ofInt k.bits x &&& BitVec.ofInt k.bits y).toNat:Int)
def kN (k:IntKind) (x y:Int):Int:=k.wrap ((BitVec.ofInt k.bits x ||| BitVec.ofInt k.bits y).toNat:Int)
def gO (k:IntKind) (x y:Int):Int:=k.wrap ((BitVec.ofInt k.bits x ^^^ BitVec.ofInt k.bits y).toNat:Int)
def bBe (k:IntKind) (x y:Int):Int:=k.wrap ((BitVec.ofInt k.bits x &&& ~~~(BitVec.ofInt k.bits y)).toNat:Int)
def dI (k:IntKind) (x y:Int):Int:=k.wrap (x*2^(min y.toNat k.bits))
def bZ (k:IntKind) (x y:Int):Int:=x.fdiv (2^(min y.toNat k.bits))
def lit (v:SV):Option bJ:=some { val:=v }
def dW (v:SV) (l:List Prop):bJ:={ bM:=l,val:=v }
def Za (h:Option Bool) (op:BinOp) (k:IntKind) (a:Int) (k2:IntKind) (b:Int) (sa sb:Bool):Option bJ:=
 match op with
 | .shl=>(sB sb (0<=b)).map (dW (.int (sa&&sb) k (dI k a b)))
 | .shr=>(sB sb (0<=b)).map (dW (.int (sa&&sb) k (bZ k a b)))
 | _=>match decide (k=k2) with
   | false=>none
   | true=>match op with
     | .add=>lit (.int (sa&&sb) k (k.wrap (a+b)))
     | .sub=>lit (.int (sa&&sb) k (k.wrap (a-b)))
     | .mul=>lit (.int (sa&&sb) k (k.wrap (a*b)))
     | .quo=>(sB sb (b≠0)).map (dW (.int (sa&&sb) k (k.wrap (a.tdiv b))))
     | .rem=>(sB sb (b≠0)).map (dW (.int (sa&&sb) k (a.tmod b)))
     | .and=>lit (.int (sa&&sb) k (bU k a b))
     | .or=>lit (.int (sa&&sb) k (kN k a b))
     | .xor=>lit (.int (sa&&sb) k (gO k a b))
     | .andNot=>lit (.int (sa&&sb) k (bBe k a b))
     | .eql=>some (Xv h (sa&&sb) (a==b))
     | .neq=>some (Xv h (sa&&sb) (a != b))
     | .lss=>some (Xv h (sa&&sb) (decide (a<b)))
     | .leq=>some (Xv h (sa&&sb) (decide (a<=b)))
     | .gtr=>some (Xv h (sa&&sb) (decide (a>b)))
     | .geq=>some (Xv h (sa&&sb) (decide (a>=b)))
     | _=>none
theorem aCo {P:Program} (V:aY) (w:World) {h:Option Bool} {op:BinOp} {k:IntKind} {a:Int} {k2:IntKind} {b:Int} {sa sb:Bool} {e:bJ} (t:TypeId)
 (he:Za h op k a k2 b sa sb=some e) (ho:∀ q∈e.bM,q) :
 ∃ x,(binOp op t (.int k a) (.int k2 b)).run P w = .ok x w/\den V e.val=some x/\e.new=[]/\e.wr=[]:=by
 have hk:op ≠ .shl->op ≠ .shr->k=k2:=by
  intro h1 h2
  cases op <;> simp only [Za] at he <;> first | (split at he <;> first | (cases he;done) | (rename_i hd;exact of_decide_eq_true hd)) | exact absurd rfl h1 | exact absurd rfl h2
 cases op
 case shl=>
  simp only [Za,Option.map_eq_some_iff] at he
  obtain ⟨l,hl,rfl⟩:=he
  have hb:=hH hl ho
  exact ⟨_,by simp only [binOp,Op.shift];rw [if_neg (by omega)];rfl,rfl,rfl,rfl⟩
 case shr=>
  simp only [Za,Option.map_eq_some_iff] at he
  obtain ⟨l,hl,rfl⟩:=he
  have hb:=hH hl ho
  exact ⟨_,by simp only [binOp,Op.shift];rw [if_neg (by omega)];rfl,rfl,rfl,rfl⟩
 all_goals
  have gW:=hk (by simp) (by simp)
  subst gW
  simp only [Za,decide_true] at he
 case quo=>
  simp only [Option.map_eq_some_iff] at he
  obtain ⟨l,hl,rfl⟩:=he
  have hb:=hH hl ho
  exact ⟨_,by simp only [binOp];rw [if_neg (by simp)];simp only [Op.intDiv];rw [if_neg hb];rfl,rfl,rfl,rfl⟩
 case rem=>
  simp only [Option.map_eq_some_iff] at he
  obtain ⟨l,hl,rfl⟩:=he
  have hb:=hH hl ho
  exact ⟨_,by simp only [binOp];rw [if_neg (by simp)];simp only [Op.intDiv];rw [if_neg hb];rfl,rfl,rfl,rfl⟩
 all_goals first
  | (simp only [lit,aU] at he;subst he;exact ⟨_,by simp only [binOp];rw [if_neg (by simp)];rfl,rfl,rfl,rfl⟩)
  | (simp only [aU] at he;subst he;obtain ⟨h1,h2,h3⟩:=JL V ho;exact ⟨_,by simp only [binOp];rw [if_neg (by simp)];rfl,h1,h2,h3⟩)
  | (cases he;done)
def TW:SV->Option Bool
 | .raw (.pointer none)=>some true
 | .ptr .. => some false
 | _=>none
def TV:SV->Option Bool
 | .raw (.slice none _ _)=>some true
 | .aG .. => some false
 | .cP .. => some false
 | _=>none
def TX:SV->Option Bool
 | .raw .nilIface=>some true
 | .sH .. => some false
 | _=>none
def uI (op:BinOp) (b:Bool):Option bJ:=match op with
 | .eql=>lit (.bool true b)
 | .neq=>lit (.bool true (!b))
 | _=>none
def eEq (h:Option Bool) (op:BinOp) (d:TypeDesc) (cc:Bool) (x y:SV):Option bJ:=
 match d with
 | .pointer _=>match TW x,TW y with
   | some a,some b=>match a||b with
     | true=>uI op (a&&b)
     | false=>none
   | _,_=>none
 | .slice _=>match TV x,TV y with
   | some a,some b=>match a||b with
     | true=>uI op (a&&b)
     | false=>none
   | _,_=>none
 | .interface _=>match TX x,TX y with
   | some true,some true=>match cc with
     | true=>uI op true
     | false=>none
   | some true,some false=>uI op false
   | some false,some true=>uI op false
   | _,_=>none
 | .bool=>match x,y with
   | .bool sa a,.bool sb b=>match op with
     | .eql=>some (Xv h (sa&&sb) (a==b))
     | .neq=>some (Xv h (sa&&sb) (!(a==b)))
     | _=>none
   | _,_=>none
 | _=>none
def EI (Γ:Env) (g:Nat->Option SV) (h:Option Bool) (op:BinOp) (t:TypeId) (x y:Operand):Option bJ:=
 match ev Γ g x,ev Γ g y with
 | some (.int sa k a),some (.int sb k2 b)=>Za h op k a k2 b sa sb
 | some u,some v=>match Γ.ty t with
   | some ti=>eEq h op ti.desc ((x matches .const _)||(y matches .const _)) u v
   | none=>none
 | _,_=>none
theorem cL {P:Program} (w:World) (op:BinOp) (t:TypeId) (x y:Operand) (a b:Value) (h1:¬ (a = .nilIface/\b = .nilIface)) (h2:∀ cs,a ≠ .agg cs) :
 (eqGuard op t x y a b).run P w = .ok () w:=by
 unfold eqGuard
 cases op <;> try rfl
 all_goals
  cases a <;> cases b <;> first | rfl | exact absurd rfl (h2 _) | exact absurd ⟨rfl,rfl⟩ h1
theorem zL {P:Program} (w:World) (op:BinOp) (t:TypeId) (x y:Operand) (h:((x matches .const _)||(y matches .const _))=true) :
 (eqGuard op t x y .nilIface .nilIface).run P w = .ok () w:=by
 unfold eqGuard
 cases op <;> try rfl
 all_goals (cases x <;> cases y <;> first | rfl | (simp at h;done))
theorem zK (n0:Nat) {P:Program} (w:World) {t E:TypeId} (hu:P.underlying t=some (.pointer E)) (a b:Option Addr) (h:a=none\/b=none) :
 (Op.equalIn (n0+1) t (.pointer a) (.pointer b)).run P w = .ok (a.isNone&&b.isNone) w:=by
 simp only [Op.equalIn,Sem.run_bind,run_underlying hu w,Result.andThen_ok]
 rcases h with rfl | rfl
 .simp
 .cases a <;> simp
theorem Ff {P:Program} (w:World) {t E:TypeId} (hu:P.underlying t=some (.pointer E)) (a b:Option Addr) (h:a=none\/b=none) :
 (Op.equal t (.pointer a) (.pointer b)).run P w = .ok (a.isNone&&b.isNone) w:=zK 9999 w hu a b h
theorem wP (n0:Nat) {P:Program} (w:World) {t E:TypeId} (hu:P.underlying t=some (.slice E)) (a b:Option Addr) (n c m d:Nat) (h:a=none\/b=none) :
 (Op.equalIn (n0+1) t (.slice a n c) (.slice b m d)).run P w = .ok (a.isNone&&b.isNone) w:=by
 simp only [Op.equalIn,Sem.run_bind,run_underlying hu w,Result.andThen_ok]
 rcases h with rfl | rfl
 .simp
 .cases a <;> simp
theorem pZ {P:Program} (w:World) {t E:TypeId} (hu:P.underlying t=some (.slice E)) (a b:Option Addr) (n c m d:Nat) (h:a=none\/b=none) :
 (Op.equal t (.slice a n c) (.slice b m d)).run P w = .ok (a.isNone&&b.isNone) w:=wP 9999 w hu a b n c m d h
theorem wQ (n0:Nat) {P:Program} (w:World) {t:TypeId} {ms:Array (String × TypeId)} (hu:P.underlying t=some (.interface ms)) (a b:Value) (h:(a = .nilIface/\(b = .nilIface\/∃ u x,b = .iface u x))\/(∃ u x,a = .iface u x)/\b = .nilIface) :
 (Op.equalIn (n0+1) t a b).run P w = .ok ((a matches .nilIface)&&(b matches .nilIface)) w:=by
 simp only [Op.equalIn,Sem.run_bind,run_underlying hu w,Result.andThen_ok]
 rcases h with ⟨rfl,rfl | ⟨u,x,rfl⟩⟩ | ⟨⟨u,x,rfl⟩,rfl⟩ <;> simp
theorem lI {P:Program} (w:World) {t:TypeId} {ms:Array (String × TypeId)} (hu:P.underlying t=some (.interface ms)) (a b:Value) (h:(a = .nilIface/\(b = .nilIface\/∃ u x,b = .iface u x))\/(∃ u x,a = .iface u x)/\b = .nilIface) :
 (Op.equal t a b).run P w = .ok ((a matches .nilIface)&&(b matches .nilIface)) w:=wQ 9999 w hu a b h
theorem yB (n0:Nat) {P:Program} (w:World) {t:TypeId} (hu:P.underlying t=some .bool) (a b:Bool) :
 (Op.equalIn (n0+1) t (.bool a) (.bool b)).run P w = .ok (a==b) w:=by
 simp only [Op.equalIn,Sem.run_bind,run_underlying hu w,Result.andThen_ok]
 rfl
theorem run_equal_bool {P:Program} (w:World) {t:TypeId} (hu:P.underlying t=some .bool) (a b:Bool) :
 (Op.equal t (.bool a) (.bool b)).run P w = .ok (a==b) w:=yB 9999 w hu a b
theorem Wo {V:aY} {x:SV} {v:Value} {b:Bool} (h:TW x=some b) (hv:den V x=some v):∃ a,v = .pointer a/\a.isNone=b:=by
 unfold TW at h
 split at h
 .cases h;simp only [den,aU] at hv;subst hv;exact ⟨none,rfl,rfl⟩
 .cases h;simp only [den,Option.map_eq_some_iff] at hv;obtain ⟨p,_,rfl⟩:=hv;exact ⟨_,rfl,rfl⟩
 .cases h
theorem Wn {V:aY} {x:SV} {v:Value} {b:Bool} (h:TV x=some b) (hv:den V x=some v):∃ a n c,v = .slice a n c/\a.isNone=b:=by
 unfold TV at h
 split at h
 .cases h;simp only [den,aU] at hv;subst hv;exact ⟨none,_,_,rfl,rfl⟩
 .cases h;simp only [den,Option.map_eq_some_iff] at hv;obtain ⟨p,_,rfl⟩:=hv;exact ⟨_,_,_,rfl,rfl⟩
 .cases h
  simp only [den,Option.map_eq_some_iff,Option.bind_eq_some_iff] at hv
  obtain ⟨p,_,c,_,rfl⟩:=hv
  exact ⟨_,_,_,rfl,rfl⟩
 .cases h
theorem rR {V:aY} {x:SV} {v:Value} {b:Bool} (h:TX x=some b) (hv:den V x=some v):(b=true/\v = .nilIface)\/(b=false/\∃ u y,v = .iface u y):=by
 unfold TX at h
 split at h
 .cases h;simp only [den,aU] at hv;subst hv;exact .inl ⟨rfl,rfl⟩
 .cases h;simp only [den,Option.map_eq_some_iff] at hv;obtain ⟨p,_,rfl⟩:=hv;exact .inr ⟨rfl,_,_,rfl⟩
 .cases h
theorem vC {P:Program} (V:aY) {w:World} {op:BinOp} {b:Bool} {e:bJ} (h:uI op b=some e) {t:TypeId} {x y:Value}
 (hr:(Op.equal t x y).run P w = .ok b w) (hd:binOp op t x y=(match op with | .eql=>(do pure (.bool (<- Op.equal t x y))) | _=>(do pure (.bool (!(<- Op.equal t x y)))))) :
 ∃ z,(binOp op t x y).run P w = .ok z w/\den V e.val=some z/\e.new=[]/\e.wr=[]:=by
 rw [hd]
 cases op <;> simp only [uI,lit] at h <;> first | (cases h;done) | skip
 all_goals
  cases h
  exact ⟨_,by simp only [Sem.run_bind,hr,Result.andThen_ok,Sem.run_pure],rfl,rfl,rfl⟩
theorem aMl {P:Program} (V:aY) (w:World) {h:Option Bool} {op:BinOp} {d:TypeDesc} {X Y:Operand} {x y:SV} {t:TypeId} {e:bJ} {u v:Value}
 (he:eEq h op d ((X matches .const _)||(Y matches .const _)) x y=some e) (ho:∀ q∈e.bM,q) (hu:P.underlying t=some d) (hx:den V x=some u) (hy:den V y=some v) :
 ∃ z,((do eqGuard op t X Y u v;binOp op t u v):Sem Value).run P w = .ok z w/\den V e.val=some z/\e.new=[]/\e.wr=[]:=by
 unfold eEq at he
 split at he
 case h_1 E=>
  split at he
  .rename_i a b ha hb
   split at he
   .rename_i hab
    obtain ⟨p,rfl,rfl⟩:=Wo ha hx
    obtain ⟨q,rfl,rfl⟩:=Wo hb hy
    have hr:=Ff (P:=P) w hu p q (by cases p <;> cases q <;> simp at hab |-)
    obtain ⟨z,h1,h2⟩:=vC V he hr (by cases op <;> first | rfl | (cases he;done))
    refine ⟨z,?_,h2⟩
    rw [Sem.run_bind,cL w op t X Y _ _ (by simp) (by simp),Result.andThen_ok]
    exact h1
   .cases he
  .cases he
 case h_2 E=>
  split at he
  .rename_i a b ha hb
   split at he
   .rename_i hab
    obtain ⟨p,n,c,rfl,rfl⟩:=Wn ha hx
    obtain ⟨q,m,k,rfl,rfl⟩:=Wn hb hy
    have hr:=pZ (P:=P) w hu p q n c m k (by cases p <;> cases q <;> simp at hab |-)
    obtain ⟨z,h1,h2⟩:=vC V he hr (by cases op <;> first | rfl | (cases he;done))
    refine ⟨z,?_,h2⟩
    rw [Sem.run_bind,cL w op t X Y _ _ (by simp) (by simp),Result.andThen_ok]
    exact h1
   .cases he
  .cases he
 case h_3 ms=>
  split at he
  .rename_i ha hb
   split at he
   .rename_i Aq
    obtain ⟨_,rfl⟩ | ⟨hf,_⟩:=rR ha hx
    obtain ⟨_,rfl⟩ | ⟨hf,_⟩:=rR hb hy
    .have hr:=lI (P:=P) w hu .nilIface .nilIface (.inl ⟨rfl,.inl rfl⟩)
     obtain ⟨z,h1,h2⟩:=vC V he hr (by cases op <;> first | rfl | (cases he;done))
     refine ⟨z,?_,h2⟩
     rw [Sem.run_bind,zL w op t X Y Aq,Result.andThen_ok]
     exact h1
    .cases hf
    .cases hf
   .cases he
  .rename_i ha hb
   obtain ⟨_,rfl⟩ | ⟨hf,_⟩:=rR ha hx
   obtain ⟨hf,_⟩ | ⟨_,U,z,rfl⟩:=rR hb hy
   .cases hf
   .have hr:=lI (P:=P) w hu .nilIface (.iface U z) (.inl ⟨rfl,.inr ⟨_,_,rfl⟩⟩)
    obtain ⟨z,h1,h2⟩:=vC V he hr (by cases op <;> first | rfl | (cases he;done))
    refine ⟨z,?_,h2⟩
    rw [Sem.run_bind,cL w op t X Y _ _ (by simp) (by simp),Result.andThen_ok]
    exact h1
   .cases hf
  .rename_i ha hb
   obtain ⟨hf,_⟩ | ⟨_,U,z,rfl⟩:=rR ha hx
   .cases hf
   obtain ⟨_,rfl⟩ | ⟨hf,_⟩:=rR hb hy
   .have hr:=lI (P:=P) w hu (.iface U z) .nilIface (.inr ⟨⟨_,_,rfl⟩,rfl⟩)
    obtain ⟨z,h1,h2⟩:=vC V he hr (by cases op <;> first | rfl | (cases he;done))
    refine ⟨z,?_,h2⟩
    rw [Sem.run_bind,cL w op t X Y _ _ (by simp) (by simp),Result.andThen_ok]
    exact h1
   .cases hf
  .cases he
 case h_4=>
  split at he
  .rename_i sa a sb b
   simp only [den,aU] at hx hy
   subst hx;subst hy
   have hr:=run_equal_bool (P:=P) w hu a b
   have hg:=cL (P:=P) w op t X Y (.bool a) (.bool b) (by simp) (by simp)
   cases op <;> simp only at he <;> first | (cases he;done) | skip
   all_goals
    cases he
    obtain ⟨h1,h2,h3⟩:=JL V ho
    exact ⟨_,by rw [Sem.run_bind,hg,Result.andThen_ok];simp only [binOp,Sem.run_bind,hr,Result.andThen_ok,Sem.run_pure],h1,h2,h3⟩
  .cases he
 case h_5=>cases he
theorem Kh {P:Program} {Γ:Env} {V:aY} {w w0:World} {M:Nat->Prop} {T:aZ} {g:Nat->Option SV} {a:Act} (aT:cA P Γ) (ht:cE V g a) (hg:bL Γ V) (hT:aC w0 M V T w)
 {h:Option Bool} {op:BinOp} {t t2:TypeId} {x y:Operand} {o:Oper} (bT:o.op = .binOp op t x y t2) {e:bJ} (he:EI Γ g h op t x y=some e) (ho:∀ q∈e.bM,q) (lab:Nat) :
 kE P w0 M V T lab e o a w:=by
 unfold EI at he
 split at he
 .rename_i sa k A sb k2 B hx hy
  have ex:=bF ht hg hx
  have ey:=bF ht hg hy
  simp only [den,aU] at ex ey
  obtain ⟨z,h1,h2,h3,h4⟩:=aCo (P:=P) V w t he ho
  refine bC (x:=z) ?_ h2 h3 h4 hT
  unfold execOp
  simp only [bT,<- ex,<- ey,Sem.run_bind,cL w op t x y (.int k A) (.int k2 B) (by simp) (by simp),Result.andThen_ok,h1,Sem.run_pure]
 .rename_i u v _ hx hy
  split at he
  .rename_i ti dV
   obtain ⟨z,h1,h2,h3,h4⟩:=aMl (P:=P) V w he ho (aT t ti dV).1 (bF ht hg hx) (bF ht hg hy)
   refine bC (x:=z) ?_ h2 h3 h4 hT
   unfold execOp
   simp only [bT]
   rw [Sem.run_bind,h1]
   rfl
  .cases he
 .cases he
def eUn (Γ:Env) (g:Nat->Option SV) (op:UnOp) (x:Operand):Option bJ:=
 match op,ev Γ g x with
 | .neg,some (.int s k n)=>lit (.int s k (k.wrap (0-n)))
 | .xor,some (.int s k n)=>lit (.int s k (gO k (if k.signed then -1 else k.max) n))
 | .not,some (.bool s b)=>lit (.bool s (!b))
 | _,_=>none
theorem aMk {P:Program} {Γ:Env} {V:aY} {w w0:World} {M:Nat->Prop} {T:aZ} {g:Nat->Option SV} {a:Act} (ht:cE V g a) (hg:bL Γ V) (hT:aC w0 M V T w)
 {op:UnOp} {t:TypeId} {x:Operand} {o:Oper} (bT:o.op = .unOp op t x) {e:bJ} (he:eUn Γ g op x=some e) (lab:Nat):kE P w0 M V T lab e o a w:=by
 unfold eUn at he
 split at he <;> first | (cases he;done) | skip
 all_goals
  rename_i hx
  have ex:=bF ht hg hx
  simp only [den,aU] at ex
  simp only [lit,aU] at he
  subst he
  refine bC (by unfold execOp;simp only [bT,<- ex];rfl) rfl rfl rfl hT
def HF (Γ:Env) (g:Nat->Option SV) (src dst:TypeId) (x:Operand):Option bJ:=
 match ev Γ g x,Γ.ty src,Γ.ty dst with
 | some (.int s _ n),some _,some td=>match td.desc with
   | .int k=>lit (.int s k (k.wrap n))
   | _=>none
 | _,_,_=>none
theorem PQ {P:Program} {Γ:Env} {V:aY} {w w0:World} {M:Nat->Prop} {T:aZ} {g:Nat->Option SV} {a:Act} (aT:cA P Γ) (ht:cE V g a) (hg:bL Γ V) (hT:aC w0 M V T w)
 {src dst:TypeId} {x:Operand} {o:Oper} (bT:o.op = .convert src dst x) {e:bJ} (he:HF Γ g src dst x=some e) (lab:Nat):kE P w0 M V T lab e o a w:=by
 unfold HF at he
 split at he
 .rename_i s k0 n ts td hx h1 h2
  split at he
  .rename_i k hk
   have ex:=bF ht hg hx
   simp only [den,aU] at ex
   simp only [lit,aU] at he
   subst he
   refine bC (x:=.int k (k.wrap n)) ?_ rfl rfl rfl hT
   unfold execOp
   simp only [bT,<- ex,convert,Sem.run_bind,run_underlying (aT src ts h1).1 w,run_underlying (aT dst td h2).1 w,Result.andThen_ok,hk]
   rfl
  .cases he
 .cases he
def sE:TypeDesc->Bool
 | .struct _ | .array _ _=>true
 | _=>false
theorem bG (b o j:Nat):(⟨b,o,none⟩:Addr).add j=⟨b,o+j,none⟩:=by
 unfold Addr.add;split <;> simp_all
section Run
variable {P:Program} {w:World} {t:TypeId} {d:TypeDesc} {i:TypeInfo}
theorem eW (hu:P.underlying t=some d):(isAgg t).run P w = .ok (sE d) w:=by
 unfold isAgg
 rw [Sem.run_bind,run_underlying hu w]
 cases d <;> rfl
theorem run_sizeOf (hi:P.info? t=some i):(sizeOf t).run P w = .ok i.size w:=by
 simp [sizeOf,typeInfo,hi]
theorem eF {z:Value} (hi:P.info? t=some i) (hz:i.zero=some z):(zeroValue t).run P w = .ok z w:=by
 simp [zeroValue,typeInfo,hi,hz]
theorem dK (hu:P.underlying t=some d) (hi:P.info? t=some i) (b o:Nat) (xs:List Value) (hx:xs.length=i.size)
 (hc:∀ (j:Nat) (v:Value),xs[j]?=some v->w.cell? ⟨b,o+j,none⟩=some v) :
 (sE d=true->(loadVar t ⟨b,o,none⟩).run P w = .ok (.agg xs.toArray) w) /\
 (sE d=false->∀ x,xs=[x]->(loadVar t ⟨b,o,none⟩).run P w = .ok x w):=by
 refine ⟨fun h=>?_,fun h x gE=>?_⟩
 .have hl:=run_loadCells_list (P:=P) w ⟨b,o,none⟩ xs (fun j v hj=>by rw [bG];exact hc j v hj)
  rw [hx] at hl
  simp [loadVar,eW hu,h,run_sizeOf hi,hl]
 .subst gE
  have:=hc 0 x rfl
  simp only [Nat.add_zero] at this
  simp [loadVar,eW hu,h,this]
theorem Oi (v:Value) (h:v.oneCell'=true):v.cells = #[v]:=by cases v <;> first | rfl | (cases h;done)
end Run
def cellsOf:SV->List SV
 | .agg vs=>vs
 | v=>[v]
def TU:SV->Bool
 | .int .. | .bool .. | .ptr .. | .aG .. | .fn .. | .sH .. | .jH .. | .mS .. | .cP .. | .eV .. | .wT .. | .sP .. => true
 | .raw v=>v.oneCell'
 | _=>false
theorem Wi {V:aY}:∀ {v:SV} {x:Value},TU v=true->den V v=some x->x.oneCell'=true
 | .int ..,x,_,h=>by simp only [den,aU] at h;subst h;rfl
 | .bool ..,x,_,h=>by simp only [den,aU] at h;subst h;rfl
 | .ptr ..,x,_,h=>by simp only [den,Option.map_eq_some_iff] at h;obtain ⟨p,_,rfl⟩:=h;rfl
 | .aG ..,x,_,h=>by simp only [den,Option.map_eq_some_iff] at h;obtain ⟨p,_,rfl⟩:=h;rfl
 | .fn ..,x,_,h=>by simp only [den,Option.map_eq_some_iff,Option.bind_eq_some_iff] at h;obtain ⟨p,_,q,_,rfl⟩:=h;rfl
 | .sH ..,x,_,h=>by simp only [den,Option.map_eq_some_iff] at h;obtain ⟨p,_,rfl⟩:=h;rfl
 | .jH ..,x,_,h=>by
   simp only [den] at h
   split at h
   .cases h;rfl
   .cases h
 | .mS ..,x,_,h=>by
   simp only [den] at h
   split at h
   .cases h;rfl
   .cases h
 | .raw v,x,h1,h=>by simp only [den,aU] at h;subst h;exact h1
 | .agg ..,_,h,_=>by cases h
 | .ai ..,_,h,_=>by cases h
 | .eL ..,_,h,_=>by cases h
 | .buf ..,_,h,_=>by cases h
 | .cP ..,x,_,h=>by
   simp only [den,Option.map_eq_some_iff,Option.bind_eq_some_iff] at h
   obtain ⟨p,_,c,_,rfl⟩:=h
   rfl
 | .eV ..,x,_,h=>by
   simp only [den,Option.bind_eq_some_iff] at h
   obtain ⟨v,_,h⟩:=h
   rcases cY h with ⟨rfl,⟨⟨_,rfl⟩,_⟩ | ⟨b,o,c,rfl,_⟩⟩ <;> rfl
 | .sP ..,x,_,h=>by
   simp only [den,Option.bind_eq_some_iff] at h
   obtain ⟨v,_,h⟩:=h
   unfold zA at h
   split at h
   .simp only [Option.bind_eq_some_iff] at h
    obtain ⟨u,_,h⟩:=h
    rcases cY h with ⟨rfl,⟨⟨_,rfl⟩,_⟩ | ⟨b,o,c,rfl,_⟩⟩ <;> rfl
   .cases h
 | .wT ..,x,_,h=>by
   simp only [den,Option.bind_eq_some_iff] at h
   obtain ⟨v,_,h⟩:=h
   unfold Kx at h
   split at h
   .simp only [Option.bind_eq_some_iff] at h
    obtain ⟨u,_,h⟩:=h
    rcases cY h with ⟨rfl,⟨⟨_,rfl⟩,_⟩ | ⟨b,o,c,rfl,_⟩⟩ <;> rfl
   .cases h
def lL (vs:List SV):Bool:=vs.all TU
theorem nQ {V:aY}:∀ {vs:List SV} {xs:List Value},lL vs=true->aE V vs=some xs->∀ x∈xs,x.oneCell'=true
 | [],xs,_,h=>by simp only [aE,aU] at h;subst h;simp
 | v::vs,xs,h1,h=>by
   simp only [aE,Option.map_eq_some_iff,Option.bind_eq_some_iff] at h
   obtain ⟨x,hx,ys,hy,rfl⟩:=h
   simp only [lL,List.all_cons,Bool.and_eq_true] at h1
   intro z hz
   rcases List.mem_cons.1 hz with rfl | hz
   .exact Wi h1.1 hx
   .exact nQ (by simpa [lL] using h1.2) hy z hz
def rdL (cs:List SV) (s:Bool) (off n:Nat):Option (List Prop × List SV):=match s with
 | true=>match Nat.beq ((cs.drop off).take n).length n with
   | true=>some ([],(cs.drop off).take n)
   | false=>none
 | false=>none
def Uc (B:SB) (s:Bool) (off n:Nat):Option (List Prop × List SV):=
 match B with
 | .own cs _=>rdL cs s off n
 | .row _ cs _=>rdL cs s off n
 | .fP cs=>rdL cs s off n
 | .ints k xs _=>some ([off+n<=xs.length],(List.range n).map fun j=>.int false k (xs.getD (off+j) 0))
 | .nM k xs=>some ([off+n<=xs.length],(List.range n).map fun j=>.int false k (xs.getD (off+j) 0))
 | .eJ vs _=>some ([off+n<=vs.length],(List.range n).map fun j=>.raw (vs.getD (off+j) undef))
 | _=>none
theorem fZ {V:aY} (n:Nat) (f:Nat->SV) (g:Nat->Value) (h:∀ j,j<n->den V (f j)=some (g j)):aE V ((List.range n).map f)=some ((List.range n).map g):=by
 induction n with
 | zero=>simp [aE]
 | succ n ih=>
   rw [List.range_succ,List.map_append,List.map_append]
   exact cF (ih fun j hj=>h j (by omega)) (by simp [aE,h n (by omega)])
theorem pG {V:aY} {w:World} {l:Nat} {B:SB} {s:Bool} {off n:Nat} {ob:List Prop} {r:List SV} {b o:Nat} (hB:okB V w l B) (hβ:V.β l=some (b,o))
 (h:Uc B s off n=some (ob,r)) (ho:∀ q∈ob,q) :
 ∃ xs:List Value,aE V r=some xs/\xs.length=n/\∀ (j:Nat) (v:Value),xs[j]?=some v->w.cell? ⟨b,o+off+j,none⟩=some v:=by
 obtain ⟨cs,hc,h2⟩:=hB
 have key:(∀ (j:Nat) (v:Value),cs[j]?=some v->w.cell? ⟨b,o+j,none⟩=some v)\/(∀ b o,V.β l=some (b,o)->False)\/(∃ k xs ty,B = .cT k xs ty)\/B = .gone:=by
  cases B with
  | own cells ty=>obtain ⟨b',hb,hh⟩:=h2;rw [hβ] at hb;cases hb;left;intro j v hj;rw [cell_of_row w b (0+j) _ _ _ hh];simpa using hj
  | ints k xs ty=>obtain ⟨b',hb,hh⟩:=h2;rw [hβ] at hb;cases hb;left;intro j v hj;rw [cell_of_row w b (0+j) _ _ _ hh];simpa using hj
  | eJ vs ty=>obtain ⟨b',hb,hh⟩:=h2;rw [hβ] at hb;cases hb;left;intro j v hj;rw [cell_of_row w b (0+j) _ _ _ hh];simpa using hj
  | fP cells=>obtain ⟨b',o',hb,_,hh⟩:=h2;rw [hβ] at hb;cases hb;exact .inl hh
  | nM k xs=>obtain ⟨b',o',hb,_,hh⟩:=h2;rw [hβ] at hb;cases hb;exact .inl hh
  | cT k xs ty=>exact .inr (.inr (.inl ⟨_,_,_,rfl⟩))
  | fT=>cases h
  | row sz cells ty=>
    obtain ⟨b',cap,cur,hb,_,hh,_,_,_,cR⟩:=h2
    rw [hβ] at hb;cases hb
    left
    intro j v hj
    rw [cell_of_row w b (0+j) _ _ _ hh]
    rw [<- cR,List.getElem?_take] at hj
    split at hj
    .simpa using hj
    .cases hj
  | iS=>cases h
  | gQ=>cases h
  | lU=>cases h
  | nH=>cases h
  | fI=>cases h
  | eM=>cases h
  | qI=>cases h
  | gK=>cases h
  | gone=>exact .inr (.inr (.inr rfl))
 have Kr:∀ cells:List SV,rdL cells s off n=some (ob,r) ->
  aE V cells=some cs->∃ xs:List Value,aE V r=some xs/\xs.length=n/\∀ (j:Nat) (v:Value),xs[j]?=some v->cs[off+j]?=some v:=by
  intro cells h hc
  unfold rdL at h
  split at h
  .split at h
   .rename_i hlen
    simp only [aU,Prod.mk.injEq] at h
    obtain ⟨rfl,rfl⟩:=h
    have hd:=eK n (jC off hc)
    refine ⟨_,hd,by rw [bB hd];exact cH hlen,fun j v hj=>?_⟩
    rw [List.getElem?_take] at hj
    split at hj
    .rwa [List.getElem?_drop] at hj
    .cases hj
   .cases h
  .cases h
 have rng:∀ (f:Nat->SV) (gv:Nat->Value),(∀ j,off+j<cs.length->den V (f j)=some (gv j)/\cs[off+j]?=some (gv j))->off+n<=cs.length->r=(List.range n).map f ->
  ∃ xs:List Value,aE V r=some xs/\xs.length=n/\∀ (j:Nat) (v:Value),xs[j]?=some v->cs[off+j]?=some v:=by
  intro f gv hf hn hr
  subst hr
  refine ⟨_,fZ n f gv (fun j hj=>(hf j (by omega)).1),by simp,fun j v hj=>?_⟩
  by_cases cI:j<n
  .simp only [List.getElem?_map,List.getElem?_range cI,Option.map_some,aU] at hj
   subst hj
   exact (hf j (by omega)).2
  .rw [List.getElem?_eq_none (by simp;omega)] at hj;cases hj
 have fin:∀ xs:List Value,(∀ (j:Nat) (v:Value),xs[j]?=some v->cs[off+j]?=some v)->(∀ (j:Nat) (v:Value),cs[j]?=some v->w.cell? ⟨b,o+j,none⟩=some v) ->
  ∀ (j:Nat) (v:Value),xs[j]?=some v->w.cell? ⟨b,o+off+j,none⟩=some v:=fun xs h1 h2 j v hj=>by
  rw [Nat.add_assoc];exact h2 _ _ (h1 j v hj)
 rcases key with key | key | ⟨k,xs,ty,rfl⟩ | rfl
 .cases B with
  | own cells ty=>obtain ⟨xs,h1,h2,h3⟩:=Kr cells h hc;exact ⟨xs,h1,h2,fin xs h3 key⟩
  | fP cells=>obtain ⟨xs,h1,h2,h3⟩:=Kr cells h hc;exact ⟨xs,h1,h2,fin xs h3 key⟩
  | row sz cells ty=>obtain ⟨xs,h1,h2,h3⟩:=Kr cells h hc;exact ⟨xs,h1,h2,fin xs h3 key⟩
  | ints k ys ty=>
    simp only [Uc,aU,Prod.mk.injEq] at h
    obtain ⟨rfl,rfl⟩:=h
    simp only [SB.cells,aU] at hc
    subst hc
    have hn:off+n<=ys.length:=ho _ (by simp)
    obtain ⟨xs,h1,h2,h3⟩:=rng _ (fun j=>.int k (ys.getD (off+j) 0)) (fun j hj=>⟨rfl,by
     have hj':off+j<ys.length:=by simpa using hj
     simp [hj',List.getD_eq_getElem?_getD]⟩) (by simpa using hn) rfl
    exact ⟨xs,h1,h2,fin xs h3 key⟩
  | nM k ys=>
    simp only [Uc,aU,Prod.mk.injEq] at h
    obtain ⟨rfl,rfl⟩:=h
    simp only [SB.cells,aU] at hc
    subst hc
    have hn:off+n<=ys.length:=ho _ (by simp)
    obtain ⟨xs,h1,h2,h3⟩:=rng _ (fun j=>.int k (ys.getD (off+j) 0)) (fun j hj=>⟨rfl,by
     have hj':off+j<ys.length:=by simpa using hj
     simp [hj',List.getD_eq_getElem?_getD]⟩) (by simpa using hn) rfl
    exact ⟨xs,h1,h2,fin xs h3 key⟩
  | eJ ys ty=>
    simp only [Uc,aU,Prod.mk.injEq] at h
    obtain ⟨rfl,rfl⟩:=h
    simp only [SB.cells,aU] at hc
    subst hc
    have hn:off+n<=ys.length:=ho _ (by simp)
    obtain ⟨xs,h1,h2,h3⟩:=rng _ (fun j=>ys.getD (off+j) undef) (fun j hj=>⟨rfl,by
     have hj':off+j<ys.length:=by simpa using hj
     simp [hj',List.getD_eq_getElem?_getD]⟩) (by simpa using hn) rfl
    exact ⟨xs,h1,h2,fin xs h3 key⟩
  | cT=>cases h
  | gQ=>cases h
  | fT=>cases h
  | iS=>cases h
  | lU=>cases h
  | nH=>cases h
  | fI=>cases h
  | eM=>cases h
  | qI=>cases h
  | gK=>cases h
  | gone=>cases h
 .exact (key b o hβ).elim
 .cases h
 .cases h
def cX (k:IntKind):List SV->Option (List Int)
 | []=>some []
 | .int _ k2 n::r=>match decide (k=k2) with
   | true=>(cX k r).map (n :: ·)
   | false=>none
 | _=>none
theorem cU {V:aY} {k:IntKind}:∀ {vs:List SV} {ns:List Int},cX k vs=some ns->aE V vs=some (ns.map (Value.int k))
 | [],ns,h=>by simp only [cX,aU] at h;subst h;simp [aE]
 | .int s k2 n::r,ns,h=>by
   simp only [cX] at h
   split at h
   .rename_i hd
    have:=of_decide_eq_true hd
    subst this
    simp only [Option.map_eq_some_iff] at h
    obtain ⟨ms,hm,rfl⟩:=h
    simp [aE,den,cU hm]
   .cases h
 | .bool .. :: r,_,h=>by cases h
 | .ptr .. :: r,_,h=>by cases h
 | .aG .. :: r,_,h=>by cases h
 | .agg .. :: r,_,h=>by cases h
 | .eL .. :: r,_,h=>by cases h
 | .fn .. :: r,_,h=>by cases h
 | .sH .. :: r,_,h=>by cases h
 | .raw .. :: r,_,h=>by cases h
 | .buf .. :: r,_,h=>by cases h
 | .jH .. :: r,_,h=>by cases h
 | .mS .. :: r,_,h=>by cases h
 | .eV .. :: r,_,h=>by cases h
 | .ai .. :: r,_,h=>by cases h
theorem aC.change {w0 w w':World} {M:Nat->Prop} {V:aY} {T:aZ} (h:aC w0 M V T w) {l:Nat} {B0 B:SB} {b:Nat} (hl:T l=some B0) (fJ:B0.owned=true) (h0:B0.aN V l=some b)
 (lS:okB V w' l B) (hb:B.aN V l=some b) (Ux:w.heap.size<=w'.heap.size) (Uz:∀ n,n<w.heap.size->n≠b->w'.heap[n]?=w.heap[n]?)
 (hos:w'.os=w.os) (Md:w'.tape=w.tape) (DV:w'.output=w.output) (lab:Nat) (v:SV) (ob:List Prop) (Pk:B.plain=true:=by rfl) :
 aC w0 M V (eI T lab { bM:=ob,val:=v,wr:=[(l,B)] }) w':=by
 refine h.step (N:=fun k=>if k=l then some B else none) (aY.le_refl V) (fun k C hk=>?_) (fun k C hk=>?_) (fun k C n hk iE=>?_) (fun k C k' C' n dD hk gW=>?_) Ux (fun n hn hx=>?_) hos Md DV (fun k C hk=>cV ?_)
 .simp only [eI,bJ.eG,fO,List.append_nil] at hk
  by_cases e:l=k
  .subst e;rw [aI] at hk;left;simpa using hk
  .rw [aD e] at hk;right;simp only [look] at hk;exact ⟨if_neg (fun x=>e x.symm),hk⟩
 .by_cases e:k=l
  .subst e
   simp only [if_true,aU] at hk
   subst hk
   exact lS
  .simp [e] at hk
 .by_cases e:k=l
  .subst e
   simp only [if_true,aU] at hk
   subst hk
   right;left
   rw [hb] at iE
   cases iE
   exact ⟨k,B0,hl,fJ,h0,by simp⟩
  .simp [e] at hk
 .by_cases e:k=l
  .by_cases e':k'=l
   .omega
   .simp [e'] at gW
  .simp [e] at hk
 .refine Uz n hn fun e=>?_
  subst e
  exact hx l B0 hl fJ (by simp) h0
 .split at hk
  .cases hk;exact Pk
  .cases hk
theorem Oe {α:Type} (cur cs xs:List α) (off:Nat) (h:cur.take cs.length=cs) (hle:off+xs.length<=cs.length) :
 (cur.take off++xs++cur.drop (off+xs.length)).take cs.length=cs.take off++xs++cs.drop (off+xs.length):=by
 have hl:cs.length<=cur.length:=by
  have:=congrArg List.length h
  rw [List.length_take] at this
  omega
 apply List.ext_getElem?
 intro j
 have hj:∀ i,i<cs.length->cur[i]?=cs[i]?:=fun i hi=>by
  have:=congrArg (fun z=>z[i]?) h
  simpa [List.getElem?_take,hi] using this
 rw [List.getElem?_take]
 have e1:(cur.take off).length=off:=by simp;omega
 have e2:(cs.take off).length=off:=by simp;omega
 split
 .rename_i cI
  simp only [List.getElem?_append,List.length_append,e1,e2,List.getElem?_take,List.getElem?_drop]
  split
  .split
   .rename_i h3;exact hj j cI
   .rfl
  .rw [hj _ (by omega)]
 .rename_i RG
  symm
  apply List.getElem?_eq_none
  simp
  omega
def CM (B:SB) (s:Bool) (off:Nat) (vs:List SV):Option (List Prop × SB):=
 match B with
 | .own cs ty=>match s with
   | true=>match Nat.ble (off+vs.length) cs.length with
     | true=>some ([],.own (cs.take off++vs++cs.drop (off+vs.length)) ty)
     | false=>none
   | false=>match vs with
     | [.int _ k n]=>match cX k cs with
       | some ys=>some ([off<ys.length],.ints k (ys.set off n) ty)
       | none=>none
     | _=>none
 | .row sz cs ty=>match s with
   | true=>match Nat.ble (off+vs.length) cs.length with
     | true=>some ([],.row sz (cs.take off++vs++cs.drop (off+vs.length)) ty)
     | false=>none
   | false=>none
 | .ints k xs ty=>match vs with
   | [.int _ k2 n]=>match decide (k=k2) with
     | true=>some ([off<xs.length],.ints k (xs.set off n) ty)
     | false=>none
   | _=>match cX k vs with
     | some ns=>some ([off+ns.length<=xs.length],.ints k (xs.take off++ns++xs.drop (off+ns.length)) ty)
     | none=>none
 | .eJ us ty=>match vs with
   | [.raw u]=>some ([off<us.length],.eJ (us.set off u) ty)
   | _=>none
 | _=>none
theorem tO {α:Type} (l:List α) (i:Nat) (x:α) (h:i<l.length):l.set i x=l.take i++[x]++l.drop (i+1):=by
 rw [List.set_eq_take_append_cons_drop,if_pos h];simp
theorem Il {V:aY} {w w0:World} {M:Nat->Prop} {T:aZ} {l:Nat} {B B':SB} {s:Bool} {off:Nat} {vs:List SV} {ob:List Prop} {b o:Nat} {P:Program} {xs:List Value} (lab:Nat) (rv:SV)
 (hT:aC w0 M V T w) (hl:T l=some B) (hβ:V.β l=some (b,o)) (h:CM B s off vs=some (ob,B')) (ho:∀ q∈ob,q) (hx:aE V vs=some xs) (h1:∀ x∈xs,x.oneCell'=true) :
 ∃ w',(storeCells ⟨b,o+off,none⟩ xs).run P w = .ok () w'/\aC w0 M V (eI T lab { bM:=ob,val:=rv,wr:=[(l,B')] }) w':=by
 have lS:=hT.ok l B hl
 obtain ⟨cs,hc,h2⟩:=lS
 cases B with
 | own cells ty=>
   obtain ⟨b',hb,hh⟩:=h2
   rw [hβ] at hb;cases hb
   simp only [CM] at h
   split at h
   .split at h
    .rename_i hle
     simp only [aU,Prod.mk.injEq] at h
     obtain ⟨rfl,rfl⟩:=h
     have UJ:=Nat.le_of_ble_eq_true hle
     have hlen:=bB (show aE V cells=some cs from hc)
     have Fp:=bB hx
     refine ⟨_,run_storeCells_at P b (0+off) ty xs 0 cs.toArray w hh (by simp;omega) h1,?_⟩
     have bV:aE V (cells.take off++vs++cells.drop (off+vs.length))=some (cs.take off++xs++cs.drop (off+xs.length)):=by
      rw [Fp]
      exact cF (cF (eK off hc) hx) (jC _ hc)
     have:=hT.write (B0:=.own cells ty) (B:=.own (cells.take off++vs++cells.drop (off+vs.length)) ty) hl hβ rfl (by simp [SB.aN,hβ]) hh bV (.inl rfl) lab rv []
     simpa using this
    .cases h
   .split at h
    case h_2=>cases h
    rename_i s2 k n
    split at h
    case h_2=>cases h
    rename_i ys qK
    simp only [aU,Prod.mk.injEq] at h
    obtain ⟨rfl,rfl⟩:=h
    have cI:off<ys.length:=ho _ (by simp)
    have lW:=cU (V:=V) qK
    rw [show aE V cells=some cs from hc] at lW
    cases lW
    simp only [aE,den,Option.bind_some,Option.map_some,aU] at hx
    subst hx
    refine ⟨_,run_storeCells_at P b (0+off) ty _ 0 _ w hh (by simp;omega) h1,?_⟩
    have bV:SB.cells V (.ints k (ys.set off n) ty)=some ((ys.map (Value.int k)).take off++[Value.int k n]++(ys.map (Value.int k)).drop (off+1)):=by
     rw [tO ys off n cI]
     simp [SB.cells,List.map_take,List.map_drop]
    have:=hT.write (B0:=.own cells ty) (B:=.ints k (ys.set off n) ty) hl hβ rfl (by simp [SB.aN,hβ]) hh bV (.inr (.inl rfl)) lab rv [off<ys.length]
    simpa using this
 | row sz cells ty=>
   obtain ⟨b',cap,cur,hb,hσ,hh,DC,lW,⟨n,hn,RF⟩,cR⟩:=h2
   rw [hβ] at hb;cases hb
   simp only [CM] at h
   split at h
   .split at h
    .rename_i hle
     simp only [aU,Prod.mk.injEq] at h
     obtain ⟨rfl,rfl⟩:=h
     have UJ:=Nat.le_of_ble_eq_true hle
     have hlen:=bB (show aE V cells=some cs from hc)
     have Fp:=bB hx
     have pT:cs.length<=cur.size:=by rw [hn,lW];exact Nat.mul_le_mul_right _ RF
     have bV:aE V (cells.take off++vs++cells.drop (off+vs.length))=some (cs.take off++xs++cs.drop (off+xs.length)):=by
      rw [Fp]
      exact cF (cF (eK off hc) hx) (jC _ hc)
     have SC:(cs.take off++xs++cs.drop (off+xs.length)).length=cs.length:=by simp;omega
     refine ⟨_,run_storeCells_at P b (0+off) ty xs 0 cur w hh (by simp;omega) h1,?_⟩
     have Bx:=setRow_heap w b cur (cur.toList.take (0+off+0)++xs++cur.toList.drop (0+off+0+xs.length)).toArray ty (0,0) hh
     have aYu:okB V (w.setRow b (cur.toList.take (0+off+0)++xs++cur.toList.drop (0+off+0+xs.length)).toArray) l (.row sz (cells.take off++vs++cells.drop (off+vs.length)) ty):=by
      refine ⟨_,bV,b,cap,_,hβ,hσ,Bx,DC,?_,⟨n,by rw [SC,hn],RF⟩,?_⟩
      .simp [<- lW];omega
      .rw [SC]
       simpa using Oe cur.toList cs xs off cR (by omega)
     exact hT.change (B0:=.row sz cells ty) (b:=b) hl rfl (by simp [SB.aN,hβ]) aYu (by simp [SB.aN,hβ]) (by simp) (fun n _ dD=>setRow_other w b n _ dD) rfl rfl rfl lab rv []
    .cases h
   .cases h
 | ints k ys ty=>
   obtain ⟨b',hb,hh⟩:=h2
   rw [hβ] at hb;cases hb
   simp only [SB.cells,aU] at hc
   subst hc
   have gen:∀ ns:List Int,aE V vs=some (ns.map (Value.int k))->off+ns.length<=ys.length->∀ ob,
    ∃ w',(storeCells ⟨b,0+off,none⟩ xs).run P w = .ok () w'/\aC w0 M V (eI T lab { bM:=ob,val:=rv,wr:=[(l,.ints k (ys.take off++ns++ys.drop (off+ns.length)) ty)] }) w':=by
    intro ns hns hle ob
    rw [hx] at hns
    cases hns
    refine ⟨_,run_storeCells_at P b (0+off) ty _ 0 _ w hh (by simp;omega) h1,?_⟩
    have bV:SB.cells V (.ints k (ys.take off++ns++ys.drop (off+ns.length)) ty)=some ((ys.map (Value.int k)).take off++ns.map (Value.int k)++(ys.map (Value.int k)).drop (off+(ns.map (Value.int k)).length)):=by
     simp [SB.cells,List.map_take,List.map_drop]
    have:=hT.write (B0:=.ints k ys ty) (B:=.ints k (ys.take off++ns++ys.drop (off+ns.length)) ty) hl hβ rfl (by simp [SB.aN,hβ]) hh bV (.inr (.inl rfl)) lab rv ob
    simpa using this
   simp only [CM] at h
   split at h
   .rename_i s2 k2 n
    split at h
    .rename_i hd
     have:=of_decide_eq_true hd
     subst this
     simp only [aU,Prod.mk.injEq] at h
     obtain ⟨rfl,rfl⟩:=h
     have cI:off<ys.length:=ho _ (by simp)
     obtain ⟨w',hr,oE⟩:=gen [n] (by simp [aE,den]) (by simp only [List.length_singleton];omega) [off<ys.length]
     rw [tO ys off n cI]
     exact ⟨w',hr,oE⟩
    .cases h
   .split at h
    .rename_i ns hns
     simp only [aU,Prod.mk.injEq] at h
     obtain ⟨rfl,rfl⟩:=h
     have hle:off+ns.length<=ys.length:=ho _ (by simp)
     exact gen ns (cU hns) hle _
    .cases h
 | eJ us ty=>
   obtain ⟨b',hb,hh⟩:=h2
   rw [hβ] at hb;cases hb
   simp only [SB.cells,aU] at hc
   subst hc
   simp only [CM] at h
   split at h
   case h_2=>cases h
   rename_i u
   simp only [aU,Prod.mk.injEq] at h
   obtain ⟨rfl,rfl⟩:=h
   have cI:off<us.length:=ho _ (by simp)
   simp only [aE,den,Option.bind_some,Option.map_some,aU] at hx
   subst hx
   refine ⟨_,run_storeCells_at P b (0+off) ty _ 0 _ w hh (by simp;omega) h1,?_⟩
   have:=hT.write (B0:=.eJ us ty) (B:=.eJ (us.set off u) ty) hl hβ rfl (by simp [SB.aN,hβ]) hh (cs:=us.take off++[u]++us.drop (off+[u].length)) (by rw [SB.cells,tO us off u cI];rfl) (.inr (.inr rfl)) lab rv [off<us.length]
   simpa using this
 | _=>cases h
section Ht
variable {P:Program} {Γ:Env} {V:aY} {w w0:World} {M:Nat->Prop} {T:aZ} {g:Nat->Option SV} {a:Act} {o:Oper} {e:bJ}
def HE (Γ:Env) (g:Nat->Option SV) (T:aZ) (t:TypeId) (x:Operand):Option bJ:=
 match ev Γ g x,Γ.ty t with
 | some (.ptr l s off),some ti=>match T l with
   | some B=>match Uc B s off ti.size with
     | some (ob,r)=>match sE ti.desc with
       | true=>some (dW (.agg r) ob)
       | false=>match r with
         | [v]=>some (dW v ob)
         | _=>none
     | none=>none
   | none=>none
 | some (.jH l off),some ti=>match T l,sE ti.desc with
   | some (.cT k xs _),false=>some (dW (.int false k (xs.getD off 0)) [off<xs.length])
   | some (.gQ k xs),false=>some (dW (.int false k (xs.getD off 0)) [off<xs.length])
   | _,_=>none
 | _,_=>none
theorem PO (aT:cA P Γ) (ht:cE V g a) (hg:bL Γ V) {T':aZ} (aL:∀ l B,T' l=some B->T l=some B) (hT:aC w0 M V T w) {t:TypeId} {x:Operand} (bT:o.op = .load t x)
 (he:HE Γ g T' t x=some e) (ho:∀ q∈e.bM,q) (lab:Nat):kE P w0 M V T lab e o a w:=by
 unfold HE at he
 split at he
 .rename_i l s off ti hx dV
  have ex:=bF ht hg hx
  simp only [den,Option.map_eq_some_iff] at ex
  obtain ⟨⟨b,base⟩,hβ,ex⟩:=ex
  obtain ⟨hu,i,z,hi,gJ,_⟩:=aT t ti dV
  split at he
  .rename_i B hB
   have lS:=hT.ok l B (aL l B hB)
   split at he
   .rename_i ob r hr
    split at he
    .rename_i gL
     simp only [dW,aU] at he
     subst he
     obtain ⟨xs,h1,h2,h3⟩:=pG lS hβ hr ho
     have:=(dK hu hi b (base+off) xs (by rw [h2,gJ]) h3).1 gL
     refine bC (x:=.agg xs.toArray) ?_ (by simp [den,h1]) rfl rfl hT
     unfold execOp
     simp only [bT,<- ex,Instr.loadAt,Instr.sureAddr,Sem.run_bind,Sem.run_pure,Result.andThen_ok,this]
    .rename_i gL
     split at he
     .rename_i v
      simp only [dW,aU] at he
      subst he
      obtain ⟨xs,h1,h2,h3⟩:=pG lS hβ hr ho
      simp only [aE,Option.map_eq_some_iff,Option.bind_eq_some_iff] at h1
      obtain ⟨y,hy,ys,qK,rfl⟩:=h1
      simp only [aU] at qK
      subst qK
      have:=(dK hu hi b (base+off) [y] (by rw [h2,gJ]) h3).2 gL y rfl
      refine bC (x:=y) ?_ hy rfl rfl hT
      unfold execOp
      simp only [bT,<- ex,Instr.loadAt,Instr.sureAddr,Sem.run_bind,Sem.run_pure,Result.andThen_ok,this]
     .cases he
   .cases he
  .cases he
 .rename_i l off ti hx dV
  have ex:=bF ht hg hx
  obtain ⟨hu,i,z,hi,gJ,_⟩:=aT t ti dV
  split at he
  .rename_i k xs ty hB gL
   simp only [dW,aU] at he
   subst he
   have cI:off<xs.length:=ho _ (by simp)
   obtain ⟨cs,hc,v,hσ,bK⟩:=hT.ok l _ (aL l _ hB)
   simp only [SB.cells,aU] at hc
   subst hc
   simp only [den,hσ] at ex
   obtain ⟨⟨_,bK⟩,_⟩:=bK
   rcases bK with ⟨_,h0⟩ | ⟨gb,cap,cur,rfl,_,hh,_,_,_,cR⟩
   .rw [h0] at cI;omega
   .simp only [aU] at ex
    have fE:w.cell? ⟨gb,0+off,none⟩=some (.int k (xs.getD off 0)):=by
     rw [cell_of_row w gb _ _ _ _ hh]
     have h5:(cur.toList.take (xs.length*1))[off]?=some (.int k (xs.getD off 0)):=by
      rw [cR];simp [cI,List.getD_eq_getElem?_getD]
     rw [List.getElem?_take] at h5
     split at h5
     .simpa using h5
     .cases h5
    refine bC (x:=.int k (xs.getD off 0)) ?_ rfl rfl rfl hT
    unfold execOp
    rw [bG] at ex
    simp only [Nat.zero_add] at ex fE
    simp only [bT,<- ex,Instr.loadAt,Instr.sureAddr,loadVar,Sem.run_bind,Sem.run_pure,Result.andThen_ok,eW hu,gL,Bool.false_eq_true,if_false,run_load,fE]
  .rename_i k xs hB gL
   simp only [dW,aU] at he
   subst he
   have cI:off<xs.length:=ho _ (by simp)
   obtain ⟨cs,hc,v,hσ,bK⟩:=hT.ok l _ (aL l _ hB)
   simp only [SB.cells,aU] at hc
   subst hc
   simp only [den,hσ] at ex
   rcases bK with ⟨_,h0⟩ | ⟨gb,go,cap,rfl,_,_,hh⟩
   .rw [h0] at cI;simp at cI
   .simp only [aU] at ex
    have fE:w.cell? ⟨gb,go+off,none⟩=some (.int k (xs.getD off 0)):=hh off _ (by simp [cI,List.getD_eq_getElem?_getD])
    refine bC (x:=.int k (xs.getD off 0)) ?_ rfl rfl rfl hT
    unfold execOp
    rw [bG] at ex
    simp only [bT,<- ex,Instr.loadAt,Instr.sureAddr,loadVar,Sem.run_bind,Sem.run_pure,Result.andThen_ok,eW hu,gL,Bool.false_eq_true,if_false,run_load,fE]
  .cases he
 .cases he
def VC (T:aZ) (l:Nat):Bool:=match T l with
 | some (.cT ..)=>true
 | some (.fT ..)=>true
 | some (.eM ..)=>true
 | _=>false
theorem Xm {T':aZ} (aL:∀ l B,T' l=some B->T l=some B) {l:Nat} {x:Value} (hT:aC w0 M V T w) (h:VC T' l=true) (hx:den V (.buf l)=some x):x.oneCell'=true/\x.cells = #[x]:=by
 unfold VC at h
 split at h
 .rename_i hB
  obtain ⟨_,_,u,hσ,bK,_⟩:=hT.ok l _ (aL l _ hB)
  simp only [den] at hx
  rw [hσ] at hx;cases hx
  rcases bK.2 with ⟨rfl,_⟩ | ⟨_,_,_,rfl,_⟩ <;> exact ⟨rfl,rfl⟩
 .rename_i hB
  obtain ⟨_,_,lS⟩:=hT.ok l _ (aL l _ hB)
  obtain ⟨cs,u,hσ,bK,_⟩:=lS
  simp only [den] at hx
  rw [hσ] at hx;cases hx
  rcases bK.2 with ⟨rfl,_⟩ | ⟨_,_,_,rfl,_⟩ <;> exact ⟨rfl,rfl⟩
 .rename_i hB
  obtain ⟨_,_,u,hσ,bK⟩:=hT.ok l _ (aL l _ hB)
  simp only [den] at hx
  rw [hσ] at hx;cases hx
  rcases bK.2 with ⟨rfl,_⟩ | ⟨_,_,_,rfl,_⟩ <;> exact ⟨rfl,rfl⟩
 .cases h
def Bo (T:aZ) (vs:List SV):Bool:=vs.all fun v=>match v with
 | .buf l=>VC T l
 | v=>TU v
theorem Cx {T':aZ} (aL:∀ l B,T' l=some B->T l=some B) (hT:aC w0 M V T w):∀ {vs:List SV} {xs:List Value},Bo T' vs=true->aE V vs=some xs->∀ x∈xs,x.oneCell'=true
 | [],xs,_,h=>by simp only [aE,aU] at h;subst h;simp
 | v::vs,xs,h1,h=>by
   simp only [aE,Option.map_eq_some_iff,Option.bind_eq_some_iff] at h
   obtain ⟨x,hx,ys,hy,rfl⟩:=h
   simp only [Bo,List.all_cons,Bool.and_eq_true] at h1
   intro z hz
   rcases List.mem_cons.1 hz with rfl | hz
   .have h1:=h1.1
    split at h1
    .exact (Xm aL hT h1 hx).1
    .exact Wi h1 hx
   .exact Cx aL hT (by simpa [Bo] using h1.2) hy z hz
theorem rI {T':aZ} (aL:∀ l B,T' l=some B->T l=some B) (hT:aC w0 M V T w) {v:SV} {x:Value} (h1:Bo T' (cellsOf v)=true) (h:den V v=some x):aE V (cellsOf v)=some x.cells.toList:=by
 cases v with
 | agg vs=>
   simp only [den,Option.map_eq_some_iff] at h
   obtain ⟨xs,hx,rfl⟩:=h
   simpa [cellsOf,Value.cells] using hx
 | _=>
   have iT:x.oneCell'=true:=Cx aL hT (vs:=[_]) (xs:=[x]) (by simpa [cellsOf] using h1) (by simp [aE,h]) x (by simp)
   rw [Oi x iT]
   simp [cellsOf,aE,h]
def Rg (Γ:Env) (g:Nat->Option SV) (T:aZ) (t:TypeId) (x y:Operand):Option bJ:=
 match ev Γ g x,ev Γ g y,Γ.ty t with
 | some (.ptr l s off),some v,some ti=>match T l,Nat.beq (cellsOf v).length ti.size,Bo T (cellsOf v) with
   | some B,true,true=>match CM B s off (cellsOf v) with
     | some (ob,B')=>some { bM:=ob,val:=.raw undef,wr:=[(l,B')] }
     | none=>none
   | _,_,_=>none
 | _,_,_=>none
theorem AY (aT:cA P Γ) (ht:cE V g a) (hg:bL Γ V) {T':aZ} (aL:∀ l B,T' l=some B->T l=some B) (hT:aC w0 M V T w) {t:TypeId} {x y:Operand} (bT:o.op = .store t x y)
 (he:Rg Γ g T' t x y=some e) (ho:∀ q∈e.bM,q) (lab:Nat):kE P w0 M V T lab e o a w:=by
 unfold Rg at he
 split at he
 .rename_i l s off v ti hx hy dV
  have ex:=bF ht hg hx
  simp only [den,Option.map_eq_some_iff] at ex
  obtain ⟨⟨b,base⟩,hβ,ex⟩:=ex
  have ey:=bF ht hg hy
  obtain ⟨hu,i,z,hi,gJ,_⟩:=aT t ti dV
  split at he
  .rename_i B hB hlen iT
   split at he
   .rename_i ob B' hw
    simp only [aU] at he
    subst he
    have bV:=rI aL hT iT ey
    have aTk:=Cx aL hT iT bV
    obtain ⟨w',h1,h2⟩:=Il (P:=P) lab (.raw undef) hT (aL l B hB) hβ hw ho bV aTk
    intro K Q hK
    have hl:(a.eval y).cells.size=i.size:=by
     have:=bB bV
     rw [gJ,<- cH hlen,<- this];simp
    unfold Oper.wp
    have dR:(execOp a.eval o).run P w = .ok .skip w':=by
     unfold execOp
     simp [bT,<- ex,Instr.storeAt,Instr.sureAddr,storeVar,run_sizeOf hi,hl,h1]
    rw [dR,Oper.upon_skip]
    exact hK V undef w' (V.cN lab) rfl h2
   .cases he
  .cases he
 .cases he
theorem Vv (hT:aC w0 M V T w) {lab:Nat} (hf:V.fresh lab) {cells:List SV} {cs:List Value} {ty:TypeId} (hc:aE V cells=some cs)
 (hr:(execOp a.eval o).run P w = .ok (.value (.pointer (some ⟨w.heap.size,0,none⟩))) (w.alloc (.cells cs.toArray ty))) :
 kE P w0 M V T lab { val:=.ptr lab true 0,new:=[.own cells ty] } o a w:=by
 intro K Q hK
 unfold Oper.wp
 rw [hr,Oper.upon_value]
 have:=hT.alloc hf (B:=.own cells ty) (.inl rfl) hc (.ptr lab true 0) []
 exact hK _ _ _ (aY.jU hf lab (Nat.le_refl _) (by omega) _) (by simp [den,aY.put]) this
def Ru (Γ:Env) (t:TypeId) (lab:Nat):Option bJ:=
 match Γ.ty t with
 | some ti=>some { val:=.ptr lab true 0,new:=[.own ti.zero t] }
 | none=>none
theorem BM (aT:cA P Γ) (hT:aC w0 M V T w) {t:TypeId} (bT:o.op = .alloc t) {lab:Nat} (hf:V.fresh lab) (he:Ru Γ t lab=some e):kE P w0 M V T lab e o a w:=by
 unfold Ru at he
 split at he
 .rename_i ti dV
  simp only [aU] at he
  subst he
  obtain ⟨hu,i,z,hi,gJ,_,hz,hzero⟩:=aT t ti dV
  refine Vv hT hf (hzero V) ?_
  unfold execOp
  simp [bT,Instr.alloc,eF hi hz,newVar,newRow]
 .cases he
def aGw (Γ:Env) (g:Nat->Option SV) (T:aZ) (t:TypeId) (x:Operand) (lab:Nat):Option bJ:=
 match ev Γ g x with
 | some v=>match Bo T (cellsOf v) with
   | true=>some { val:=.ptr lab true 0,new:=[.own (cellsOf v) t] }
   | false=>none
 | none=>none
theorem aCq (ht:cE V g a) (hg:bL Γ V) {T':aZ} (aL:∀ l B,T' l=some B->T l=some B) (hT:aC w0 M V T w) {t:TypeId} {x:Operand} (bT:o.op = .box t x) {lab:Nat} (hf:V.fresh lab) (he:aGw Γ g T' t x lab=some e):kE P w0 M V T lab e o a w:=by
 unfold aGw at he
 split at he
 .rename_i v hx
  split at he
  .rename_i iT
   simp only [aU] at he
   subst he
   have ex:=bF ht hg hx
   refine Vv hT hf (rI aL hT iT ex) ?_
   unfold execOp
   simp [bT,Instr.box,newVar,newRow]
  .cases he
 .cases he
end Ht
section Ht
variable {P:Program} {Γ:Env} {V:aY} {w w0:World} {M:Nat->Prop} {T:aZ} {g:Nat->Option SV} {a:Act} {o:Oper} {e:bJ}
def Vd (Γ:Env) (g:Nat->Option SV) (x:Operand):Option bJ:=(ev Γ g x).bind lit
theorem Nr (ht:cE V g a) (hg:bL Γ V) (hT:aC w0 M V T w) {x:Operand} (bT:o.op = .move x\/o.op = .assign x) (he:Vd Γ g x=some e) (lab:Nat):kE P w0 M V T lab e o a w:=by
 simp only [Vd,Option.bind_eq_some_iff,lit,aU] at he
 obtain ⟨v,hv,rfl⟩:=he
 refine bC (x:=a.eval x) ?_ (bF ht hg hv) rfl rfl hT
 unfold execOp
 rcases bT with h | h <;> simp only [h] <;> rfl
def HD (Γ:Env) (g:Nat->Option SV) (c x y:Operand):Option bJ:=
 match ev Γ g c with
 | some (.bool true b)=>match b with
   | true=>(ev Γ g x).bind lit
   | false=>(ev Γ g y).bind lit
 | _=>none
theorem PN (ht:cE V g a) (hg:bL Γ V) (hT:aC w0 M V T w) {c x y:Operand} (bT:o.op = .pick c x y) (he:HD Γ g c x y=some e) (lab:Nat):kE P w0 M V T lab e o a w:=by
 unfold HD at he
 split at he
 .rename_i b hc
  have ec:=bF ht hg hc
  simp only [den,aU] at ec
  split at he
  .simp only [Option.bind_eq_some_iff,lit,aU] at he
   obtain ⟨v,hv,rfl⟩:=he
   refine bC (x:=a.eval x) ?_ (bF ht hg hv) rfl rfl hT
   unfold execOp
   simp only [bT,<- ec]
   rfl
  .simp only [Option.bind_eq_some_iff,lit,aU] at he
   obtain ⟨v,hv,rfl⟩:=he
   refine bC (x:=a.eval y) ?_ (bF ht hg hv) rfl rfl hT
   unfold execOp
   simp only [bT,<- ec]
   rfl
 .cases he
def aGt (Γ:Env) (g:Nat->Option SV) (x:Operand):Option bJ:=
 match ev Γ g x with
 | some (.ptr l s off)=>lit (.ptr l s off)
 | some (.jH l off)=>lit (.jH l off)
 | some (.sH t v)=>lit (.sH t v)
 | some (.fn (.func f) xs cs)=>lit (.fn (.func f) xs cs)
 | _=>none
theorem aCm (ht:cE V g a) (hg:bL Γ V) (hT:aC w0 M V T w) {x:Operand} (bT:o.op = .nilCheck x) (he:aGt Γ g x=some e) (lab:Nat):kE P w0 M V T lab e o a w:=by
 unfold aGt at he
 split at he <;> first | (cases he;done) | skip
 all_goals
  rename_i hx
  simp only [lit,aU] at he
  subst he
  have ex:=bF ht hg hx
  refine bC (x:=a.eval x) ?_ ex rfl rfl hT
  simp only [den,Option.map_eq_some_iff,Option.bind_eq_some_iff] at ex
 .obtain ⟨p,_,ex⟩:=ex;unfold execOp;simp only [bT,<- ex];rfl
 .split at ex
  .simp only [aU] at ex;unfold execOp;simp only [bT,<- ex];rfl
  .cases ex
 .obtain ⟨p,_,ex⟩:=ex;unfold execOp;simp only [bT,<- ex];rfl
 .obtain ⟨p,_,q,_,ex⟩:=ex;unfold execOp;simp only [bT,<- ex];rfl
def Dd (Γ:Env) (g:Nat->Option SV) (x:Operand) (i:Nat):Option bJ:=
 match ev Γ g x with
 | some (.eL vs)=>(vs[i]?).bind lit
 | _=>none
theorem Ol (ht:cE V g a) (hg:bL Γ V) (hT:aC w0 M V T w) {x:Operand} {i:Nat} (bT:o.op = .extract x i) (he:Dd Γ g x i=some e) (lab:Nat):kE P w0 M V T lab e o a w:=by
 unfold Dd at he
 split at he
 .rename_i vs hx
  simp only [Option.bind_eq_some_iff,lit,aU] at he
  obtain ⟨v,hv,rfl⟩:=he
  have ex:=bF ht hg hx
  simp only [den,Option.map_eq_some_iff] at ex
  obtain ⟨xs,lV,ex⟩:=ex
  obtain ⟨y,hy,hd⟩:=dX lV i v hv
  refine bC (x:=y) ?_ hd rfl rfl hT
  unfold execOp
  simp [bT,<- ex,Instr.extract,hy]
 .cases he
def xX (Γ:Env) (g:Nat->Option SV) (f:Fn) (xs cs:Array Operand):Option bJ:=
 match SL Γ g xs.toList,SL Γ g cs.toList with
 | some us,some vs=>lit (.fn f us vs)
 | _,_=>none
theorem Kk (ht:cE V g a) (hg:bL Γ V) (hT:aC w0 M V T w) {f:Fn} {xs cs:Array Operand} (bT:o.op = .makeFunc f xs cs) (he:xX Γ g f xs cs=some e) (lab:Nat):kE P w0 M V T lab e o a w:=by
 unfold xX at he
 split at he
 .rename_i us vs h1 h2
  simp only [lit,aU] at he
  subst he
  refine bC (x:=.func f (xs.map a.eval) (cs.map a.eval)) ?_ ?_ rfl rfl hT
  .unfold execOp;simp only [bT];rfl
  .simp only [den,Ir ht hg h1,Ir ht hg h2,Option.bind_some,Option.map_some]
   congr 2 <;> (rw [<- Array.toList_inj];simp)
 .cases he
def aUn:TypeDesc->Bool
 | .interface _=>false
 | _=>true
def tV (Γ:Env) (g:Nat->Option SV) (t:TypeId) (x:Operand):Option bJ:=
 match ev Γ g x,Γ.ty t with
 | some v,some ti=>match aUn ti.desc with
   | true=>lit (.sH t v)
   | false=>none
 | _,_=>none
theorem Fh (aT:cA P Γ) (ht:cE V g a) (hg:bL Γ V) (hT:aC w0 M V T w) {t:TypeId} {x:Operand} (bT:o.op = .makeInterface t x) (he:tV Γ g t x=some e) (lab:Nat):kE P w0 M V T lab e o a w:=by
 unfold tV at he
 split at he
 .rename_i v ti hv dV
  split at he
  .rename_i hc
   simp only [lit,aU] at he
   subst he
   refine bC (x:=.iface t (a.eval x)) ?_ (by simp [den,bF ht hg hv]) rfl rfl hT
   unfold execOp
   simp only [bT,Instr.makeInterface,Sem.run_bind,run_underlying (aT t ti dV).1 w,Result.andThen_ok]
   cases hd:ti.desc <;> first | rfl | (rw [hd] at hc;cases hc)
  .cases he
 .cases he
def Rn (Γ:Env) (g:Nat->Option SV) (t:TypeId) (x:Operand) (n:Nat):Option bJ:=
 match ev Γ g x,Γ.ty t with
 | some (.ptr l s off),some ti=>match ti.desc with
   | .struct fs=>match fs.toList[n]? with
     | some f=>match Γ.ty f.type with
       | some tf=>match Nat.beq tf.size 0 with
         | true=>none
         | false=>lit (.ptr l s (off+f.offset))
       | none=>none
     | none=>none
   | _=>none
 | _,_=>none
theorem BF (aT:cA P Γ) (ht:cE V g a) (hg:bL Γ V) (hT:aC w0 M V T w) {t:TypeId} {x:Operand} {n:Nat} (bT:o.op = .fieldAddr t x n) (he:Rn Γ g t x n=some e) (lab:Nat):kE P w0 M V T lab e o a w:=by
 unfold Rn at he
 split at he
 .rename_i l s off ti hx dV
  split at he
  .rename_i fs hfs
   split at he
   .rename_i f hf
    split at he
    .rename_i tf htf
     split at he
     .cases he
     .rename_i gJ
      simp only [lit,aU] at he
      subst he
      have ex:=bF ht hg hx
      simp only [den,Option.map_eq_some_iff] at ex
      obtain ⟨⟨b,base⟩,hβ,ex⟩:=ex
      obtain ⟨_,i,z,hi,cD,_⟩:=aT f.type tf htf
      have dD:¬ i.size=0:=by
       rw [cD];intro h0;rw [h0] at gJ;cases gJ
      refine bC (x:=.pointer (some ⟨b,base+(off+f.offset),none⟩)) ?_ (by simp [den,hβ]) rfl rfl hT
      have hu:=(aT t ti dV).1
      rw [hfs] at hu
      have hf':fs[n]?=some f:=by rw [<- Array.getElem?_toList];exact hf
      unfold execOp
      simp only [bT,<- ex,Instr.fieldAt,Sem.run_bind,run_underlying hu w,Result.andThen_ok,hf',Instr.sureAddr,Sem.run_pure,fieldPlace,run_sizeOf hi,if_neg dD,bG,Nat.add_assoc]
    .cases he
   .cases he
  .cases he
 .cases he
def tW (Γ:Env) (g:Nat->Option SV) (t:TypeId) (x y:Operand):Option bJ:=
 match ev Γ g x,ev Γ g y,Γ.ty t with
 | some (.ptr l s off),some (.int sk _ k),some ti=>match ti.desc with
   | .array len el=>match Γ.ty el with
     | some te=>match sB sk (0<=k/\k<len) with
       | some ob=>some (dW (.ptr l (s&&sk) (off+k.toNat*te.size)) ob)
       | none=>none
     | none=>none
   | _=>none
 | some (.aG l s off len _),some (.int sk _ k),some ti=>match ti.desc with
   | .slice el=>match Γ.ty el with
     | some te=>match sB (s&&sk) (0<=k/\k<len) with
       | some ob=>some (dW (.ptr l (s&&sk) (off+k.toNat*te.size)) ob)
       | none=>none
     | none=>none
   | _=>none
 | some (.cP l off len _),some (.int sk _ k),some ti=>match ti.desc with
   | .slice el=>match Γ.ty el with
     | some te=>match sB sk (0<=k/\k<len) with
       | some ob=>some (dW (.ptr l sk (off+k.toNat*te.size)) ob)
       | none=>none
     | none=>none
   | _=>none
 | some (.Ub _ n _ sz j le),some (.int _ _ k),some ti=>match ti.desc with
   | .slice el=>match Γ.ty el with
     | some te=>match Nat.beq te.size sz with
       | true=>some (dW (.ptr le true 0) [0<=k/\k<n/\k.toNat=j])
       | false=>none
     | none=>none
   | _=>none
 | some (.eV l n),some (.int _ _ k),some ti=>match ti.desc with
   | .slice el=>match Γ.ty el with
     | some te=>match Nat.beq te.size 1 with
       | true=>some (dW (.jH l k.toNat) [0<=k/\k<n])
       | false=>none
     | none=>none
   | _=>none
 | _,_,_=>none
theorem Fi (aT:cA P Γ) (ht:cE V g a) (hg:bL Γ V) (hT:aC w0 M V T w) {t:TypeId} {x y:Operand} (bT:o.op = .indexAddr t x y) (he:tW Γ g t x y=some e) (ho:∀ q∈e.bM,q) (lab:Nat):kE P w0 M V T lab e o a w:=by
 unfold tW at he
 split at he
 .rename_i l s off sk kk k ti hx hy dV
  split at he
  .rename_i len el hd
   split at he
   .rename_i te eA
    split at he
    .rename_i ob sQ
     simp only [dW,aU] at he
     subst he
     have hb:=hH sQ ho
     have ex:=bF ht hg hx
     have ey:=bF ht hg hy
     simp only [den,Option.map_eq_some_iff,aU] at ex ey
     obtain ⟨⟨b,base⟩,hβ,ex⟩:=ex
     obtain ⟨_,i,z,hi,cD,_⟩:=aT el te eA
     have hu:=(aT t ti dV).1
     rw [hd] at hu
     refine bC (x:=.pointer (some ⟨b,base+(off+k.toNat*te.size),none⟩)) ?_ (by simp [den,hβ]) rfl rfl hT
     unfold execOp
     simp only [bT,<- ex,<- ey,Instr.indexAt,asIntOf,Sem.run_bind,Sem.run_pure,run_underlying hu w,Result.andThen_ok,Instr.sureAddr,if_pos hb,run_sizeOf hi,cD,bG,Nat.add_assoc]
    .cases he
   .cases he
  .cases he
 .rename_i l s off len cap sk kk k ti hx hy dV
  split at he
  .rename_i el hd
   split at he
   .rename_i te eA
    split at he
    .rename_i ob sQ
     simp only [dW,aU] at he
     subst he
     have hb:=hH sQ ho
     have ex:=bF ht hg hx
     have ey:=bF ht hg hy
     simp only [den,Option.map_eq_some_iff,aU] at ex ey
     obtain ⟨⟨b,base⟩,hβ,ex⟩:=ex
     obtain ⟨_,i,z,hi,cD,_⟩:=aT el te eA
     have hu:=(aT t ti dV).1
     rw [hd] at hu
     refine bC (x:=.pointer (some ⟨b,base+(off+k.toNat*te.size),none⟩)) ?_ (by simp [den,hβ]) rfl rfl hT
     unfold execOp
     simp only [bT,<- ex,<- ey,Instr.indexAt,asIntOf,Sem.run_bind,Sem.run_pure,run_underlying hu w,Result.andThen_ok,if_pos hb,run_sizeOf hi,cD,bG,Nat.add_assoc]
    .cases he
   .cases he
  .cases he
 .rename_i l off len lo sk kk k ti hx hy dV
  split at he
  .rename_i el hd
   split at he
   .rename_i te eA
    split at he
    .rename_i ob sQ
     simp only [dW,aU] at he
     subst he
     have hb:=hH sQ ho
     have ex:=bF ht hg hx
     have ey:=bF ht hg hy
     simp only [den,Option.map_eq_some_iff,Option.bind_eq_some_iff,aU] at ex ey
     obtain ⟨⟨b,base⟩,hβ,c,_,ex⟩:=ex
     obtain ⟨_,i,z,hi,cD,_⟩:=aT el te eA
     have hu:=(aT t ti dV).1
     rw [hd] at hu
     refine bC (x:=.pointer (some ⟨b,base+(off+k.toNat*te.size),none⟩)) ?_ (by simp [den,hβ]) rfl rfl hT
     unfold execOp
     simp only [bT,<- ex,<- ey,Instr.indexAt,asIntOf,Sem.run_bind,Sem.run_pure,run_underlying hu w,Result.andThen_ok,if_pos hb,run_sizeOf hi,cD,bG,Nat.add_assoc]
    .cases he
   .cases he
  .cases he
 .rename_i l n bCm sz j le kk0 kk k ti hx hy dV
  split at he
  .rename_i el hd
   split at he
   .rename_i te eA
    split at he
    .rename_i fQ
     have fQ:=cH fQ
     simp only [dW,aU] at he
     subst he
     obtain ⟨qH,lA,RJ⟩:0<=k/\k<n/\k.toNat=j:=ho _ (by simp)
     have ex:=bF ht hg hx
     have ey:=bF ht hg hy
     simp only [den,Option.bind_eq_some_iff,aU] at ex ey
     obtain ⟨⟨b,base⟩,hβ,q,hq,ex⟩:=ex
     split at ex
     case h_2=>cases ex
     rename_i hdq
     have hdq:=of_decide_eq_true hdq
     simp only [aU] at ex
     subst hdq
     obtain ⟨_,i,z,hi,cD,_⟩:=aT el te eA
     have hu:=(aT t ti dV).1
     rw [hd] at hu
     refine bC (x:=.pointer (some ⟨b,base+(k.toNat*te.size),none⟩)) ?_ (by simp [den,hq,RJ,fQ]) rfl rfl hT
     unfold execOp
     simp only [bT,<- ex,<- ey,Instr.indexAt,asIntOf,Sem.run_bind,Sem.run_pure,run_underlying hu w,Result.andThen_ok,if_pos (show 0<=k/\k<(n:Int) from ⟨qH,lA⟩),run_sizeOf hi,cD,bG]
    .cases he
   .cases he
  .cases he
 .rename_i l n kk0 kk k ti hx hy dV
  split at he
  .rename_i el hd
   split at he
   .rename_i te eA
    split at he
    .rename_i fQ
     have fQ:=cH fQ
     simp only [dW,aU] at he
     subst he
     have hb:0<=k/\k<n:=ho _ (by simp)
     have ex:=bF ht hg hx
     have ey:=bF ht hg hy
     simp only [den,Option.bind_eq_some_iff,aU] at ex ey
     obtain ⟨v,hσ,ex⟩:=ex
     obtain ⟨CI,hv⟩:=cY ex
     rcases hv with ⟨_,h0⟩ | ⟨b,base,c,rfl,_⟩
     .omega
     obtain ⟨_,i,z,hi,cD,_⟩:=aT el te eA
     have hu:=(aT t ti dV).1
     rw [hd] at hu
     refine bC (x:=.pointer (some ⟨b,base+k.toNat*te.size,none⟩)) ?_ (by simp [den,hσ,bG,fQ]) rfl rfl hT
     unfold execOp
     simp only [bT,CI,<- ey,Instr.indexAt,asIntOf,Sem.run_bind,Sem.run_pure,run_underlying hu w,Result.andThen_ok,if_pos hb,run_sizeOf hi,cD,bG]
    .cases he
   .cases he
  .cases he
 .cases he
def Kd (Γ:Env) (g:Nat->Option SV) (t:TypeId) (x:Operand) (n:Nat):Option bJ:=
 match ev Γ g x,Γ.ty t with
 | some (.agg cs),some ti=>match ti.desc with
   | .struct fs=>match fs.toList[n]? with
     | some f=>match Γ.ty f.type with
       | some tf=>match sE tf.desc with
         | true=>lit (.agg ((cs.drop f.offset).take tf.size))
         | false=>(cs[f.offset]?).bind lit
       | none=>none
     | none=>none
   | _=>none
 | _,_=>none
theorem wK {α:Type} (l:List α) (i j:Nat):l.toArray.extract i (i+j)=((l.drop i).take j).toArray:=by
 apply Array.ext'
 simp [List.extract_eq_take_drop]
theorem Tp (aT:cA P Γ) (ht:cE V g a) (hg:bL Γ V) (hT:aC w0 M V T w) {t:TypeId} {x:Operand} {n:Nat} (bT:o.op = .field t x n) (he:Kd Γ g t x n=some e) (lab:Nat):kE P w0 M V T lab e o a w:=by
 unfold Kd at he
 split at he
 .rename_i cs ti hx dV
  split at he
  .rename_i fs hfs
   split at he
   .rename_i f hf
    split at he
    .rename_i tf htf
     have ex:=bF ht hg hx
     simp only [den,Option.map_eq_some_iff] at ex
     obtain ⟨xs,lV,ex⟩:=ex
     obtain ⟨huf,i,z,hi,cD,_⟩:=aT f.type tf htf
     have hu:=(aT t ti dV).1
     rw [hfs] at hu
     have hf':fs[n]?=some f:=by rw [<- Array.getElem?_toList];exact hf
     split at he
     .rename_i gL
      simp only [lit,aU] at he
      subst he
      refine bC (x:=.agg ((xs.drop f.offset).take tf.size).toArray) ?_ (by simp [den,eK _ (jC _ lV)]) rfl rfl hT
      unfold execOp
      simp only [bT,<- ex,Instr.field,Sem.run_bind,run_underlying hu w,Result.andThen_ok,hf',asAgg,Sem.run_pure,part,eW huf,gL,if_true,run_sizeOf hi,cD,wK]
     .rename_i gL
      simp only [Option.bind_eq_some_iff,lit,aU] at he
      obtain ⟨v,hv,rfl⟩:=he
      obtain ⟨y,hy,hdy⟩:=dX lV _ v hv
      refine bC (x:=y) ?_ hdy rfl rfl hT
      have hy':xs.toArray[f.offset]?=some y:=by simpa using hy
      unfold execOp
      simp only [bT,<- ex,Instr.field,Sem.run_bind,run_underlying hu w,Result.andThen_ok,hf',asAgg,Sem.run_pure,part,eW huf,gL,Bool.false_eq_true,if_false,hy']
    .cases he
   .cases he
  .cases he
 .cases he
def Jy (Γ:Env) (g:Nat->Option SV) (t:TypeId) (x y:Operand):Option bJ:=
 match ev Γ g x,ev Γ g y,Γ.ty t with
 | some (.agg cs),some (.int true _ k),some ti=>match ti.desc with
   | .array len el=>match Γ.ty el with
     | some te=>match decide (0<=k/\k<len),sE te.desc with
       | true,true=>lit (.agg ((cs.drop (k.toNat*te.size)).take te.size))
       | true,false=>(cs[k.toNat*te.size]?).bind lit
       | _,_=>none
     | none=>none
   | _=>none
 | some (.raw (.string s)),some (.int true _ k),some ti=>match ti.desc,decide (0<=k),s[k.toNat]? with
   | .string,true,some b=>lit (.int true .u8 b.toNat)
   | _,_,_=>none
 | _,_,_=>none
theorem Tk (aT:cA P Γ) (ht:cE V g a) (hg:bL Γ V) (hT:aC w0 M V T w) {t:TypeId} {x y:Operand} (bT:o.op = .index t x y) (he:Jy Γ g t x y=some e) (lab:Nat):kE P w0 M V T lab e o a w:=by
 unfold Jy at he
 split at he
 .rename_i cs kk k ti hx hy dV
  split at he
  .rename_i len el hd
   split at he
   .rename_i te eA
    have ex:=bF ht hg hx
    have ey:=bF ht hg hy
    simp only [den,Option.map_eq_some_iff,aU] at ex ey
    obtain ⟨xs,lV,ex⟩:=ex
    obtain ⟨Ef,i,z,hi,cD,_⟩:=aT el te eA
    have hu:=(aT t ti dV).1
    rw [hd] at hu
    split at he
    .rename_i hb gL
     have iE:=of_decide_eq_true hb
     simp only [lit,aU] at he
     subst he
     refine bC (x:=.agg ((xs.drop (k.toNat*te.size)).take te.size).toArray) ?_ (by simp [den,eK _ (jC _ lV)]) rfl rfl hT
     unfold execOp
     simp only [bT,<- ex,<- ey,Instr.index,asIntOf,Sem.run_bind,Sem.run_pure,run_underlying hu w,Result.andThen_ok,if_pos iE,part,eW Ef,gL,if_true,run_sizeOf hi,cD,wK]
    .rename_i hb gL
     have iE:=of_decide_eq_true hb
     simp only [Option.bind_eq_some_iff,lit,aU] at he
     obtain ⟨v,hv,rfl⟩:=he
     obtain ⟨u,hu',hdu⟩:=dX lV _ v hv
     refine bC (x:=u) ?_ hdu rfl rfl hT
     have hy':xs.toArray[k.toNat*te.size]?=some u:=by simpa using hu'
     unfold execOp
     simp only [bT,<- ex,<- ey,Instr.index,asIntOf,Sem.run_bind,Sem.run_pure,run_underlying hu w,Result.andThen_ok,if_pos iE,part,eW Ef,gL,Bool.false_eq_true,if_false,run_sizeOf hi,cD,hy']
    .cases he
   .cases he
  .cases he
 .rename_i s kk k ti hx hy dV
  split at he
  .rename_i b hd hk hb
   have gW:=of_decide_eq_true hk
   have ex:=bF ht hg hx
   have ey:=bF ht hg hy
   simp only [den,aU] at ex ey
   have hu:=(aT t ti dV).1
   rw [hd] at hu
   simp only [lit,aU] at he
   subst he
   refine bC (x:=.int .u8 b.toNat) ?_ rfl rfl rfl hT
   unfold execOp
   simp only [bT,<- ex,<- ey,Instr.index,asIntOf,Sem.run_bind,Sem.run_pure,run_underlying hu w,Result.andThen_ok,if_pos gW,hb]
  .cases he
 .cases he
def aGu (Γ:Env) (T:aZ) (d:TypeDesc) (v:SV):Option bJ:=
 match d,v with
 | .slice _,.aG _ s _ len _=>lit (.int s .i64 len)
 | .slice _,.raw (.slice _ n _)=>lit (.int true .i64 n)
 | .slice _,.cP _ _ len _=>lit (.int true .i64 len)
 | .slice _,.buf l=>match T l with
   | some (.cT _ xs _)=>lit (.int false .i64 xs.length)
   | some (.fT _ n _)=>lit (.int false .i64 n)
   | some (.eM xs _)=>lit (.int false .i64 xs.length)
   | some (.qI xs)=>lit (.int false .i64 xs.length)
   | _=>none
 | .slice _,.mS _ lo hi=>lit (.int false .i64 ((hi-lo:Nat):Int))
 | .slice _,.eV _ n=>lit (.int false .i64 n)
 | .slice _,.sP _ n=>lit (.int false .i64 n)
 | .slice _,.wT _ _ n=>lit (.int false .i64 n)
 | .slice _,.Ub _ n _ _ _ _=>lit (.int false .i64 n)
 | .array n _,_=>lit (.int true .i64 n)
 | .pointer el,_=>match Γ.ty el with
   | some te=>match te.desc with
     | .array n _=>lit (.int true .i64 n)
     | _=>none
   | none=>none
 | .string,.raw (.string s)=>lit (.int true .i64 s.size)
 | _,_=>none
theorem yQ {ty:TypeId} {sz n:Nat} {v:Value} {cs:List Value} (h:w.ownsRow 0 ty sz v n cs):∃ b c,v = .slice b n c:=by
 rcases h.2 with ⟨rfl,rfl⟩ | ⟨gb,cap,cur,rfl,_⟩
 .exact ⟨_,_,rfl⟩
 .exact ⟨_,_,rfl⟩
theorem aCn (aT:cA P Γ) {T':aZ} (aL:∀ l B,T' l=some B->T l=some B) (hT:aC w0 M V T w) {Ej:Array TypeId} {t ty:TypeId} {d:TypeDesc} {v:SV} {x:Value} (wW:Ej[0]?=some t) (hu:P.underlying t=some d)
 (hv:den V v=some x) (he:aGu Γ T' d v=some e):∃ y,(Builtin.len_ Ej ty #[x]).run P w = .ok y w/\den V e.val=some y/\e.new=[]/\e.wr=[]:=by
 unfold aGu at he
 split at he
 .simp only [lit,aU] at he
  subst he
  simp only [den,Option.map_eq_some_iff] at hv
  obtain ⟨p,_,rfl⟩:=hv
  exact ⟨_,by simp [Builtin.len_,wW,run_underlying hu w];rfl,rfl,rfl,rfl⟩
 .simp only [lit,aU] at he
  subst he
  simp only [den,aU] at hv
  subst hv
  exact ⟨_,by simp [Builtin.len_,wW,run_underlying hu w];rfl,rfl,rfl,rfl⟩
 .simp only [lit,aU] at he
  subst he
  simp only [den,Option.map_eq_some_iff,Option.bind_eq_some_iff] at hv
  obtain ⟨p,_,c,_,rfl⟩:=hv
  exact ⟨_,by simp [Builtin.len_,wW,run_underlying hu w];rfl,rfl,rfl,rfl⟩
 .split at he
  .rename_i l _ k xs ty hB
   simp only [lit,aU] at he
   subst he
   obtain ⟨cs,hc,u,hσ,bK⟩:=hT.ok l _ (aL l _ hB)
   simp only [den,hσ,aU] at hv
   subst hv
   obtain ⟨b,c,rfl⟩:=yQ bK.1
   exact ⟨_,by simp [Builtin.len_,wW,run_underlying hu w];rfl,rfl,rfl,rfl⟩
  .rename_i l _ sz n ty hB
   simp only [lit,aU] at he
   subst he
   obtain ⟨cs,hc,u,us,hσ,bK,_⟩:=hT.ok l _ (aL l _ hB)
   simp only [den,hσ,aU] at hv
   subst hv
   rcases bK.2 with ⟨rfl,rfl⟩ | ⟨g,cap,cur,rfl,_⟩
   .exact ⟨_,by simp [Builtin.len_,wW,run_underlying hu w];rfl,rfl,rfl,rfl⟩
   .exact ⟨_,by simp [Builtin.len_,wW,run_underlying hu w];rfl,rfl,rfl,rfl⟩
  .rename_i l _ xs ty hB
   simp only [lit,aU] at he
   subst he
   obtain ⟨cs,hc,u,hσ,bK⟩:=hT.ok l _ (aL l _ hB)
   simp only [den,hσ,aU] at hv
   subst hv
   obtain ⟨b,c,rfl⟩:=yQ bK
   exact ⟨_,by simp [Builtin.len_,wW,run_underlying hu w];rfl,rfl,rfl,rfl⟩
  .rename_i l _ xs hB
   simp only [lit,aU] at he
   subst he
   obtain ⟨cs,hc,u,hσ,bK⟩:=hT.ok l _ (aL l _ hB)
   simp only [den,hσ,aU] at hv
   subst hv
   rcases bK with ⟨⟨ad,rfl⟩,rfl⟩ | ⟨b,o,c,rfl,_⟩
   .exact ⟨_,by simp [Builtin.len_,wW,run_underlying hu w];rfl,rfl,rfl,rfl⟩
   .exact ⟨_,by simp [Builtin.len_,wW,run_underlying hu w];rfl,rfl,rfl,rfl⟩
  .cases he
 .simp only [lit,aU] at he
  subst he
  simp only [den] at hv
  split at hv
  .cases hv
   exact ⟨_,by simp [Builtin.len_,wW,run_underlying hu w];rfl,rfl,rfl,rfl⟩
  .cases hv
 .simp only [lit,aU] at he
  subst he
  simp only [den,Option.bind_eq_some_iff] at hv
  obtain ⟨v,_,hv⟩:=hv
  obtain ⟨rfl,⟨⟨_,rfl⟩,rfl⟩ | ⟨b,o,c,rfl,_⟩⟩:=cY hv
  .exact ⟨_,by simp [Builtin.len_,wW,run_underlying hu w];rfl,rfl,rfl,rfl⟩
  .exact ⟨_,by simp [Builtin.len_,wW,run_underlying hu w];rfl,rfl,rfl,rfl⟩
 .simp only [lit,aU] at he
  subst he
  simp only [den,Option.bind_eq_some_iff] at hv
  obtain ⟨v,_,hv⟩:=hv
  unfold zA at hv
  split at hv
  case h_2=>cases hv
  simp only [Option.bind_eq_some_iff] at hv
  obtain ⟨u,_,hv⟩:=hv
  obtain ⟨rfl,⟨⟨_,rfl⟩,rfl⟩ | ⟨b,o,c,rfl,_⟩⟩:=cY hv
  .exact ⟨_,by simp [Builtin.len_,wW,run_underlying hu w];rfl,rfl,rfl,rfl⟩
  .exact ⟨_,by simp [Builtin.len_,wW,run_underlying hu w];rfl,rfl,rfl,rfl⟩
 .simp only [lit,aU] at he
  subst he
  simp only [den,Option.bind_eq_some_iff] at hv
  obtain ⟨v,_,hv⟩:=hv
  unfold Kx at hv
  split at hv
  case h_2=>cases hv
  simp only [Option.bind_eq_some_iff] at hv
  obtain ⟨u,_,hv⟩:=hv
  obtain ⟨rfl,⟨⟨_,rfl⟩,rfl⟩ | ⟨b,o,c,rfl,_⟩⟩:=cY hv
  .exact ⟨_,by simp [Builtin.len_,wW,run_underlying hu w];rfl,rfl,rfl,rfl⟩
  .exact ⟨_,by simp [Builtin.len_,wW,run_underlying hu w];rfl,rfl,rfl,rfl⟩
 .simp only [lit,aU] at he
  subst he
  simp only [den,Option.bind_eq_some_iff] at hv
  obtain ⟨p,_,q,_,hv⟩:=hv
  split at hv
  case h_2=>cases hv
  cases hv
  exact ⟨_,by simp [Builtin.len_,wW,run_underlying hu w];rfl,rfl,rfl,rfl⟩
 .simp only [lit,aU] at he
  subst he
  exact ⟨_,by simp [Builtin.len_,wW,run_underlying hu w];rfl,rfl,rfl,rfl⟩
 .split at he
  .rename_i el _ te eA
   split at he
   .rename_i n el' hd
    simp only [lit,aU] at he
    subst he
    have RZ:=(aT el te eA).1
    rw [hd] at RZ
    exact ⟨_,by simp [Builtin.len_,wW,run_underlying hu w,run_underlying RZ w];rfl,rfl,rfl,rfl⟩
   .cases he
  .cases he
 .simp only [lit,aU] at he
  subst he
  simp only [den,aU] at hv
  subst hv
  exact ⟨_,by simp [Builtin.len_,wW,run_underlying hu w];rfl,rfl,rfl,rfl⟩
 .cases he
def aGv (v:SV):Option bJ:=
 match v with
 | .aG _ s _ _ cap=>lit (.int s .i64 cap)
 | .raw (.slice _ _ n)=>lit (.int true .i64 n)
 | _=>none
theorem aCp {Ej:Array TypeId} {t ty el:TypeId} {v:SV} {x:Value} (wW:Ej[0]?=some t) (hu:P.underlying t=some (.slice el)) (hv:den V v=some x) (he:aGv v=some e) :
 ∃ y,(Builtin.cap_ Ej ty #[x]).run P w = .ok y w/\den V e.val=some y/\e.new=[]/\e.wr=[]:=by
 unfold aGv at he
 split at he
 .simp only [lit,aU] at he
  subst he
  simp only [den,Option.map_eq_some_iff] at hv
  obtain ⟨p,_,rfl⟩:=hv
  exact ⟨_,by simp [Builtin.cap_,wW,run_underlying hu w];rfl,rfl,rfl,rfl⟩
 .simp only [lit,aU] at he
  subst he
  simp only [den,aU] at hv
  subst hv
  exact ⟨_,by simp [Builtin.cap_,wW,run_underlying hu w];rfl,rfl,rfl,rfl⟩
 .cases he
end Ht
section Ht
variable {P:Program} {Γ:Env} {V:aY} {w w0:World} {M:Nat->Prop} {T:aZ} {g:Nat->Option SV} {a:Act} {o:Oper} {e:bJ}
def wY (Γ:Env) (g:Nat->Option SV) (x:Option Operand) (s:Bool) (bAr:Nat):Option (Bool × Int):=
 match x with
 | none=>some (s,bAr)
 | some x=>match ev Γ g x with
   | some (.int s _ k)=>some (s,k)
   | _=>none
def zC (lo:Option Operand) (m l:Int) (off size:Nat):Nat:=match lo with
 | none=>off
 | some _=>if m=l then off else off+l.toNat*size
def Rh (Γ:Env) (g:Nat->Option SV) (T:aZ) (t:TypeId) (x:Operand) (lo hi mx:Option Operand):Option bJ:=
 match ev Γ g x,Γ.ty t with
 | some (.ptr l s off),some ti=>match ti.desc with
   | .array n el=>match Γ.ty el,wY Γ g mx true n,wY Γ g hi true n,wY Γ g lo true 0 with
     | some te,some (sm,m),some (sh,h),some (sl,k)=>match mx.isSome&&hi.isNone with
       | true=>none
       | false=>(sB (s&&sm&&sh&&sl) (0<=m/\m<=n/\0<=h/\h<=m/\0<=k/\k<=h)).map
         (dW (.aG l (s&&sm&&sh&&sl) (zC lo m k off te.size) (h.toNat-k.toNat) (m.toNat-k.toNat)))
     | _,_,_,_=>none
   | _=>none
 | some (.aG l s off len cap),some ti=>match ti.desc with
   | .slice el=>match Γ.ty el,wY Γ g mx s cap,wY Γ g hi s len,wY Γ g lo true 0 with
     | some te,some (sm,m),some (sh,h),some (sl,k)=>match mx.isSome&&hi.isNone with
       | true=>none
       | false=>(sB (s&&sm&&sh&&sl) (0<=m/\m<=cap/\0<=h/\h<=m/\0<=k/\k<=h)).map
         (dW (.aG l (s&&sm&&sh&&sl) (zC lo m k off te.size) (h.toNat-k.toNat) (m.toNat-k.toNat)))
     | _,_,_,_=>none
   | _=>none
 | some (.raw (.slice none 0 0)),some ti=>match ti.desc with
   | .slice el=>match Γ.ty el,wY Γ g mx true 0,wY Γ g hi true 0,wY Γ g lo true 0 with
     | some _,some (sm,m),some (sh,h),some (sl,k)=>match mx.isSome&&hi.isNone with
       | true=>none
       | false=>(sB (sm&&sh&&sl) (0<=m/\m<=(0:Nat)/\0<=h/\h<=m/\0<=k/\k<=h)).map (dW (.raw (.slice none 0 0)))
     | _,_,_,_=>none
   | _=>none
 | some (.cP l off len l0),some ti=>match ti.desc with
   | .slice el=>match Γ.ty el,T l,wY Γ g hi true len,wY Γ g lo true 0 with
     | some te,some (.row sz cells _),some (true,h),some (true,k)=>match Nat.beq te.size sz&&Nat.blt 0 sz&&Nat.beq off (l0*sz)&&Nat.ble (off+len*sz) cells.length,mx with
       | true,none=>match decide (0<=k/\k<=h/\(h<=len\/off+h.toNat*sz<=cells.length)/\(k<len\/k=0)) with
         | true=>some { val:=.cP l (off+k.toNat*sz) (h.toNat-k.toNat) (l0+k.toNat) }
         | false=>none
       | true,some y=>match wY Γ g (some y) true 0,hi.isSome with
         | some (true,m),true=>match decide (0<=k/\k<=h/\h<=m/\m<=len) with
           | true=>some { val:=.aG l true (zC lo m k off sz) (h.toNat-k.toNat) (m.toNat-k.toNat) }
           | false=>none
         | _,_=>none
       | _,_=>none
     | _,_,_,_=>none
   | _=>none
 | some (.buf l),some ti=>match ti.desc,mx with
   | .slice el,none=>match Γ.ty el,T l with
     | some te,some (.cT _ xs _)=>match wY Γ g hi false xs.length,wY Γ g lo true 0,Nat.beq te.size 1 with
       | some (_,h),some (_,k),true=>some (dW (.mS l k.toNat h.toNat) [0<=k/\k<=h/\h<=xs.length])
       | _,_,_=>none
     | _,_=>none
   | _,_=>none
 | _,_=>none
theorem cS (k:IntKind) (i:Int) (y:Nat) (code:BoundsCode) (h:0<=i/\i<=y):(Instr.sliceBound (.int k i) y code).run P w = .ok i.toNat w:=by
 simp [Instr.sliceBound,asIntOf,h]
theorem eH (ht:cE V g a) (hg:bL Γ V) {x:Option Operand} {s sb:Bool} {d:Nat} {n:Int} (h:wY Γ g x s d=some (sb,n)) :
 (x=none/\n=d)\/∃ y k,x=some y/\a.eval y = .int k n:=by
 unfold wY at h
 split at h
 .simp only [aU,Prod.mk.injEq] at h;exact .inl ⟨rfl,h.2.symm⟩
 .rename_i y
  split at h
  .rename_i s' k n' hy
   simp only [aU,Prod.mk.injEq] at h
   obtain ⟨rfl,rfl⟩:=h
   have:=bF ht hg hy
   simp only [den,aU] at this
   exact .inr ⟨y,k,rfl,this.symm⟩
  .cases h
theorem Oh (isS:Bool) (len cap:Nat) {lo hi mx:Option Value} {m h k:Int}
 (hm:(mx=none/\m=cap)\/∃ kk,mx=some (.int kk m)) (hh:(hi=none/\h=len)\/∃ kk,hi=some (.int kk h))
 (hl:(lo=none/\k=(0:Nat))\/∃ kk,lo=some (.int kk k)) (hx:(mx.isSome&&hi.isNone)=false) (hb:0<=m/\m<=cap/\0<=h/\h<=m/\0<=k/\k<=h) :
 (Instr.sliceBounds isS len cap lo hi mx).run P w = .ok (k.toNat,h.toNat,m.toNat) w:=by
 obtain ⟨h1,h2,h3,h4,h5,h6⟩:=hb
 rcases hm with ⟨rfl,rfl⟩ | ⟨km,rfl⟩ <;> rcases hh with ⟨rfl,rfl⟩ | ⟨kh,rfl⟩ <;> rcases hl with ⟨rfl,rfl⟩ | ⟨kl,rfl⟩
 .simp [Instr.sliceBounds]
 .simp only [Instr.sliceBounds,Sem.run_bind,Sem.run_pure,Result.andThen_ok]
  rw [cS _ _ _ _ (by omega)];simp
 .simp only [Instr.sliceBounds,Sem.run_bind,Sem.run_pure,Result.andThen_ok]
  rw [cS _ _ _ _ (by omega)];simp
 .simp only [Instr.sliceBounds,Sem.run_bind,Sem.run_pure,Result.andThen_ok]
  rw [cS _ _ _ _ (by omega)]
  simp only [Result.andThen_ok]
  rw [cS _ _ _ _ (by omega)];simp
 .simp at hx
 .simp at hx
 .simp only [Instr.sliceBounds,Sem.run_bind,Sem.run_pure,Result.andThen_ok]
  rw [cS _ _ _ _ (by omega)]
  simp only [Result.andThen_ok]
  rw [cS _ _ _ _ (by omega)];simp
 .simp only [Instr.sliceBounds,Sem.run_bind,Sem.run_pure]
  rw [cS _ _ _ _ (by omega)]
  simp only [Result.andThen_ok]
  rw [cS _ _ _ _ (by omega)]
  simp only [Result.andThen_ok]
  rw [cS _ _ _ _ (by omega)];simp
theorem dY (isS:Bool) (len cap:Nat) {lo hi mx:Option Operand} {m h k:Int}
 (hm:(mx=none/\m=cap)\/∃ y kk,mx=some y/\a.eval y = .int kk m) (hh:(hi=none/\h=len)\/∃ y kk,hi=some y/\a.eval y = .int kk h)
 (hl:(lo=none/\k=(0:Nat))\/∃ y kk,lo=some y/\a.eval y = .int kk k) (hx:(mx.isSome&&hi.isNone)=false) (hb:0<=m/\m<=cap/\0<=h/\h<=m/\0<=k/\k<=h) :
 (Instr.sliceBounds isS len cap (lo.map a.eval) (hi.map a.eval) (mx.map a.eval)).run P w = .ok (k.toNat,h.toNat,m.toNat) w:=by
 refine Oh isS len cap ?_ ?_ ?_ (by simpa using hx) hb
 .rcases hm with ⟨rfl,e⟩ | ⟨y,kk,rfl,e⟩
  .exact .inl ⟨rfl,e⟩
  .exact .inr ⟨kk,by rw [Option.map_some,e]⟩
 .rcases hh with ⟨rfl,e⟩ | ⟨y,kk,rfl,e⟩
  .exact .inl ⟨rfl,e⟩
  .exact .inr ⟨kk,by rw [Option.map_some,e]⟩
 .rcases hl with ⟨rfl,e⟩ | ⟨y,kk,rfl,e⟩
  .exact .inl ⟨rfl,e⟩
  .exact .inr ⟨kk,by rw [Option.map_some,e]⟩
theorem AZ (aT:cA P Γ) (ht:cE V g a) (hg:bL Γ V) {T':aZ} (aL:∀ l B,T' l=some B->T l=some B) (hT:aC w0 M V T w) {t:TypeId} {x:Operand} {lo hi mx:Option Operand} (bT:o.op = .slice t x lo hi mx)
 (he:Rh Γ g T' t x lo hi mx=some e) (ho:∀ q∈e.bM,q) (lab:Nat):kE P w0 M V T lab e o a w:=by
 unfold Rh at he
 split at he
 .rename_i l s off ti hx dV
  split at he
  .rename_i n el hd
   split at he
   .rename_i te sm m sh h sl k eA hm hh hl
    split at he
    .cases he
    .rename_i hxx
     simp only [Option.map_eq_some_iff] at he
     obtain ⟨ob,sQ,rfl⟩:=he
     have hb:=hH sQ ho
     have ex:=bF ht hg hx
     simp only [den,Option.map_eq_some_iff] at ex
     obtain ⟨⟨b,base⟩,hβ,ex⟩:=ex
     have hu:=(aT t ti dV).1
     rw [hd] at hu
     obtain ⟨_,i,z,fS,cD,_⟩:=aT el te eA
     have hr:=dY (P:=P) (w:=w) (a:=a) false n n (eH ht hg hm) (eH ht hg hh) (eH ht hg hl) hxx hb
     refine bC (x:=.slice (some ⟨b,base+zC lo m k off te.size,none⟩) (h.toNat-k.toNat) (m.toNat-k.toNat)) ?_ (by simp [dW,den,hβ]) rfl rfl hT
     have uH:(if m.toNat=k.toNat then (⟨b,base+off,none⟩:Addr) else (⟨b,base+off,none⟩:Addr).add (k.toNat*i.size))=⟨b,base+zC lo m k off te.size,none⟩:=by
      unfold zC
      cases lo with
      | none=>
        simp only [wY,aU,Prod.mk.injEq] at hl
        obtain ⟨_,rfl⟩:=hl
        split
        .rfl
        .rw [bG];simp
      | some y=>
        have e1:(m.toNat=k.toNat)<->m=k:=by omega
        by_cases An:m=k
        .simp only [if_pos (e1.2 An),if_pos An]
        .simp only [if_neg (fun q=>An (e1.1 q)),if_neg An];rw [bG,cD,Nat.add_assoc]
     unfold execOp
     simp only [bT,<- ex,Instr.sliceAt,Sem.run_bind,run_underlying hu w,Result.andThen_ok,Instr.sureAddr,Sem.run_pure,hr,run_sizeOf fS,uH]
   .cases he
  .cases he
 .rename_i l s off len cap ti hx dV
  split at he
  .rename_i el hd
   split at he
   .rename_i te sm m sh h sl k eA hm hh hl
    split at he
    .cases he
    .rename_i hxx
     simp only [Option.map_eq_some_iff] at he
     obtain ⟨ob,sQ,rfl⟩:=he
     have hb:=hH sQ ho
     have ex:=bF ht hg hx
     simp only [den,Option.map_eq_some_iff] at ex
     obtain ⟨⟨b,base⟩,hβ,ex⟩:=ex
     have hu:=(aT t ti dV).1
     rw [hd] at hu
     obtain ⟨_,i,z,fS,cD,_⟩:=aT el te eA
     have hr:=dY (P:=P) (w:=w) (a:=a) true len cap (eH ht hg hm) (eH ht hg hh) (eH ht hg hl) hxx hb
     refine bC (x:=.slice (some ⟨b,base+zC lo m k off te.size,none⟩) (h.toNat-k.toNat) (m.toNat-k.toNat)) ?_ (by simp [dW,den,hβ]) rfl rfl hT
     have uH:(if m.toNat=k.toNat then some (⟨b,base+off,none⟩:Addr) else (some (⟨b,base+off,none⟩:Addr)).map (·.add (k.toNat*i.size)))=some ⟨b,base+zC lo m k off te.size,none⟩:=by
      unfold zC
      cases lo with
      | none=>
        simp only [wY,aU,Prod.mk.injEq] at hl
        obtain ⟨_,rfl⟩:=hl
        split
        .rfl
        .rw [Option.map_some,bG];simp
      | some y=>
        have e1:(m.toNat=k.toNat)<->m=k:=by omega
        by_cases An:m=k
        .simp only [if_pos (e1.2 An),if_pos An]
        .simp only [if_neg (fun q=>An (e1.1 q)),if_neg An];rw [Option.map_some,bG,cD,Nat.add_assoc]
     unfold execOp
     simp only [bT,<- ex,Instr.sliceAt,Instr.slice,Sem.run_bind,run_underlying hu w,Result.andThen_ok,Sem.run_pure,hr,run_sizeOf fS,uH]
   .cases he
  .cases he
 .rename_i ti hx dV
  split at he
  .rename_i el hd
   split at he
   .rename_i te sm m sh h sl k eA hm hh hl
    split at he
    .cases he
    .rename_i hxx
     simp only [Option.map_eq_some_iff] at he
     obtain ⟨ob,sQ,rfl⟩:=he
     have hb:=hH sQ ho
     have ex:=bF ht hg hx
     simp only [den,aU] at ex
     have hu:=(aT t ti dV).1
     rw [hd] at hu
     obtain ⟨_,i,z,fS,cD,_⟩:=aT el te eA
     have hr:=dY (P:=P) (w:=w) (a:=a) true 0 0 (eH ht hg hm) (eH ht hg hh) (eH ht hg hl) hxx hb
     have e0:m.toNat=0/\h.toNat=0/\k.toNat=0:=by omega
     refine bC (x:=.slice none 0 0) ?_ rfl rfl rfl hT
     unfold execOp
     simp only [bT,<- ex,Instr.sliceAt,Instr.slice,Sem.run_bind,run_underlying hu w,Result.andThen_ok,Sem.run_pure,hr,run_sizeOf fS,e0.1,e0.2.1,e0.2.2,if_true,Nat.sub_self]
   .cases he
  .cases he
 .rename_i l off len l0 ti hx dV
  split at he
  .rename_i el hd
   split at he
   .rename_i te sz cells ty0 h k eA hB hh hl
    have ex:=bF ht hg hx
    simp only [den,Option.map_eq_some_iff,Option.bind_eq_some_iff] at ex
    obtain ⟨⟨b,base⟩,hβ,c,qC,ex⟩:=ex
    obtain ⟨cs,lW,b',cap,cur,hβ',hσ,_,_,_,⟨n,hn,RF⟩,_⟩:=hT.ok l _ (aL l _ hB)
    rw [hβ] at hβ'
    cases hβ'
    rw [hσ] at qC
    simp only [nP,aU,Int.toNat_natCast] at qC
    subst qC
    have hu:=(aT t ti dV).1
    rw [hd] at hu
    obtain ⟨_,i,z,fS,cD,_⟩:=aT el te eA
    have pT:=bB (show aE V cells=some cs from lW)
    have aEt:(Nat.beq te.size sz&&Nat.blt 0 sz&&Nat.beq off (l0*sz)&&Nat.ble (off+len*sz) cells.length)=true->te.size=sz/\0<sz/\off=l0*sz/\l0+len<=cap:=by
     intro hq
     simp only [Bool.and_eq_true] at hq
     obtain ⟨⟨⟨q1,q2⟩,q3⟩,q4⟩:=hq
     have q1:=cH q1
     have q2:0<sz:=by simpa [Nat.blt_eq] using q2
     have q3:=cH q3
     have q4:=Nat.le_of_ble_eq_true q4
     refine ⟨q1,q2,q3,Nat.le_trans ?_ RF⟩
     rw [<- pT,hn,q3,<- Nat.add_mul] at q4
     exact Nat.le_of_mul_le_mul_right q4 q2
    split at he
    .rename_i hq
     obtain ⟨q1,q2,q3,q4⟩:=aEt hq
     split at he
     .rename_i DZ
      have Eh:=of_decide_eq_true DZ
      have hb:0<=k/\k<=h/\h<=((cap-l0:Nat):Int)/\(k<len\/k=0):=by
       refine ⟨Eh.1,Eh.2.1,?_,Eh.2.2.2⟩
       rcases Eh.2.2.1 with h1 | h1
       .omega
       .have h2:l0+h.toNat<=cap:=by
         refine Nat.le_trans ?_ RF
         rw [<- pT,hn,q3,<- Nat.add_mul] at h1
         exact Nat.le_of_mul_le_mul_right h1 q2
        omega
      simp only [aU] at he
      subst he
      have hr:=dY (P:=P) (w:=w) (a:=a) true len (cap-l0) (lo:=lo) (hi:=hi) (mx:=none) (m:=((cap-l0:Nat):Int)) (.inl ⟨rfl,rfl⟩) (eH ht hg hh) (eH ht hg hl) rfl (by omega)
      simp only [Int.toNat_natCast] at hr
      have uH:(if cap-l0=k.toNat then some (⟨b,0+off,none⟩:Addr) else (some (⟨b,0+off,none⟩:Addr)).map (·.add (k.toNat*sz)))=some ⟨b,0+(off+k.toNat*sz),none⟩:=by
       by_cases hk:k.toNat=0
       .rw [hk];split
        .simp
        .rw [Option.map_some,bG];simp
       .rw [if_neg (by omega),Option.map_some,bG,Nat.add_assoc]
      refine bC (x:=.slice (some ⟨b,0+(off+k.toNat*sz),none⟩) (h.toNat-k.toNat) (cap-(l0+k.toNat))) ?_ (by simp [den,hβ,hσ,nP]) rfl rfl hT
      unfold execOp
      simp only [bT,<- ex,Instr.sliceAt,Instr.slice,Sem.run_bind,run_underlying hu w,Result.andThen_ok,Sem.run_pure,hr,run_sizeOf fS,cD,q1,uH]
      rw [Nat.sub_add_eq]
     .cases he
    .rename_i y hq
     obtain ⟨q1,q2,q3,q4⟩:=aEt hq
     split at he
     .rename_i m hm his
      split at he
      .rename_i DZ
       have hb:=of_decide_eq_true DZ
       simp only [aU] at he
       subst he
       have jX:(some y=none/\m=((cap-l0:Nat):Int))\/∃ y' kk,some y=some y'/\a.eval y' = .int kk m:=by
        rcases eH ht hg hm with ⟨h1,_⟩ | h1
        .cases h1
        .exact .inr h1
       have hr:=dY (P:=P) (w:=w) (a:=a) true len (cap-l0) (lo:=lo) (hi:=hi) (mx:=some y) (m:=m) jX (eH ht hg hh) (eH ht hg hl) (by simpa using his) (by omega)
       have uH:(if m.toNat=k.toNat then some (⟨b,0+off,none⟩:Addr) else (some (⟨b,0+off,none⟩:Addr)).map (·.add (k.toNat*sz)))=some ⟨b,0+zC lo m k off sz,none⟩:=by
        unfold zC
        cases lo with
        | none=>
          simp only [wY,aU,Prod.mk.injEq] at hl
          obtain ⟨_,rfl⟩:=hl
          split
          .rfl
          .rw [Option.map_some,bG];simp
        | some y=>
          have e1:(m.toNat=k.toNat)<->m=k:=by omega
          by_cases An:m=k
          .simp only [if_pos (e1.2 An),if_pos An]
          .simp only [if_neg (fun q=>An (e1.1 q)),if_neg An];rw [Option.map_some,bG,Nat.add_assoc]
       refine bC (x:=.slice (some ⟨b,0+zC lo m k off sz,none⟩) (h.toNat-k.toNat) (m.toNat-k.toNat)) ?_ (by simp [den,hβ]) rfl rfl hT
       unfold execOp
       simp only [bT,<- ex,Instr.sliceAt,Instr.slice,Sem.run_bind,run_underlying hu w,Result.andThen_ok,Sem.run_pure,hr,run_sizeOf fS,cD,q1,uH]
      .cases he
     .cases he
    .cases he
   .cases he
  .cases he
 .rename_i l ti hx dV
  split at he
  .rename_i el hd
   split at he
   .rename_i te k0 xs ty0 eA hB
    split at he
    .rename_i sh h sl k hh hl gJ
     simp only [dW,aU] at he
     subst he
     have hb:0<=k/\k<=h/\h<=xs.length:=ho _ (by simp)
     have ex:=bF ht hg hx
     obtain ⟨cs,hc,u,hσ,bK⟩:=hT.ok l _ (aL l _ hB)
     simp only [den,hσ,aU] at ex
     have hu:=(aT t ti dV).1
     rw [hd] at hu
     obtain ⟨_,i,z,fS,cD,_⟩:=aT el te eA
     have aGe:i.size=1:=by rw [cD];exact cH gJ
     obtain ⟨A,cap,hA,qC⟩:∃ A cap,u = .slice A xs.length cap/\xs.length<=cap:=by
      rcases bK.1.2 with ⟨rfl,h0⟩ | ⟨gb,cap,cur,rfl,_,_,hle,_⟩
      .exact ⟨none,0,by rw [h0],by omega⟩
      .exact ⟨_,cap,rfl,hle⟩
     subst hA
     have hr:=dY (P:=P) (w:=w) (a:=a) true xs.length cap (lo:=lo) (hi:=hi) (mx:=none) (m:=cap) (.inl ⟨rfl,rfl⟩) (eH ht hg hh) (eH ht hg hl) rfl (by omega)
     simp only [Option.map_none,Int.toNat_natCast] at hr
     refine bC (x:=.slice (if cap=k.toNat then A else A.map (·.add k.toNat)) (h.toNat-k.toNat) (cap-k.toNat)) ?_ (by simp [den,hσ]) rfl rfl hT
     unfold execOp
     simp only [bT,<- ex,Instr.sliceAt,Instr.slice,Sem.run_bind,run_underlying hu w,Result.andThen_ok,Sem.run_pure,hr,run_sizeOf fS,aGe,Nat.mul_one,Option.map_none]
    .cases he
   .cases he
  .cases he
 .cases he
def Jt (Γ:Env) (g:Nat->Option SV) (T:aZ) (t:TypeId) (x:Operand) (lo hi mx:Option Operand) (lab:Nat):Option bJ:=
 match ev Γ g x,Γ.ty t,mx with
 | some (.eV l n),some ti,none=>match ti.desc with
   | .slice el=>match Γ.ty el,T l,wY Γ g hi false n,wY Γ g lo true 0 with
     | some te,some (.gQ k xs),some (_,h),some (_,j)=>match Nat.beq te.size 1 with
       | true=>some { bM:=[0<=j/\j<=h/\h<=n],val:=.eV lab (h.toNat-j.toNat),new:=[.gQ k ((xs.drop j.toNat).take (h.toNat-j.toNat))] }
       | false=>none
     | _,_,_,_=>none
   | _=>none
 | _,_,_=>none
theorem Tc (aT:cA P Γ) (ht:cE V g a) (hg:bL Γ V) {T':aZ} (aL:∀ l B,T' l=some B->T l=some B) (hT:aC w0 M V T w) {t:TypeId} {x:Operand} {lo hi mx:Option Operand} (bT:o.op = .slice t x lo hi mx) {lab:Nat} (hf:V.fresh lab)
 (he:Jt Γ g T' t x lo hi mx lab=some e) (ho:∀ q∈e.bM,q):kE P w0 M V T lab e o a w:=by
 unfold Jt at he
 split at he
 case h_2=>cases he
 rename_i l n ti hx dV
 split at he
 case h_2=>cases he
 rename_i el hd
 split at he
 case h_2=>cases he
 rename_i te k xs sh h sj j eA hB hh hj
 split at he
 case h_2=>cases he
 rename_i fQ
 have fQ:=cH fQ
 simp only [aU] at he
 subst he
 have hb:0<=j/\j<=h/\h<=n:=ho _ (by simp)
 have ex:=bF ht hg hx
 simp only [den,Option.bind_eq_some_iff] at ex
 obtain ⟨v,hσ,ex⟩:=ex
 obtain ⟨CI,hv⟩:=cY ex
 obtain ⟨cs,hc,v',fU,bK⟩:=hT.ok l _ (aL l _ hB)
 rw [hσ] at fU
 cases fU
 simp only [SB.cells,aU] at hc
 subst hc
 have hu:=(aT t ti dV).1
 rw [hd] at hu
 obtain ⟨_,i,z,fS,cD,_⟩:=aT el te eA
 obtain ⟨y,iC,Fo,hy3,hy4⟩:∃ y:Value,(execOp a.eval o).run P w = .ok (.value y) w/\iF (h.toNat-j.toNat) y=some y/\(∀ m,eQ y=some m->eQ v=some m) /\
  ((Lq y/\(xs.drop j.toNat).take (h.toNat-j.toNat)=[])\/∃ b o c,y = .slice (some ⟨b,o,none⟩) ((xs.drop j.toNat).take (h.toNat-j.toNat)).length c/\b<w.heap.size/\((xs.drop j.toNat).take (h.toNat-j.toNat)).length<=c/\∀ (i:Nat) (u:Value),(((xs.drop j.toNat).take (h.toNat-j.toNat)).map (Value.int k))[i]?=some u->w.cell? ⟨b,o+i,none⟩=some u):=by
  rcases bK with ⟨⟨ad,rfl⟩,rfl⟩ | ⟨b,base,c,rfl,cI,hle,fE⟩
  .have hn:n=0:=by
    rcases hv with ⟨_,h0⟩ | ⟨_,_,_,h0,_⟩
    .exact h0
    .injection h0 with _ h0 _;exact h0.symm
   subst hn
   have hr:=dY (P:=P) (w:=w) (a:=a) true 0 0 (mx:=none) (m:=((0:Nat):Int)) (.inl ⟨rfl,rfl⟩) (eH ht hg hh) (eH ht hg hj) rfl (by omega)
   have e0:h.toNat=0/\j.toNat=0:=by omega
   refine ⟨.slice ad 0 0,?_,by cases ad <;> simp [iF,e0.1,e0.2],fun m hm=>hm,.inl ⟨⟨_,rfl⟩,by simp⟩⟩
   unfold execOp
   simp only [bT,CI,Option.map_none,Instr.sliceAt,Instr.slice,Sem.run_bind,run_underlying hu w,Result.andThen_ok,Sem.run_pure,run_sizeOf fS] at hr |-
   simp only [hr,Result.andThen_ok,e0.1,e0.2,if_true,Nat.sub_self,Int.toNat_natCast]
  .have hn:n=xs.length:=by
    rcases hv with ⟨⟨_,h0⟩,h1⟩ | ⟨_,_,_,h0,_⟩
    .injection h0 with _ h0 _;omega
    .injection h0 with _ h0 _;exact h0.symm
   subst hn
   have hr:=dY (P:=P) (w:=w) (a:=a) true xs.length c (lo:=lo) (hi:=hi) (mx:=none) (m:=(c:Int)) (h:=h) (k:=j) (.inl ⟨rfl,rfl⟩) (eH ht hg hh) (eH ht hg hj) rfl ⟨by omega,by omega,by omega,by omega,by omega,by omega⟩
   have hlen:((xs.drop j.toNat).take (h.toNat-j.toNat)).length=h.toNat-j.toNat:=by simp;omega
   refine ⟨.slice (if c=j.toNat then some ⟨b,base,none⟩ else some ⟨b,base+j.toNat,none⟩) (h.toNat-j.toNat) (c-j.toNat),?_,?_,?_,.inr ?_⟩
   .have uH:(if c=j.toNat then some (⟨b,base,none⟩:Addr) else (some (⟨b,base,none⟩:Addr)).map (·.add (j.toNat*te.size)))=(if c=j.toNat then some ⟨b,base,none⟩ else some ⟨b,base+j.toNat,none⟩):=by
     split
     .rfl
     .rw [Option.map_some,bG,fQ,Nat.mul_one]
    unfold execOp
    simp only [bT,CI,Option.map_none,Instr.sliceAt,Instr.slice,Sem.run_bind,run_underlying hu w,Result.andThen_ok,Sem.run_pure,run_sizeOf fS] at hr |-
    simp only [hr,Result.andThen_ok,cD,Int.toNat_natCast,uH]
   .by_cases Oz:c=j.toNat
    .rw [if_pos Oz];unfold iF;exact if_pos ⟨rfl,by omega,.inr rfl⟩
    .rw [if_neg Oz];unfold iF;exact if_pos ⟨rfl,by omega,.inr rfl⟩
   .intro m hm
    by_cases Oz:c=j.toNat
    .rw [Oz,Nat.sub_self] at hm;cases hm
    .rw [if_neg Oz] at hm
     obtain ⟨m',rfl⟩:∃ m,c=m+1:=⟨c-1,by omega⟩
     exact dZ hm
   .by_cases Oz:c=j.toNat
    .refine ⟨b,base,c-j.toNat,by rw [hlen,if_pos Oz],cI,by omega,fun i u hi=>?_⟩
     have:h.toNat-j.toNat=0:=by omega
     rw [this] at hi
     simp at hi
    .refine ⟨b,base+j.toNat,c-j.toNat,by rw [hlen,if_neg Oz],cI,by omega,fun i u hi=>?_⟩
     rw [Nat.add_assoc]
     apply fE
     simp only [List.map_take,List.map_drop,List.getElem?_take] at hi
     split at hi
     .rwa [List.getElem?_drop] at hi
     .cases hi
 intro K Q hK
 unfold Oper.wp
 rw [iC,Oper.upon_value]
 refine hK (V.aV lab y) y w (aY.bS hf lab (Nat.le_refl _) (by omega) y) ?_ ?_
 .simp [den,aY.aV,Fo]
 .refine hT.step (N:=fun m=>if m=lab then some (.gQ k ((xs.drop j.toNat).take (h.toNat-j.toNat))) else none) (aY.bS hf lab (Nat.le_refl _) (by omega) y).1 (fun m C hm=>?_) (fun m C hm=>?_) (fun m C q hm hq=>?_) (fun m C m' C' q dD hm jX sR _=>?_) (Nat.le_refl _) (fun _ _ _=>rfl) rfl rfl rfl
  .unfold eI bJ.eG at hm
   simp only [fO,List.nil_append,look] at hm
   by_cases e:m=lab
   .subst e
    left
    simpa using hm
   .right
    refine ⟨if_neg e,?_⟩
    have:Nat.beq lab m=false:=by
     cases lA:Nat.beq lab m with
     | false=>rfl
     | true=>exact absurd (cH lA).symm e
    simpa [this] using hm
  .split at hm
   .rename_i e
    subst e
    cases hm
    exact ⟨_,rfl,y,by simp [aY.aV],hy4⟩
   .cases hm
  .split at hm
   .rename_i e
    subst e
    cases hm
    refine .inr (.inr ⟨rfl,fun l2 B2 hn2 sJ sR lA=>?_⟩)
    simp only [SB.aN,aY.aV,if_pos,Option.bind_some] at hq
    have hq':=hy3 q hq
    have dD:l2≠l:=fun e=>by subst e;rw [aL _ _ hB] at sJ;cases sJ;cases sR
    exact hT.jN l2 B2 l _ q dD sJ (aL _ _ hB) sR lA (by simp [SB.aN,hσ,hq'])
   .cases hm
  .split at hm
   .cases hm;cases sR
   .cases hm
def Ju (Γ:Env) (g:Nat->Option SV) (T:aZ) (t:TypeId) (x:Operand) (lo hi mx:Option Operand) (lab:Nat):Option bJ:=
 match ev Γ g x,Γ.ty t,lo,hi,mx with
 | some (.jH l off),some ti,none,none,none=>match ti.desc with
   | .array n el=>match Γ.ty el,T l,Nat.beq off 0 with
     | some te,some (.gQ k xs),true=>match Nat.beq te.size 1,Nat.blt 0 n with
       | true,true=>some { bM:=[n<=xs.length],val:=.eV lab n,new:=[.gQ k (xs.take n)] }
       | _,_=>none
     | _,_,_=>none
   | _=>none
 | _,_,_,_,_=>none
theorem Td (aT:cA P Γ) (ht:cE V g a) (hg:bL Γ V) {T':aZ} (aL:∀ l B,T' l=some B->T l=some B) (hT:aC w0 M V T w) {t:TypeId} {x:Operand} {lo hi mx:Option Operand} (bT:o.op = .slice t x lo hi mx) {lab:Nat} (hf:V.fresh lab)
 (he:Ju Γ g T' t x lo hi mx lab=some e) (ho:∀ q∈e.bM,q):kE P w0 M V T lab e o a w:=by
 unfold Ju at he
 split at he
 case h_2=>cases he
 rename_i l off ti hx dV
 split at he
 case h_2=>cases he
 rename_i n el hd
 split at he
 case h_2=>cases he
 rename_i te k xs eA hB uH
 split at he
 case h_2=>cases he
 rename_i fQ Hq
 have fQ:=cH fQ
 have uH:=cH uH
 subst uH
 have Hq:0<n:=by simpa [Nat.blt_eq] using Hq
 simp only [aU] at he
 subst he
 have hb:n<=xs.length:=ho _ (by simp)
 have ex:=bF ht hg hx
 obtain ⟨cs,hc,v,hσ,bK⟩:=hT.ok l _ (aL l _ hB)
 simp only [SB.cells,aU] at hc
 subst hc
 simp only [den,hσ] at ex
 rcases bK with ⟨_,rfl⟩ | ⟨b,base,c,rfl,cI,hle,fE⟩
 .simp at hb;omega
 have ex:Value.pointer (some (⟨b,base,none⟩:Addr))=a.eval x:=by
  have e0:(⟨b,base,none⟩:Addr).add 0=⟨b,base,none⟩:=by simp [Addr.add]
  rw [<- e0];simpa using ex
 have hu:=(aT t ti dV).1
 rw [hd] at hu
 obtain ⟨_,i,z,fS,cD,_⟩:=aT el te eA
 have hr:=dY (P:=P) (w:=w) (a:=a) false n n (lo:=none) (hi:=none) (mx:=none) (m:=(n:Int)) (h:=(n:Int)) (k:=((0:Nat):Int)) (.inl ⟨rfl,rfl⟩) (.inl ⟨rfl,rfl⟩) (.inl ⟨rfl,rfl⟩) rfl (by omega)
 have hml:(xs.take n).length=n:=by rw [List.length_take];omega
 intro K Q hK
 unfold Oper.wp
 have iC:(execOp a.eval o).run P w = .ok (.value (.slice (some ⟨b,base,none⟩) n n)) w:=by
  unfold execOp
  simp only [Option.map_none] at hr
  simp only [bT,<- ex,Option.map_none,Instr.sliceAt,Sem.run_bind,run_underlying hu w,Result.andThen_ok,Instr.sureAddr,Sem.run_pure,hr,run_sizeOf fS,Int.toNat_natCast,Nat.sub_zero,Nat.zero_mul]
  have dD:¬ n=0:=by omega
  simp [dD,Addr.add]
 rw [iC,Oper.upon_value]
 refine hK (V.aV lab (.slice (some ⟨b,base,none⟩) n n)) _ w (aY.bS hf lab (Nat.le_refl _) (by omega) _) ?_ ?_
 .simp only [den,aY.aV,if_pos,Option.bind_some]
  unfold iF
  exact if_pos ⟨rfl,Nat.le_refl n,.inr rfl⟩
 .refine hT.step (N:=fun m=>if m=lab then some (.gQ k (xs.take n)) else none) (aY.bS hf lab (Nat.le_refl _) (by omega) _).1 (fun m C hm=>?_) (fun m C hm=>?_) (fun m C q hm hq=>?_) (fun m C m' C' q dD hm jX sR _=>?_) (Nat.le_refl _) (fun _ _ _=>rfl) rfl rfl rfl
  .unfold eI bJ.eG at hm
   simp only [fO,List.nil_append,look] at hm
   by_cases e:m=lab
   .subst e
    left
    simpa using hm
   .right
    refine ⟨if_neg e,?_⟩
    have:Nat.beq lab m=false:=by
     cases lA:Nat.beq lab m with
     | false=>rfl
     | true=>exact absurd (cH lA).symm e
    simpa [this] using hm
  .split at hm
   .rename_i e
    subst e
    cases hm
    refine ⟨_,rfl,.slice (some ⟨b,base,none⟩) n n,by simp [aY.aV],.inr ⟨b,base,n,by rw [hml],cI,by rw [hml];exact Nat.le_refl n,fun i u hi=>?_⟩⟩
    apply fE
    rw [List.map_take,List.getElem?_take] at hi
    split at hi
    .exact hi
    .cases hi
   .cases hm
  .split at hm
   .rename_i e
    subst e
    cases hm
    refine .inr (.inr ⟨rfl,fun l2 B2 hn2 sJ sR lA=>?_⟩)
    simp only [SB.aN,aY.aV,if_pos,Option.bind_some] at hq
    have hq':=dZ hq
    have dD:l2≠l:=fun e=>by subst e;rw [aL _ _ hB] at sJ;cases sJ;cases sR
    have hqb:eQ (.slice (some ⟨b,base,none⟩) xs.length c)=some q:=by
     obtain ⟨m',rfl⟩:∃ m,c=m+1:=⟨c-1,by omega⟩
     exact hq'
    exact hT.jN l2 B2 l _ q dD sJ (aL _ _ hB) sR lA (by simp [SB.aN,hσ,hqb])
   .cases hm
  .split at hm
   .cases hm;cases sR
   .cases hm
end Ht
section Ht
variable {P:Program} {Γ:Env} {V:aY} {w w0:World} {M:Nat->Prop} {T:aZ} {g:Nat->Option SV} {a:Act} {o:Oper} {e:bJ}
def tU (Γ:Env) (g:Nat->Option SV) (t:TypeId) (x y:Operand) (lab:Nat):Option bJ:=
 match ev Γ g x,ev Γ g y,Γ.ty t with
 | some (.int sx _ n),some (.int sy _ c),some ti=>match ti.desc with
   | .slice el=>match Γ.ty el with
     | some te=>match sB (sx&&sy) (0<=n/\n<=c/\(te.bytes:Int)*c<=2^48/\c<2^63) with
       | some ob=>match te.zero,Nat.beq te.size 1 with
         | [.int _ k z],true=>match sx&&sy with
           | true=>some { bM:=ob,val:=.aG lab true 0 n.toNat c.toNat,new:=[.own (List.replicate c.toNat (.int true k z)) el] }
           | false=>some { bM:=ob,val:=.aG lab sx 0 n.toNat c.toNat,new:=[.ints k (List.replicate c.toNat z) el] }
         | _,_=>none
       | none=>none
     | none=>none
   | _=>none
 | _,_,_=>none
theorem rV {n:Int} (h1 : -(2^63)<=n) (h2:n<2^63):IntKind.i64.wrap n=n:=by
 have e:IntKind.i64.wrap n=if (n%2^64:Int)>=2^63 then n%2^64-2^64 else n%2^64:=by
  simp [IntKind.wrap,IntKind.bits,IntKind.signed]
 rw [e]
 split <;> omega
theorem nW {t el:TypeId} {i:TypeInfo} {u:Value} {zv:Value} {kx ky:IntKind} {n c:Int} (hu:P.underlying t=some (.slice el)) (hi:P.info? el=some i) (hz:i.zero=some zv) (zO:zv.cells = #[u]) (hs:i.size=1)
 (h:0<=n/\n<=c/\(i.bytes:Int)*c<=2^48/\c<2^63) :
 (Instr.makeSlice t (.int kx n) (.int ky c)).run P w = .ok (.slice (some ⟨w.heap.size,0,none⟩) n.toNat c.toNat) (w.alloc (.cells (List.replicate c.toNat (u)).toArray el)):=by
 obtain ⟨h1,h2,h3,h4⟩:=h
 have en:IntKind.i64.wrap n=n:=rV (by omega) (by omega)
 have ec:IntKind.i64.wrap c=c:=rV (by omega) (by omega)
 have dV:(typeInfo el).run P w = .ok i w:=by simp [typeInfo,hi]
 have bV:((Array.range (c.toNat*1)).map fun j=>(#[u]:Array Value)[j%(#[u]:Array Value).size]!)=(List.replicate c.toNat (u)).toArray:=by
  apply Array.ext'
  simp only [Nat.mul_one,Array.toList_map,Array.toList_range]
  apply List.ext_getElem
  .simp
  .intro j h1 h2
   simp [Nat.mod_one]
 have Mf:(c<0||(i.bytes:Int)*c>2^48||n<0||n>c)=false:=by simp;omega
 unfold Instr.makeSlice
 simp only [Sem.run_bind,run_underlying hu w,Result.andThen_ok,asInt,asIntOf,Sem.run_pure,dV,en,ec,Mf,Bool.false_eq_true,if_false,run_askRoom,run_sizeOf hi,hs]
 by_cases Ar:c.toNat*1=0
 .have:c.toNat=0:=by omega
  simp [this,newRow,show Array.range 0 = #[] from rfl]
 .simp only [if_neg Ar,Sem.run_bind,eF hi hz,Result.andThen_ok,Sem.run_pure,zO,bV,newRow,run_newObj,World.alloc_eq]
theorem Fg (aT:cA P Γ) (ht:cE V g a) (hg:bL Γ V) (hT:aC w0 M V T w) {t:TypeId} {x y:Operand} (bT:o.op = .makeSlice t x y) {lab:Nat} (hf:V.fresh lab) (he:tU Γ g t x y lab=some e) (ho:∀ q∈e.bM,q):kE P w0 M V T lab e o a w:=by
 unfold tU at he
 split at he
 .rename_i sx kx n sy ky c ti hx hy dV
  split at he
  .rename_i el hd
   split at he
   .rename_i te eA
    split at he
    .rename_i ob sQ
     have ex:=bF ht hg hx
     have ey:=bF ht hg hy
     simp only [den,aU] at ex ey
     have hu:=(aT t ti dV).1
     rw [hd] at hu
     obtain ⟨_,i,zv,hi,cD,DF,hz,hzero⟩:=aT el te eA
     split at he
     .rename_i sz k z RY gJ
      have fQ:i.size=1:=by rw [cD];exact cH gJ
      have zO:zv.cells = #[.int k z]:=by
       have:=hzero V
       rw [RY] at this
       simp only [aE,den,Option.bind_some,Option.map_some,aU] at this
       rw [<- Array.toList_inj,<- this]
      have aYy:∀ q∈ob,q:=by split at he <;> (cases he;exact ho)
      have hb:=hH sQ aYy
      rw [<- DF] at hb
      have dR:=nW (P:=P) (w:=w) (kx:=kx) (ky:=ky) hu hi hz zO fQ hb
      have GU:(execOp a.eval o).run P w = .ok (.value (.slice (some ⟨w.heap.size,0,none⟩) n.toNat c.toNat)) (w.alloc (.cells (List.replicate c.toNat (Value.int k z)).toArray el)):=by
       unfold execOp
       simp only [bT,<- ex,<- ey,Sem.run_bind,dR,Result.andThen_ok,Sem.run_pure]
      intro K Q hK
      unfold Oper.wp
      rw [GU,Oper.upon_value]
      split at he
      .cases he
       have hc:aE V (List.replicate c.toNat (.int true k z))=some (List.replicate c.toNat (Value.int k z)):=by
        generalize c.toNat=m
        induction m with
        | zero=>simp [aE]
        | succ m ih=>simp [List.replicate_succ,aE,den,ih]
       exact hK _ _ _ (aY.jU hf lab (Nat.le_refl _) (by omega) _) (by simp [den,aY.put]) (hT.alloc hf (B:=.own _ el) (.inl rfl) hc _ _)
      .cases he
       exact hK _ _ _ (aY.jU hf lab (Nat.le_refl _) (by omega) _) (by simp [den,aY.put]) (hT.alloc hf (B:=.ints k _ el) (.inr (.inl rfl)) (by simp [SB.cells]) _ _)
     .cases he
    .cases he
   .cases he
  .cases he
 .cases he
theorem Kj (vs:List Value):∀ (cells:Array Value) (off j0:Nat),off+j0+vs.length<=cells.size ->
 ((vs.zipIdx j0).foldl (fun cs (p:Value × Nat)=>cs.setIfInBounds (off+p.2) p.1) cells).toList=cells.toList.take (off+j0)++vs++cells.toList.drop (off+j0+vs.length):=by
 induction vs with
 | nil=>intro cells off j0 _;simp
 | cons v vs ih=>
   intro cells off j0 h
   simp only [List.length_cons] at h
   simp only [List.zipIdx_cons,List.foldl_cons]
   rw [ih (cells.setIfInBounds (off+j0) v) off (j0+1) (by simp;omega)]
   have e:=list_seg_step cells.toList (off+j0) v vs (by simp;omega)
   simpa [Array.toList_setIfInBounds,Nat.add_assoc] using e
def By (T:aZ) (place:Nat->Option (Nat × Nat)) (cells:List SV):List (Nat × SV)->Option (List SV)
 | []=>some cells
 | (i,v)::rest=>match place i with
   | none=>none
   | some (off,size)=>match Nat.beq (cellsOf v).length size,Bo T (cellsOf v),Nat.ble (off+(cellsOf v).length) cells.length with
     | true,true,true=>By T place (cells.take off++cellsOf v++cells.drop (off+(cellsOf v).length)) rest
     | _,_,_=>none
theorem wF {T':aZ} (aL:∀ l B,T' l=some B->T l=some B) (hT:aC w0 M V T w) {place:Nat->Option (Nat × Nat)}:∀ {parts:List (Nat × SV)} {eJ:List (Nat × Value)} {cells:List SV} {cs:List Value} {r:List SV},
 By T' place cells parts=some r->aE V cells=some cs->eJ.map (·.1)=parts.map (·.1)->aE V (parts.map (·.2))=some (eJ.map (·.2)) ->
 ∃ rs,Instr.fill place cs.toArray eJ=some rs/\aE V r=some rs.toList
 | [],eJ,cells,cs,r,h,hc,h1,_=>by
   simp only [By,aU] at h
   subst h
   have:eJ=[]:=by simpa using h1
   subst this
   exact ⟨cs.toArray,rfl,by simpa using hc⟩
 | (i,v)::rest,eJ,cells,cs,r,h,hc,h1,h2=>by
   obtain ⟨⟨i',x⟩,bCb,rfl⟩:∃ p l,eJ=p::l:=by cases eJ with | nil=>simp at h1 | cons p l=>exact ⟨p,l,rfl⟩
   simp only [List.map_cons,List.cons.injEq] at h1
   obtain ⟨rfl,h1⟩:=h1
   simp only [List.map_cons,aE,Option.map_eq_some_iff,Option.bind_eq_some_iff] at h2
   obtain ⟨x',hx,ys,hy,h2⟩:=h2
   simp only [List.cons.injEq] at h2
   obtain ⟨rfl,rfl⟩:=h2
   simp only [By] at h
   split at h
   .cases h
   .rename_i off size hp
    split at h
    .rename_i gJ iT hle
     have aYq:=cH gJ
     have UJ:=Nat.le_of_ble_eq_true hle
     have bV:=rI aL hT iT hx
     have hlen:=bB bV
     have bCe:=bB hc
     have DW:=cF (cF (eK off hc) bV) (jC (off+(cellsOf v).length) hc)
     obtain ⟨rs,Ya,hd⟩:=wF aL hT h DW h1 hy
     refine ⟨rs,?_,hd⟩
     have lV:x'.cells.size=(cellsOf v).length:=by rw [<- hlen];simp
     have Mf:(x'.cells.size≠size||off+x'.cells.size>cs.toArray.size)=false:=by
      simp [lV,aYq];omega
     have hsp:=Kj x'.cells.toList cs.toArray off 0 (by simp;omega)
     have bCd:(x'.cells.zipIdx.foldl (fun cs (p:Value × Nat)=>cs.setIfInBounds (off+p.2) p.1) cs.toArray)=(cs.take off++x'.cells.toList++cs.drop (off+(cellsOf v).length)).toArray:=by
      apply Array.ext'
      have e:x'.cells.zipIdx.foldl (fun cs (p:Value × Nat)=>cs.setIfInBounds (off+p.2) p.1) cs.toArray=(x'.cells.toList.zipIdx 0).foldl (fun cs (p:Value × Nat)=>cs.setIfInBounds (off+p.2) p.1) cs.toArray:=by
       rw [<- Array.foldl_toList,Array.toList_zipIdx]
      rw [e,hsp]
      simp [lV]
     unfold Instr.fill
     simp only [hp,Mf,Bool.false_eq_true,if_false]
     rw [<- Ya]
     congr 1
    .cases h
end Ht
section Ht
variable {P:Program} {Γ:Env} {V:aY} {w w0:World} {M:Nat->Prop} {T:aZ} {g:Nat->Option SV} {a:Act} {o:Oper} {e:bJ}
def Yj (T:aZ) (k:IntKind):SV->Option (List Prop × List Int)
 | .aG l s off len _=>match T l with
   | some (.ints k2 xs _)=>match decide (k=k2) with
     | true=>some ([off+len<=xs.length],(xs.drop off).take len)
     | false=>none
   | some (.nM k2 xs)=>match decide (k=k2) with
     | true=>some ([off+len<=xs.length],(xs.drop off).take len)
     | false=>none
   | some B=>match Uc B s off len with
     | some (ob,r)=>(cX k r).map fun ns=>(ob,ns)
     | none=>none
   | none=>none
 | .buf l=>match T l with
   | some (.cT k2 xs _)=>match decide (k=k2) with
     | true=>some ([],xs)
     | false=>none
   | _=>none
 | .mS l lo hi=>match T l with
   | some (.cT k2 xs _)=>match decide (k=k2) with
     | true=>some ([lo<=hi/\hi<=xs.length],(xs.drop lo).take (hi-lo))
     | false=>none
   | _=>none
 | .raw (.slice none 0 0)=>some ([],[])
 | .eV l _=>match T l with
   | some (.gQ k2 xs)=>match decide (k=k2) with
     | true=>some ([],xs)
     | false=>none
   | some (.nH xs)=>match decide (k = .u8) with
     | true=>some ([],xs)
     | false=>none
   | _=>none
 | .wT l i _=>match T l with
   | some (.lU ds)=>match decide (k = .u8) with
     | true=>some ([],ds.getD i [])
     | false=>none
   | _=>none
 | _=>none
def Mo (w:World) (x:Value) (cs:List Value):Prop:=
 (x = .slice none 0 0/\cs=[])\/∃ ad c,x = .slice (some ad) cs.length c/\∀ (j:Nat) (u:Value),cs[j]?=some u->w.cell? (ad.add j)=some u
theorem dL.holds {w0 w:World} {M:Nat->Prop} {x:Value} {d:List Int} (h:dL w0 M x d) (hf:fK w0 M w):Mo w x (d.map (Value.int .u8)):=by
 have hk:=h.gG (M':=fun _=>False) hf (fun _ q=>q.elim)
 rcases hk.1 with ⟨⟨a,rfl⟩,rfl⟩ | ⟨b,o,c,rfl,_,_,hh⟩
 .cases a with
  | none=>exact .inl ⟨rfl,rfl⟩
  | some ad=>exact .inr ⟨ad,0,by simp,fun j u hj=>by simp at hj⟩
 .exact .inr ⟨⟨b,o,none⟩,c,by simp,fun j u hj=>by rw [bG];exact hh j u hj⟩
theorem uY {k:IntKind} {v:SV} {x:Value} {ob:List Prop} {ys:List Int} (hT:aC w0 M V T w) (hv:den V v=some x) (h:Yj T k v=some (ob,ys)) (ho:∀ q∈ob,q) :
 Mo w x (ys.map (Value.int k)):=by
 have rd:∀ (l:Nat) (B:SB) (s:Bool) (off len c:Nat) (r:List SV) (p:Nat × Nat),T l=some B->V.β l=some p->Uc B s off len=some (ob,r)->aE V r=some (ys.map (Value.int k)) ->
  Mo w (.slice (some ⟨p.1,p.2+off,none⟩) len c) (ys.map (Value.int k)):=by
  intro l B s off len c r p hB hβ hr hd
  obtain ⟨xs,h1,h2,h3⟩:=pG (hT.ok l B hB) (b:=p.1) (o:=p.2) hβ hr ho
  rw [hd] at h1
  cases h1
  exact .inr ⟨_,c,by rw [h2],fun j u hj=>by rw [bG];exact h3 j u hj⟩
 have aOj:∀ (l:Nat) (B:SB) (xs:List Int) (off len c:Nat) (p:Nat × Nat),(B = .ints k xs (match B with | .ints _ _ ty=>ty | _=>0)\/B = .nM k xs)->T l=some B->V.β l=some p->off+len<=xs.length->ys=(xs.drop off).take len ->
  Mo w (.slice (some ⟨p.1,p.2+off,none⟩) len c) (ys.map (Value.int k)):=by
  intro l B xs off len c p hBk hB hβ hle qK
  have hr:Uc B false off len=some ([off+len<=xs.length],(List.range len).map fun j=>.int false k (xs.getD (off+j) 0)):=by
   rcases hBk with e | e <;> rw [e] <;> rfl
  obtain ⟨zs,h1,h2,h3⟩:=pG (hT.ok l B hB) (b:=p.1) (o:=p.2) hβ hr (by intro q hq;simp only [List.mem_singleton] at hq;subst hq;exact hle)
  have hd:=fZ (V:=V) len (fun j=>.int false k (xs.getD (off+j) 0)) (fun j=>.int k (xs.getD (off+j) 0)) (fun j _=>rfl)
  rw [hd] at h1
  cases h1
  have e:(List.range len).map (fun j=>Value.int k (xs.getD (off+j) 0))=ys.map (Value.int k):=by
   subst qK
   apply List.ext_getElem
   .simp;omega
   .intro j h4 h5
    simp only [List.length_map,List.length_range] at h4
    have h6:off+j<xs.length:=by omega
    simp [List.getD_eq_getElem?_getD,h6]
  rw [e] at h3
  have hlen:len=(ys.map (Value.int k)).length:=by rw [<- e];simp
  exact .inr ⟨_,c,by rw [<- hlen],fun j u hj=>by rw [bG];exact h3 j u hj⟩
 unfold Yj at h
 split at h
 .rename_i l s off len c
  simp only [den,Option.map_eq_some_iff] at hv
  obtain ⟨p,hβ,rfl⟩:=hv
  split at h
  .rename_i k2 xs ty hB
   split at h
   .rename_i hd
    have:=of_decide_eq_true hd
    subst this
    simp only [aU,Prod.mk.injEq] at h
    obtain ⟨rfl,rfl⟩:=h
    exact aOj l _ xs off len c p (.inl rfl) hB hβ (ho _ (by simp)) rfl
   .cases h
  .rename_i k2 xs hB
   split at h
   .rename_i hd
    have:=of_decide_eq_true hd
    subst this
    simp only [aU,Prod.mk.injEq] at h
    obtain ⟨rfl,rfl⟩:=h
    exact aOj l _ xs off len c p (.inr rfl) hB hβ (ho _ (by simp)) rfl
   .cases h
  .rename_i B _ _ hB
   split at h
   .rename_i ob' r hr
    simp only [Option.map_eq_some_iff,Prod.mk.injEq] at h
    obtain ⟨ns,hns,rfl,rfl⟩:=h
    exact rd l B s off len c r p hB hβ hr (cU hns)
   .cases h
  .cases h
 .rename_i l
  split at h
  .rename_i k2 xs ty hB
   split at h
   .rename_i hd
    have:=of_decide_eq_true hd
    subst this
    simp only [aU,Prod.mk.injEq] at h
    obtain ⟨rfl,rfl⟩:=h
    obtain ⟨cs,hc,u,hσ,bK⟩:=hT.ok l _ hB
    simp only [SB.cells,aU] at hc
    subst hc
    simp only [den,hσ,aU] at hv
    subst hv
    rcases bK.1.2 with ⟨rfl,h0⟩ | ⟨gb,cap,cur,rfl,_,hh,_,_,_,cR⟩
    .have:xs=[]:=List.eq_nil_of_length_eq_zero h0
     subst this
     exact .inl ⟨rfl,rfl⟩
    .refine .inr ⟨⟨gb,0,none⟩,cap,by simp,fun j u hj=>?_⟩
     rw [bG,cell_of_row w gb _ _ _ _ hh]
     rw [<- cR,List.getElem?_take] at hj
     split at hj
     .simpa using hj
     .cases hj
   .cases h
  .cases h
 .rename_i l lo hi
  split at h
  .rename_i k2 xs ty hB
   split at h
   .rename_i hd
    have:=of_decide_eq_true hd
    subst this
    simp only [aU,Prod.mk.injEq] at h
    obtain ⟨rfl,rfl⟩:=h
    have hb:lo<=hi/\hi<=xs.length:=ho _ (by simp)
    obtain ⟨cs,hc,u,hσ,bK⟩:=hT.ok l _ hB
    simp only [SB.cells,aU] at hc
    subst hc
    simp only [den,hσ] at hv
    rcases bK.1.2 with ⟨rfl,h0⟩ | ⟨gb,cap,cur,rfl,_,hh,hle,_,_,cR⟩
    .have:xs=[]:=List.eq_nil_of_length_eq_zero h0
     subst this
     simp only [aU] at hv
     have e1:lo=0/\hi=0:=by simp at hb;omega
     obtain ⟨rfl,rfl⟩:=e1
     left
     refine ⟨by rw [<- hv];simp,by simp⟩
    .simp only [aU] at hv
     right
     have hlen:((((xs.drop lo).take (hi-lo)).map (Value.int k)).length)=hi-lo:=by simp;omega
     by_cases pT:cap=lo
     .rw [if_pos pT] at hv
      have h0:hi-lo=0:=by omega
      refine ⟨_,cap-lo,by rw [hlen];exact hv.symm,fun j u hj=>?_⟩
      rw [h0] at hj
      simp at hj
     .rw [if_neg pT] at hv
      refine ⟨_,cap-lo,by rw [hlen];exact hv.symm,fun j u hj=>?_⟩
      show w.cell? (((⟨gb,0,none⟩:Addr).add lo).add j)=some u
      rw [bG,bG,cell_of_row w gb _ _ _ _ hh]
      have h5:(xs.map (Value.int k))[lo+j]?=some u:=by
       simp only [List.map_take,List.map_drop,List.getElem?_take] at hj
       split at hj
       .rwa [List.getElem?_drop] at hj
       .cases hj
      rw [<- cR,List.getElem?_take] at h5
      split at h5
      .simpa using h5
      .cases h5
   .cases h
  .cases h
 .simp only [aU,Prod.mk.injEq] at h
  obtain ⟨rfl,rfl⟩:=h
  simp only [den,aU] at hv
  exact .inl ⟨hv.symm,rfl⟩
 .rename_i l n
  split at h
  .rename_i k2 xs hB
   split at h
   .rename_i hd
    have:=of_decide_eq_true hd
    subst this
    simp only [aU,Prod.mk.injEq] at h
    obtain ⟨rfl,rfl⟩:=h
    obtain ⟨cs,hc,u,hσ,bK⟩:=hT.ok l _ hB
    simp only [SB.cells,aU] at hc
    subst hc
    simp only [den,Option.bind_eq_some_iff] at hv
    obtain ⟨u',fU,hv⟩:=hv
    rw [hσ] at fU
    cases fU
    obtain ⟨rfl,_⟩:=cY hv
    rcases bK with ⟨⟨ad,rfl⟩,rfl⟩ | ⟨b,o,c,rfl,_,_,hh⟩
    .cases ad with
     | none=>exact .inl ⟨rfl,rfl⟩
     | some ad=>exact .inr ⟨ad,0,rfl,fun j u hj=>by simp at hj⟩
    .exact .inr ⟨⟨b,o,none⟩,c,by simp,fun j u hj=>by rw [bG];exact hh j u hj⟩
   .cases h
  .rename_i xs hB
   split at h
   .rename_i hd
    have:=of_decide_eq_true hd
    subst this
    simp only [aU,Prod.mk.injEq] at h
    obtain ⟨rfl,rfl⟩:=h
    obtain ⟨u,hσ,hF⟩:=hT.sL l _ hB
    simp only [den,hσ,Option.bind_some] at hv
    rw [(cY hv).1]
    exact hF.holds hT.frame
   .cases h
  .cases h
 .rename_i l i n
  split at h
  .rename_i ds hB
   split at h
   .rename_i hd
    have:=of_decide_eq_true hd
    subst this
    simp only [aU,Prod.mk.injEq] at h
    obtain ⟨rfl,rfl⟩:=h
    obtain ⟨v,us,hσ,_,RC,hF⟩:=hT.sL l _ hB
    simp only [den,hσ,Option.bind_some,Kx,List.getElem?_cons_succ,Option.bind_eq_some_iff] at hv
    obtain ⟨u,hu,hr⟩:=hv
    rw [(cY hr).1]
    have hi:i<ds.length:=by rw [<- RC];exact (List.getElem?_eq_some_iff.1 hu).1
    rw [List.getD_eq_getElem?_getD,List.getElem?_eq_getElem hi]
    exact (hF i u _ hu (List.getElem?_eq_getElem hi)).holds hT.frame
   .cases h
  .cases h
 .cases h
end Ht
section Ht
variable {P:Program} {Γ:Env} {V:aY} {w w0:World} {M:Nat->Prop} {T:aZ} {g:Nat->Option SV} {a:Act} {o:Oper} {e:bJ}
theorem kJ {t ty el:TypeId} {i:TypeInfo} {z:Value} {v v' x:Value} {w':World} {n:Nat} {xs news:List Value} (ht:P.underlying t=some (.slice el)) (hi:P.info? el=some i) (hz:i.zero=some z)
 (fJ:w.ownsRow 0 el i.size v n xs) {ad:Addr} {m c:Nat} (hx:x = .slice (some ad) m c) (hl:news.length=m*i.size) (Bw:∀ (j:Nat) (u:Value),news[j]?=some u->w.cell? (ad.add j)=some u)
 (h1:∀ u∈news,u.oneCell'=true) (h63:n+m<=maxLen) (Cn:(n+m)*i.bytes<=140737488355328)
 (hr:(Builtin.append_ #[t,t] ty #[v,x]).run P w = .ok v' w'):v'.ownBlock=v.ownBlock\/v'.ownBlock=some w.heap.size:=by
 subst hx
 have Rb:n+m<=9223372036854775807:=by simp only [maxLen] at h63;omega
 rcases fJ.2 with ⟨rfl,rfl⟩ | ⟨gb,cap,cur,rfl,_,hg,RF,DC,lW,cR⟩
 .by_cases hm:m=0
  .subst hm
   have hn:news=[]:=List.eq_nil_of_length_eq_zero (by simpa using hl)
   subst hn
   have:(Builtin.append_ #[t,t] ty #[.slice none 0 0,.slice (some ad) 0 c]).run P w = .ok (.slice none 0 0) w:=by
    simp [Builtin.append_,run_underlying ht,sizeOf,typeInfo,hi,Builtin.lenOf,Builtin.firstCells,loadCells,loadCellsFrom]
   rw [this] at hr
   cases hr
   exact .inl rfl
  .rw [run_append_nil (P:=P) w t ty el i z ht hi hz ad m c news hl Bw (by omega) (by omega) (by simp only [Nat.zero_add] at Cn;omega)] at hr
   cases hr
   exact .inr rfl
 .by_cases uM:n+m<=cap
  .rw [run_append_room (P:=P) w t ty el i ht hi gb n cap cur hg ad m c news hl Bw h1 uM (by rw [hl,lW,<- Nat.add_mul];exact Nat.mul_le_mul_right _ uM)] at hr
   cases hr
   exact .inl rfl
  .have holds:∀ (j:Nat) (u:Value),xs[j]?=some u->w.cell? ((⟨gb,0,none⟩:Addr).add j)=some u:=fun j u hj=>by
    rw [bG,cell_of_row w gb _ _ _ _ hg]
    rw [<- cR,List.getElem?_take] at hj
    split at hj
    .simpa using hj
    .cases hj
   rw [run_append_grow (P:=P) w t ty el i z ht hi hz ⟨gb,0,none⟩ n cap xs fJ.1 holds ad m c news hl Bw (by omega) (by omega) (growslice_fits (by omega) Cn)] at hr
   cases hr
   exact .inr rfl
theorem rJ {k:IntKind} {z:Int} {m:Nat}:∀ x∈(Builtin.zeroCells #[Value.int k z] m).toList,∃ n,x=Value.int k n:=by
 intro x hx
 simp only [Builtin.zeroCells,Array.toList_map,List.mem_map] at hx
 obtain ⟨j,_,rfl⟩:=hx
 refine ⟨z,?_⟩
 have:j%1=0:=Nat.mod_one j
 simp [this]
theorem Oq {k:IntKind} {t ty el:TypeId} {i:TypeInfo} {z0:Int} {z v v' x:Value} {w':World} {n:Nat} {xs news:List Value} (ht:P.underlying t=some (.slice el)) (hi:P.info? el=some i) (hz:i.zero=some z) (zO:z.cells = #[Value.int k z0])
 (fJ:w.ownsRow 0 el i.size v n xs) {ad:Addr} {m c:Nat} (hx:x = .slice (some ad) m c) (hl:news.length=m*i.size) (Bw:∀ (j:Nat) (u:Value),news[j]?=some u->w.cell? (ad.add j)=some u)
 (h1:∀ u∈news,u.oneCell'=true) (h63:n+m<=maxLen) (Cn:(n+m)*i.bytes<=140737488355328) (hI:iI w k v) (hn:∀ u∈news,∃ n,u=Value.int k n)
 (hr:(Builtin.append_ #[t,t] ty #[v,x]).run P w = .ok v' w'):iI w' k v':=by
 subst hx
 have Rb:n+m<=9223372036854775807:=by simp only [maxLen] at h63;omega
 rcases fJ.2 with ⟨rfl,rfl⟩ | ⟨gb,cap,cur,rfl,_,hg,RF,DC,lW,cR⟩
 .by_cases hm:m=0
  .subst hm
   have hn:news=[]:=List.eq_nil_of_length_eq_zero (by simpa using hl)
   subst hn
   have:(Builtin.append_ #[t,t] ty #[.slice none 0 0,.slice (some ad) 0 c]).run P w = .ok (.slice none 0 0) w:=by
    simp [Builtin.append_,run_underlying ht,sizeOf,typeInfo,hi,Builtin.lenOf,Builtin.firstCells,loadCells,loadCellsFrom]
   rw [this] at hr
   cases hr
   exact iI.nil rfl
  .rw [run_append_nil (P:=P) w t ty el i z ht hi hz ad m c news hl Bw (by omega) (by omega) (by simp only [Nat.zero_add] at Cn;omega)] at hr
   cases hr
   intro b hb
   cases hb
   refine ⟨_,_,_,heap_alloc_new w.drew _,fun q hq=>?_⟩
   simp only [Array.toList_append,List.mem_append] at hq
   rcases hq with hq | hq
   .exact hn q hq
   .rw [zO] at hq;exact rJ q hq
 .obtain ⟨VA,ty2,p2,uC,kF⟩:=hI gb rfl
  rw [hg] at uC
  cases uC
  by_cases uM:n+m<=cap
  .rw [run_append_room (P:=P) w t ty el i ht hi gb n cap cur hg ad m c news hl Bw h1 uM (by rw [hl,lW,<- Nat.add_mul];exact Nat.mul_le_mul_right _ uM)] at hr
   cases hr
   intro b hb
   cases hb
   refine ⟨_,_,_,setRow_heap w gb cur _ el (0,0) hg,fun q hq=>?_⟩
   simp only [List.mem_append] at hq
   rcases hq with (hq | hq) | hq
   .exact kF q (List.mem_of_mem_take hq)
   .exact hn q hq
   .exact kF q (List.mem_of_mem_drop hq)
  .have holds:∀ (j:Nat) (u:Value),xs[j]?=some u->w.cell? ((⟨gb,0,none⟩:Addr).add j)=some u:=fun j u hj=>by
    rw [bG,cell_of_row w gb _ _ _ _ hg]
    rw [<- cR,List.getElem?_take] at hj
    split at hj
    .simpa using hj
    .cases hj
   rw [run_append_grow (P:=P) w t ty el i z ht hi hz ⟨gb,0,none⟩ n cap xs fJ.1 holds ad m c news hl Bw (by omega) (by omega) (growslice_fits (by omega) Cn)] at hr
   cases hr
   intro b hb
   cases hb
   refine ⟨_,_,_,heap_alloc_new w.drew _,fun q hq=>?_⟩
   simp only [Array.toList_append,List.mem_append] at hq
   rcases hq with (hq | hq) | hq
   .rw [<- cR] at hq
    exact kF q (List.mem_of_mem_take hq)
   .exact hn q hq
   .rw [zO] at hq;exact rJ q hq
def Gi (T:aZ) (k:IntKind) (el:TypeId):SV->Option (Option Nat × List Prop × List Int)
 | .raw (.slice none 0 0)=>some (none,[],[])
 | .buf l=>match T l with
   | some (.cT k2 xs ty)=>match decide (k2=k),Nat.beq ty el with
     | true,true=>some (some l,[],xs)
     | _,_=>none
   | _=>none
 | .aG l s 0 len cap=>match T l with
   | some (.ints k2 xs ty)=>match decide (k2=k),Nat.beq ty el with
     | true,true=>some (some l,[cap=xs.length/\len<=cap/\cap<=9223372036854775807],xs.take len)
     | _,_=>none
   | some (.own cells ty)=>match s,cX k cells,Nat.beq ty el with
     | true,some xs,true=>match Nat.beq cap cells.length,Nat.ble len cap,Nat.ble cap 9223372036854775807 with
       | true,true,true=>some (some l,[],xs.take len)
       | _,_,_=>none
     | _,_,_=>none
   | _=>none
 | _=>none
theorem Nu {k:IntKind} {el:TypeId} {v:SV} {x:Value} {lo:Option Nat} {ob:List Prop} {xs:List Int} (hT:aC w0 M V T w) (hv:den V v=some x) (h:Gi T k el v=some (lo,ob,xs)) (ho:∀ q∈ob,q) :
 w.ownsRow 0 el 1 x xs.length (xs.map (Value.int k))/\(lo=none->x.ownBlock=none)/\∀ l,lo=some l->∃ B,T l=some B/\B.owned=true/\∀ n,x.ownBlock=some n->B.aN V l=some n:=by
 have full:∀ (l:Nat) (B:SB) (ys:List Int) (len cap:Nat),T l=some B->B.owned=true->V.β l≠none->(∃ b,V.β l=some (b,0)/\B.aN V l=some b/\w.heap[b]?=some (.cells (ys.map (Value.int k)).toArray el (0,0)))->cap=ys.length->len<=cap->cap<=9223372036854775807 ->
  den V (.aG l true 0 len cap)=some x->w.ownsRow 0 el 1 x (ys.take len).length ((ys.take len).map (Value.int k))/\∃ B,T l=some B/\B.owned=true/\∀ n,x.ownBlock=some n->B.aN V l=some n:=by
  intro l B ys len cap hB fJ _ ⟨b,hβ,fA,hh⟩ qC hle Ib hd
  simp only [den,hβ,Option.map_some,aU,Nat.add_zero] at hd
  subst hd
  have hlen:(ys.take len).length=len:=by simp;omega
  refine ⟨⟨by simp,.inr ⟨b,cap,_,by rw [hlen],Nat.zero_le _,hh,by omega,by simp only [maxLen];omega,by simp [qC],by rw [hlen];simp [List.map_take]⟩⟩,B,hB,fJ,fun n hn=>?_⟩
  simp only [Value.ownBlock,aU] at hn
  subst hn
  exact fA
 unfold Gi at h
 split at h
 .simp only [aU,Prod.mk.injEq] at h
  obtain ⟨rfl,rfl,rfl⟩:=h
  simp only [den,aU] at hv
  subst hv
  exact ⟨World.ownsRow_nil w 0 el 1,fun _=>rfl,fun l hl=>(by cases hl)⟩
 .rename_i l
  split at h
  .rename_i k2 ys ty hB
   split at h
   .rename_i h1 h2
    have:=of_decide_eq_true h1
    subst this
    have:=cH h2
    subst this
    simp only [aU,Prod.mk.injEq] at h
    obtain ⟨rfl,rfl,rfl⟩:=h
    obtain ⟨cs,hc,u,hσ,bK⟩:=hT.ok l _ hB
    simp only [SB.cells,aU] at hc
    subst hc
    simp only [den,hσ,aU] at hv
    subst hv
    refine ⟨bK.1,fun h=>(by cases h),fun l' rK=>?_⟩
    cases rK
    exact ⟨_,hB,rfl,fun n hn=>by simp [SB.aN,hσ,hn]⟩
   .cases h
  .cases h
 .rename_i l s len cap
  have Ov:den V (.aG l true 0 len cap)=some x:=hv
  split at h
  .rename_i k2 ys ty hB
   split at h
   .rename_i h1 h2
    have:=of_decide_eq_true h1
    subst this
    have:=cH h2
    subst this
    simp only [aU,Prod.mk.injEq] at h
    obtain ⟨rfl,rfl,rfl⟩:=h
    obtain ⟨qC,hle,Ib⟩:cap=ys.length/\len<=cap/\cap<=9223372036854775807:=ho _ (by simp)
    obtain ⟨cs,hc,b,hβ,hh⟩:=hT.ok l _ hB
    simp only [SB.cells,aU] at hc
    subst hc
    obtain ⟨r1,r2⟩:=full l _ ys len cap hB rfl (by rw [hβ];simp) ⟨b,hβ,by simp [SB.aN,hβ],hh⟩ qC hle Ib Ov
    exact ⟨r1,fun h=>(by cases h),fun l' rK=>(by cases rK;exact r2)⟩
   .cases h
  .rename_i cells ty hB
   split at h
   .rename_i ys qK h2
    have:=cH h2
    subst this
    split at h
    .rename_i h3 h4 h5
     simp only [aU,Prod.mk.injEq] at h
     obtain ⟨rfl,rfl,rfl⟩:=h
     obtain ⟨cs,hc,b,hβ,hh⟩:=hT.ok l _ hB
     have uC:=cU (V:=V) qK
     rw [show SB.cells V (.own cells ty)=aE V cells from rfl,uC] at hc
     cases hc
     have sJ:=bB uC
     obtain ⟨r1,r2⟩:=full l _ ys len cap hB rfl (by rw [hβ];simp) ⟨b,hβ,by simp [SB.aN,hβ],hh⟩ (by rw [cH h3];simpa using sJ.symm) (Nat.le_of_ble_eq_true h4) (Nat.le_of_ble_eq_true h5) Ov
     exact ⟨r1,fun h=>(by cases h),fun l' rK=>(by cases rK;exact r2)⟩
    .cases h
   .cases h
  .cases h
 .cases h
theorem tX {k:IntKind} {el:TypeId} {v:SV} {x:Value} {lo:Option Nat} {ob:List Prop} {xs:List Int} (hT:aC w0 M V T w) (hv:den V v=some x) (h:Gi T k el v=some (lo,ob,xs)):iI w k x:=by
 have full:∀ (l:Nat) (ys:List Int) (s:Bool) (len cap b:Nat),V.β l=some (b,0)->w.heap[b]?=some (.cells (ys.map (Value.int k)).toArray el (0,0))->den V (.aG l s 0 len cap)=some x->iI w k x:=by
  intro l ys s len cap b hβ hh hd
  simp only [den,hβ,Option.map_some,aU,Nat.add_zero] at hd
  subst hd
  intro b' hb
  cases hb
  refine ⟨_,_,_,hh,fun q hq=>?_⟩
  obtain ⟨n,_,rfl⟩:=List.mem_map.1 (by simpa using hq)
  exact ⟨n,rfl⟩
 unfold Gi at h
 split at h
 .simp only [den,aU] at hv
  subst hv
  exact iI.nil rfl
 .rename_i l
  split at h
  .rename_i k2 ys ty hB
   split at h
   .rename_i h1 h2
    have:=of_decide_eq_true h1
    subst this
    obtain ⟨cs,hc,u,hσ,bK⟩:=hT.ok l _ hB
    simp only [den,hσ,aU] at hv
    subst hv
    exact bK.2
   .cases h
  .cases h
 .rename_i l s len cap
  split at h
  .rename_i k2 ys ty hB
   split at h
   .rename_i h1 h2
    have:=of_decide_eq_true h1
    subst this
    have:=cH h2
    subst this
    obtain ⟨cs,hc,b,hβ,hh⟩:=hT.ok l _ hB
    simp only [SB.cells,aU] at hc
    subst hc
    exact full l ys s len cap b hβ hh hv
   .cases h
  .rename_i cells ty hB
   split at h
   .rename_i ys qK h2
    have:=cH h2
    subst this
    obtain ⟨cs,hc,b,hβ,hh⟩:=hT.ok l _ hB
    have uC:=cU (V:=V) qK
    rw [show SB.cells V (.own cells ty)=aE V cells from rfl,uC] at hc
    cases hc
    exact full l ys _ len cap b hβ hh hv
   .cases h
  .cases h
 .cases h
def fV:Option Nat->List (Nat × SB)
 | some l=>[(l,.gone)]
 | none=>[]
theorem aC.pM (h:aC w0 M V T w) {lab:Nat} (hf:V.fresh lab) {w':World} {v v' u':Value} {lo:Option Nat} {B:SB}
 (lS:okB (V.aV lab u') w' lab B) (Kp:∀ n,B.aN (V.aV lab u') lab=some n->v'.ownBlock=some n) (qL:w.grownBy w' v.ownBlock)
 (fA:v'.ownBlock=v.ownBlock\/v'.ownBlock=some w.heap.size) (iY:lo=none->v.ownBlock=none)
 (Hr:∀ l,lo=some l->∃ B,T l=some B/\B.owned=true/\∀ n,v.ownBlock=some n->B.aN V l=some n) (rv:SV) (ob:List Prop) (Ap:kR w0 M (V.aV lab u') lab B:=by exact cV rfl) :
 aC w0 M (V.aV lab u') (eI T lab { bM:=ob,val:=rv,new:=[B],wr:=fV lo }) w':=by
 have bN:=aY.bS hf lab (Nat.le_refl _) (by omega) u'
 have jY:∀ l,lo=some l->l≠lab:=by
  intro l hl e
  subst e
  obtain ⟨B1,h1,h2,_⟩:=Hr l hl
  rcases h.known h1 (by rintro rfl;cases h2) with h3 | h3
  .exact h3 (hf l (Nat.le_refl _) (by omega)).1
  .exact h3 (hf l (Nat.le_refl _) (by omega)).2
 have Mc:∀ n,v.ownBlock=some n->∃ l B0,lo=some l/\T l=some B0/\B0.owned=true/\B0.aN V l=some n:=by
  intro n hn
  cases iU:lo with
  | none=>rw [iY iU] at hn;cases hn
  | some l=>obtain ⟨B1,h1,h2,h3⟩:=Hr l iU;exact ⟨l,B1,rfl,h1,h2,h3 n hn⟩
 refine h.step (N:=fun k=>if k=lab then some B else if lo=some k then some .gone else none) bN.1 (fun k C hk=>?_) (fun k C hk=>?_) (fun k C n hk hb=>?_) (fun k C k' C' n dD hk gW fJ hb=>?_) qL.size (fun n hn hx=>?_) qL.os qL.tape qL.output (fun k C hk=>?_)
 .have gB:look k (fV lo++[(lab,B)])=some C\/(look k (fV lo++[(lab,B)])=none/\T k=some C):=by
   unfold eI bJ.eG at hk
   simp only [fO] at hk
   split at hk
   .rename_i C' hC;cases hk;exact .inl hC
   .rename_i hC;exact .inr ⟨hC,hk⟩
  rw [bY] at gB
  by_cases e:k=lab
  .subst e
   left
   have h0:look k (fV lo)=none:=by
    cases iU:lo with
    | none=>rfl
    | some l=>simp only [fV];rw [aD (jY l iU)];rfl
   rw [h0] at gB
   simp only [aI] at gB
   rcases gB with gB | ⟨gB,_⟩
   .simpa using gB
   .cases gB
  .have h0:look k [(lab,B)]=none:=by rw [aD (fun x=>e x.symm)];rfl
   rw [h0] at gB
   cases iU:lo with
   | none=>
     rw [iU] at gB
     simp only [fV,look] at gB
     rcases gB with gB | ⟨_,gB⟩
     .cases gB
     .right;exact ⟨by simp [e],gB⟩
   | some l=>
     rw [iU] at gB
     simp only [fV] at gB
     by_cases e2:l=k
     .subst e2
      rw [aI] at gB
      rcases gB with gB | ⟨gB,_⟩
      .left;simp only [aU] at gB;subst gB;simp [e]
      .cases gB
     .rw [aD e2] at gB
      simp only [look] at gB
      rcases gB with gB | ⟨_,gB⟩
      .cases gB
      .right;exact ⟨by simp [e,e2],gB⟩
 .by_cases e:k=lab
  .subst e
   simp only [if_true,aU] at hk
   subst hk
   exact lS
  .simp only [e,if_false] at hk
   split at hk
   .cases hk;exact ⟨[],rfl,trivial⟩
   .cases hk
 .by_cases e:k=lab
  .subst e
   simp only [if_true,aU] at hk
   subst hk
   have iE:v'.ownBlock=some n:=Kp n hb
   rcases fA with lA | lA
   .rw [lA] at iE
    obtain ⟨l,B0,h0,h1,h2,h3⟩:=Mc n iE
    exact .inr (.inl ⟨l,B0,h1,h2,h3,by simp [jY l h0,h0]⟩)
   .rw [lA] at iE;cases iE;exact .inl (Nat.le_refl _)
  .simp only [e,if_false] at hk
   split at hk
   .cases hk;simp [SB.aN] at hb
   .cases hk
 .by_cases e:k=lab
  .subst e
   have e':k'≠k:=fun x=>dD x.symm
   simp only [e',if_false] at gW
   split at gW
   .cases gW;simp [SB.aN]
   .cases gW
  .simp only [e,if_false] at hk
   split at hk
   .cases hk;cases fJ
   .cases hk
 .refine qL.block n hn fun e=>?_
  obtain ⟨l,B0,h0,h1,h2,h3⟩:=Mc n e.symm
  exact hx l B0 h1 h2 (by simp [jY l h0,h0]) h3
 .split at hk
  .rename_i e
   subst e
   cases hk
   exact Ap
  .split at hk
   .cases hk;trivial
   .cases hk
theorem aC.append (h:aC w0 M V T w) {lab:Nat} (hf:V.fresh lab) {w':World} {v v':Value} {lo:Option Nat} {B:SB} {cs:List Value} {el:TypeId} {sz n:Nat}
 (hB:∃ k xs,B = .cT k xs el/\sz=1/\n=xs.length/\iI w' k v') (hc:B.cells V=some cs) (bK:w'.ownsRow 0 el sz v' n cs) (qL:w.grownBy w' v.ownBlock)
 (fA:v'.ownBlock=v.ownBlock\/v'.ownBlock=some w.heap.size) (iY:lo=none->v.ownBlock=none)
 (Hr:∀ l,lo=some l->∃ B,T l=some B/\B.owned=true/\∀ n,v.ownBlock=some n->B.aN V l=some n) (rv:SV) (ob:List Prop) :
 aC w0 M (V.aV lab v') (eI T lab { bM:=ob,val:=rv,new:=[B],wr:=fV lo }) w':=by
 have bN:=aY.bS hf lab (Nat.le_refl _) (by omega) v'
 have Bh:(V.aV lab v').σ lab=some v':=by simp [aY.aV]
 refine h.pM hf ⟨cs,SB.iV bN.1 hc,?_⟩ (fun n hb=>?_) qL fA iY Hr rv ob (by obtain ⟨kk,xs,rfl,_⟩:=hB;trivial)
 .obtain ⟨kk,xs,rfl,rfl,rfl,hI⟩:=hB
  exact ⟨v',Bh,bK,hI⟩
 .obtain ⟨kk,xs,rfl,_⟩:=hB
  simpa [SB.aN,Bh] using hb
theorem aC.Ah (h:aC w0 M V T w) {lab:Nat} (hf:V.fresh lab) {w':World} {v':Value} {own:Option Nat} {lo:Option Nat} {cells:List SV} {cs:List Value} {el:TypeId} {sz nn:Nat}
 (hc:aE V cells=some cs) (bK:w'.ownsRow 0 el sz v' nn cs) (Lb:v' ≠ .slice none 0 0) (qL:w.grownBy w' own)
 (fA:v'.ownBlock=own\/v'.ownBlock=some w.heap.size) (iY:lo=none->own=none)
 (Hr:∀ l,lo=some l->∃ B,T l=some B/\B.owned=true/\∀ n,own=some n->B.aN V l=some n) (rv:SV) (ob:List Prop) :
 ∃ b cap,v' = .slice (some ⟨b,0,none⟩) nn cap/\aC w0 M (V.En lab (b,0) (.int .i64 (cap:Nat))) (eI T lab { bM:=ob,val:=rv,new:=[.row sz cells el],wr:=fV lo }) w':=by
 obtain ⟨b,cap,cur,rfl,_,Bx,aTn,DC,lW,cR⟩:=bK.2.resolve_left (fun q=>Lb q.1)
 refine ⟨b,cap,rfl,?_⟩
 have bN:=aY.qZ hf lab (Nat.le_refl _) (by omega) (b,0) (.int .i64 (cap:Nat))
 have Bh:(V.En lab (b,0) (.int .i64 (cap:Nat))).β lab=some (b,0):=by simp [aY.En,aY.put,aY.aV]
 have aLb:(V.En lab (b,0) (.int .i64 (cap:Nat))).σ lab=some (.int .i64 (cap:Nat)):=by simp [aY.En,aY.put,aY.aV]
 have jY:∀ l,lo=some l->l≠lab:=by
  intro l hl e
  subst e
  obtain ⟨B1,h1,h2,_⟩:=Hr l hl
  rcases h.known h1 (by rintro rfl;cases h2) with h3 | h3
  .exact h3 (hf l (Nat.le_refl _) (by omega)).1
  .exact h3 (hf l (Nat.le_refl _) (by omega)).2
 have Mc:∀ n,own=some n->∃ l B0,lo=some l/\T l=some B0/\B0.owned=true/\B0.aN V l=some n:=by
  intro n hn
  cases iU:lo with
  | none=>rw [iY iU] at hn;cases hn
  | some l=>obtain ⟨B1,h1,h2,h3⟩:=Hr l iU;exact ⟨l,B1,rfl,h1,h2,h3 n hn⟩
 refine h.step (N:=fun k=>if k=lab then some (.row sz cells el) else if lo=some k then some .gone else none) bN.1 (fun k C hk=>?_) (fun k C hk=>?_) (fun k C n hk hb=>?_) (fun k C k' C' n dD hk gW fJ hb=>?_) qL.size (fun n hn hx=>?_) qL.os qL.tape qL.output
 .have gB:look k (fV lo++[(lab,SB.row sz cells el)])=some C\/(look k (fV lo++[(lab,SB.row sz cells el)])=none/\T k=some C):=by
   unfold eI bJ.eG at hk
   simp only [fO] at hk
   split at hk
   .rename_i C' hC;cases hk;exact .inl hC
   .rename_i hC;exact .inr ⟨hC,hk⟩
  rw [bY] at gB
  by_cases e:k=lab
  .subst e
   left
   have h0:look k (fV lo)=none:=by
    cases iU:lo with
    | none=>rfl
    | some l=>simp only [fV];rw [aD (jY l iU)];rfl
   rw [h0] at gB
   simp only [aI] at gB
   rcases gB with gB | ⟨gB,_⟩
   .simpa using gB
   .cases gB
  .have h0:look k [(lab,SB.row sz cells el)]=none:=by rw [aD (fun x=>e x.symm)];rfl
   rw [h0] at gB
   cases iU:lo with
   | none=>
     rw [iU] at gB
     simp only [fV,look] at gB
     rcases gB with gB | ⟨_,gB⟩
     .cases gB
     .right;exact ⟨by simp [e],gB⟩
   | some l=>
     rw [iU] at gB
     simp only [fV] at gB
     by_cases e2:l=k
     .subst e2
      rw [aI] at gB
      rcases gB with gB | ⟨gB,_⟩
      .left;simp only [aU] at gB;subst gB;simp [e]
      .cases gB
     .rw [aD e2] at gB
      simp only [look] at gB
      rcases gB with gB | ⟨_,gB⟩
      .cases gB
      .right;exact ⟨by simp [e,e2],gB⟩
 .by_cases e:k=lab
  .subst e
   simp only [if_true,aU] at hk
   subst hk
   refine ⟨cs,cZ bN.1 hc,b,cap,cur,Bh,aLb,Bx,DC,lW,⟨nn,bK.1,aTn⟩,?_⟩
   rw [bK.1];exact cR
  .simp only [e,if_false] at hk
   split at hk
   .cases hk;exact ⟨[],rfl,trivial⟩
   .cases hk
 .by_cases e:k=lab
  .subst e
   simp only [if_true,aU] at hk
   subst hk
   have iE:(Value.slice (some ⟨b,0,none⟩) nn cap).ownBlock=some n:=by
    simpa [SB.aN,Bh,Value.ownBlock] using hb
   rcases fA with lA | lA
   .rw [lA] at iE
    obtain ⟨l,B0,h0,h1,h2,h3⟩:=Mc n iE
    exact .inr (.inl ⟨l,B0,h1,h2,h3,by simp [jY l h0,h0]⟩)
   .rw [lA] at iE;cases iE;exact .inl (Nat.le_refl _)
  .simp only [e,if_false] at hk
   split at hk
   .cases hk;simp [SB.aN] at hb
   .cases hk
 .by_cases e:k=lab
  .subst e
   have e':k'≠k:=fun x=>dD x.symm
   simp only [e',if_false] at gW
   split at gW
   .cases gW;simp [SB.aN]
   .cases gW
  .simp only [e,if_false] at hk
   split at hk
   .cases hk;cases fJ
   .cases hk
 .refine qL.block n hn fun e=>?_
  obtain ⟨l,B0,h0,h1,h2,h3⟩:=Mc n e.symm
  exact hx l B0 h1 h2 (by simp [jY l h0,h0]) h3
end Ht
section Ht
variable {P:Program} {Γ:Env} {V:aY} {w w0:World} {M:Nat->Prop} {T:aZ} {g:Nat->Option SV} {a:Act} {o:Oper} {e:bJ}
def nZ (P:Program) (w0:World) (M:Nat->Prop) (V:aY) (T:aZ) (lab:Nat) (e:bJ) (s:Sem Value) (w:World):Prop:=
 ∃ V' x w',s.run P w = .ok x w'/\V.ext lab V'/\den V' e.val=some x/\aC w0 M V' (eI T lab e) w'
theorem oX {lab:Nat} {s:Sem Value} (h:∃ x,s.run P w = .ok x w/\den V e.val=some x/\e.new=[]/\e.wr=[]) (hT:aC w0 M V T w):nZ P w0 M V T lab e s w:=by
 obtain ⟨x,h1,h2,h3,h4⟩:=h
 exact ⟨V,x,w,h1,V.cN lab,h2,by rw [jW T lab h3 h4];exact hT⟩
theorem aC.sub {T':aZ} (h:aC w0 M V T w) (aL:∀ l B,T' l=some B->T l=some B):aC w0 M V T' w:=
 ⟨fun l B hl=>h.ok l B (aL l B hl),fun l B l' B' n dD hl rK=>h.jN l B l' B' n dD (aL l B hl) (aL l' B' rK),fun l B n hl=>h.perm l B n (aL l B hl),h.frame,fun l B hl=>h.sL l B (aL l B hl)⟩
def Yr:TypeDesc->Option IntKind
 | .int k=>some k
 | _=>none
def zI (te:TI):Bool:=match te.zero,te.desc with
 | [.int _ k _],.int k2=>decide (k=k2)
 | _,_=>false
def HN (T:aZ) (te:TI) (el:TypeId) (lab:Nat) (x y:SV):Option bJ:=
 match Yr te.desc,Nat.beq te.size 1,Nat.blt 0 te.bytes&&zI te with
 | some k,true,true=>match Gi T k el x,Yj T k y with
   | some (lo,o1,xs),some (o2,ys)=>some { bM:=[(xs.length+ys.length)*te.bytes<=140737488355328]++o1++o2,val:=.buf lab,new:=[.cT k (xs++ys) el],wr:=fV lo }
   | _,_=>none
 | _,_,_=>none
theorem PY (aT:cA P Γ) {T':aZ} (aL:∀ l B,T' l=some B->T l=some B) (hT:aC w0 M V T w) {lab:Nat} (hf:V.fresh lab) {t ty el:TypeId} {te:TI} (ht:P.underlying t=some (.slice el)) (eA:Γ.ty el=some te)
 {x y:SV} {u v:Value} (hx:den V x=some u) (hy:den V y=some v) (he:HN T' te el lab x y=some e) (ho:∀ q∈e.bM,q):nZ P w0 M V T lab e (Builtin.append_ #[t,t] ty #[u,v]) w:=by
 unfold HN at he
 split at he
 .rename_i k hk gJ DF
  split at he
  .rename_i lo o1 xs o2 ys h1 h2
   simp only [aU] at he
   subst he
   obtain ⟨_,i,z,hi,cD,jJ,hz,hzero⟩:=aT el te eA
   have fQ:i.size=1:=by rw [cD];exact cH gJ
   simp only [Bool.and_eq_true] at DF
   have qH:0<te.bytes:=by simpa [Nat.blt_eq] using DF.1
   have hbound:(xs.length+ys.length)*te.bytes<=140737488355328:=ho _ (by simp)
   have hd:=Nu (hT.sub aL) hx h1 (fun q hq=>ho q (by simp [hq]))
   have hh:=uY (hT.sub aL) hy h2 (fun q hq=>ho q (by simp [hq]))
   obtain ⟨bK,iY,Hr⟩:=hd
   have iU:∀ l,lo=some l->∃ B,T l=some B/\B.owned=true/\∀ n,u.ownBlock=some n->B.aN V l=some n:=fun l hl=>by
    obtain ⟨B,h1,h2,h3⟩:=Hr l hl;exact ⟨B,aL l B h1,h2,h3⟩
   have DX:xs.length+ys.length<=maxLen:=by
    have:=Nat.le_mul_of_pos_right (xs.length+ys.length) qH
    simp only [maxLen];omega
   obtain ⟨z0,zO⟩:∃ z0,z.cells = #[Value.int k z0]:=by
    have hq:=DF.2
    unfold zI at hq
    split at hq
    .rename_i s k1 z1 k2 QY CG
     have e1:=of_decide_eq_true hq
     subst e1
     have Ao:k1=k:=by
      unfold Yr at hk
      rw [CG] at hk
      simpa using hk
     subst Ao
     have h3:=hzero V
     rw [QY] at h3
     simp only [aE,den,Option.bind_some,Option.map_some,aU] at h3
     exact ⟨z1,by apply Array.ext';rw [<- h3]⟩
    .cases hq
   have qJ:z.cells.size=1:=by rw [zO];rfl
   rcases hh with ⟨rfl,qK⟩ | ⟨ad,c,rfl,bV⟩
   .have:ys=[]:=by simpa using qK
    subst this
    have hr:=run_append_owned_none (P:=P) (w:=w) 0 t ty el i 1 ht hi u xs.length _ bK
    refine ⟨V.aV lab u,u,w,hr,aY.bS hf lab (Nat.le_refl _) (by omega) u,by simp [den,aY.aV],?_⟩
    exact hT.append hf ⟨k,xs++[],rfl,rfl,rfl,tX (hT.sub aL) hx h1⟩ (show SB.cells V (.cT k (xs++[]) el)=some ((xs++[]).map (Value.int k)) from rfl) (by simpa using bK) ⟨rfl,rfl,rfl,Nat.le_refl _,fun _ _ _=>rfl⟩ (.inl rfl) iY iU _ _
   .have iT:∀ q∈ys.map (Value.int k),q.oneCell'=true:=by
     intro q hq
     obtain ⟨n,_,rfl⟩:=List.mem_map.1 hq
     rfl
    have hl:(ys.map (Value.int k)).length=(ys.map (Value.int k)).length*i.size:=by rw [fQ];simp
    have GP:w.ownsRow 0 el i.size u xs.length (xs.map (Value.int k)):=by rw [fQ];exact bK
    obtain ⟨v',w',hr,jP,qL,_⟩:=run_append_own (P:=P) w 0 t ty el i z i.size i.bytes ht hi hz rfl rfl (by rw [fQ];exact qJ) (by omega) u xs.length (xs.map (Value.int k)) GP ad _ c _ hl bV iT (by simpa using DX) (by rw [jJ];simpa using hbound) (Nat.zero_le _)
    have fA:=kJ (P:=P) ht hi hz GP rfl hl bV iT (by simpa using DX) (by rw [jJ];simpa using hbound) hr
    refine ⟨V.aV lab v',v',w',hr,aY.bS hf lab (Nat.le_refl _) (by omega) v',by simp [den,aY.aV],?_⟩
    rw [fQ] at jP
    have hI:=Oq (P:=P) ht hi hz zO GP rfl hl bV iT (by simpa using DX) (by rw [jJ];simpa using hbound) (tX (hT.sub aL) hx h1) (fun u hu=>by obtain ⟨n,_,rfl⟩:=List.mem_map.1 hu;exact ⟨n,rfl⟩) hr
    exact hT.append hf ⟨k,xs++ys,rfl,rfl,rfl,hI⟩ (show SB.cells V (.cT k (xs++ys) el)=some ((xs++ys).map (Value.int k)) from rfl) (by simpa using jP) qL fA iY iU _ _
  .cases he
 .cases he
end Ht
section Ht
variable {P:Program} {Γ:Env} {V:aY} {w w0:World} {M:Nat->Prop} {T:aZ} {g:Nat->Option SV} {a:Act} {o:Oper} {e:bJ}
def KJ (w:World) (sz:Nat) (x:Value) (m:Nat) (cs:List Value):Prop:=
 (x = .slice none 0 0/\m=0/\cs=[])\/∃ ad c,x = .slice (some ad) m c/\cs.length=m*sz/\∀ (j:Nat) (u:Value),cs[j]?=some u->w.cell? (ad.add j)=some u
def Az (T:aZ) (sz:Nat):SV->Option (Nat × List SV)
 | .aG l s off len _=>match T l with
   | some B=>match Uc B s off (len*sz) with
     | some ([],r)=>match lL r with
       | true=>some (len,r)
       | false=>none
     | _=>none
   | none=>none
 | .cP l off len _=>match T l with
   | some B=>match Uc B true off (len*sz) with
     | some ([],r)=>match lL r with
       | true=>some (len,r)
       | false=>none
     | _=>none
   | none=>none
 | .raw (.slice none 0 0)=>some (0,[])
 | _=>none
theorem rO {sz:Nat} {v:SV} {x:Value} {m:Nat} {r:List SV} (hT:aC w0 M V T w) (hv:den V v=some x) (h:Az T sz v=some (m,r)) :
 ∃ cs,aE V r=some cs/\lL r=true/\KJ w sz x m cs:=by
 have rd:∀ (l:Nat) (B:SB) (s:Bool) (off len c:Nat) (r:List SV) (p:Nat × Nat),T l=some B->V.β l=some p->Uc B s off (len*sz)=some ([],r) ->
  ∃ cs,aE V r=some cs/\KJ w sz (.slice (some ⟨p.1,p.2+off,none⟩) len c) len cs:=by
  intro l B s off len c r p hB hβ hr
  obtain ⟨xs,h1,h2,h3⟩:=pG (hT.ok l B hB) (b:=p.1) (o:=p.2) hβ hr (by simp)
  exact ⟨xs,h1,.inr ⟨_,c,rfl,h2,fun j u hj=>by rw [bG];exact h3 j u hj⟩⟩
 unfold Az at h
 split at h
 .rename_i l s off len c
  simp only [den,Option.map_eq_some_iff] at hv
  obtain ⟨p,hβ,rfl⟩:=hv
  split at h
  .rename_i B hB
   split at h
   .rename_i r' hr
    split at h
    .rename_i iT
     simp only [aU,Prod.mk.injEq] at h
     obtain ⟨rfl,rfl⟩:=h
     obtain ⟨cs,h1,h2⟩:=rd l B s off len c r' p hB hβ hr
     exact ⟨cs,h1,iT,h2⟩
    .cases h
   .cases h
  .cases h
 .rename_i l off len lo
  simp only [den,Option.map_eq_some_iff,Option.bind_eq_some_iff] at hv
  obtain ⟨p,hβ,c,_,rfl⟩:=hv
  split at h
  .rename_i B hB
   split at h
   .rename_i r' hr
    split at h
    .rename_i iT
     simp only [aU,Prod.mk.injEq] at h
     obtain ⟨rfl,rfl⟩:=h
     obtain ⟨cs,h1,h2⟩:=rd l B true off len (c-lo) r' p hB hβ hr
     exact ⟨cs,h1,iT,h2⟩
    .cases h
   .cases h
  .cases h
 .simp only [aU,Prod.mk.injEq] at h
  obtain ⟨rfl,rfl⟩:=h
  simp only [den,aU] at hv
  exact ⟨[],rfl,rfl,.inl ⟨hv.symm,rfl,rfl⟩⟩
 .cases h
def Gj (T:aZ) (el:TypeId) (sz:Nat):SV->Option (Option Nat × Nat × List SV)
 | .raw (.slice none 0 0)=>some (none,0,[])
 | .cP l 0 len 0=>match T l with
   | some (.row sz2 cells ty)=>match Nat.beq sz2 sz,Nat.beq ty el,Nat.ble (len*sz) cells.length&&Nat.blt 0 sz with
     | true,true,true=>some (some l,len,cells.take (len*sz))
     | _,_,_=>none
   | _=>none
 | .aG l true 0 len cap=>match T l with
   | some (.own cells ty)=>match Nat.beq (cap*sz) cells.length,Nat.beq ty el,Nat.ble len cap&&Nat.ble cap 9223372036854775807 with
     | true,true,true=>some (some l,len,cells.take (len*sz))
     | _,_,_=>none
   | _=>none
 | _=>none
theorem Df {el:TypeId} {sz:Nat} {v:SV} {x:Value} {lo:Option Nat} {n:Nat} {r:List SV} (hT:aC w0 M V T w) (hv:den V v=some x) (h:Gj T el sz v=some (lo,n,r)) :
 ∃ cs,aE V r=some cs/\w.ownsRow 0 el sz x n cs/\(lo=none->x = .slice none 0 0)/\(∀ l,lo=some l->x ≠ .slice none 0 0)/\∀ l,lo=some l->∃ B,T l=some B/\B.owned=true/\∀ n,x.ownBlock=some n->B.aN V l=some n:=by
 unfold Gj at h
 split at h
 .simp only [aU,Prod.mk.injEq] at h
  obtain ⟨rfl,rfl,rfl⟩:=h
  simp only [den,aU] at hv
  subst hv
  exact ⟨[],rfl,World.ownsRow_nil w 0 el sz,fun _=>rfl,fun l hl=>(by cases hl),fun l hl=>(by cases hl)⟩
 .rename_i l len
  split at h
  .rename_i sz2 cells ty hB
   split at h
   .rename_i h1 h2 h3
    have:=cH h1
    subst this
    have:=cH h2
    subst this
    simp only [Bool.and_eq_true] at h3
    have h3a:=Nat.le_of_ble_eq_true h3.1
    have h3b:0<sz2:=by simpa [Nat.blt_eq] using h3.2
    simp only [aU,Prod.mk.injEq] at h
    obtain ⟨rfl,rfl,rfl⟩:=h
    obtain ⟨cs,hc,b,cap,cur,hβ,hσ,hh,DC,lW,⟨n,hn,RF⟩,cR⟩:=hT.ok l _ hB
    have pT:=bB (show aE V cells=some cs from hc)
    simp only [den,hβ,hσ,nP,Option.bind_some,Option.map_some,aU,Nat.add_zero,Nat.sub_zero,Int.toNat_natCast] at hv
    subst hv
    have hle:len<=n:=by
     rw [<- pT,hn] at h3a
     exact Nat.le_of_mul_le_mul_right h3a h3b
    refine ⟨cs.take (len*sz2),eK _ hc,⟨by rw [List.length_take,pT];omega,.inr ⟨b,cap,cur,rfl,Nat.zero_le _,hh,by omega,DC,lW,?_⟩⟩,fun h=>(by cases h),fun _ _ h=>(by cases h),fun l' rK=>?_⟩
    .rw [<- cR,List.take_take,Nat.min_eq_left (by rw [pT];exact h3a)]
    .cases rK
     exact ⟨_,hB,rfl,fun n hn=>by simpa [SB.aN,hβ,Value.ownBlock] using hn⟩
   .cases h
  .cases h
 .rename_i l len cap
  split at h
  .rename_i cells ty hB
   split at h
   .rename_i h1 h2 h3
    have h1:=cH h1
    have:=cH h2
    subst this
    simp only [Bool.and_eq_true] at h3
    have h3a:=Nat.le_of_ble_eq_true h3.1
    have h3b:=Nat.le_of_ble_eq_true h3.2
    simp only [aU,Prod.mk.injEq] at h
    obtain ⟨rfl,rfl,rfl⟩:=h
    obtain ⟨cs,hc,b,hβ,hh⟩:=hT.ok l _ hB
    have pT:=bB (show aE V cells=some cs from hc)
    simp only [den,hβ,Option.map_some,aU,Nat.add_zero] at hv
    subst hv
    have hle:len*sz<=cells.length:=by rw [<- h1];exact Nat.mul_le_mul_right _ h3a
    refine ⟨cs.take (len*sz),eK _ hc,⟨by rw [List.length_take,pT];omega,.inr ⟨b,cap,cs.toArray,rfl,Nat.zero_le _,hh,h3a,by simp only [maxLen];omega,by simp [pT,h1],rfl⟩⟩,fun h=>(by cases h),fun _ _ h=>(by cases h),fun l' rK=>?_⟩
    cases rK
    exact ⟨_,hB,rfl,fun n hn=>by simpa [SB.aN,hβ,Value.ownBlock] using hn⟩
   .cases h
  .cases h
 .cases h
def Wf:Option Nat->Bool
 | none=>true
 | some _=>false
def HP (T:aZ) (te:TI) (el:TypeId) (lab:Nat) (x y:SV):Option bJ:=
 match Nat.blt 0 te.size,Nat.beq te.zero.length te.size with
 | true,true=>match Az T te.size y with
   | some (m,ys)=>match x with
     | .aG _ _ _ 0 0=>match Nat.blt 0 m,Nat.ble (m*te.bytes) 140737488355328&&Nat.ble m 9223372036854775807 with
       | true,true=>some { val:=.cP lab 0 m 0,new:=[.row te.size ys el] }
       | _,_=>none
     | _=>match Gj T el te.size x with
       | some (lo,n,xs)=>match Nat.blt 0 (n+m) || !Wf lo,Nat.ble ((n+m)*te.bytes) 140737488355328&&Nat.ble (n+m) 9223372036854775807 with
         | true,true=>match y with
           | .raw _=>match lo with
             | none=>none
             | some _=>some { val:=x }
           | _=>some { val:=.cP lab 0 (n+m) 0,new:=[.row te.size (xs++ys) el],wr:=fV lo }
         | false,true=>match y with
           | .raw _=>some { val:=x }
           | _=>none
         | _,_=>none
       | none=>none
   | none=>none
 | _,_=>none
theorem QA (aT:cA P Γ) {T':aZ} (aL:∀ l B,T' l=some B->T l=some B) (hT:aC w0 M V T w) {lab:Nat} (hf:V.fresh lab) {t ty el:TypeId} {te:TI} (ht:P.underlying t=some (.slice el)) (eA:Γ.ty el=some te)
 {x y:SV} {u v:Value} (hx:den V x=some u) (hy:den V y=some v) (he:HP T' te el lab x y=some e):nZ P w0 M V T lab e (Builtin.append_ #[t,t] ty #[u,v]) w:=by
 unfold HP at he
 split at he
 case h_2=>cases he
 rename_i Fq QZ
 have Fq:0<te.size:=by simpa [Nat.blt_eq] using Fq
 have QZ:=cH QZ
 obtain ⟨_,i,z,hi,cD,jJ,hz,hzero⟩:=aT el te eA
 have qJ:z.cells.size=i.size:=by
  have h1:=bB (hzero V)
  rw [cD,<- QZ,<- h1];simp
 split at he
 case h_2=>cases he
 rename_i m ys Qa
 obtain ⟨cy,Pn,iT,hh⟩:=rO (hT.sub aL) hy Qa
 have h1:=nQ iT Pn
 rw [<- cD] at hh Fq
 split at he
 .rename_i l s off
  split at he
  case h_2=>cases he
  rename_i hm hb
  have hm:0<m:=by simpa [Nat.blt_eq] using hm
  simp only [Bool.and_eq_true] at hb
  have qH:=Nat.le_of_ble_eq_true hb.1
  have lA:=Nat.le_of_ble_eq_true hb.2
  simp only [aU] at he
  subst he
  rcases hh with ⟨_,h0,_⟩ | ⟨ad,c,rfl,hl,bV⟩
  .omega
  simp only [den,Option.map_eq_some_iff] at hx
  obtain ⟨p,_,rfl⟩:=hx
  have hr:=run_append_grow (P:=P) w t ty el i z ht hi hz ⟨p.1,p.2+off,none⟩ 0 0 [] (by simp) (by intro j u hj;simp at hj) ad m c cy hl bV (by omega) (by simp only [Nat.zero_add];omega) (growslice_fits (by omega) (by rw [jJ];simpa using qH))
  have hgc:=grownCap_ge w (0+m) 0 el
  have hgm:grownCap w (0+m) 0 el<=maxLen:=grownCap_le_maxLen w (0+m) 0 el (by simp only [maxLen];omega)
  have bK:(w.drew.alloc (.cells ((([]:List Value)).toArray++cy.toArray++Builtin.zeroCells z.cells (grownCap w (0+m) 0 el-(0+m))) el)).ownsRow 0 el i.size (.slice (some ⟨w.heap.size,0,none⟩) (0+m) (grownCap w (0+m) 0 el)) (0+m) cy:=by
   refine ⟨by simpa using hl,.inr ⟨w.heap.size,_,_,rfl,Nat.zero_le _,heap_alloc_new w.drew _,hgc,hgm,?_,?_⟩⟩
   .simp only [Array.size_append,List.size_toArray,size_zeroCells,qJ,hl,List.length_nil,Nat.zero_add,<- Nat.add_mul]
    congr 1
    simp only [Nat.zero_add] at hgc
    omega
   .rw [Nat.zero_add,<- hl];simp
  have qL:w.grownBy (w.drew.alloc (.cells ((([]:List Value)).toArray++cy.toArray++Builtin.zeroCells z.cells (grownCap w (0+m) 0 el-(0+m))) el)) none:=⟨rfl,rfl,rfl,by simp,fun k hk _=>heap_alloc_old w.drew _ hk⟩
  rw [Nat.zero_add] at hr bK qL
  obtain ⟨b,cap,Ov,oE⟩:=hT.Ah (lab:=lab) hf (lo:=none) (own:=none) Pn bK (by simp) qL (.inr rfl) (fun _=>rfl) (fun l hl=>(by cases hl)) (.cP lab 0 m 0) []
  refine ⟨_,_,_,hr,aY.qZ hf lab (Nat.le_refl _) (by omega) _ _,?_,by rw [<- cD];exact oE⟩
  simp [den,aY.En,aY.put,aY.aV,nP,Ov]
 .split at he
  case h_2=>cases he
  rename_i lo n xs Yu
  obtain ⟨cx,hcx,bK,iY,aEp,Hr⟩:=Df (hT.sub aL) hx Yu
  rw [<- cD] at bK
  have iU:∀ l,lo=some l->∃ B,T l=some B/\B.owned=true/\∀ n,u.ownBlock=some n->B.aN V l=some n:=fun l hl=>by
   obtain ⟨B,h1,h2,h3⟩:=Hr l hl;exact ⟨B,aL l B h1,h2,h3⟩
  have gG:∀ {q:Value},y = .raw q->nZ P w0 M V T lab { val:=x } (Builtin.append_ #[t,t] ty #[u,v]) w:=by
   intro q hq
   subst hq
   unfold Az at Qa
   split at Qa <;> first | (cases Qa;done) | skip
   all_goals first
    | (rename_i heq;cases heq;done)
    | (rename_i heq;cases heq;simp only [den,aU] at hy;subst hy;exact oX ⟨u,run_append_owned_none (P:=P) (w:=w) 0 t ty el i i.size ht hi u n _ bK,hx,rfl,rfl⟩ hT)
    | (simp only [den,aU] at hy;subst hy;exact oX ⟨u,run_append_owned_none (P:=P) (w:=w) 0 t ty el i i.size ht hi u n _ bK,hx,rfl,rfl⟩ hT)
  split at he
  .rename_i Er hb
   simp only [Bool.and_eq_true] at hb
   have qH:=Nat.le_of_ble_eq_true hb.1
   have lA:=Nat.le_of_ble_eq_true hb.2
   split at he
   .split at he
    .cases he
    .simp only [aU] at he
     subst he
     exact gG rfl
   .rename_i hnr
    simp only [aU] at he
    subst he
    rcases hh with ⟨rfl,rfl,rfl⟩ | ⟨ad,c,rfl,hl,bV⟩
    .exfalso
     have:∀ s:SV,den V s=some (.slice none 0 0)->Az T' te.size s=some (0,ys)->∃ q,s = .raw q:=by
      intro s fQ rY
      unfold Az at rY
      split at rY
      .simp only [den,Option.map_eq_some_iff] at fQ
       obtain ⟨p,_,hp⟩:=fQ
       cases hp
      .simp only [den,Option.map_eq_some_iff,Option.bind_eq_some_iff] at fQ
       obtain ⟨p,_,c,_,hp⟩:=fQ
       cases hp
      .exact ⟨_,rfl⟩
      .cases rY
     obtain ⟨q,hq⟩:=this y hy Qa
     exact hnr q hq
    .obtain ⟨v',w',hr,jP,qL,Lb⟩:=run_append_own (P:=P) w 0 t ty el i z i.size i.bytes ht hi hz rfl rfl qJ Fq u n cx bK ad m c cy hl bV h1 (by simp only [maxLen];omega) (by rw [jJ];exact qH) (Nat.zero_le _)
     have fA:=kJ (P:=P) ht hi hz bK rfl hl bV h1 (by simp only [maxLen];omega) (by rw [jJ];exact qH) hr
     have dD:v' ≠ .slice none 0 0:=by
      intro h
      obtain ⟨h2,h3⟩:=Lb.1 h
      cases UI:lo with
      | none=>
        simp only [UI,Wf,Bool.not_true,Bool.or_false] at Er
        have:0<n+m:=by simpa [Nat.blt_eq] using Er
        subst h2
        rcases bK.2 with ⟨_,h4⟩ | ⟨_,_,_,h4,_⟩
        .omega
        .cases h4
      | some l=>exact aEp l UI h2
     obtain ⟨b,cap,Ov,oE⟩:=hT.Ah (lab:=lab) hf (lo:=lo) (own:=u.ownBlock) (cF hcx Pn) jP dD qL fA (fun h=>by rw [iY h];rfl) iU (.cP lab 0 (n+m) 0) []
     refine ⟨_,_,_,hr,aY.qZ hf lab (Nat.le_refl _) (by omega) _ _,?_,by rw [<- cD];exact oE⟩
     simp [den,aY.En,aY.put,aY.aV,nP,Ov]
  .split at he
   .simp only [aU] at he
    subst he
    exact gG rfl
   .cases he
  .cases he
def isX (T:aZ):SV->Bool
 | .buf l=>match T l with
   | some (.fT _ _ _)=>true
   | _=>false
 | _=>false
def rdX (T:aZ) (sz:Nat):SV->Option Nat
 | .buf l=>match T l with
   | some (.fT CN n _)=>match Nat.beq CN sz with
     | true=>some n
     | false=>none
   | _=>none
 | v=>match Az T sz v with
   | some (m,_)=>some m
   | none=>none
def dsX (T:aZ) (el:TypeId) (sz:Nat):SV->Option (Option Nat × Nat)
 | .buf l=>match T l with
   | some (.fT CN n ty)=>match Nat.beq CN sz&&Nat.beq ty el with
     | true=>some (some l,n)
     | false=>none
   | _=>none
 | v=>match Gj T el sz v with
   | some (lo,n,xs)=>match lL xs with
     | true=>some (lo,n)
     | false=>none
   | none=>none
def HJ (T:aZ) (te:TI) (el:TypeId) (lab:Nat) (x y:SV):Option bJ:=
 match isX T x||(isX T y||Nat.blt 1 te.size),Nat.blt 0 te.size&&Nat.beq te.zero.length te.size,dsX T el te.size x,rdX T te.size y with
 | true,true,some (lo,n),some m=>some { bM:=[(n+m)*te.bytes<=140737488355328/\n+m<=9223372036854775807],val:=.buf lab,new:=[.fT te.size (n+m) el],wr:=fV lo }
 | _,_,_,_=>none
theorem aJj {sz:Nat} {v:SV} {x:Value} {m:Nat} (hT:aC w0 M V T w) (hv:den V v=some x) (h:rdX T sz v=some m) :
 (x = .slice none 0 0/\m=0)\/∃ (ad:Addr) (c:Nat) (cy:List Value),x = .slice (some ad) m c/\cy.length=m*sz/\(∀ (j:Nat) (u:Value),cy[j]?=some u->w.cell? (ad.add j)=some u)/\∀ q∈cy,q.oneCell'=true:=by
 have gen:∀ v:SV,den V v=some x->(match Az T sz v with | some (m,_)=>some m | none=>none)=some m->(x = .slice none 0 0/\m=0)\/∃ (ad:Addr) (c:Nat) (cy:List Value),x = .slice (some ad) m c/\cy.length=m*sz/\(∀ (j:Nat) (u:Value),cy[j]?=some u->w.cell? (ad.add j)=some u)/\∀ q∈cy,q.oneCell'=true:=by
  intro v hv h
  split at h
  .rename_i m' ys hs
   cases h
   obtain ⟨cy,Pn,iT,hh⟩:=rO hT hv hs
   have h1:=nQ iT Pn
   rcases hh with ⟨rfl,rfl,_⟩ | ⟨ad,c,rfl,hl,bV⟩
   .exact .inl ⟨rfl,rfl⟩
   .exact .inr ⟨ad,c,cy,rfl,hl,bV,h1⟩
  .cases h
 unfold rdX at h
 split at h
 .rename_i l
  split at h
  .rename_i CN n ty hB
   split at h
   case h_2=>cases h
   rename_i gJ
   cases h
   have gJ:=cH gJ
   subst gJ
   obtain ⟨cs,hc,u,us,hσ,bK,hq⟩:=hT.ok l _ hB
   simp only [den,hσ,aU] at hv
   subst hv
   rcases bK.2 with ⟨rfl,rfl⟩ | ⟨g,cap,cur,rfl,_,hh,hle,_,lW,cR⟩
   .exact .inl ⟨rfl,rfl⟩
   .refine .inr ⟨⟨g,0,none⟩,cap,us,rfl,bK.1,fun j u hj=>?_,hq⟩
    rw [<- cR,List.getElem?_take] at hj
    split at hj
    .have:w.cell? ⟨g,0+j,none⟩=some u:=by rw [cell_of_row w g _ _ _ _ hh];simpa using hj
     rw [bG]
     exact this
    .cases hj
  .cases h
 .exact gen _ hv h
theorem aNa {el:TypeId} {sz:Nat} {v:SV} {x:Value} {lo:Option Nat} {n:Nat} (hT:aC w0 M V T w) (hv:den V v=some x) (h:dsX T el sz v=some (lo,n)) :
 ∃ cs:List Value,w.ownsRow 0 el sz x n cs/\(∀ q∈cs,q.oneCell'=true)/\(lo=none->x.ownBlock=none)/\∀ l,lo=some l->∃ B,T l=some B/\B.owned=true/\∀ n,x.ownBlock=some n->B.aN V l=some n:=by
 have gen:∀ v:SV,den V v=some x->(match Gj T el sz v with | some (lo,n,xs)=>(match lL xs with | true=>some (lo,n) | false=>none) | none=>none)=some (lo,n)->∃ cs:List Value,w.ownsRow 0 el sz x n cs/\(∀ q∈cs,q.oneCell'=true)/\(lo=none->x.ownBlock=none)/\∀ l,lo=some l->∃ B,T l=some B/\B.owned=true/\∀ n,x.ownBlock=some n->B.aN V l=some n:=by
  intro v hv h
  split at h
  .rename_i QV n' xs hd
   split at h
   case h_2=>cases h
   rename_i iT
   cases h
   obtain ⟨cs,lW,bK,hn,_,hl⟩:=Df hT hv hd
   exact ⟨cs,bK,nQ iT lW,fun e=>by rw [hn e];rfl,hl⟩
  .cases h
 unfold dsX at h
 split at h
 .rename_i l
  split at h
  .rename_i CN n' ty hB
   split at h
   case h_2=>cases h
   rename_i gY
   simp only [Bool.and_eq_true] at gY
   cases h
   have h1:=cH gY.1
   have h2:=cH gY.2
   subst h1 h2
   obtain ⟨cs,hc,u,us,hσ,bK,hq⟩:=hT.ok l _ hB
   simp only [den,hσ,aU] at hv
   subst hv
   exact ⟨us,bK,hq,fun e=>by (cases e),fun l' e=>by cases e;exact ⟨_,hB,rfl,fun n hn=>by simp [SB.aN,hσ,hn]⟩⟩
  .cases h
 .exact gen _ hv h
theorem PU (aT:cA P Γ) {T':aZ} (aL:∀ l B,T' l=some B->T l=some B) (hT:aC w0 M V T w) {lab:Nat} (hf:V.fresh lab) {t ty el:TypeId} {te:TI} (ht:P.underlying t=some (.slice el)) (eA:Γ.ty el=some te)
 {x y:SV} {u v:Value} (hx:den V x=some u) (hy:den V y=some v) (he:HJ T' te el lab x y=some e) (ho:∀ q∈e.bM,q):nZ P w0 M V T lab e (Builtin.append_ #[t,t] ty #[u,v]) w:=by
 unfold HJ at he
 split at he
 case h_2=>cases he
 rename_i lo n m _ gJ hd hr
 cases he
 simp only [Bool.and_eq_true] at gJ
 have Fq:0<te.size:=by simpa [Nat.blt_eq] using gJ.1
 have QZ:=cH gJ.2
 obtain ⟨_,i,z,hi,cD,jJ,hz,hzero⟩:=aT el te eA
 have qJ:z.cells.size=i.size:=by
  have h1:=bB (hzero V)
  rw [cD,<- QZ,<- h1];simp
 obtain ⟨qH,lA⟩:=ho _ cM
 obtain ⟨cx,bK,hox,iY,Hr⟩:=aNa (hT.sub aL) hx hd
 have iU:∀ l,lo=some l->∃ B,T l=some B/\B.owned=true/\∀ n,u.ownBlock=some n->B.aN V l=some n:=fun l hl=>by
  obtain ⟨B,h1,h2,h3⟩:=Hr l hl;exact ⟨B,aL l B h1,h2,h3⟩
 rw [<- cD] at bK Fq
 have Ib:n+m<=maxLen:=by simp only [maxLen];omega
 rcases aJj (hT.sub aL) hy hr with ⟨rfl,rfl⟩ | ⟨ad,c,cy,rfl,hl,bV,iT⟩
 .have dR:=run_append_owned_none (P:=P) (w:=w) 0 t ty el i i.size ht hi u n _ bK
  refine ⟨V.aV lab u,u,w,dR,aY.bS hf lab (Nat.le_refl _) (by omega) u,by simp [den,aY.aV],?_⟩
  have lS:okB (V.aV lab u) w lab (.fT te.size (n+0) el):=⟨[],rfl,u,cx,by simp [aY.aV],by rw [<- cD];exact bK,hox⟩
  refine hT.pM hf lS (fun n hb=>by simpa [SB.aN,aY.aV] using hb) ⟨rfl,rfl,rfl,Nat.le_refl _,fun _ _ _=>rfl⟩ (.inl rfl) iY iU _ _
 .rw [<- cD] at hl
  obtain ⟨v',w',dR,jP,qL,_⟩:=run_append_own (P:=P) w 0 t ty el i z i.size i.bytes ht hi hz rfl rfl qJ Fq u n cx bK ad m c cy hl bV iT Ib (by rw [jJ];exact qH) (Nat.zero_le _)
  have fA:=kJ (P:=P) ht hi hz bK rfl hl bV iT Ib (by rw [jJ];exact qH) dR
  refine ⟨V.aV lab v',v',w',dR,aY.bS hf lab (Nat.le_refl _) (by omega) v',by simp [den,aY.aV],?_⟩
  have lS:okB (V.aV lab v') w' lab (.fT te.size (n+m) el):=⟨[],rfl,v',cx++cy,by simp [aY.aV],by rw [<- cD];exact jP,fun q hq=>?_⟩
  refine hT.pM hf lS (fun n hb=>by simpa [SB.aN,aY.aV] using hb) qL fA iY iU _ _
  rcases List.mem_append.1 hq with hq | hq
  .exact hox q hq
  .exact iT q hq
end Ht
end Go.Proofs.YticicdfijghigaaGreatDoor.Sx
