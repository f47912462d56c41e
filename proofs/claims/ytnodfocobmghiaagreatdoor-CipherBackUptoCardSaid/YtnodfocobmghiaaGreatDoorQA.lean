/- The symbolic executor, first text: symbolic values and blocks, what they denote, effects. No program in sight. -/
import Derived.WalkKit
import Derived.Orders
import Derived.Laws.AppendOwnNone
import Derived.Deep.AppendSrc
import Derived.IntWalk
open Go
set_option maxRecDepth 100000
namespace Go.Proofs.YtnodfocobmghiaaGreatDoor.Sx
theorem aW.{u} {α:Type u} (a b:α):(some a=some b)=(a=b):=Option.some.injEq a b
theorem cP {n m:Nat} (h:Nat.beq n m=true):n=m:=Nat.eq_of_beq_eq_true h
theorem dC.{u} {α:Type u} {a:α} {l:List α}:a∈a::l:=List.mem_cons_self
theorem dH.{u,v} {α:Type u} {β:Type v} {x:Option α} {f:α->β} {b:β}:x.map f=some b<->∃ a,x=some a/\f a=b:=Option.map_eq_some_iff
theorem gM.{u,v} {α:Type u} {β:Type v} {x:Option α} {f:α->Option β} {b:β}:x.bind f=some b<->∃ a,x=some a/\f a=some b:=Option.bind_eq_some_iff
theorem eM.{u} {α:Type u} {a:α} {l:List α} (y:α) (h:a∈l):a∈y::l:=List.mem_cons_of_mem y h
theorem gY.{u} {α:Type u} {l:List α} {i:Nat} {a:α}:l.getD i a=l[i]?.getD a:=List.getD_eq_getElem?_getD
theorem jX {n m:Nat} (h:Nat.ble n m=true):n<=m:=Nat.le_of_ble_eq_true h
theorem jP {p:Prop} [inst:Decidable p] (h:decide p=true):p:=of_decide_eq_true h
theorem kN {p:Prop} [inst:Decidable p] (h:¬ p):decide p=false:=decide_eq_false h
theorem pW {a:Int} (h:0<=a):∃ n:Nat,a=n:=Int.eq_ofNat_of_zero_le h
theorem lI.{u,v} {α:Type u} {β:Type v} (a:α) (f:α->Option β):(some a).bind f=f a:=rfl
theorem gL.{u,v} {α:Type u} {β:Type v} (a:α) (f:α->β):(some a).map f=some (f a):=rfl
theorem iN (a b:Bool):((a&&b)=true)=(a=true/\b=true):=Bool.and_eq_true a b
theorem cT (n:Nat):n<=n:=Nat.le_refl n
theorem sJ (n:Nat):(n:Int).toNat=n:=Int.toNat_natCast n
theorem mZ.{u} {α:Type u} (l:List α):[]++l=l:=rfl
abbrev sh {α β:Type} (x:α) (f:α->β):β:=f x
inductive SV where
 | int (s:Bool) (k:IntKind) (n:Int)
 | bool (s:Bool) (b:Bool)
 | ptr (l:Nat) (s:Bool) (off:Nat)
 | aH (l:Nat) (s:Bool) (off len cap:Nat)
 | agg (vs:List SV)
 | eD (vs:List SV)
 | fn (f:Fn) (first Hr:List SV)
 | pX (t:TypeId) (v:SV)
 | raw (v:Value)
 | buf (l:Nat)
 | iZ (l:Nat) (off:Nat)
 | mG (l:Nat) (lo hi:Nat)
 | dJ (l:Nat) (off len lo:Nat)
 | iH (l n:Nat)
 | ai (k:IntKind) (xs:List Int)
 | pT (l n cap sz j le:Nat)
structure bA where
 β:Nat->Option (Nat × Nat)
 σ:Nat->Option Value
def qJ:Option Value->Option Nat
 | some (.int _ c)=>some c.toNat
 | _=>none
def rX (n:Nat):Value->Option Value
 | .slice none m c=>if m=0/\n=0/\c=0 then some (.slice none 0 0) else none
 | .slice (some a) m c=>if m=n/\n<=c/\(c=0\/a.spot=none) then some (.slice (some a) m c) else none
 | _=>none
def Yi (v:Value):Prop:=∃ a,v = .slice a 0 0
theorem Yi.nil:Yi (.slice none 0 0):=⟨none,rfl⟩
theorem kA {n:Nat} {v x:Value} (h:rX n v=some x):x=v/\((Yi v/\n=0)\/∃ b o c,v = .slice (some ⟨b,o,none⟩) n c/\n<=c):=by
 unfold rX at h
 split at h
 .split at h
  .rename_i hc;obtain ⟨rfl,rfl,rfl⟩:=hc;cases h;exact ⟨rfl,.inl ⟨.nil,rfl⟩⟩
  .cases h
 .rename_i a m c
  split at h
  .rename_i hc;obtain ⟨rfl,hn,hs⟩:=hc;cases h
   obtain ⟨b,o,s⟩:=a
   rcases hs with rfl | hs
   .have:m=0:=by omega
    subst this
    exact ⟨rfl,.inl ⟨⟨_,rfl⟩,rfl⟩⟩
   simp only at hs
   subst hs
   exact ⟨rfl,.inr ⟨b,o,c,rfl,hn⟩⟩
  .cases h
 .cases h
def iD:Value->Option Nat
 | .slice _ _ 0=>none
 | v=>v.ownBlock
theorem fC {v:Value} {n:Nat} (h:iD v=some n):v.ownBlock=some n:=by
 unfold iD at h
 split at h
 .cases h
 .exact h
mutual
def den (V:bA):SV->Option Value
 | .int _ k n=>some (.int k n)
 | .bool _ b=>some (.bool b)
 | .ptr l _ off=>(V.β l).map fun p=>.pointer (some ⟨p.1,p.2+off,none⟩)
 | .aH l _ off len cap=>(V.β l).map fun p=>.slice (some ⟨p.1,p.2+off,none⟩) len cap
 | .agg vs=>(aJ V vs).map fun xs=>.agg xs.toArray
 | .eD vs=>(aJ V vs).map fun xs=>.tuple xs.toArray
 | .fn f fs cs=>(aJ V fs).bind fun x=>(aJ V cs).map fun y=>.func f x.toArray y.toArray
 | .pX t v=>(den V v).map fun x=>.iface t x
 | .raw v=>some v
 | .buf l=>V.σ l
 | .iZ l off=>match V.σ l with
   | some (.slice (some a) _ _)=>some (.pointer (some (a.add off)))
   | _=>none
 | .mG l lo hi=>match V.σ l with
   | some (.slice a _ cap)=>some (.slice (if cap=lo then a else a.map (·.add lo)) (hi-lo) (cap-lo))
   | _=>none
 | .dJ l off len lo=>(V.β l).bind fun p=>(qJ (V.σ l)).map fun c=>.slice (some ⟨p.1,p.2+off,none⟩) len (c-lo)
 | .iH l n=>(V.σ l).bind (rX n)
 | .ai k xs=>some (.agg (xs.map (Value.int k)).toArray)
 | .pT l n cap sz j le=>(V.β l).bind fun p=>(V.β le).bind fun q=>match decide (q=(p.1,p.2+j*sz)) with
   | true=>some (.slice (some ⟨p.1,p.2,none⟩) n cap)
   | false=>none
def aJ (V:bA):List SV->Option (List Value)
 | []=>some []
 | v::vs=>(den V v).bind fun x=>(aJ V vs).map fun xs=>x::xs
end
def bA.le (V V':bA):Prop:=(∀ l p,V.β l=some p->V'.β l=some p)/\(∀ l v,V.σ l=some v->V'.σ l=some v)
theorem bA.le_refl (V:bA):V.le V:=⟨fun _ _ h=>h,fun _ _ h=>h⟩
theorem bA.le_trans {U V W:bA} (h:U.le V) (k:V.le W):U.le W:=⟨fun l p e=>k.1 l p (h.1 l p e),fun l v e=>k.2 l v (h.2 l v e)⟩
mutual
theorem oH {V V':bA} (h:V.le V'):∀ {v:SV} {x:Value},den V v=some x->den V' v=some x
 | .int ..,_,e=>by simpa [den] using e
 | .bool ..,_,e=>by simpa [den] using e
 | .ptr l s off,x,e=>by
   simp only [den,dH] at e |-
   obtain ⟨p,hp,rfl⟩:=e
   exact ⟨p,h.1 l p hp,rfl⟩
 | .aH l s off len cap,x,e=>by
   simp only [den,dH] at e |-
   obtain ⟨p,hp,rfl⟩:=e
   exact ⟨p,h.1 l p hp,rfl⟩
 | .agg vs,x,e=>by
   simp only [den,dH] at e |-
   obtain ⟨p,hp,rfl⟩:=e
   exact ⟨p,cV h hp,rfl⟩
 | .eD vs,x,e=>by
   simp only [den,dH] at e |-
   obtain ⟨p,hp,rfl⟩:=e
   exact ⟨p,cV h hp,rfl⟩
 | .fn f fs cs,x,e=>by
   simp only [den,dH,gM] at e |-
   obtain ⟨p,hp,q,hq,rfl⟩:=e
   exact ⟨p,cV h hp,q,cV h hq,rfl⟩
 | .pX t v,x,e=>by
   simp only [den,dH] at e |-
   obtain ⟨p,hp,rfl⟩:=e
   exact ⟨p,oH h hp,rfl⟩
 | .raw v,x,e=>by simpa [den] using e
 | .buf l,x,e=>by simp only [den] at e |-;exact h.2 l x e
 | .iZ l off,x,e=>by
   simp only [den] at e |-
   split at e
   .rename_i hs;rw [h.2 l _ hs];exact e
   .cases e
 | .mG l lo hi,x,e=>by
   simp only [den] at e |-
   split at e
   .rename_i hs;rw [h.2 l _ hs];exact e
   .cases e
 | .dJ l off len lo,x,e=>by
   simp only [den,dH,gM] at e |-
   obtain ⟨p,hp,c,hc,rfl⟩:=e
   refine ⟨p,h.1 l _ hp,c,?_,rfl⟩
   cases hs:V.σ l with
   | none=>rw [hs] at hc;cases hc
   | some v=>rw [h.2 l v hs,<- hs];exact hc
 | .iH l n,x,e=>by
   simp only [den,gM] at e |-
   obtain ⟨v,hv,hx⟩:=e
   exact ⟨v,h.2 l v hv,hx⟩
 | .ai k xs,x,e=>by simpa [den] using e
 | .pT l n cap sz j le,x,e=>by
   simp only [den,gM] at e |-
   obtain ⟨p,hp,q,hq,e⟩:=e
   exact ⟨p,h.1 l p hp,q,h.1 le q hq,e⟩
theorem cV {V V':bA} (h:V.le V'):∀ {vs:List SV} {xs:List Value},aJ V vs=some xs->aJ V' vs=some xs
 | [],_,e=>by simpa [aJ] using e
 | v::vs,xs,e=>by
   simp only [aJ,dH,gM] at e |-
   obtain ⟨x,hx,ys,hy,rfl⟩:=e
   exact ⟨x,oH h hx,ys,cV h hy,rfl⟩
end
theorem bH {V:bA}:∀ {vs:List SV} {xs:List Value},aJ V vs=some xs->xs.length=vs.length
 | [],_,e=>by simp only [aJ,aW] at e;subst e;rfl
 | v::vs,xs,e=>by
   simp only [aJ,dH,gM] at e
   obtain ⟨x,hx,ys,hy,rfl⟩:=e
   simp [bH hy]
theorem dR {V:bA}:∀ {vs:List SV} {xs:List Value},aJ V vs=some xs->∀ (i:Nat) (v:SV),vs[i]?=some v->∃ x,xs[i]?=some x/\den V v=some x
 | [],_,_,i,v,hi=>by simp at hi
 | v::vs,xs,e,i,u,hi=>by
   simp only [aJ,dH,gM] at e
   obtain ⟨x,hx,ys,hy,rfl⟩:=e
   cases i with
   | zero=>simp only [List.getElem?_cons_zero,aW] at hi;subst hi;exact ⟨x,rfl,hx⟩
   | succ i=>simp only [List.getElem?_cons_succ] at hi |-;exact dR hy i u hi
theorem cK {V:bA}:∀ {vs us:List SV} {xs ys:List Value},aJ V vs=some xs->aJ V us=some ys->aJ V (vs++us)=some (xs++ys)
 | [],us,xs,ys,e,f=>by simp only [aJ,aW] at e;subst e;simpa using f
 | v::vs,us,xs,ys,e,f=>by
   simp only [aJ,dH,gM,List.cons_append] at e |-
   obtain ⟨x,hx,zs,hz,rfl⟩:=e
   exact ⟨x,hx,zs++ys,cK hz f,rfl⟩
theorem dW {V:bA}:∀ (n:Nat) {vs:List SV} {xs:List Value},aJ V vs=some xs->aJ V (vs.take n)=some (xs.take n)
 | 0,vs,xs,_=>by simp [aJ]
 | n+1,[],xs,e=>by simp only [aJ,aW] at e;subst e;simp [aJ]
 | n+1,v::vs,xs,e=>by
   simp only [aJ,dH,gM,List.take_succ_cons] at e |-
   obtain ⟨x,hx,zs,hz,rfl⟩:=e
   exact ⟨x,hx,zs.take n,dW n hz,rfl⟩
theorem gU {V:bA}:∀ (n:Nat) {vs:List SV} {xs:List Value},aJ V vs=some xs->aJ V (vs.drop n)=some (xs.drop n)
 | 0,vs,xs,e=>by simpa using e
 | n+1,[],xs,e=>by simp only [aJ,aW] at e;subst e;simp [aJ]
 | n+1,v::vs,xs,e=>by
   simp only [aJ,dH,gM] at e
   obtain ⟨x,hx,zs,hz,rfl⟩:=e
   simpa using gU n hz
def dV (xs:List (Int × Int)):List Value:=xs.flatMap fun p=>[.int .i64 p.1,.int .i64 p.2]
inductive SB where
 | own (cells:List SV) (ty:TypeId)
 | ints (k:IntKind) (xs:List Int) (ty:TypeId)
 | eQ (cells:List SV)
 | nT (k:IntKind) (xs:List Int)
 | dF (k:IntKind) (xs:List Int) (ty:TypeId)
 | row (sz:Nat) (cells:List SV) (ty:TypeId)
 | eN (vs:List Value) (ty:TypeId)
 | gC (k:IntKind) (xs:List Int)
 | fQ (sz n:Nat) (ty:TypeId)
 | eK (xs:List (Int × Int)) (ty:TypeId)
 | rC (xs:List (Int × Int))
 | gone
def SB.cells (V:bA):SB->Option (List Value)
 | .own cs _=>aJ V cs
 | .ints k xs _=>some (xs.map (Value.int k))
 | .eQ cs=>aJ V cs
 | .nT k xs=>some (xs.map (Value.int k))
 | .dF k xs _=>some (xs.map (Value.int k))
 | .row _ cs _=>aJ V cs
 | .eN vs _=>some vs
 | .gC k xs=>some (xs.map (Value.int k))
 | .fQ _ _ _=>some []
 | .eK xs _=>some (dV xs)
 | .rC xs=>some (dV xs)
 | .gone=>some []
def SB.owned:SB->Bool
 | .eQ _ | .nT _ _ | .gC _ _ | .rC _ | .gone=>false
 | _=>true
def SB.aT (V:bA) (l:Nat):SB->Option Nat
 | .dF .. => (V.σ l).bind Value.ownBlock
 | .gC .. => (V.σ l).bind iD
 | .fQ .. => (V.σ l).bind Value.ownBlock
 | .eK .. => (V.σ l).bind Value.ownBlock
 | .rC .. => (V.σ l).bind iD
 | .gone=>none
 | _=>(V.β l).map (·.1)
theorem SB.iM {V V':bA} (h:V.le V') {B:SB} {cs:List Value} (e:B.cells V=some cs):B.cells V'=some cs:=by
 cases B <;> simp only [SB.cells] at e |- <;> first | exact cV h e | exact e
def uD (w:World) (b:Nat):Prop:=∃ c t,w.heap[b]?=some (.cells c t (0,0))
theorem uD.lt {w:World} {b:Nat} (h:uD w b):b<w.heap.size:=by obtain ⟨c,t,h⟩:=h;exact (Array.getElem?_eq_some_iff.1 h).1
theorem uD.qD {w w':World} {b:Nat} (h:uD w b) (e:w'.heap[b]?=w.heap[b]?):uD w' b:=by obtain ⟨c,t,h⟩:=h;exact ⟨c,t,e.trans h⟩
def Kd (w:World) (b:Nat) (cs:List Value):Prop:=b<w.heap.size/\∀ s,cs[0]?=some (.string s)->uD w b
theorem Kd.lt {w:World} {b:Nat} {cs:List Value} (h:Kd w b cs):b<w.heap.size:=h.1
theorem Kd.of {w:World} {b:Nat} {cs:List Value} {c:Array Value} {t:TypeId} (h:w.heap[b]?=some (.cells c t (0,0))):Kd w b cs:=⟨(Array.getElem?_eq_some_iff.1 h).1,fun _ _=>⟨c,t,h⟩⟩
theorem Kd.qD {w w':World} {b:Nat} {cs:List Value} (h:Kd w b cs) (e:w'.heap[b]?=w.heap[b]?):Kd w' b cs:=
 ⟨Nat.lt_of_not_le fun q=>(by rw [Array.getElem?_eq_none q,Array.getElem?_eq_getElem h.1] at e;cases e),fun s hs=>(h.2 s hs).qD e⟩
def zB (w:World) (k:IntKind) (x:Value) (ys:List Int):Prop:=
 (Yi x/\ys=[])\/∃ b o c,x = .slice (some ⟨b,o,none⟩) ys.length c/\b<w.heap.size/\ys.length<=c/\∀ (j:Nat) (u:Value),(ys.map (Value.int k))[j]?=some u->w.cell? ⟨b,o+j,none⟩=some u
def Kw (w:World) (x:Value) (ys:List (Int × Int)):Prop:=
 (Yi x/\ys=[])\/∃ b o c,x = .slice (some ⟨b,o,none⟩) ys.length c/\b<w.heap.size/\ys.length<=c/\∀ (j:Nat) (u:Value),(dV ys)[j]?=some u->w.cell? ⟨b,o+j,none⟩=some u
def hY (w:World) (k:IntKind) (v:Value):Prop:=∀ b,v.ownBlock=some b->∃ cur ty p,w.heap[b]?=some (.cells cur ty p)/\∀ x∈cur.toList,∃ n,x=Value.int k n
theorem hY.nil {w:World} {k:IntKind} {v:Value} (h:v.ownBlock=none):hY w k v:=fun b hb=>by rw [h] at hb;cases hb
def okB (V:bA) (w:World) (l:Nat) (B:SB):Prop:=
 ∃ cs,B.cells V=some cs /\
 match B with
 | .own _ ty | .ints _ _ ty | .eN _ ty=>∃ b,V.β l=some (b,0)/\w.heap[b]?=some (.cells cs.toArray ty (0,0))
 | .eQ _ | .nT _ _=>∃ b o,V.β l=some (b,o)/\Kd w b cs/\∀ (j:Nat) (v:Value),cs[j]?=some v->w.cell? ⟨b,o+j,none⟩=some v
 | .dF k xs ty=>∃ v,V.σ l=some v/\w.ownsRow 0 ty 1 v xs.length cs/\hY w k v
 | .fQ sz n ty=>∃ v us,V.σ l=some v/\w.ownsRow 0 ty sz v n us/\∀ q∈us,q.oneCell'=true
 | .row sz _ ty=>∃ b cap cur,V.β l=some (b,0)/\V.σ l=some (.int .i64 (cap:Nat))/\w.heap[b]?=some (.cells cur ty (0,0))/\cap<=maxLen/\cur.size=cap*sz/\(∃ n,cs.length=n*sz/\n<=cap)/\cur.toList.take cs.length=cs
 | .gC k xs=>∃ v,V.σ l=some v/\zB w k v xs
 | .eK xs ty=>∃ v,V.σ l=some v/\w.ownsRow 0 ty 2 v xs.length cs
 | .rC xs=>∃ v,V.σ l=some v/\Kw w v xs
 | .gone=>True
structure gR (w0:World) (M:Nat->Prop) (w:World):Prop where
 os:w.os=w0.os
 tape:w.tape=w0.tape
 output:w.output=w0.output
 size:w0.heap.size<=w.heap.size
 block:∀ k,k<w0.heap.size->¬ M k->w.heap[k]?=w0.heap[k]?
theorem gR.refl (w:World) (M:Nat->Prop):gR w M w:=⟨rfl,rfl,rfl,cT _,fun _ _ _=>rfl⟩
theorem gR.trans {a b c:World} {M N:Nat->Prop} (h:gR a M b) (k:gR b N c) (hN:∀ n,n<a.heap.size->N n->M n):gR a M c:=
 ⟨k.os.trans h.os,k.tape.trans h.tape,k.output.trans h.output,Nat.le_trans h.size k.size,
  fun i hi hM=>(k.block i (Nat.lt_of_lt_of_le hi h.size) (fun e=>hM (hN i hi e))).trans (h.block i hi hM)⟩
theorem gR.mono {w0 w:World} {M N:Nat->Prop} (h:gR w0 M w) (hN:∀ n,n<w0.heap.size->M n->N n):gR w0 N w:=
 ⟨h.os,h.tape,h.output,h.size,fun k hk hn=>h.block k hk (fun e=>hn (hN k hk e))⟩
abbrev aX:=Nat->Option SB
structure aD (w0:World) (M:Nat->Prop) (V:bA) (T:aX) (w:World):Prop where
 ok:∀ l B,T l=some B->okB V w l B
 iY:∀ l B l' B' n,l≠l'->T l=some B->T l'=some B'->B.owned=true->B.aT V l=some n->B'.aT V l'≠some n
 perm:∀ l B n,T l=some B->B.owned=true->B.aT V l=some n->w0.heap.size<=n\/M n
 frame:gR w0 M w
structure bK where
 bO:List Prop:=[]
 val:SV
 new:List SB:=[]
 wr:List (Nat × SB):=[]
def look {α:Type} (l:Nat):List (Nat × α)->Option α
 | []=>none
 | (k,v)::r=>match Nat.beq k l with
   | true=>some v
   | false=>look l r
def gE {α:Type} (lab:Nat):List α->List (Nat × α)
 | []=>[]
 | v::r=>(lab,v)::gE (lab+1) r
def bK.eW (lab:Nat) (e:bK):List (Nat × SB):=e.wr++gE lab e.new
def eT (T:aX) (lab:Nat) (e:bK):aX:=fun l=>match look l (e.eW lab) with
 | some B=>some B
 | none=>T l
theorem cE {α:Type} (l:Nat):∀ (a b:List (Nat × α)),look l (a++b)=match look l a with | some v=>some v | none=>look l b
 | [],b=>rfl
 | (k,v)::a,b=>by
   simp only [List.cons_append,look]
   cases h:Nat.beq k l with
   | true=>rfl
   | false=>exact cE l a b
theorem aI {α:Type} (l:Nat) (v:α) (r:List (Nat × α)):look l ((l,v)::r)=some v:=by simp [look,Nat.beq_refl]
theorem aE {α:Type} {l k:Nat} (h:k≠l) (v:α) (r:List (Nat × α)):look l ((k,v)::r)=look l r:=by
 have:Nat.beq k l=false:=by rw [<- Bool.not_eq_true,Nat.beq_eq];exact h
 simp [look,this]
theorem gA {α:Type} {l:Nat} {v:α}:∀ {r:List (Nat × α)},look l r=some v->(l,v)∈r
 | [],h=>by simp [look] at h
 | (k,u)::r,h=>by
   by_cases e:k=l
   .subst e;rw [aI] at h;cases h;exact dC
   .rw [aE e] at h;exact eM _ (gA h)
theorem fD {α:Type}:∀ (lab:Nat) (l:List α) (k:Nat),look k (gE lab l)=if lab<=k then l[k-lab]? else none
 | lab,[],k=>by simp [gE,look]
 | lab,v::r,k=>by
   by_cases e:lab=k
   .subst e;simp [gE,aI]
   .rw [gE,aE e,fD (lab+1) r k]
    by_cases h:lab<=k
    .rw [if_pos (by omega),if_pos h]
     obtain ⟨d,rfl⟩:∃ d,k=lab+1+d:=⟨k-(lab+1),by omega⟩
     rw [show lab+1+d-lab=d+1 from by omega,show lab+1+d-(lab+1)=d from by omega]
     simp
    .rw [if_neg (by omega),if_neg h]
def bA.ext (V:bA) (lab:Nat) (V':bA):Prop:=V.le V'/\∀ l,(l<lab\/lab+8<=l)->V'.β l=V.β l/\V'.σ l=V.σ l
theorem bA.cO (V:bA) (lab:Nat):V.ext lab V:=⟨V.le_refl,fun _ _=>⟨rfl,rfl⟩⟩
def bA.fresh (V:bA) (lab:Nat):Prop:=∀ l,lab<=l->l<lab+8->V.β l=none/\V.σ l=none
def bA.put (V:bA) (l:Nat) (p:Nat × Nat):bA:={ V with β:=fun k=>if k=l then some p else V.β k }
def bA.bC (V:bA) (l:Nat) (v:Value):bA:={ V with σ:=fun k=>if k=l then some v else V.σ k }
theorem bA.kB {V:bA} {lab:Nat} (hf:V.fresh lab) (l:Nat) (h1:lab<=l) (h2:l<lab+8) (p:Nat × Nat):V.ext lab (V.put l p):=by
 refine ⟨⟨fun k q hk=>?_,fun _ _ h=>h⟩,fun k hk=>⟨?_,rfl⟩⟩
 .show (if k=l then some p else V.β k)=some q
  by_cases e:k=l
  .subst e;rw [(hf k h1 h2).1] at hk;cases hk
  .rw [if_neg e];exact hk
 .show (if k=l then some p else V.β k)=V.β k
  rw [if_neg (by omega)]
def bA.Hi (V:bA) (l:Nat) (p:Nat × Nat) (v:Value):bA:=(V.put l p).bC l v
theorem bA.cG {V:bA} {lab:Nat} (hf:V.fresh lab) (l:Nat) (h1:lab<=l) (h2:l<lab+8) (v:Value):V.ext lab (V.bC l v):=by
 refine ⟨⟨fun _ _ h=>h,fun k q hk=>?_⟩,fun k hk=>⟨rfl,?_⟩⟩
 .show (if k=l then some v else V.σ k)=some q
  by_cases e:k=l
  .subst e;rw [(hf k h1 h2).2] at hk;cases hk
  .rw [if_neg e];exact hk
 .show (if k=l then some v else V.σ k)=V.σ k
  rw [if_neg (by omega)]
theorem bA.vT {V:bA} {lab:Nat} (hf:V.fresh lab) (l:Nat) (h1:lab<=l) (h2:l<lab+8) (p:Nat × Nat) (v:Value):V.ext lab (V.Hi l p v):=by
 refine ⟨⟨fun k q hk=>?_,fun k q hk=>?_⟩,fun k hk=>⟨?_,?_⟩⟩
 .show (if k=l then some p else V.β k)=some q
  by_cases e:k=l
  .subst e;rw [(hf k h1 h2).1] at hk;cases hk
  .rw [if_neg e];exact hk
 .show (if k=l then some v else V.σ k)=some q
  by_cases e:k=l
  .subst e;rw [(hf k h1 h2).2] at hk;cases hk
  .rw [if_neg e];exact hk
 .show (if k=l then some p else V.β k)=V.β k
  rw [if_neg (by omega)]
 .show (if k=l then some v else V.σ k)=V.σ k
  rw [if_neg (by omega)]
structure TI where
 desc:TypeDesc
 size:Nat
 bytes:Nat
 zero:List SV
abbrev Sum:=List SV->aX->Nat->Nat->Option bK
structure Env where
 ty:Nat->Option TI
 aO:List (Nat × Nat)
 sum:Nat->Option Sum
 TT:Nat->Option Sum
 cmp:List Nat:=[]
def cD (P:Program) (Γ:Env):Prop:=∀ t ti,Γ.ty t=some ti->P.underlying t=some ti.desc /\
 ∃ i z,P.info? t=some i/\i.size=ti.size/\i.bytes=ti.bytes/\i.zero=some z/\∀ V,aJ V ti.zero=some z.cells.toList
def sW:Value->SV
 | .int k n=>.int true k n
 | .bool b=>.bool true b
 | v=>.raw v
def FA:Value->SV
 | .agg cs=>.agg (cs.toList.map sW)
 | v=>sW v
theorem Su (V:bA) (v:Value):den V (sW v)=some v:=by cases v <;> simp [sW,den]
theorem qY (V:bA):∀ l:List Value,aJ V (l.map sW)=some l
 | []=>by simp [aJ]
 | v::l=>by simp [aJ,Su,qY V l]
theorem AT (V:bA) (v:Value):den V (FA v)=some v:=by
 cases v <;> simp [FA,sW,den,qY]
def tiP (P:Program) (t:Nat):Option TI:=match P.info? t with
 | some i=>match P.underlying t,i.zero with
   | some d,some z=>some { desc:=d,size:=i.size,bytes:=i.bytes,zero:=z.cells.toList.map sW }
   | _,_=>none
 | none=>none
theorem cD.prog {P:Program} {Γ:Env} (h:Γ.ty=tiP P):cD P Γ:=by
 intro t ti ht
 rw [h] at ht
 unfold tiP at ht
 split at ht
 case h_2=>cases ht
 rename_i i hi
 split at ht
 case h_2=>cases ht
 rename_i d z hd hz
 cases ht
 exact ⟨hd,i,z,hi,rfl,rfl,hz,fun V=>qY V _⟩
def ev (Γ:Env) (g:Nat->Option SV):Operand->Option SV
 | .tmp t=>g t
 | .const v=>some (FA v)
 | .global n=>(look n Γ.aO).map fun l=>.ptr l true 0
 | .func f=>some (.fn (.func f) [] [])
def cJ (V:bA) (g:Nat->Option SV) (a:Act):Prop:=∀ t v,g t=some v->den V v=some (a.eval (.tmp t))
def bR (Γ:Env) (V:bA):Prop:=∀ n l,look n Γ.aO=some l->V.β l=some (n,0)
theorem bI {Γ:Env} {V:bA} {g:Nat->Option SV} {a:Act} (ht:cJ V g a) (hg:bR Γ V):∀ {x:Operand} {v:SV},ev Γ g x=some v->den V v=some (a.eval x)
 | .tmp t,v,h=>ht t v h
 | .const c,v,h=>by simp only [ev,aW] at h;subst h;exact AT V c
 | .global n,v,h=>by
   simp only [ev,dH] at h
   obtain ⟨l,hl,rfl⟩:=h
   simp [den,hg n l hl,Act.eval]
 | .func f,v,h=>by simp only [ev,aW] at h;subst h;simp [den,aJ,Act.eval]
def RK (Γ:Env) (g:Nat->Option SV):List Operand->Option (List SV)
 | []=>some []
 | x::r=>match ev Γ g x,RK Γ g r with
   | some v,some vs=>some (v::vs)
   | _,_=>none
theorem Hz {Γ:Env} {V:bA} {g:Nat->Option SV} {a:Act} (ht:cJ V g a) (hg:bR Γ V):∀ {xs:List Operand} {vs:List SV},RK Γ g xs=some vs->aJ V vs=some (xs.map a.eval)
 | [],vs,h=>by simp only [RK,aW] at h;subst h;simp [aJ]
 | x::r,vs,h=>by
   simp only [RK] at h
   split at h
   .rename_i v us hv Dy
    cases h
    simp [aJ,bI ht hg hv,Hz ht hg Dy]
   .cases h
def rY (s:Bool) (p:Prop) [Decidable p]:Option (List Prop):=match s with
 | true=>match decide p with
   | true=>some []
   | false=>none
 | false=>some [p]
theorem gO {s:Bool} {p:Prop} [Decidable p] {l:List Prop} (h:rY s p=some l) (ho:∀ q∈l,q):p:=by
 cases s with
 | true=>
   simp only [rY] at h
   split at h
   .rename_i hd;exact jP hd
   .cases h
 | false=>simp only [rY,aW] at h;subst h;exact ho p (by simp)
def Wz (h:Option Bool) (s:Bool) (b:Bool):bK:=match s with
 | true=>{ val:=.bool true b }
 | false=>match h with
   | some c=>{ bO:=[b=c],val:=.bool true c }
   | none=>{ val:=.bool false b }
theorem IF (V:bA) {h:Option Bool} {s b:Bool} (ho:∀ q∈(Wz h s b).bO,q):den V (Wz h s b).val=some (.bool b)/\(Wz h s b).new=[]/\(Wz h s b).wr=[]:=by
 unfold Wz at *
 split
 .simp [den]
 .split
  .rename_i c
   have hb:b=c:=ho (b=c) (by simp)
   subst hb
   simp [den]
  .simp [den]
theorem jN (T:aX) (lab:Nat) {e:bK} (hn:e.new=[]) (hw:e.wr=[]):eT T lab e=T:=by
 funext l;simp [eT,bK.eW,hn,hw,gE,look]
def lB (P:Program) (w0:World) (M:Nat->Prop) (V:bA) (T:aX) (lab:Nat) (e:bK) (o:Oper) (a:Act) (w:World):Prop:=
 ∀ K Q,(∀ V' x w',V.ext lab V'->den V' e.val=some x->aD w0 M V' (eT T lab e) w'->K (a.put o.dst x) w')->o.wp P a w K Q
theorem bF {P:Program} {w0:World} {M:Nat->Prop} {V:bA} {T:aX} {lab:Nat} {e:bK} {o:Oper} {a:Act} {w:World} {x:Value}
 (hr:(execOp a.eval o).run P w = .ok (.value x) w) (hx:den V e.val=some x) (hn:e.new=[]) (hw:e.wr=[]) (hT:aD w0 M V T w):lB P w0 M V T lab e o a w:=by
 intro K Q hK
 unfold Oper.wp
 rw [hr,Oper.upon_value]
 exact hK V x w (V.cO lab) hx (by rw [jN T lab hn hw];exact hT)
section Tables
variable {w0 w w':World} {M:Nat->Prop} {V V':bA} {T:aX} {lab:Nat}
theorem aD.known (h:aD w0 M V T w) {l:Nat} {B:SB} (hl:T l=some B) (hg:B ≠ .gone):V.β l≠none\/V.σ l≠none:=by
 obtain ⟨cs,_,h2⟩:=h.ok l B hl
 cases B with
 | own cells ty=>obtain ⟨b,hb,_⟩:=h2;left;rw [hb];simp
 | ints k xs ty=>obtain ⟨b,hb,_⟩:=h2;left;rw [hb];simp
 | eN vs ty=>obtain ⟨b,hb,_⟩:=h2;left;rw [hb];simp
 | eQ cells=>obtain ⟨b,o,hb,_⟩:=h2;left;rw [hb];simp
 | nT k xs=>obtain ⟨b,o,hb,_⟩:=h2;left;rw [hb];simp
 | dF k xs ty=>obtain ⟨v,hv,_⟩:=h2;right;rw [hv];simp
 | fQ sz n ty=>obtain ⟨v,us,hv,_⟩:=h2;right;rw [hv];simp
 | row sz cells ty=>obtain ⟨b,_,_,hb,_⟩:=h2;left;rw [hb];simp
 | gC k xs=>obtain ⟨v,hv,_⟩:=h2;right;rw [hv];simp
 | eK xs ty=>obtain ⟨v,hv,_⟩:=h2;right;rw [hv];simp
 | rC xs=>obtain ⟨v,hv,_⟩:=h2;right;rw [hv];simp
 | gone=>exact absurd rfl hg
theorem qW {ty:TypeId} {sz n:Nat} {v:Value} {cs:List Value} (h:w.ownsRow 0 ty sz v n cs) {k:Nat} (hk:v.ownBlock=some k):k<w.heap.size:=(h.lt k hk).2
theorem okB.lt {l:Nat} {B:SB} (h:okB V w l B) {n:Nat} (hn:B.aT V l=some n):n<w.heap.size:=by
 obtain ⟨cs,_,h2⟩:=h
 cases B with
 | own cells ty=>obtain ⟨b,hb,hh⟩:=h2;simp [SB.aT,hb] at hn;subst hn;exact (Array.getElem?_eq_some_iff.1 hh).1
 | ints k xs ty=>obtain ⟨b,hb,hh⟩:=h2;simp [SB.aT,hb] at hn;subst hn;exact (Array.getElem?_eq_some_iff.1 hh).1
 | eN vs ty=>obtain ⟨b,hb,hh⟩:=h2;simp [SB.aT,hb] at hn;subst hn;exact (Array.getElem?_eq_some_iff.1 hh).1
 | eQ cells=>obtain ⟨b,o,hb,cM,_⟩:=h2;simp [SB.aT,hb] at hn;subst hn;exact cM.lt
 | nT k xs=>obtain ⟨b,o,hb,cM,_⟩:=h2;simp [SB.aT,hb] at hn;subst hn;exact cM.lt
 | dF k xs ty=>obtain ⟨v,hv,ho⟩:=h2;simp [SB.aT,hv] at hn;exact qW ho.1 hn
 | fQ sz n ty=>obtain ⟨v,us,hv,ho,_⟩:=h2;simp [SB.aT,hv] at hn;exact qW ho hn
 | row sz cells ty=>obtain ⟨b,_,_,hb,_,hh,_⟩:=h2;simp [SB.aT,hb] at hn;subst hn;exact (Array.getElem?_eq_some_iff.1 hh).1
 | gC k xs=>
   obtain ⟨v,hv,ho⟩:=h2
   simp only [SB.aT,hv,lI] at hn
   rcases ho with ⟨⟨a,rfl⟩,_⟩ | ⟨b,o,c,rfl,cM,_⟩
   .cases hn
   .cases fC hn;exact cM
 | eK xs ty=>obtain ⟨v,hv,ho⟩:=h2;simp [SB.aT,hv] at hn;exact qW ho hn
 | rC xs=>
   obtain ⟨v,hv,ho⟩:=h2
   simp only [SB.aT,hv,lI] at hn
   rcases ho with ⟨⟨a,rfl⟩,_⟩ | ⟨b,o,c,rfl,cM,_⟩
   .cases hn
   .cases fC hn;exact cM
 | gone=>simp [SB.aT] at hn
theorem Oa {w w':World} {k:IntKind} {v:Value} (h:hY w k v) (hb:∀ n,v.ownBlock=some n->w'.heap[n]?=w.heap[n]?):hY w' k v:=fun b hv=>by
 obtain ⟨cur,ty,p,h1,h2⟩:=h b hv
 exact ⟨cur,ty,p,by rw [hb b hv];exact h1,h2⟩
theorem pK {ty:TypeId} {sz n:Nat} {v:Value} {cs:List Value} (h:w.ownsRow 0 ty sz v n cs) (hb:∀ k,v.ownBlock=some k->w'.heap[k]?=w.heap[k]?):w'.ownsRow 0 ty sz v n cs:=by
 refine ⟨h.1,?_⟩
 rcases h.2 with hn | ⟨g,cap,cur,rfl,Ef,hh,r⟩
 .exact .inl hn
 .exact .inr ⟨g,cap,cur,rfl,Ef,by rw [hb g rfl];exact hh,r⟩
theorem okB.qD {l:Nat} {B:SB} (h:okB V w l B) (hV:V.le V') (hs:w.heap.size<=w'.heap.size) (hb:∀ n,B.aT V l=some n->w'.heap[n]?=w.heap[n]?):okB V' w' l B:=by
 obtain ⟨cs,hc,h2⟩:=h
 refine ⟨cs,SB.iM hV hc,?_⟩
 cases B with
 | own cells ty=>obtain ⟨b,hβ,hh⟩:=h2;exact ⟨b,hV.1 _ _ hβ,by rw [hb b (by simp [SB.aT,hβ])];exact hh⟩
 | ints k xs ty=>obtain ⟨b,hβ,hh⟩:=h2;exact ⟨b,hV.1 _ _ hβ,by rw [hb b (by simp [SB.aT,hβ])];exact hh⟩
 | eN vs ty=>obtain ⟨b,hβ,hh⟩:=h2;exact ⟨b,hV.1 _ _ hβ,by rw [hb b (by simp [SB.aT,hβ])];exact hh⟩
 | eQ cells=>
   obtain ⟨b,o,hβ,cM,hh⟩:=h2
   refine ⟨b,o,hV.1 _ _ hβ,cM.qD (hb b (by simp [SB.aT,hβ])),fun j v hj=>?_⟩
   rw [<- hh j v hj]
   exact World.cell?_of_block (w:=w) (hb b (by simp [SB.aT,hβ]))
 | nT k xs=>
   obtain ⟨b,o,hβ,cM,hh⟩:=h2
   refine ⟨b,o,hV.1 _ _ hβ,cM.qD (hb b (by simp [SB.aT,hβ])),fun j v hj=>?_⟩
   rw [<- hh j v hj]
   exact World.cell?_of_block (w:=w) (hb b (by simp [SB.aT,hβ]))
 | dF k xs ty=>obtain ⟨v,hσ,ho,hi⟩:=h2;exact ⟨v,hV.2 _ _ hσ,pK ho (fun k hk=>hb k (by simp [SB.aT,hσ,hk])),Oa hi (fun k hk=>hb k (by simp [SB.aT,hσ,hk]))⟩
 | fQ sz n ty=>obtain ⟨v,us,hσ,ho,hq⟩:=h2;exact ⟨v,us,hV.2 _ _ hσ,pK ho (fun k hk=>hb k (by simp [SB.aT,hσ,hk])),hq⟩
 | row sz cells ty=>obtain ⟨b,cap,cur,hβ,hσ,hh,r⟩:=h2;exact ⟨b,cap,cur,hV.1 _ _ hβ,hV.2 _ _ hσ,by rw [hb b (by simp [SB.aT,hβ])];exact hh,r⟩
 | gC k xs=>
   obtain ⟨v,hσ,ho⟩:=h2
   refine ⟨v,hV.2 _ _ hσ,?_⟩
   rcases ho with ho | ⟨b,o,c,rfl,cM,hc,hh⟩
   .exact .inl ho
   .refine .inr ⟨b,o,c,rfl,Nat.lt_of_lt_of_le cM hs,hc,fun j v hj=>?_⟩
    rw [<- hh j v hj]
    have Ay:j<xs.length:=by simpa using (List.getElem?_eq_some_iff.1 hj).1
    obtain ⟨m,rfl⟩:∃ m,c=m+1:=⟨c-1,by omega⟩
    exact World.cell?_of_block (w:=w) (hb b (by simp [SB.aT,hσ,iD,Value.ownBlock]))
 | eK xs ty=>obtain ⟨v,hσ,ho⟩:=h2;exact ⟨v,hV.2 _ _ hσ,pK ho (fun k hk=>hb k (by simp [SB.aT,hσ,hk]))⟩
 | rC xs=>
   obtain ⟨v,hσ,ho⟩:=h2
   refine ⟨v,hV.2 _ _ hσ,?_⟩
   rcases ho with ho | ⟨b,o,c,rfl,cM,hc,hh⟩
   .exact .inl ho
   .refine .inr ⟨b,o,c,rfl,Nat.lt_of_lt_of_le cM hs,hc,fun j v hj=>?_⟩
    rw [<- hh j v hj]
    have Ay:0<xs.length:=by
     cases xs with
     | nil=>simp [dV] at hj
     | cons a r=>simp
    obtain ⟨m,rfl⟩:∃ m,c=m+1:=⟨c-1,by omega⟩
    exact World.cell?_of_block (w:=w) (hb b (by simp [SB.aT,hσ,iD,Value.ownBlock]))
 | gone=>trivial
theorem SB.aLw (hV:V.le V') {l:Nat} {B:SB} {n:Nat} (h:B.aT V l=some n):B.aT V' l=some n:=by
 cases B <;> simp only [SB.aT,dH,gM] at h |-
 case gone=>cases h
 case dF=>obtain ⟨v,hv,e⟩:=h;exact ⟨v,hV.2 _ _ hv,e⟩
 case fQ=>obtain ⟨v,hv,e⟩:=h;exact ⟨v,hV.2 _ _ hv,e⟩
 case gC=>obtain ⟨v,hv,e⟩:=h;exact ⟨v,hV.2 _ _ hv,e⟩
 case eK=>obtain ⟨v,hv,e⟩:=h;exact ⟨v,hV.2 _ _ hv,e⟩
 case rC=>obtain ⟨v,hv,e⟩:=h;exact ⟨v,hV.2 _ _ hv,e⟩
 all_goals (obtain ⟨p,hp,e⟩:=h;exact ⟨p,hV.1 _ _ hp,e⟩)
theorem okB.tE {l:Nat} {B:SB} (h:okB V w l B) (hV:V.le V'):B.aT V' l=B.aT V l:=by
 obtain ⟨cs,_,h2⟩:=h
 cases B with
 | own cells ty=>obtain ⟨b,hb,_⟩:=h2;simp [SB.aT,hb,hV.1 _ _ hb]
 | ints k xs ty=>obtain ⟨b,hb,_⟩:=h2;simp [SB.aT,hb,hV.1 _ _ hb]
 | eN vs ty=>obtain ⟨b,hb,_⟩:=h2;simp [SB.aT,hb,hV.1 _ _ hb]
 | eQ cells=>obtain ⟨b,o,hb,_⟩:=h2;simp [SB.aT,hb,hV.1 _ _ hb]
 | nT k xs=>obtain ⟨b,o,hb,_⟩:=h2;simp [SB.aT,hb,hV.1 _ _ hb]
 | dF k xs ty=>obtain ⟨v,hv,_⟩:=h2;simp [SB.aT,hv,hV.2 _ _ hv]
 | fQ sz n ty=>obtain ⟨v,us,hv,_⟩:=h2;simp [SB.aT,hv,hV.2 _ _ hv]
 | row sz cells ty=>obtain ⟨b,_,_,hb,_⟩:=h2;simp [SB.aT,hb,hV.1 _ _ hb]
 | gC k xs=>obtain ⟨v,hv,_⟩:=h2;simp [SB.aT,hv,hV.2 _ _ hv]
 | eK xs ty=>obtain ⟨v,hv,_⟩:=h2;simp [SB.aT,hv,hV.2 _ _ hv]
 | rC xs=>obtain ⟨v,hv,_⟩:=h2;simp [SB.aT,hv,hV.2 _ _ hv]
 | gone=>simp [SB.aT]
theorem aD.step (h:aD w0 M V T w) (hV:V.le V') {N T':aX}
 (hT:∀ l B,T' l=some B->N l=some B\/(N l=none/\T l=some B))
 (hN:∀ l B,N l=some B->okB V' w' l B)
 (fF:∀ l B n,N l=some B->B.aT V' l=some n->w.heap.size<=n\/(∃ l0 B0,T l0=some B0/\B0.owned=true/\B0.aT V l0=some n/\N l0≠none)\/B.owned=false/\∀ l2 B2,N l2=none->T l2=some B2->B2.owned=true->B2.aT V l2≠some n)
 (aRv:∀ l B l' B' n,l≠l'->N l=some B->N l'=some B'->B.owned=true->B.aT V' l=some n->B'.aT V' l'≠some n)
 (Ty:w.heap.size<=w'.heap.size)
 (Tz:∀ n,n<w.heap.size->(∀ l B0,T l=some B0->B0.owned=true->N l≠none->B0.aT V l≠some n)->w'.heap[n]?=w.heap[n]?)
 (hos:w'.os=w.os) (Ll:w'.tape=w.tape) (CX:w'.output=w.output):aD w0 M V' T' w' where
 ok:=fun l B hl=>by
  rcases hT l B hl with hn | ⟨hn,ho⟩
  .exact hN l B hn
  .refine (h.ok l B ho).qD hV Ty (fun n hb=>Tz n ((h.ok l B ho).lt hb) fun l1 B1 h1 h2 h3 h4=>?_)
   by_cases e:l1=l
   .subst e;exact h3 hn
   .exact h.iY l1 B1 l B n e h1 ho h2 h4 hb
 iY:=fun l B l' B' n dI hl sL fH hb=>by
  rcases hT l B hl with hn | ⟨hn,ho⟩ <;> rcases hT l' B' sL with Oc | ⟨Oc,kC⟩
  .exact aRv l B l' B' n dI hn Oc fH hb
  .rw [(h.ok l' B' kC).tE hV]
   intro iL
   rcases fF l B n hn hb with QB | ⟨l0,B0,h0,h1,h2,h3⟩ | ⟨hf,_⟩
   .have:=(h.ok l' B' kC).lt iL;omega
   .exact h.iY l0 B0 l' B' n (fun e=>h3 (e ▸ Oc)) h0 kC h1 h2 iL
   .rw [hf] at fH;cases fH
  .rw [(h.ok l B ho).tE hV] at hb
   intro iL
   rcases fF l' B' n Oc iL with QB | ⟨l0,B0,h0,h1,h2,h3⟩ | ⟨_,hf⟩
   .have:=(h.ok l B ho).lt hb;omega
   .exact h.iY l B l0 B0 n (fun e=>h3 (e ▸ hn)) ho h0 fH hb h2
   .exact hf l B hn ho fH hb
  .rw [(h.ok l B ho).tE hV] at hb
   rw [(h.ok l' B' kC).tE hV]
   exact h.iY l B l' B' n dI ho kC fH hb
 perm:=fun l B n hl fH hb=>by
  rcases hT l B hl with hn | ⟨hn,ho⟩
  .rcases fF l B n hn hb with QB | ⟨l0,B0,h0,h1,h2,_⟩ | ⟨hf,_⟩
   .left;have:=h.frame.size;omega
   .exact h.perm l0 B0 n h0 h1 h2
   .rw [hf] at fH;cases fH
  .rw [(h.ok l B ho).tE hV] at hb
   exact h.perm l B n ho fH hb
 frame:=by
  refine ⟨hos.trans h.frame.os,Ll.trans h.frame.tape,CX.trans h.frame.output,Nat.le_trans h.frame.size Ty,fun k hk hM=>?_⟩
  rw [<- h.frame.block k hk hM]
  refine Tz k (Nat.lt_of_lt_of_le hk h.frame.size) fun l B0 h1 h2 _ h4=>?_
  rcases h.perm l B0 k h1 h2 h4 with QB | hm
  .omega
  .exact hM hm
theorem aD.alloc (h:aD w0 M V T w) (hf:V.fresh lab) {B:SB} {cs:List Value} {ty:TypeId} (hB:B = .own (match B with | .own c _=>c | _=>[]) ty\/B = .ints (match B with | .ints k _ _=>k | _=>.i8) (match B with | .ints _ xs _=>xs | _=>[]) ty\/B = .eN (match B with | .eN vs _=>vs | _=>[]) ty) (hc:B.cells V=some cs) (v:SV) (l:List Prop) :
 aD w0 M (V.put lab (w.heap.size,0)) (eT T lab { bO:=l,val:=v,new:=[B] }) (w.alloc (.cells cs.toArray ty)):=by
 have bU:=bA.kB hf lab (cT _) (by omega) (w.heap.size,0)
 have Ax:(V.put lab (w.heap.size,0)).β lab=some (w.heap.size,0):=by simp [bA.put]
 refine h.step (N:=fun k=>if k=lab then some B else none) bU.1 (fun k C hk=>?_) (fun k C hk=>?_) (fun k C n hk hb=>?_) (fun k C k' C' n dI hk gX=>?_) (by simp) (fun n hn _=>heap_alloc_old w _ hn) rfl rfl rfl
 .simp only [eT,bK.eW,gE,mZ] at hk
  by_cases e:lab=k
  .subst e;rw [aI] at hk;left;simpa using hk
  .rw [aE e] at hk;right;simp only [look] at hk;exact ⟨if_neg (fun x=>e x.symm),hk⟩
 .by_cases e:k=lab
  .subst e
   simp only [if_true,aW] at hk
   subst hk
   refine ⟨cs,SB.iM bU.1 hc,?_⟩
   rcases hB with hB | hB | hB <;> rw [hB] <;> exact ⟨w.heap.size,Ax,heap_alloc_new w _⟩
  .simp [e] at hk
 .by_cases e:k=lab
  .subst e
   simp only [if_true,aW] at hk
   subst hk
   left
   rcases hB with hB | hB | hB <;> (rw [hB] at hb;simp [SB.aT,Ax] at hb;omega)
  .simp [e] at hk
 .by_cases e:k=lab
  .by_cases e':k'=lab
   .omega
   .simp [e'] at gX
  .simp [e] at hk
theorem aD.write (h:aD w0 M V T w) {l:Nat} {B0 B:SB} {b:Nat} {Fg cs:List Value} {ty:TypeId} (hl:T l=some B0) (hβ:V.β l=some (b,0)) (fH:B0.owned=true) (h0:B0.aT V l=some b)
 (Bu:w.heap[b]?=some (.cells Fg.toArray ty (0,0))) (hc:B.cells V=some cs)
 (hB:B = .own (match B with | .own c _=>c | _=>[]) ty\/B = .ints (match B with | .ints k _ _=>k | _=>.i8) (match B with | .ints _ xs _=>xs | _=>[]) ty\/B = .eN (match B with | .eN vs _=>vs | _=>[]) ty) (lab:Nat) (v:SV) (ob:List Prop) :
 aD w0 M V (eT T lab { bO:=ob,val:=v,wr:=[(l,B)] }) (w.setRow b cs.toArray):=by
 have aRx:B.aT V l=some b:=by rcases hB with hB | hB | hB <;> (rw [hB];simp [SB.aT,hβ])
 refine h.step (N:=fun k=>if k=l then some B else none) (bA.le_refl V) (fun k C hk=>?_) (fun k C hk=>?_) (fun k C n hk hb=>?_) (fun k C k' C' n dI hk gX=>?_) (by simp) (fun n hn hx=>?_) rfl rfl rfl
 .simp only [eT,bK.eW,gE,List.append_nil] at hk
  by_cases e:l=k
  .subst e;rw [aI] at hk;left;simpa using hk
  .rw [aE e] at hk;right;simp only [look] at hk;exact ⟨if_neg (fun x=>e x.symm),hk⟩
 .by_cases e:k=l
  .subst e
   simp only [if_true,aW] at hk
   subst hk
   refine ⟨cs,hc,?_⟩
   have:=setRow_heap w b Fg.toArray cs.toArray ty (0,0) Bu
   rcases hB with hB | hB | hB <;> rw [hB] <;> exact ⟨b,hβ,this⟩
  .simp [e] at hk
 .by_cases e:k=l
  .subst e
   simp only [if_true,aW] at hk
   subst hk
   right;left
   rw [aRx] at hb
   cases hb
   exact ⟨k,B0,hl,fH,h0,by simp⟩
  .simp [e] at hk
 .by_cases e:k=l
  .by_cases e':k'=l
   .omega
   .simp [e'] at gX
  .simp [e] at hk
 .refine setRow_other w b n _ fun e=>?_
  subst e
  exact hx l B0 hl fH (by simp) h0
theorem aD.aSq (h:aD w0 M V T w) (hh:w'.heap=w.heap) (hos:w'.os=w.os) (Ll:w'.tape=w.tape) (CX:w'.output=w.output):aD w0 M V T w':=
 h.step (N:=fun _=>none) (bA.le_refl V) (fun l B hl=>.inr ⟨rfl,hl⟩) (fun _ _ hk=>by cases hk) (fun _ _ _ hk=>by cases hk) (fun _ _ _ _ _ _ hk=>by cases hk) (by rw [hh];exact cT _) (fun n _ _=>by rw [hh]) hos Ll CX
theorem zB.qD {w w':World} {k:IntKind} {x:Value} {ys:List Int} (h:zB w k x ys) (hs:w.heap.size<=w'.heap.size) (hb:∀ n,iD x=some n->w'.heap[n]?=w.heap[n]?):zB w' k x ys:=by
 rcases h with ho | ⟨b,o,c,rfl,cM,hc,hh⟩
 .exact .inl ho
 .refine .inr ⟨b,o,c,rfl,Nat.lt_of_lt_of_le cM hs,hc,fun j v hj=>?_⟩
  rw [<- hh j v hj]
  have Ay:j<ys.length:=by simpa using (List.getElem?_eq_some_iff.1 hj).1
  obtain ⟨m,rfl⟩:∃ m,c=m+1:=⟨c-1,by omega⟩
  exact World.cell?_of_block (w:=w) (hb b (by simp [iD,Value.ownBlock]))
theorem zB.iH {k:IntKind} {x:Value} {ys:List Int} (h:zB w k x ys):rX ys.length x=some x:=by
 rcases h with ⟨⟨a,rfl⟩,rfl⟩ | ⟨b,o,c,rfl,_,hc,_⟩
 .cases a <;> simp [rX]
 .unfold rX;exact if_pos ⟨rfl,hc,.inr rfl⟩
theorem aD.swap {l0:Nat} {B C:SB} (hT:aD w0 M V T w) (hl:T l0=some B) (kX:okB V w l0 B->okB V w l0 C) (fF:C.aT V l0=B.aT V l0) (fH:C.owned=B.owned):aD w0 M V (fun l=>if l=l0 then some C else T l) w:=by
 have src:∀ l D,(if l=l0 then some C else T l)=some D->∃ E,T l=some E/\D.aT V l=E.aT V l/\D.owned=E.owned:=by
  intro l D h
  by_cases e:l=l0
  .subst e;rw [if_pos rfl] at h;cases h;exact ⟨B,hl,fF,fH⟩
  .rw [if_neg e] at h;exact ⟨D,h,rfl,rfl⟩
 refine ⟨fun l D h=>?_,fun l D l' D' n dI h h' ho hb=>?_,fun l D n h ho hb=>?_,hT.frame⟩
 .by_cases e:l=l0
  .subst e;simp only [if_true,aW] at h;subst h;exact kX (hT.ok l B hl)
  .simp only [if_neg e] at h;exact hT.ok l D h
 .obtain ⟨E,h1,h2,h3⟩:=src l D h
  obtain ⟨E',Ov,BL,_⟩:=src l' D' h'
  rw [BL]
  exact hT.iY l E l' E' n dI h1 Ov (h3 ▸ ho) (h2 ▸ hb)
 .obtain ⟨E,h1,h2,h3⟩:=src l D h
  exact hT.perm l E n h1 (h3 ▸ ho) (h2 ▸ hb)
end Tables
def bW (k:IntKind) (x y:Int):Int:=k.wrap ((BitVec.ofInt k.bits x &&& BitVec.ofInt k.bits y).toNat:Int)
def jZ (k:IntKind) (x y:Int):Int:=k.wrap ((BitVec.ofInt k.bits x ||| BitVec.ofInt k.bits y).toNat:Int)
def gI (k:IntKind) (x y:Int):Int:=k.wrap ((BitVec.ofInt k.bits x ^^^ BitVec.ofInt k.bits y).toNat:Int)
def aZz (k:IntKind) (x y:Int):Int:=k.wrap ((BitVec.ofInt k.bits x &&& ~~~(BitVec.ofInt k.bits y)).toNat:Int)
def dD (k:IntKind) (x y:Int):Int:=k.wrap (x*2^(min y.toNat k.bits))
def bY (k:IntKind) (x y:Int):Int:=x.fdiv (2^(min y.toNat k.bits))
def lit (v:SV):Option bK:=some { val:=v }
def dU (v:SV) (l:List Prop):bK:={ bO:=l,val:=v }
def Yc (h:Option Bool) (op:BinOp) (k:IntKind) (a:Int) (k2:IntKind) (b:Int) (sa sb:Bool):Option bK:=
 match op with
 | .shl=>(rY sb (0<=b)).map (dU (.int (sa&&sb) k (dD k a b)))
 | .shr=>(rY sb (0<=b)).map (dU (.int (sa&&sb) k (bY k a b)))
 | _=>match decide (k=k2) with
   | false=>none
   | true=>match op with
     | .add=>lit (.int (sa&&sb) k (k.wrap (a+b)))
     | .sub=>lit (.int (sa&&sb) k (k.wrap (a-b)))
     | .mul=>lit (.int (sa&&sb) k (k.wrap (a*b)))
     | .quo=>(rY sb (b≠0)).map (dU (.int (sa&&sb) k (k.wrap (a.tdiv b))))
     | .rem=>(rY sb (b≠0)).map (dU (.int (sa&&sb) k (a.tmod b)))
     | .and=>lit (.int (sa&&sb) k (bW k a b))
     | .or=>lit (.int (sa&&sb) k (jZ k a b))
     | .xor=>lit (.int (sa&&sb) k (gI k a b))
     | .andNot=>lit (.int (sa&&sb) k (aZz k a b))
     | .eql=>some (Wz h (sa&&sb) (a==b))
     | .neq=>some (Wz h (sa&&sb) (a != b))
     | .lss=>some (Wz h (sa&&sb) (decide (a<b)))
     | .leq=>some (Wz h (sa&&sb) (decide (a<=b)))
     | .gtr=>some (Wz h (sa&&sb) (decide (a>b)))
     | .geq=>some (Wz h (sa&&sb) (decide (a>=b)))
     | _=>none
theorem aBg {P:Program} (V:bA) (w:World) {h:Option Bool} {op:BinOp} {k:IntKind} {a:Int} {k2:IntKind} {b:Int} {sa sb:Bool} {e:bK} (t:TypeId)
 (he:Yc h op k a k2 b sa sb=some e) (ho:∀ q∈e.bO,q) :
 ∃ x,(binOp op t (.int k a) (.int k2 b)).run P w = .ok x w/\den V e.val=some x/\e.new=[]/\e.wr=[]:=by
 have hk:op ≠ .shl->op ≠ .shr->k=k2:=by
  intro h1 h2
  cases op <;> simp only [Yc] at he <;> first | (split at he <;> first | (cases he;done) | (rename_i hd;exact jP hd)) | exact absurd rfl h1 | exact absurd rfl h2
 cases op
 case shl=>
  simp only [Yc,dH] at he
  obtain ⟨l,hl,rfl⟩:=he
  have hb:=gO hl ho
  exact ⟨_,by simp only [binOp,Op.shift];rw [if_neg (by omega)];rfl,rfl,rfl,rfl⟩
 case shr=>
  simp only [Yc,dH] at he
  obtain ⟨l,hl,rfl⟩:=he
  have hb:=gO hl ho
  exact ⟨_,by simp only [binOp,Op.shift];rw [if_neg (by omega)];rfl,rfl,rfl,rfl⟩
 all_goals
  have gX:=hk (by simp) (by simp)
  subst gX
  simp only [Yc,decide_true] at he
 case quo=>
  simp only [dH] at he
  obtain ⟨l,hl,rfl⟩:=he
  have hb:=gO hl ho
  exact ⟨_,by simp only [binOp];rw [if_neg (by simp)];simp only [Op.intDiv];rw [if_neg hb];rfl,rfl,rfl,rfl⟩
 case rem=>
  simp only [dH] at he
  obtain ⟨l,hl,rfl⟩:=he
  have hb:=gO hl ho
  exact ⟨_,by simp only [binOp];rw [if_neg (by simp)];simp only [Op.intDiv];rw [if_neg hb];rfl,rfl,rfl,rfl⟩
 all_goals first
  | (simp only [lit,aW] at he;subst he;exact ⟨_,by simp only [binOp];rw [if_neg (by simp)];rfl,rfl,rfl,rfl⟩)
  | (simp only [aW] at he;subst he;obtain ⟨h1,h2,h3⟩:=IF V ho;exact ⟨_,by simp only [binOp];rw [if_neg (by simp)];rfl,h1,h2,h3⟩)
  | (cases he;done)
def SN:SV->Option Bool
 | .raw (.pointer none)=>some true
 | .ptr .. => some false
 | _=>none
def SM:SV->Option Bool
 | .raw (.slice none _ _)=>some true
 | .aH .. => some false
 | .dJ .. => some false
 | _=>none
def SO:SV->Option Bool
 | .raw .nilIface=>some true
 | .pX .. => some false
 | _=>none
def tY (op:BinOp) (b:Bool):Option bK:=match op with
 | .eql=>lit (.bool true b)
 | .neq=>lit (.bool true (!b))
 | _=>none
def eEq (h:Option Bool) (op:BinOp) (d:TypeDesc) (cc:Bool) (x y:SV):Option bK:=
 match d with
 | .pointer _=>match SN x,SN y with
   | some a,some b=>match a||b with
     | true=>tY op (a&&b)
     | false=>none
   | _,_=>none
 | .slice _=>match SM x,SM y with
   | some a,some b=>match a||b with
     | true=>tY op (a&&b)
     | false=>none
   | _,_=>none
 | .interface _=>match SO x,SO y with
   | some true,some true=>match cc with
     | true=>tY op true
     | false=>none
   | some true,some false=>tY op false
   | some false,some true=>tY op false
   | _,_=>none
 | .bool=>match x,y with
   | .bool sa a,.bool sb b=>match op with
     | .eql=>some (Wz h (sa&&sb) (a==b))
     | .neq=>some (Wz h (sa&&sb) (!(a==b)))
     | _=>none
   | _,_=>none
 | _=>none
def DO (Γ:Env) (g:Nat->Option SV) (h:Option Bool) (op:BinOp) (t:TypeId) (x y:Operand):Option bK:=
 match ev Γ g x,ev Γ g y with
 | some (.int sa k a),some (.int sb k2 b)=>Yc h op k a k2 b sa sb
 | some u,some v=>match Γ.ty t with
   | some ti=>eEq h op ti.desc ((x matches .const _)||(y matches .const _)) u v
   | none=>none
 | _,_=>none
theorem cR {P:Program} (w:World) (op:BinOp) (t:TypeId) (x y:Operand) (a b:Value) (h1:¬ (a = .nilIface/\b = .nilIface)) (h2:∀ cs,a ≠ .agg cs) :
 (eqGuard op t x y a b).run P w = .ok () w:=by
 unfold eqGuard
 cases op <;> try rfl
 all_goals
  cases a <;> cases b <;> first | rfl | exact absurd rfl (h2 _) | exact absurd ⟨rfl,rfl⟩ h1
theorem zF {P:Program} (w:World) (op:BinOp) (t:TypeId) (x y:Operand) (h:((x matches .const _)||(y matches .const _))=true) :
 (eqGuard op t x y .nilIface .nilIface).run P w = .ok () w:=by
 unfold eqGuard
 cases op <;> try rfl
 all_goals (cases x <;> cases y <;> first | rfl | (simp at h;done))
theorem zE (n0:Nat) {P:Program} (w:World) {t E:TypeId} (hu:P.underlying t=some (.pointer E)) (a b:Option Addr) (h:a=none\/b=none) :
 (Op.equalIn (n0+1) t (.pointer a) (.pointer b)).run P w = .ok (a.isNone&&b.isNone) w:=by
 simp only [Op.equalIn,Sem.run_bind,run_underlying hu w,Result.andThen_ok]
 rcases h with rfl | rfl
 .simp
 .cases a <;> simp
theorem Ez {P:Program} (w:World) {t E:TypeId} (hu:P.underlying t=some (.pointer E)) (a b:Option Addr) (h:a=none\/b=none) :
 (Op.equal t (.pointer a) (.pointer b)).run P w = .ok (a.isNone&&b.isNone) w:=zE 9999 w hu a b h
theorem wJ (n0:Nat) {P:Program} (w:World) {t E:TypeId} (hu:P.underlying t=some (.slice E)) (a b:Option Addr) (n c m d:Nat) (h:a=none\/b=none) :
 (Op.equalIn (n0+1) t (.slice a n c) (.slice b m d)).run P w = .ok (a.isNone&&b.isNone) w:=by
 simp only [Op.equalIn,Sem.run_bind,run_underlying hu w,Result.andThen_ok]
 rcases h with rfl | rfl
 .simp
 .cases a <;> simp
theorem zD {P:Program} (w:World) {t E:TypeId} (hu:P.underlying t=some (.slice E)) (a b:Option Addr) (n c m d:Nat) (h:a=none\/b=none) :
 (Op.equal t (.slice a n c) (.slice b m d)).run P w = .ok (a.isNone&&b.isNone) w:=wJ 9999 w hu a b n c m d h
theorem wK (n0:Nat) {P:Program} (w:World) {t:TypeId} {ms:Array (String × TypeId)} (hu:P.underlying t=some (.interface ms)) (a b:Value) (h:(a = .nilIface/\(b = .nilIface\/∃ u x,b = .iface u x))\/(∃ u x,a = .iface u x)/\b = .nilIface) :
 (Op.equalIn (n0+1) t a b).run P w = .ok ((a matches .nilIface)&&(b matches .nilIface)) w:=by
 simp only [Op.equalIn,Sem.run_bind,run_underlying hu w,Result.andThen_ok]
 rcases h with ⟨rfl,rfl | ⟨u,x,rfl⟩⟩ | ⟨⟨u,x,rfl⟩,rfl⟩ <;> simp
theorem kV {P:Program} (w:World) {t:TypeId} {ms:Array (String × TypeId)} (hu:P.underlying t=some (.interface ms)) (a b:Value) (h:(a = .nilIface/\(b = .nilIface\/∃ u x,b = .iface u x))\/(∃ u x,a = .iface u x)/\b = .nilIface) :
 (Op.equal t a b).run P w = .ok ((a matches .nilIface)&&(b matches .nilIface)) w:=wK 9999 w hu a b h
theorem xT (n0:Nat) {P:Program} (w:World) {t:TypeId} (hu:P.underlying t=some .bool) (a b:Bool) :
 (Op.equalIn (n0+1) t (.bool a) (.bool b)).run P w = .ok (a==b) w:=by
 simp only [Op.equalIn,Sem.run_bind,run_underlying hu w,Result.andThen_ok]
 rfl
theorem run_equal_bool {P:Program} (w:World) {t:TypeId} (hu:P.underlying t=some .bool) (a b:Bool) :
 (Op.equal t (.bool a) (.bool b)).run P w = .ok (a==b) w:=xT 9999 w hu a b
theorem Vt {V:bA} {x:SV} {v:Value} {b:Bool} (h:SN x=some b) (hv:den V x=some v):∃ a,v = .pointer a/\a.isNone=b:=by
 unfold SN at h
 split at h
 .cases h;simp only [den,aW] at hv;subst hv;exact ⟨none,rfl,rfl⟩
 .cases h;simp only [den,dH] at hv;obtain ⟨p,_,rfl⟩:=hv;exact ⟨_,rfl,rfl⟩
 .cases h
theorem Vr {V:bA} {x:SV} {v:Value} {b:Bool} (h:SM x=some b) (hv:den V x=some v):∃ a n c,v = .slice a n c/\a.isNone=b:=by
 unfold SM at h
 split at h
 .cases h;simp only [den,aW] at hv;subst hv;exact ⟨none,_,_,rfl,rfl⟩
 .cases h;simp only [den,dH] at hv;obtain ⟨p,_,rfl⟩:=hv;exact ⟨_,_,_,rfl,rfl⟩
 .cases h
  simp only [den,dH,gM] at hv
  obtain ⟨p,_,c,_,rfl⟩:=hv
  exact ⟨_,_,_,rfl,rfl⟩
 .cases h
theorem rJ {V:bA} {x:SV} {v:Value} {b:Bool} (h:SO x=some b) (hv:den V x=some v):(b=true/\v = .nilIface)\/(b=false/\∃ u y,v = .iface u y):=by
 unfold SO at h
 split at h
 .cases h;simp only [den,aW] at hv;subst hv;exact .inl ⟨rfl,rfl⟩
 .cases h;simp only [den,dH] at hv;obtain ⟨p,_,rfl⟩:=hv;exact .inr ⟨rfl,_,_,rfl⟩
 .cases h
theorem uU {P:Program} (V:bA) {w:World} {op:BinOp} {b:Bool} {e:bK} (h:tY op b=some e) {t:TypeId} {x y:Value}
 (hr:(Op.equal t x y).run P w = .ok b w) (hd:binOp op t x y=(match op with | .eql=>(do pure (.bool (<- Op.equal t x y))) | _=>(do pure (.bool (!(<- Op.equal t x y)))))) :
 ∃ z,(binOp op t x y).run P w = .ok z w/\den V e.val=some z/\e.new=[]/\e.wr=[]:=by
 rw [hd]
 cases op <;> simp only [tY,lit] at h <;> first | (cases h;done) | skip
 all_goals
  cases h
  exact ⟨_,by simp only [Sem.run_bind,hr,Result.andThen_ok,Sem.run_pure],rfl,rfl,rfl⟩
theorem aKy {P:Program} (V:bA) (w:World) {h:Option Bool} {op:BinOp} {d:TypeDesc} {X Y:Operand} {x y:SV} {t:TypeId} {e:bK} {u v:Value}
 (he:eEq h op d ((X matches .const _)||(Y matches .const _)) x y=some e) (ho:∀ q∈e.bO,q) (hu:P.underlying t=some d) (hx:den V x=some u) (hy:den V y=some v) :
 ∃ z,((do eqGuard op t X Y u v;binOp op t u v):Sem Value).run P w = .ok z w/\den V e.val=some z/\e.new=[]/\e.wr=[]:=by
 unfold eEq at he
 split at he
 case h_1 E=>
  split at he
  .rename_i a b ha hb
   split at he
   .rename_i hab
    obtain ⟨p,rfl,rfl⟩:=Vt ha hx
    obtain ⟨q,rfl,rfl⟩:=Vt hb hy
    have hr:=Ez (P:=P) w hu p q (by cases p <;> cases q <;> simp at hab |-)
    obtain ⟨z,h1,h2⟩:=uU V he hr (by cases op <;> first | rfl | (cases he;done))
    refine ⟨z,?_,h2⟩
    rw [Sem.run_bind,cR w op t X Y _ _ (by simp) (by simp),Result.andThen_ok]
    exact h1
   .cases he
  .cases he
 case h_2 E=>
  split at he
  .rename_i a b ha hb
   split at he
   .rename_i hab
    obtain ⟨p,n,c,rfl,rfl⟩:=Vr ha hx
    obtain ⟨q,m,k,rfl,rfl⟩:=Vr hb hy
    have hr:=zD (P:=P) w hu p q n c m k (by cases p <;> cases q <;> simp at hab |-)
    obtain ⟨z,h1,h2⟩:=uU V he hr (by cases op <;> first | rfl | (cases he;done))
    refine ⟨z,?_,h2⟩
    rw [Sem.run_bind,cR w op t X Y _ _ (by simp) (by simp),Result.andThen_ok]
    exact h1
   .cases he
  .cases he
 case h_3 ms=>
  split at he
  .rename_i ha hb
   split at he
   .rename_i Ee
    obtain ⟨_,rfl⟩ | ⟨hf,_⟩:=rJ ha hx
    obtain ⟨_,rfl⟩ | ⟨hf,_⟩:=rJ hb hy
    .have hr:=kV (P:=P) w hu .nilIface .nilIface (.inl ⟨rfl,.inl rfl⟩)
     obtain ⟨z,h1,h2⟩:=uU V he hr (by cases op <;> first | rfl | (cases he;done))
     refine ⟨z,?_,h2⟩
     rw [Sem.run_bind,zF w op t X Y Ee,Result.andThen_ok]
     exact h1
    .cases hf
    .cases hf
   .cases he
  .rename_i ha hb
   obtain ⟨_,rfl⟩ | ⟨hf,_⟩:=rJ ha hx
   obtain ⟨hf,_⟩ | ⟨_,U,z,rfl⟩:=rJ hb hy
   .cases hf
   .have hr:=kV (P:=P) w hu .nilIface (.iface U z) (.inl ⟨rfl,.inr ⟨_,_,rfl⟩⟩)
    obtain ⟨z,h1,h2⟩:=uU V he hr (by cases op <;> first | rfl | (cases he;done))
    refine ⟨z,?_,h2⟩
    rw [Sem.run_bind,cR w op t X Y _ _ (by simp) (by simp),Result.andThen_ok]
    exact h1
   .cases hf
  .rename_i ha hb
   obtain ⟨hf,_⟩ | ⟨_,U,z,rfl⟩:=rJ ha hx
   .cases hf
   obtain ⟨_,rfl⟩ | ⟨hf,_⟩:=rJ hb hy
   .have hr:=kV (P:=P) w hu (.iface U z) .nilIface (.inr ⟨⟨_,_,rfl⟩,rfl⟩)
    obtain ⟨z,h1,h2⟩:=uU V he hr (by cases op <;> first | rfl | (cases he;done))
    refine ⟨z,?_,h2⟩
    rw [Sem.run_bind,cR w op t X Y _ _ (by simp) (by simp),Result.andThen_ok]
    exact h1
   .cases hf
  .cases he
 case h_4=>
  split at he
  .rename_i sa a sb b
   simp only [den,aW] at hx hy
   subst hx;subst hy
   have hr:=run_equal_bool (P:=P) w hu a b
   have hg:=cR (P:=P) w op t X Y (.bool a) (.bool b) (by simp) (by simp)
   cases op <;> simp only at he <;> first | (cases he;done) | skip
   all_goals
    cases he
    obtain ⟨h1,h2,h3⟩:=IF V ho
    exact ⟨_,by rw [Sem.run_bind,hg,Result.andThen_ok];simp only [binOp,Sem.run_bind,hr,Result.andThen_ok,Sem.run_pure],h1,h2,h3⟩
  .cases he
 case h_5=>cases he
theorem Jm {P:Program} {Γ:Env} {V:bA} {w w0:World} {M:Nat->Prop} {T:aX} {g:Nat->Option SV} {a:Act} (aU:cD P Γ) (ht:cJ V g a) (hg:bR Γ V) (hT:aD w0 M V T w)
 {h:Option Bool} {op:BinOp} {t t2:TypeId} {x y:Operand} {o:Oper} (bZ:o.op = .binOp op t x y t2) {e:bK} (he:DO Γ g h op t x y=some e) (ho:∀ q∈e.bO,q) (lab:Nat) :
 lB P w0 M V T lab e o a w:=by
 unfold DO at he
 split at he
 .rename_i sa k A sb k2 B hx hy
  have ex:=bI ht hg hx
  have ey:=bI ht hg hy
  simp only [den,aW] at ex ey
  obtain ⟨z,h1,h2,h3,h4⟩:=aBg (P:=P) V w t he ho
  refine bF (x:=z) ?_ h2 h3 h4 hT
  unfold execOp
  simp only [bZ,<- ex,<- ey,Sem.run_bind,cR w op t x y (.int k A) (.int k2 B) (by simp) (by simp),Result.andThen_ok,h1,Sem.run_pure]
 .rename_i u v _ hx hy
  split at he
  .rename_i ti eA
   obtain ⟨z,h1,h2,h3,h4⟩:=aKy (P:=P) V w he ho (aU t ti eA).1 (bI ht hg hx) (bI ht hg hy)
   refine bF (x:=z) ?_ h2 h3 h4 hT
   unfold execOp
   simp only [bZ]
   rw [Sem.run_bind,h1]
   rfl
  .cases he
 .cases he
def eUn (Γ:Env) (g:Nat->Option SV) (op:UnOp) (x:Operand):Option bK:=
 match op,ev Γ g x with
 | .neg,some (.int s k n)=>lit (.int s k (k.wrap (0-n)))
 | .xor,some (.int s k n)=>lit (.int s k (gI k (if k.signed then -1 else k.max) n))
 | .not,some (.bool s b)=>lit (.bool s (!b))
 | _,_=>none
theorem aKx {P:Program} {Γ:Env} {V:bA} {w w0:World} {M:Nat->Prop} {T:aX} {g:Nat->Option SV} {a:Act} (ht:cJ V g a) (hg:bR Γ V) (hT:aD w0 M V T w)
 {op:UnOp} {t:TypeId} {x:Operand} {o:Oper} (bZ:o.op = .unOp op t x) {e:bK} (he:eUn Γ g op x=some e) (lab:Nat):lB P w0 M V T lab e o a w:=by
 unfold eUn at he
 split at he <;> first | (cases he;done) | skip
 all_goals
  rename_i hx
  have ex:=bI ht hg hx
  simp only [den,aW] at ex
  simp only [lit,aW] at he
  subst he
  refine bF (by unfold execOp;simp only [bZ,<- ex];rfl) rfl rfl rfl hT
def GI (Γ:Env) (g:Nat->Option SV) (src dst:TypeId) (x:Operand):Option bK:=
 match ev Γ g x,Γ.ty src,Γ.ty dst with
 | some (.int s _ n),some _,some td=>match td.desc with
   | .int k=>lit (.int s k (k.wrap n))
   | _=>none
 | _,_,_=>none
theorem OL {P:Program} {Γ:Env} {V:bA} {w w0:World} {M:Nat->Prop} {T:aX} {g:Nat->Option SV} {a:Act} (aU:cD P Γ) (ht:cJ V g a) (hg:bR Γ V) (hT:aD w0 M V T w)
 {src dst:TypeId} {x:Operand} {o:Oper} (bZ:o.op = .convert src dst x) {e:bK} (he:GI Γ g src dst x=some e) (lab:Nat):lB P w0 M V T lab e o a w:=by
 unfold GI at he
 split at he
 .rename_i s k0 n ts td hx h1 h2
  split at he
  .rename_i k hk
   have ex:=bI ht hg hx
   simp only [den,aW] at ex
   simp only [lit,aW] at he
   subst he
   refine bF (x:=.int k (k.wrap n)) ?_ rfl rfl rfl hT
   unfold execOp
   simp only [bZ,<- ex,convert,Sem.run_bind,run_underlying (aU src ts h1).1 w,run_underlying (aU dst td h2).1 w,Result.andThen_ok,hk]
   rfl
  .cases he
 .cases he
def sP:TypeDesc->Bool
 | .struct _ | .array _ _=>true
 | _=>false
theorem bJ (b o j:Nat):(⟨b,o,none⟩:Addr).add j=⟨b,o+j,none⟩:=by
 unfold Addr.add;split <;> simp_all
section Run
variable {P:Program} {w:World} {t:TypeId} {d:TypeDesc} {i:TypeInfo}
theorem eO (hu:P.underlying t=some d):(isAgg t).run P w = .ok (sP d) w:=by
 unfold isAgg
 rw [Sem.run_bind,run_underlying hu w]
 cases d <;> rfl
theorem run_sizeOf (hi:P.info? t=some i):(sizeOf t).run P w = .ok i.size w:=by
 simp [sizeOf,typeInfo,hi]
theorem dZ {z:Value} (hi:P.info? t=some i) (hz:i.zero=some z):(zeroValue t).run P w = .ok z w:=by
 simp [zeroValue,typeInfo,hi,hz]
theorem dS (hu:P.underlying t=some d) (hi:P.info? t=some i) (b o:Nat) (xs:List Value) (hx:xs.length=i.size)
 (hc:∀ (j:Nat) (v:Value),xs[j]?=some v->w.cell? ⟨b,o+j,none⟩=some v) :
 (sP d=true->(loadVar t ⟨b,o,none⟩).run P w = .ok (.agg xs.toArray) w) /\
 (sP d=false->∀ x,xs=[x]->(loadVar t ⟨b,o,none⟩).run P w = .ok x w):=by
 refine ⟨fun h=>?_,fun h x fW=>?_⟩
 .have hl:=run_loadCells_list (P:=P) w ⟨b,o,none⟩ xs (fun j v hj=>by rw [bJ];exact hc j v hj)
  rw [hx] at hl
  simp [loadVar,eO hu,h,run_sizeOf hi,hl]
 .subst fW
  have:=hc 0 x rfl
  simp only [Nat.add_zero] at this
  simp [loadVar,eO hu,h,this]
theorem Nt (v:Value) (h:v.oneCell'=true):v.cells = #[v]:=by cases v <;> first | rfl | (cases h;done)
end Run
def cellsOf:SV->List SV
 | .agg vs=>vs
 | v=>[v]
def SL:SV->Bool
 | .int .. | .bool .. | .ptr .. | .aH .. | .fn .. | .pX .. | .iZ .. | .mG .. | .dJ .. | .iH .. => true
 | .raw v=>v.oneCell'
 | _=>false
theorem Vm {V:bA}:∀ {v:SV} {x:Value},SL v=true->den V v=some x->x.oneCell'=true
 | .int ..,x,_,h=>by simp only [den,aW] at h;subst h;rfl
 | .bool ..,x,_,h=>by simp only [den,aW] at h;subst h;rfl
 | .ptr ..,x,_,h=>by simp only [den,dH] at h;obtain ⟨p,_,rfl⟩:=h;rfl
 | .aH ..,x,_,h=>by simp only [den,dH] at h;obtain ⟨p,_,rfl⟩:=h;rfl
 | .fn ..,x,_,h=>by simp only [den,dH,gM] at h;obtain ⟨p,_,q,_,rfl⟩:=h;rfl
 | .pX ..,x,_,h=>by simp only [den,dH] at h;obtain ⟨p,_,rfl⟩:=h;rfl
 | .iZ ..,x,_,h=>by
   simp only [den] at h
   split at h
   .cases h;rfl
   .cases h
 | .mG ..,x,_,h=>by
   simp only [den] at h
   split at h
   .cases h;rfl
   .cases h
 | .raw v,x,h1,h=>by simp only [den,aW] at h;subst h;exact h1
 | .agg ..,_,h,_=>by cases h
 | .ai ..,_,h,_=>by cases h
 | .eD ..,_,h,_=>by cases h
 | .buf ..,_,h,_=>by cases h
 | .dJ ..,x,_,h=>by
   simp only [den,dH,gM] at h
   obtain ⟨p,_,c,_,rfl⟩:=h
   rfl
 | .iH ..,x,_,h=>by
   simp only [den,gM] at h
   obtain ⟨v,_,h⟩:=h
   rcases kA h with ⟨rfl,⟨⟨_,rfl⟩,_⟩ | ⟨b,o,c,rfl,_⟩⟩ <;> rfl
def nD (vs:List SV):Bool:=vs.all SL
theorem rH {V:bA}:∀ {vs:List SV} {xs:List Value},nD vs=true->aJ V vs=some xs->∀ x∈xs,x.oneCell'=true
 | [],xs,_,h=>by simp only [aJ,aW] at h;subst h;simp
 | v::vs,xs,h1,h=>by
   simp only [aJ,dH,gM] at h
   obtain ⟨x,hx,ys,hy,rfl⟩:=h
   simp only [nD,List.all_cons,iN] at h1
   intro z hz
   rcases List.mem_cons.1 hz with rfl | hz
   .exact Vm h1.1 hx
   .exact rH (by simpa [nD] using h1.2) hy z hz
def rdL (cs:List SV) (s:Bool) (off n:Nat):Option (List Prop × List SV):=match s with
 | true=>match Nat.beq ((cs.drop off).take n).length n with
   | true=>some ([],(cs.drop off).take n)
   | false=>none
 | false=>none
def Tc (B:SB) (s:Bool) (off n:Nat):Option (List Prop × List SV):=
 match B with
 | .own cs _=>rdL cs s off n
 | .row _ cs _=>rdL cs s off n
 | .eQ cs=>rdL cs s off n
 | .ints k xs _=>some ([off+n<=xs.length],(List.range n).map fun j=>.int false k (xs.getD (off+j) 0))
 | .nT k xs=>some ([off+n<=xs.length],(List.range n).map fun j=>.int false k (xs.getD (off+j) 0))
 | .eN vs _=>some ([off+n<=vs.length],(List.range n).map fun j=>.raw (vs.getD (off+j) undef))
 | _=>none
theorem fM {V:bA} (n:Nat) (f:Nat->SV) (g:Nat->Value) (h:∀ j,j<n->den V (f j)=some (g j)):aJ V ((List.range n).map f)=some ((List.range n).map g):=by
 induction n with
 | zero=>simp [aJ]
 | succ n ih=>
   rw [List.range_succ,List.map_append,List.map_append]
   exact cK (ih fun j hj=>h j (by omega)) (by simp [aJ,h n (by omega)])
theorem oX {V:bA} {w:World} {l:Nat} {B:SB} {s:Bool} {off n:Nat} {ob:List Prop} {r:List SV} {b o:Nat} (hB:okB V w l B) (hβ:V.β l=some (b,o))
 (h:Tc B s off n=some (ob,r)) (ho:∀ q∈ob,q) :
 ∃ xs:List Value,aJ V r=some xs/\xs.length=n/\∀ (j:Nat) (v:Value),xs[j]?=some v->w.cell? ⟨b,o+off+j,none⟩=some v:=by
 obtain ⟨cs,hc,h2⟩:=hB
 have key:(∀ (j:Nat) (v:Value),cs[j]?=some v->w.cell? ⟨b,o+j,none⟩=some v)\/(∀ b o,V.β l=some (b,o)->False)\/(∃ k xs ty,B = .dF k xs ty)\/B = .gone:=by
  cases B with
  | own cells ty=>obtain ⟨b',hb,hh⟩:=h2;rw [hβ] at hb;cases hb;left;intro j v hj;rw [cell_of_row w b (0+j) _ _ _ hh];simpa using hj
  | ints k xs ty=>obtain ⟨b',hb,hh⟩:=h2;rw [hβ] at hb;cases hb;left;intro j v hj;rw [cell_of_row w b (0+j) _ _ _ hh];simpa using hj
  | eN vs ty=>obtain ⟨b',hb,hh⟩:=h2;rw [hβ] at hb;cases hb;left;intro j v hj;rw [cell_of_row w b (0+j) _ _ _ hh];simpa using hj
  | eQ cells=>obtain ⟨b',o',hb,_,hh⟩:=h2;rw [hβ] at hb;cases hb;exact .inl hh
  | nT k xs=>obtain ⟨b',o',hb,_,hh⟩:=h2;rw [hβ] at hb;cases hb;exact .inl hh
  | dF k xs ty=>exact .inr (.inr (.inl ⟨_,_,_,rfl⟩))
  | fQ=>cases h
  | row sz cells ty=>
    obtain ⟨b',cap,cur,hb,_,hh,_,_,_,dG⟩:=h2
    rw [hβ] at hb;cases hb
    left
    intro j v hj
    rw [cell_of_row w b (0+j) _ _ _ hh]
    rw [<- dG,List.getElem?_take] at hj
    split at hj
    .simpa using hj
    .cases hj
  | gC=>cases h
  | eK=>cases h
  | rC=>cases h
  | gone=>exact .inr (.inr (.inr rfl))
 have BE:∀ cells:List SV,rdL cells s off n=some (ob,r) ->
  aJ V cells=some cs->∃ xs:List Value,aJ V r=some xs/\xs.length=n/\∀ (j:Nat) (v:Value),xs[j]?=some v->cs[off+j]?=some v:=by
  intro cells h hc
  unfold rdL at h
  split at h
  .split at h
   .rename_i hlen
    simp only [aW,Prod.mk.injEq] at h
    obtain ⟨rfl,rfl⟩:=h
    have hd:=dW n (gU off hc)
    refine ⟨_,hd,by rw [bH hd];exact cP hlen,fun j v hj=>?_⟩
    rw [List.getElem?_take] at hj
    split at hj
    .rwa [List.getElem?_drop] at hj
    .cases hj
   .cases h
  .cases h
 have rng:∀ (f:Nat->SV) (gv:Nat->Value),(∀ j,off+j<cs.length->den V (f j)=some (gv j)/\cs[off+j]?=some (gv j))->off+n<=cs.length->r=(List.range n).map f ->
  ∃ xs:List Value,aJ V r=some xs/\xs.length=n/\∀ (j:Nat) (v:Value),xs[j]?=some v->cs[off+j]?=some v:=by
  intro f gv hf hn hr
  subst hr
  refine ⟨_,fM n f gv (fun j hj=>(hf j (by omega)).1),by simp,fun j v hj=>?_⟩
  by_cases cM:j<n
  .simp only [List.getElem?_map,List.getElem?_range cM,gL,aW] at hj
   subst hj
   exact (hf j (by omega)).2
  .rw [List.getElem?_eq_none (by simp;omega)] at hj;cases hj
 have fin:∀ xs:List Value,(∀ (j:Nat) (v:Value),xs[j]?=some v->cs[off+j]?=some v)->(∀ (j:Nat) (v:Value),cs[j]?=some v->w.cell? ⟨b,o+j,none⟩=some v) ->
  ∀ (j:Nat) (v:Value),xs[j]?=some v->w.cell? ⟨b,o+off+j,none⟩=some v:=fun xs h1 h2 j v hj=>by
  rw [Nat.add_assoc];exact h2 _ _ (h1 j v hj)
 rcases key with key | key | ⟨k,xs,ty,rfl⟩ | rfl
 .cases B with
  | own cells ty=>obtain ⟨xs,h1,h2,h3⟩:=BE cells h hc;exact ⟨xs,h1,h2,fin xs h3 key⟩
  | eQ cells=>obtain ⟨xs,h1,h2,h3⟩:=BE cells h hc;exact ⟨xs,h1,h2,fin xs h3 key⟩
  | row sz cells ty=>obtain ⟨xs,h1,h2,h3⟩:=BE cells h hc;exact ⟨xs,h1,h2,fin xs h3 key⟩
  | ints k ys ty=>
    simp only [Tc,aW,Prod.mk.injEq] at h
    obtain ⟨rfl,rfl⟩:=h
    simp only [SB.cells,aW] at hc
    subst hc
    have hn:off+n<=ys.length:=ho _ (by simp)
    obtain ⟨xs,h1,h2,h3⟩:=rng _ (fun j=>.int k (ys.getD (off+j) 0)) (fun j hj=>⟨rfl,by
     have hj':off+j<ys.length:=by simpa using hj
     simp [hj',gY]⟩) (by simpa using hn) rfl
    exact ⟨xs,h1,h2,fin xs h3 key⟩
  | nT k ys=>
    simp only [Tc,aW,Prod.mk.injEq] at h
    obtain ⟨rfl,rfl⟩:=h
    simp only [SB.cells,aW] at hc
    subst hc
    have hn:off+n<=ys.length:=ho _ (by simp)
    obtain ⟨xs,h1,h2,h3⟩:=rng _ (fun j=>.int k (ys.getD (off+j) 0)) (fun j hj=>⟨rfl,by
     have hj':off+j<ys.length:=by simpa using hj
     simp [hj',gY]⟩) (by simpa using hn) rfl
    exact ⟨xs,h1,h2,fin xs h3 key⟩
  | eN ys ty=>
    simp only [Tc,aW,Prod.mk.injEq] at h
    obtain ⟨rfl,rfl⟩:=h
    simp only [SB.cells,aW] at hc
    subst hc
    have hn:off+n<=ys.length:=ho _ (by simp)
    obtain ⟨xs,h1,h2,h3⟩:=rng _ (fun j=>ys.getD (off+j) undef) (fun j hj=>⟨rfl,by
     have hj':off+j<ys.length:=by simpa using hj
     simp [hj',gY]⟩) (by simpa using hn) rfl
    exact ⟨xs,h1,h2,fin xs h3 key⟩
  | dF=>cases h
  | gC=>cases h
  | fQ=>cases h
  | eK=>cases h
  | rC=>cases h
  | gone=>cases h
 .exact (key b o hβ).elim
 .cases h
 .cases h
def cU (k:IntKind):List SV->Option (List Int)
 | []=>some []
 | .int _ k2 n::r=>match decide (k=k2) with
   | true=>(cU k r).map (n :: ·)
   | false=>none
 | _=>none
theorem cS {V:bA} {k:IntKind}:∀ {vs:List SV} {ns:List Int},cU k vs=some ns->aJ V vs=some (ns.map (Value.int k))
 | [],ns,h=>by simp only [cU,aW] at h;subst h;simp [aJ]
 | .int s k2 n::r,ns,h=>by
   simp only [cU] at h
   split at h
   .rename_i hd
    have:=jP hd
    subst this
    simp only [dH] at h
    obtain ⟨ms,hm,rfl⟩:=h
    simp [aJ,den,cS hm]
   .cases h
 | .bool .. :: r,_,h=>by cases h
 | .ptr .. :: r,_,h=>by cases h
 | .aH .. :: r,_,h=>by cases h
 | .agg .. :: r,_,h=>by cases h
 | .eD .. :: r,_,h=>by cases h
 | .fn .. :: r,_,h=>by cases h
 | .pX .. :: r,_,h=>by cases h
 | .raw .. :: r,_,h=>by cases h
 | .buf .. :: r,_,h=>by cases h
 | .iZ .. :: r,_,h=>by cases h
 | .mG .. :: r,_,h=>by cases h
 | .iH .. :: r,_,h=>by cases h
 | .ai .. :: r,_,h=>by cases h
theorem aD.change {w0 w w':World} {M:Nat->Prop} {V:bA} {T:aX} (h:aD w0 M V T w) {l:Nat} {B0 B:SB} {b:Nat} (hl:T l=some B0) (fH:B0.owned=true) (h0:B0.aT V l=some b)
 (kX:okB V w' l B) (hb:B.aT V l=some b) (Ty:w.heap.size<=w'.heap.size) (Tz:∀ n,n<w.heap.size->n≠b->w'.heap[n]?=w.heap[n]?)
 (hos:w'.os=w.os) (Ll:w'.tape=w.tape) (CX:w'.output=w.output) (lab:Nat) (v:SV) (ob:List Prop) :
 aD w0 M V (eT T lab { bO:=ob,val:=v,wr:=[(l,B)] }) w':=by
 refine h.step (N:=fun k=>if k=l then some B else none) (bA.le_refl V) (fun k C hk=>?_) (fun k C hk=>?_) (fun k C n hk iL=>?_) (fun k C k' C' n dI hk gX=>?_) Ty (fun n hn hx=>?_) hos Ll CX
 .simp only [eT,bK.eW,gE,List.append_nil] at hk
  by_cases e:l=k
  .subst e;rw [aI] at hk;left;simpa using hk
  .rw [aE e] at hk;right;simp only [look] at hk;exact ⟨if_neg (fun x=>e x.symm),hk⟩
 .by_cases e:k=l
  .subst e
   simp only [if_true,aW] at hk
   subst hk
   exact kX
  .simp [e] at hk
 .by_cases e:k=l
  .subst e
   simp only [if_true,aW] at hk
   subst hk
   right;left
   rw [hb] at iL
   cases iL
   exact ⟨k,B0,hl,fH,h0,by simp⟩
  .simp [e] at hk
 .by_cases e:k=l
  .by_cases e':k'=l
   .omega
   .simp [e'] at gX
  .simp [e] at hk
 .refine Tz n hn fun e=>?_
  subst e
  exact hx l B0 hl fH (by simp) h0
theorem No {α:Type} (cur cs xs:List α) (off:Nat) (h:cur.take cs.length=cs) (hle:off+xs.length<=cs.length) :
 (cur.take off++xs++cur.drop (off+xs.length)).take cs.length=cs.take off++xs++cs.drop (off+xs.length):=by
 have hl:cs.length<=cur.length:=by
  have:=congrArg List.length h
  rw [List.length_take] at this
  omega
 apply List.ext_getElem?
 intro j
 have hj:∀ i,i<cs.length->cur[i]?=cs[i]?:=fun i hi=>by
  have:=congrArg (fun z=>z[i]?) h
  simpa [List.getElem?_take,hi] using this
 rw [List.getElem?_take]
 have e1:(cur.take off).length=off:=by simp;omega
 have e2:(cs.take off).length=off:=by simp;omega
 split
 .rename_i cM
  simp only [List.getElem?_append,List.length_append,e1,e2,List.getElem?_take,List.getElem?_drop]
  split
  .split
   .rename_i h3;exact hj j cM
   .rfl
  .rw [hj _ (by omega)]
 .rename_i QB
  symm
  apply List.getElem?_eq_none
  simp
  omega
def BO (B:SB) (s:Bool) (off:Nat) (vs:List SV):Option (List Prop × SB):=
 match B with
 | .own cs ty=>match s with
   | true=>match Nat.ble (off+vs.length) cs.length with
     | true=>some ([],.own (cs.take off++vs++cs.drop (off+vs.length)) ty)
     | false=>none
   | false=>match vs with
     | [.int _ k n]=>match cU k cs with
       | some ys=>some ([off<ys.length],.ints k (ys.set off n) ty)
       | none=>none
     | _=>none
 | .row sz cs ty=>match s with
   | true=>match Nat.ble (off+vs.length) cs.length with
     | true=>some ([],.row sz (cs.take off++vs++cs.drop (off+vs.length)) ty)
     | false=>none
   | false=>none
 | .ints k xs ty=>match vs with
   | [.int _ k2 n]=>match decide (k=k2) with
     | true=>some ([off<xs.length],.ints k (xs.set off n) ty)
     | false=>none
   | _=>match cU k vs with
     | some ns=>some ([off+ns.length<=xs.length],.ints k (xs.take off++ns++xs.drop (off+ns.length)) ty)
     | none=>none
 | .eN us ty=>match vs with
   | [.raw u]=>some ([off<us.length],.eN (us.set off u) ty)
   | _=>none
 | _=>none
theorem tH {α:Type} (l:List α) (i:Nat) (x:α) (h:i<l.length):l.set i x=l.take i++[x]++l.drop (i+1):=by
 rw [List.set_eq_take_append_cons_drop,if_pos h];simp
theorem Ht {V:bA} {w w0:World} {M:Nat->Prop} {T:aX} {l:Nat} {B B':SB} {s:Bool} {off:Nat} {vs:List SV} {ob:List Prop} {b o:Nat} {P:Program} {xs:List Value} (lab:Nat) (rv:SV)
 (hT:aD w0 M V T w) (hl:T l=some B) (hβ:V.β l=some (b,o)) (h:BO B s off vs=some (ob,B')) (ho:∀ q∈ob,q) (hx:aJ V vs=some xs) (h1:∀ x∈xs,x.oneCell'=true) :
 ∃ w',(storeCells ⟨b,o+off,none⟩ xs).run P w = .ok () w'/\aD w0 M V (eT T lab { bO:=ob,val:=rv,wr:=[(l,B')] }) w':=by
 have kX:=hT.ok l B hl
 obtain ⟨cs,hc,h2⟩:=kX
 cases B with
 | own cells ty=>
   obtain ⟨b',hb,hh⟩:=h2
   rw [hβ] at hb;cases hb
   simp only [BO] at h
   split at h
   .split at h
    .rename_i hle
     simp only [aW,Prod.mk.injEq] at h
     obtain ⟨rfl,rfl⟩:=h
     have SY:=jX hle
     have hlen:=bH (show aJ V cells=some cs from hc)
     have Gz:=bH hx
     refine ⟨_,run_storeCells_at P b (0+off) ty xs 0 cs.toArray w hh (by simp;omega) h1,?_⟩
     have cC:aJ V (cells.take off++vs++cells.drop (off+vs.length))=some (cs.take off++xs++cs.drop (off+xs.length)):=by
      rw [Gz]
      exact cK (cK (dW off hc) hx) (gU _ hc)
     have:=hT.write (B0:=.own cells ty) (B:=.own (cells.take off++vs++cells.drop (off+vs.length)) ty) hl hβ rfl (by simp [SB.aT,hβ]) hh cC (.inl rfl) lab rv []
     simpa using this
    .cases h
   .split at h
    case h_2=>cases h
    rename_i s2 k n
    split at h
    case h_2=>cases h
    rename_i ys pY
    simp only [aW,Prod.mk.injEq] at h
    obtain ⟨rfl,rfl⟩:=h
    have cM:off<ys.length:=ho _ (by simp)
    have kD:=cS (V:=V) pY
    rw [show aJ V cells=some cs from hc] at kD
    cases kD
    simp only [aJ,den,lI,gL,aW] at hx
    subst hx
    refine ⟨_,run_storeCells_at P b (0+off) ty _ 0 _ w hh (by simp;omega) h1,?_⟩
    have cC:SB.cells V (.ints k (ys.set off n) ty)=some ((ys.map (Value.int k)).take off++[Value.int k n]++(ys.map (Value.int k)).drop (off+1)):=by
     rw [tH ys off n cM]
     simp [SB.cells,List.map_take,List.map_drop]
    have:=hT.write (B0:=.own cells ty) (B:=.ints k (ys.set off n) ty) hl hβ rfl (by simp [SB.aT,hβ]) hh cC (.inr (.inl rfl)) lab rv [off<ys.length]
    simpa using this
 | row sz cells ty=>
   obtain ⟨b',cap,cur,hb,hσ,hh,RE,kD,⟨n,hn,CB⟩,dG⟩:=h2
   rw [hβ] at hb;cases hb
   simp only [BO] at h
   split at h
   .split at h
    .rename_i hle
     simp only [aW,Prod.mk.injEq] at h
     obtain ⟨rfl,rfl⟩:=h
     have SY:=jX hle
     have hlen:=bH (show aJ V cells=some cs from hc)
     have Gz:=bH hx
     have rV:cs.length<=cur.size:=by rw [hn,kD];exact Nat.mul_le_mul_right _ CB
     have cC:aJ V (cells.take off++vs++cells.drop (off+vs.length))=some (cs.take off++xs++cs.drop (off+xs.length)):=by
      rw [Gz]
      exact cK (cK (dW off hc) hx) (gU _ hc)
     have QV:(cs.take off++xs++cs.drop (off+xs.length)).length=cs.length:=by simp;omega
     refine ⟨_,run_storeCells_at P b (0+off) ty xs 0 cur w hh (by simp;omega) h1,?_⟩
     have Bu:=setRow_heap w b cur (cur.toList.take (0+off+0)++xs++cur.toList.drop (0+off+0+xs.length)).toArray ty (0,0) hh
     have aWx:okB V (w.setRow b (cur.toList.take (0+off+0)++xs++cur.toList.drop (0+off+0+xs.length)).toArray) l (.row sz (cells.take off++vs++cells.drop (off+vs.length)) ty):=by
      refine ⟨_,cC,b,cap,_,hβ,hσ,Bu,RE,?_,⟨n,by rw [QV,hn],CB⟩,?_⟩
      .simp [<- kD];omega
      .rw [QV]
       simpa using No cur.toList cs xs off dG (by omega)
     exact hT.change (B0:=.row sz cells ty) (b:=b) hl rfl (by simp [SB.aT,hβ]) aWx (by simp [SB.aT,hβ]) (by simp) (fun n _ dI=>setRow_other w b n _ dI) rfl rfl rfl lab rv []
    .cases h
   .cases h
 | ints k ys ty=>
   obtain ⟨b',hb,hh⟩:=h2
   rw [hβ] at hb;cases hb
   simp only [SB.cells,aW] at hc
   subst hc
   have gen:∀ ns:List Int,aJ V vs=some (ns.map (Value.int k))->off+ns.length<=ys.length->∀ ob,
    ∃ w',(storeCells ⟨b,0+off,none⟩ xs).run P w = .ok () w'/\aD w0 M V (eT T lab { bO:=ob,val:=rv,wr:=[(l,.ints k (ys.take off++ns++ys.drop (off+ns.length)) ty)] }) w':=by
    intro ns hns hle ob
    rw [hx] at hns
    cases hns
    refine ⟨_,run_storeCells_at P b (0+off) ty _ 0 _ w hh (by simp;omega) h1,?_⟩
    have cC:SB.cells V (.ints k (ys.take off++ns++ys.drop (off+ns.length)) ty)=some ((ys.map (Value.int k)).take off++ns.map (Value.int k)++(ys.map (Value.int k)).drop (off+(ns.map (Value.int k)).length)):=by
     simp [SB.cells,List.map_take,List.map_drop]
    have:=hT.write (B0:=.ints k ys ty) (B:=.ints k (ys.take off++ns++ys.drop (off+ns.length)) ty) hl hβ rfl (by simp [SB.aT,hβ]) hh cC (.inr (.inl rfl)) lab rv ob
    simpa using this
   simp only [BO] at h
   split at h
   .rename_i s2 k2 n
    split at h
    .rename_i hd
     have:=jP hd
     subst this
     simp only [aW,Prod.mk.injEq] at h
     obtain ⟨rfl,rfl⟩:=h
     have cM:off<ys.length:=ho _ (by simp)
     obtain ⟨w',hr,pU⟩:=gen [n] (by simp [aJ,den]) (by simp only [List.length_singleton];omega) [off<ys.length]
     rw [tH ys off n cM]
     exact ⟨w',hr,pU⟩
    .cases h
   .split at h
    .rename_i ns hns
     simp only [aW,Prod.mk.injEq] at h
     obtain ⟨rfl,rfl⟩:=h
     have hle:off+ns.length<=ys.length:=ho _ (by simp)
     exact gen ns (cS hns) hle _
    .cases h
 | eN us ty=>
   obtain ⟨b',hb,hh⟩:=h2
   rw [hβ] at hb;cases hb
   simp only [SB.cells,aW] at hc
   subst hc
   simp only [BO] at h
   split at h
   case h_2=>cases h
   rename_i u
   simp only [aW,Prod.mk.injEq] at h
   obtain ⟨rfl,rfl⟩:=h
   have cM:off<us.length:=ho _ (by simp)
   simp only [aJ,den,lI,gL,aW] at hx
   subst hx
   refine ⟨_,run_storeCells_at P b (0+off) ty _ 0 _ w hh (by simp;omega) h1,?_⟩
   have:=hT.write (B0:=.eN us ty) (B:=.eN (us.set off u) ty) hl hβ rfl (by simp [SB.aT,hβ]) hh (cs:=us.take off++[u]++us.drop (off+[u].length)) (by rw [SB.cells,tH us off u cM];rfl) (.inr (.inr rfl)) lab rv [off<us.length]
   simpa using this
 | _=>cases h
section He
variable {P:Program} {Γ:Env} {V:bA} {w w0:World} {M:Nat->Prop} {T:aX} {g:Nat->Option SV} {a:Act} {o:Oper} {e:bK}
def GH (Γ:Env) (g:Nat->Option SV) (T:aX) (t:TypeId) (x:Operand):Option bK:=
 match ev Γ g x,Γ.ty t with
 | some (.ptr l s off),some ti=>match T l with
   | some B=>match Tc B s off ti.size with
     | some (ob,r)=>match sP ti.desc with
       | true=>some (dU (.agg r) ob)
       | false=>match r with
         | [v]=>some (dU v ob)
         | _=>none
     | none=>none
   | none=>none
 | some (.iZ l off),some ti=>match T l,sP ti.desc with
   | some (.dF k xs _),false=>some (dU (.int false k (xs.getD off 0)) [off<xs.length])
   | some (.gC k xs),false=>some (dU (.int false k (xs.getD off 0)) [off<xs.length])
   | _,_=>none
 | _,_=>none
theorem OK (aU:cD P Γ) (ht:cJ V g a) (hg:bR Γ V) {T':aX} (aR:∀ l B,T' l=some B->T l=some B) (hT:aD w0 M V T w) {t:TypeId} {x:Operand} (bZ:o.op = .load t x)
 (he:GH Γ g T' t x=some e) (ho:∀ q∈e.bO,q) (lab:Nat):lB P w0 M V T lab e o a w:=by
 unfold GH at he
 split at he
 .rename_i l s off ti hx eA
  have ex:=bI ht hg hx
  simp only [den,dH] at ex
  obtain ⟨⟨b,base⟩,hβ,ex⟩:=ex
  obtain ⟨hu,i,z,hi,gF,_⟩:=aU t ti eA
  split at he
  .rename_i B hB
   have kX:=hT.ok l B (aR l B hB)
   split at he
   .rename_i ob r hr
    split at he
    .rename_i gH
     simp only [dU,aW] at he
     subst he
     obtain ⟨xs,h1,h2,h3⟩:=oX kX hβ hr ho
     have:=(dS hu hi b (base+off) xs (by rw [h2,gF]) h3).1 gH
     refine bF (x:=.agg xs.toArray) ?_ (by simp [den,h1]) rfl rfl hT
     unfold execOp
     simp only [bZ,<- ex,Instr.loadAt,Instr.sureAddr,Sem.run_bind,Sem.run_pure,Result.andThen_ok,this]
    .rename_i gH
     split at he
     .rename_i v
      simp only [dU,aW] at he
      subst he
      obtain ⟨xs,h1,h2,h3⟩:=oX kX hβ hr ho
      simp only [aJ,dH,gM] at h1
      obtain ⟨y,hy,ys,pY,rfl⟩:=h1
      simp only [aW] at pY
      subst pY
      have:=(dS hu hi b (base+off) [y] (by rw [h2,gF]) h3).2 gH y rfl
      refine bF (x:=y) ?_ hy rfl rfl hT
      unfold execOp
      simp only [bZ,<- ex,Instr.loadAt,Instr.sureAddr,Sem.run_bind,Sem.run_pure,Result.andThen_ok,this]
     .cases he
   .cases he
  .cases he
 .rename_i l off ti hx eA
  have ex:=bI ht hg hx
  obtain ⟨hu,i,z,hi,gF,_⟩:=aU t ti eA
  split at he
  .rename_i k xs ty hB gH
   simp only [dU,aW] at he
   subst he
   have cM:off<xs.length:=ho _ (by simp)
   obtain ⟨cs,hc,v,hσ,bT⟩:=hT.ok l _ (aR l _ hB)
   simp only [SB.cells,aW] at hc
   subst hc
   simp only [den,hσ] at ex
   obtain ⟨⟨_,bT⟩,_⟩:=bT
   rcases bT with ⟨_,h0⟩ | ⟨gb,cap,cur,rfl,_,hh,_,_,_,dG⟩
   .rw [h0] at cM;omega
   .simp only [aW] at ex
    have fP:w.cell? ⟨gb,0+off,none⟩=some (.int k (xs.getD off 0)):=by
     rw [cell_of_row w gb _ _ _ _ hh]
     have h5:(cur.toList.take (xs.length*1))[off]?=some (.int k (xs.getD off 0)):=by
      rw [dG];simp [cM,gY]
     rw [List.getElem?_take] at h5
     split at h5
     .simpa using h5
     .cases h5
    refine bF (x:=.int k (xs.getD off 0)) ?_ rfl rfl rfl hT
    unfold execOp
    rw [bJ] at ex
    simp only [Nat.zero_add] at ex fP
    simp only [bZ,<- ex,Instr.loadAt,Instr.sureAddr,loadVar,Sem.run_bind,Sem.run_pure,Result.andThen_ok,eO hu,gH,Bool.false_eq_true,if_false,run_load,fP]
  .rename_i k xs hB gH
   simp only [dU,aW] at he
   subst he
   have cM:off<xs.length:=ho _ (by simp)
   obtain ⟨cs,hc,v,hσ,bT⟩:=hT.ok l _ (aR l _ hB)
   simp only [SB.cells,aW] at hc
   subst hc
   simp only [den,hσ] at ex
   rcases bT with ⟨_,h0⟩ | ⟨gb,go,cap,rfl,_,_,hh⟩
   .rw [h0] at cM;simp at cM
   .simp only [aW] at ex
    have fP:w.cell? ⟨gb,go+off,none⟩=some (.int k (xs.getD off 0)):=hh off _ (by simp [cM,gY])
    refine bF (x:=.int k (xs.getD off 0)) ?_ rfl rfl rfl hT
    unfold execOp
    rw [bJ] at ex
    simp only [bZ,<- ex,Instr.loadAt,Instr.sureAddr,loadVar,Sem.run_bind,Sem.run_pure,Result.andThen_ok,eO hu,gH,Bool.false_eq_true,if_false,run_load,fP]
  .cases he
 .cases he
def TW (T:aX) (l:Nat):Bool:=match T l with
 | some (.dF ..)=>true
 | some (.fQ ..)=>true
 | some (.eK ..)=>true
 | _=>false
theorem Wp {T':aX} (aR:∀ l B,T' l=some B->T l=some B) {l:Nat} {x:Value} (hT:aD w0 M V T w) (h:TW T' l=true) (hx:den V (.buf l)=some x):x.oneCell'=true/\x.cells = #[x]:=by
 unfold TW at h
 split at h
 .rename_i hB
  obtain ⟨_,_,u,hσ,bT,_⟩:=hT.ok l _ (aR l _ hB)
  simp only [den] at hx
  rw [hσ] at hx;cases hx
  rcases bT.2 with ⟨rfl,_⟩ | ⟨_,_,_,rfl,_⟩ <;> exact ⟨rfl,rfl⟩
 .rename_i hB
  obtain ⟨_,_,kX⟩:=hT.ok l _ (aR l _ hB)
  obtain ⟨cs,u,hσ,bT,_⟩:=kX
  simp only [den] at hx
  rw [hσ] at hx;cases hx
  rcases bT.2 with ⟨rfl,_⟩ | ⟨_,_,_,rfl,_⟩ <;> exact ⟨rfl,rfl⟩
 .rename_i hB
  obtain ⟨_,_,u,hσ,bT⟩:=hT.ok l _ (aR l _ hB)
  simp only [den] at hx
  rw [hσ] at hx;cases hx
  rcases bT.2 with ⟨rfl,_⟩ | ⟨_,_,_,rfl,_⟩ <;> exact ⟨rfl,rfl⟩
 .cases h
def Bl (T:aX) (vs:List SV):Bool:=vs.all fun v=>match v with
 | .buf l=>TW T l
 | v=>SL v
theorem Cx {T':aX} (aR:∀ l B,T' l=some B->T l=some B) (hT:aD w0 M V T w):∀ {vs:List SV} {xs:List Value},Bl T' vs=true->aJ V vs=some xs->∀ x∈xs,x.oneCell'=true
 | [],xs,_,h=>by simp only [aJ,aW] at h;subst h;simp
 | v::vs,xs,h1,h=>by
   simp only [aJ,dH,gM] at h
   obtain ⟨x,hx,ys,hy,rfl⟩:=h
   simp only [Bl,List.all_cons,iN] at h1
   intro z hz
   rcases List.mem_cons.1 hz with rfl | hz
   .have h1:=h1.1
    split at h1
    .exact (Wp aR hT h1 hx).1
    .exact Vm h1 hx
   .exact Cx aR hT (by simpa [Bl] using h1.2) hy z hz
theorem qZ {T':aX} (aR:∀ l B,T' l=some B->T l=some B) (hT:aD w0 M V T w) {v:SV} {x:Value} (h1:Bl T' (cellsOf v)=true) (h:den V v=some x):aJ V (cellsOf v)=some x.cells.toList:=by
 cases v with
 | agg vs=>
   simp only [den,dH] at h
   obtain ⟨xs,hx,rfl⟩:=h
   simpa [cellsOf,Value.cells] using hx
 | _=>
   have jB:x.oneCell'=true:=Cx aR hT (vs:=[_]) (xs:=[x]) (by simpa [cellsOf] using h1) (by simp [aJ,h]) x (by simp)
   rw [Nt x jB]
   simp [cellsOf,aJ,h]
def Qo (Γ:Env) (g:Nat->Option SV) (T:aX) (t:TypeId) (x y:Operand):Option bK:=
 match ev Γ g x,ev Γ g y,Γ.ty t with
 | some (.ptr l s off),some v,some ti=>match T l,Nat.beq (cellsOf v).length ti.size,Bl T (cellsOf v) with
   | some B,true,true=>match BO B s off (cellsOf v) with
     | some (ob,B')=>some { bO:=ob,val:=.raw undef,wr:=[(l,B')] }
     | none=>none
   | _,_,_=>none
 | _,_,_=>none
theorem AB (aU:cD P Γ) (ht:cJ V g a) (hg:bR Γ V) {T':aX} (aR:∀ l B,T' l=some B->T l=some B) (hT:aD w0 M V T w) {t:TypeId} {x y:Operand} (bZ:o.op = .store t x y)
 (he:Qo Γ g T' t x y=some e) (ho:∀ q∈e.bO,q) (lab:Nat):lB P w0 M V T lab e o a w:=by
 unfold Qo at he
 split at he
 .rename_i l s off v ti hx hy eA
  have ex:=bI ht hg hx
  simp only [den,dH] at ex
  obtain ⟨⟨b,base⟩,hβ,ex⟩:=ex
  have ey:=bI ht hg hy
  obtain ⟨hu,i,z,hi,gF,_⟩:=aU t ti eA
  split at he
  .rename_i B hB hlen jB
   split at he
   .rename_i ob B' hw
    simp only [aW] at he
    subst he
    have cC:=qZ aR hT jB ey
    have aRn:=Cx aR hT jB cC
    obtain ⟨w',h1,h2⟩:=Ht (P:=P) lab (.raw undef) hT (aR l B hB) hβ hw ho cC aRn
    intro K Q hK
    have hl:(a.eval y).cells.size=i.size:=by
     have:=bH cC
     rw [gF,<- cP hlen,<- this];simp
    unfold Oper.wp
    have dY:(execOp a.eval o).run P w = .ok .skip w':=by
     unfold execOp
     simp [bZ,<- ex,Instr.storeAt,Instr.sureAddr,storeVar,run_sizeOf hi,hl,h1]
    rw [dY,Oper.upon_skip]
    exact hK V undef w' (V.cO lab) rfl h2
   .cases he
  .cases he
 .cases he
theorem Uz (hT:aD w0 M V T w) {lab:Nat} (hf:V.fresh lab) {cells:List SV} {cs:List Value} {ty:TypeId} (hc:aJ V cells=some cs)
 (hr:(execOp a.eval o).run P w = .ok (.value (.pointer (some ⟨w.heap.size,0,none⟩))) (w.alloc (.cells cs.toArray ty))) :
 lB P w0 M V T lab { val:=.ptr lab true 0,new:=[.own cells ty] } o a w:=by
 intro K Q hK
 unfold Oper.wp
 rw [hr,Oper.upon_value]
 have:=hT.alloc hf (B:=.own cells ty) (.inl rfl) hc (.ptr lab true 0) []
 exact hK _ _ _ (bA.kB hf lab (cT _) (by omega) _) (by simp [den,bA.put]) this
def Rb (Γ:Env) (t:TypeId) (lab:Nat):Option bK:=
 match Γ.ty t with
 | some ti=>some { val:=.ptr lab true 0,new:=[.own ti.zero t] }
 | none=>none
theorem AO (aU:cD P Γ) (hT:aD w0 M V T w) {t:TypeId} (bZ:o.op = .alloc t) {lab:Nat} (hf:V.fresh lab) (he:Rb Γ t lab=some e):lB P w0 M V T lab e o a w:=by
 unfold Rb at he
 split at he
 .rename_i ti eA
  simp only [aW] at he
  subst he
  obtain ⟨hu,i,z,hi,gF,_,hz,hzero⟩:=aU t ti eA
  refine Uz hT hf (hzero V) ?_
  unfold execOp
  simp [bZ,Instr.alloc,dZ hi hz,newVar,newRow]
 .cases he
def aFi (Γ:Env) (g:Nat->Option SV) (T:aX) (t:TypeId) (x:Operand) (lab:Nat):Option bK:=
 match ev Γ g x with
 | some v=>match Bl T (cellsOf v) with
   | true=>some { val:=.ptr lab true 0,new:=[.own (cellsOf v) t] }
   | false=>none
 | none=>none
theorem aBi (ht:cJ V g a) (hg:bR Γ V) {T':aX} (aR:∀ l B,T' l=some B->T l=some B) (hT:aD w0 M V T w) {t:TypeId} {x:Operand} (bZ:o.op = .box t x) {lab:Nat} (hf:V.fresh lab) (he:aFi Γ g T' t x lab=some e):lB P w0 M V T lab e o a w:=by
 unfold aFi at he
 split at he
 .rename_i v hx
  split at he
  .rename_i jB
   simp only [aW] at he
   subst he
   have ex:=bI ht hg hx
   refine Uz hT hf (qZ aR hT jB ex) ?_
   unfold execOp
   simp [bZ,Instr.box,newVar,newRow]
  .cases he
 .cases he
end He
section He
variable {P:Program} {Γ:Env} {V:bA} {w w0:World} {M:Nat->Prop} {T:aX} {g:Nat->Option SV} {a:Act} {o:Oper} {e:bK}
def Ud (Γ:Env) (g:Nat->Option SV) (x:Operand):Option bK:=(ev Γ g x).bind lit
theorem Na (ht:cJ V g a) (hg:bR Γ V) (hT:aD w0 M V T w) {x:Operand} (bZ:o.op = .move x\/o.op = .assign x) (he:Ud Γ g x=some e) (lab:Nat):lB P w0 M V T lab e o a w:=by
 simp only [Ud,gM,lit,aW] at he
 obtain ⟨v,hv,rfl⟩:=he
 refine bF (x:=a.eval x) ?_ (bI ht hg hv) rfl rfl hT
 unfold execOp
 rcases bZ with h | h <;> simp only [h] <;> rfl
def GG (Γ:Env) (g:Nat->Option SV) (c x y:Operand):Option bK:=
 match ev Γ g c with
 | some (.bool true b)=>match b with
   | true=>(ev Γ g x).bind lit
   | false=>(ev Γ g y).bind lit
 | _=>none
theorem OJ (ht:cJ V g a) (hg:bR Γ V) (hT:aD w0 M V T w) {c x y:Operand} (bZ:o.op = .pick c x y) (he:GG Γ g c x y=some e) (lab:Nat):lB P w0 M V T lab e o a w:=by
 unfold GG at he
 split at he
 .rename_i b hc
  have ec:=bI ht hg hc
  simp only [den,aW] at ec
  split at he
  .simp only [gM,lit,aW] at he
   obtain ⟨v,hv,rfl⟩:=he
   refine bF (x:=a.eval x) ?_ (bI ht hg hv) rfl rfl hT
   unfold execOp
   simp only [bZ,<- ec]
   rfl
  .simp only [gM,lit,aW] at he
   obtain ⟨v,hv,rfl⟩:=he
   refine bF (x:=a.eval y) ?_ (bI ht hg hv) rfl rfl hT
   unfold execOp
   simp only [bZ,<- ec]
   rfl
 .cases he
def aFf (Γ:Env) (g:Nat->Option SV) (x:Operand):Option bK:=
 match ev Γ g x with
 | some (.ptr l s off)=>lit (.ptr l s off)
 | some (.iZ l off)=>lit (.iZ l off)
 | some (.pX t v)=>lit (.pX t v)
 | some (.fn (.func f) xs cs)=>lit (.fn (.func f) xs cs)
 | _=>none
theorem aBe (ht:cJ V g a) (hg:bR Γ V) (hT:aD w0 M V T w) {x:Operand} (bZ:o.op = .nilCheck x) (he:aFf Γ g x=some e) (lab:Nat):lB P w0 M V T lab e o a w:=by
 unfold aFf at he
 split at he <;> first | (cases he;done) | skip
 all_goals
  rename_i hx
  simp only [lit,aW] at he
  subst he
  have ex:=bI ht hg hx
  refine bF (x:=a.eval x) ?_ ex rfl rfl hT
  simp only [den,dH,gM] at ex
 .obtain ⟨p,_,ex⟩:=ex;unfold execOp;simp only [bZ,<- ex];rfl
 .split at ex
  .simp only [aW] at ex;unfold execOp;simp only [bZ,<- ex];rfl
  .cases ex
 .obtain ⟨p,_,ex⟩:=ex;unfold execOp;simp only [bZ,<- ex];rfl
 .obtain ⟨p,_,q,_,ex⟩:=ex;unfold execOp;simp only [bZ,<- ex];rfl
def Dd (Γ:Env) (g:Nat->Option SV) (x:Operand) (i:Nat):Option bK:=
 match ev Γ g x with
 | some (.eD vs)=>(vs[i]?).bind lit
 | _=>none
theorem Nv (ht:cJ V g a) (hg:bR Γ V) (hT:aD w0 M V T w) {x:Operand} {i:Nat} (bZ:o.op = .extract x i) (he:Dd Γ g x i=some e) (lab:Nat):lB P w0 M V T lab e o a w:=by
 unfold Dd at he
 split at he
 .rename_i vs hx
  simp only [gM,lit,aW] at he
  obtain ⟨v,hv,rfl⟩:=he
  have ex:=bI ht hg hx
  simp only [den,dH] at ex
  obtain ⟨xs,nL,ex⟩:=ex
  obtain ⟨y,hy,hd⟩:=dR nL i v hv
  refine bF (x:=y) ?_ hd rfl rfl hT
  unfold execOp
  simp [bZ,<- ex,Instr.extract,hy]
 .cases he
def xQ (Γ:Env) (g:Nat->Option SV) (f:Fn) (xs cs:Array Operand):Option bK:=
 match RK Γ g xs.toList,RK Γ g cs.toList with
 | some us,some vs=>lit (.fn f us vs)
 | _,_=>none
theorem Jq (ht:cJ V g a) (hg:bR Γ V) (hT:aD w0 M V T w) {f:Fn} {xs cs:Array Operand} (bZ:o.op = .makeFunc f xs cs) (he:xQ Γ g f xs cs=some e) (lab:Nat):lB P w0 M V T lab e o a w:=by
 unfold xQ at he
 split at he
 .rename_i us vs h1 h2
  simp only [lit,aW] at he
  subst he
  refine bF (x:=.func f (xs.map a.eval) (cs.map a.eval)) ?_ ?_ rfl rfl hT
  .unfold execOp;simp only [bZ];rfl
  .simp only [den,Hz ht hg h1,Hz ht hg h2,lI,gL]
   congr 2 <;> (rw [<- Array.toList_inj];simp)
 .cases he
def aSt:TypeDesc->Bool
 | .interface _=>false
 | _=>true
def tL (Γ:Env) (g:Nat->Option SV) (t:TypeId) (x:Operand):Option bK:=
 match ev Γ g x,Γ.ty t with
 | some v,some ti=>match aSt ti.desc with
   | true=>lit (.pX t v)
   | false=>none
 | _,_=>none
theorem Fb (aU:cD P Γ) (ht:cJ V g a) (hg:bR Γ V) (hT:aD w0 M V T w) {t:TypeId} {x:Operand} (bZ:o.op = .makeInterface t x) (he:tL Γ g t x=some e) (lab:Nat):lB P w0 M V T lab e o a w:=by
 unfold tL at he
 split at he
 .rename_i v ti hv eA
  split at he
  .rename_i hc
   simp only [lit,aW] at he
   subst he
   refine bF (x:=.iface t (a.eval x)) ?_ (by simp [den,bI ht hg hv]) rfl rfl hT
   unfold execOp
   simp only [bZ,Instr.makeInterface,Sem.run_bind,run_underlying (aU t ti eA).1 w,Result.andThen_ok]
   cases hd:ti.desc <;> first | rfl | (rw [hd] at hc;cases hc)
  .cases he
 .cases he
def Qt (Γ:Env) (g:Nat->Option SV) (t:TypeId) (x:Operand) (n:Nat):Option bK:=
 match ev Γ g x,Γ.ty t with
 | some (.ptr l s off),some ti=>match ti.desc with
   | .struct fs=>match fs.toList[n]? with
     | some f=>match Γ.ty f.type with
       | some tf=>match Nat.beq tf.size 0 with
         | true=>none
         | false=>lit (.ptr l s (off+f.offset))
       | none=>none
     | none=>none
   | _=>none
 | _,_=>none
theorem AH (aU:cD P Γ) (ht:cJ V g a) (hg:bR Γ V) (hT:aD w0 M V T w) {t:TypeId} {x:Operand} {n:Nat} (bZ:o.op = .fieldAddr t x n) (he:Qt Γ g t x n=some e) (lab:Nat):lB P w0 M V T lab e o a w:=by
 unfold Qt at he
 split at he
 .rename_i l s off ti hx eA
  split at he
  .rename_i fs hfs
   split at he
   .rename_i f hf
    split at he
    .rename_i tf htf
     split at he
     .cases he
     .rename_i gF
      simp only [lit,aW] at he
      subst he
      have ex:=bI ht hg hx
      simp only [den,dH] at ex
      obtain ⟨⟨b,base⟩,hβ,ex⟩:=ex
      obtain ⟨_,i,z,hi,cH,_⟩:=aU f.type tf htf
      have dI:¬ i.size=0:=by
       rw [cH];intro h0;rw [h0] at gF;cases gF
      refine bF (x:=.pointer (some ⟨b,base+(off+f.offset),none⟩)) ?_ (by simp [den,hβ]) rfl rfl hT
      have hu:=(aU t ti eA).1
      rw [hfs] at hu
      have hf':fs[n]?=some f:=by rw [<- Array.getElem?_toList];exact hf
      unfold execOp
      simp only [bZ,<- ex,Instr.fieldAt,Sem.run_bind,run_underlying hu w,Result.andThen_ok,hf',Instr.sureAddr,Sem.run_pure,fieldPlace,run_sizeOf hi,if_neg dI,bJ,Nat.add_assoc]
    .cases he
   .cases he
  .cases he
 .cases he
def tM (Γ:Env) (g:Nat->Option SV) (t:TypeId) (x y:Operand):Option bK:=
 match ev Γ g x,ev Γ g y,Γ.ty t with
 | some (.ptr l s off),some (.int sk _ k),some ti=>match ti.desc with
   | .array len el=>match Γ.ty el with
     | some te=>match rY sk (0<=k/\k<len) with
       | some ob=>some (dU (.ptr l (s&&sk) (off+k.toNat*te.size)) ob)
       | none=>none
     | none=>none
   | _=>none
 | some (.aH l s off len _),some (.int sk _ k),some ti=>match ti.desc with
   | .slice el=>match Γ.ty el with
     | some te=>match rY (s&&sk) (0<=k/\k<len) with
       | some ob=>some (dU (.ptr l (s&&sk) (off+k.toNat*te.size)) ob)
       | none=>none
     | none=>none
   | _=>none
 | some (.dJ l off len _),some (.int sk _ k),some ti=>match ti.desc with
   | .slice el=>match Γ.ty el with
     | some te=>match rY sk (0<=k/\k<len) with
       | some ob=>some (dU (.ptr l sk (off+k.toNat*te.size)) ob)
       | none=>none
     | none=>none
   | _=>none
 | some (.pT _ n _ sz j le),some (.int _ _ k),some ti=>match ti.desc with
   | .slice el=>match Γ.ty el with
     | some te=>match Nat.beq te.size sz with
       | true=>some (dU (.ptr le true 0) [0<=k/\k<n/\k.toNat=j])
       | false=>none
     | none=>none
   | _=>none
 | some (.iH l n),some (.int _ _ k),some ti=>match ti.desc with
   | .slice el=>match Γ.ty el with
     | some te=>match Nat.beq te.size 1 with
       | true=>some (dU (.iZ l k.toNat) [0<=k/\k<n])
       | false=>none
     | none=>none
   | _=>none
 | _,_,_=>none
theorem Fc (aU:cD P Γ) (ht:cJ V g a) (hg:bR Γ V) (hT:aD w0 M V T w) {t:TypeId} {x y:Operand} (bZ:o.op = .indexAddr t x y) (he:tM Γ g t x y=some e) (ho:∀ q∈e.bO,q) (lab:Nat):lB P w0 M V T lab e o a w:=by
 unfold tM at he
 split at he
 .rename_i l s off sk kk k ti hx hy eA
  split at he
  .rename_i len el hd
   split at he
   .rename_i te eG
    split at he
    .rename_i ob rT
     simp only [dU,aW] at he
     subst he
     have hb:=gO rT ho
     have ex:=bI ht hg hx
     have ey:=bI ht hg hy
     simp only [den,dH,aW] at ex ey
     obtain ⟨⟨b,base⟩,hβ,ex⟩:=ex
     obtain ⟨_,i,z,hi,cH,_⟩:=aU el te eG
     have hu:=(aU t ti eA).1
     rw [hd] at hu
     refine bF (x:=.pointer (some ⟨b,base+(off+k.toNat*te.size),none⟩)) ?_ (by simp [den,hβ]) rfl rfl hT
     unfold execOp
     simp only [bZ,<- ex,<- ey,Instr.indexAt,asIntOf,Sem.run_bind,Sem.run_pure,run_underlying hu w,Result.andThen_ok,Instr.sureAddr,if_pos hb,run_sizeOf hi,cH,bJ,Nat.add_assoc]
    .cases he
   .cases he
  .cases he
 .rename_i l s off len cap sk kk k ti hx hy eA
  split at he
  .rename_i el hd
   split at he
   .rename_i te eG
    split at he
    .rename_i ob rT
     simp only [dU,aW] at he
     subst he
     have hb:=gO rT ho
     have ex:=bI ht hg hx
     have ey:=bI ht hg hy
     simp only [den,dH,aW] at ex ey
     obtain ⟨⟨b,base⟩,hβ,ex⟩:=ex
     obtain ⟨_,i,z,hi,cH,_⟩:=aU el te eG
     have hu:=(aU t ti eA).1
     rw [hd] at hu
     refine bF (x:=.pointer (some ⟨b,base+(off+k.toNat*te.size),none⟩)) ?_ (by simp [den,hβ]) rfl rfl hT
     unfold execOp
     simp only [bZ,<- ex,<- ey,Instr.indexAt,asIntOf,Sem.run_bind,Sem.run_pure,run_underlying hu w,Result.andThen_ok,if_pos hb,run_sizeOf hi,cH,bJ,Nat.add_assoc]
    .cases he
   .cases he
  .cases he
 .rename_i l off len lo sk kk k ti hx hy eA
  split at he
  .rename_i el hd
   split at he
   .rename_i te eG
    split at he
    .rename_i ob rT
     simp only [dU,aW] at he
     subst he
     have hb:=gO rT ho
     have ex:=bI ht hg hx
     have ey:=bI ht hg hy
     simp only [den,dH,gM,aW] at ex ey
     obtain ⟨⟨b,base⟩,hβ,c,_,ex⟩:=ex
     obtain ⟨_,i,z,hi,cH,_⟩:=aU el te eG
     have hu:=(aU t ti eA).1
     rw [hd] at hu
     refine bF (x:=.pointer (some ⟨b,base+(off+k.toNat*te.size),none⟩)) ?_ (by simp [den,hβ]) rfl rfl hT
     unfold execOp
     simp only [bZ,<- ex,<- ey,Instr.indexAt,asIntOf,Sem.run_bind,Sem.run_pure,run_underlying hu w,Result.andThen_ok,if_pos hb,run_sizeOf hi,cH,bJ,Nat.add_assoc]
    .cases he
   .cases he
  .cases he
 .rename_i l n bAz sz j le kk0 kk k ti hx hy eA
  split at he
  .rename_i el hd
   split at he
   .rename_i te eG
    split at he
    .rename_i iK
     have iK:=cP iK
     simp only [dU,aW] at he
     subst he
     obtain ⟨pM,lA,QE⟩:0<=k/\k<n/\k.toNat=j:=ho _ (by simp)
     have ex:=bI ht hg hx
     have ey:=bI ht hg hy
     simp only [den,gM,aW] at ex ey
     obtain ⟨⟨b,base⟩,hβ,q,hq,ex⟩:=ex
     split at ex
     case h_2=>cases ex
     rename_i hdq
     have hdq:=jP hdq
     simp only [aW] at ex
     subst hdq
     obtain ⟨_,i,z,hi,cH,_⟩:=aU el te eG
     have hu:=(aU t ti eA).1
     rw [hd] at hu
     refine bF (x:=.pointer (some ⟨b,base+(k.toNat*te.size),none⟩)) ?_ (by simp [den,hq,QE,iK]) rfl rfl hT
     unfold execOp
     simp only [bZ,<- ex,<- ey,Instr.indexAt,asIntOf,Sem.run_bind,Sem.run_pure,run_underlying hu w,Result.andThen_ok,if_pos (show 0<=k/\k<(n:Int) from ⟨pM,lA⟩),run_sizeOf hi,cH,bJ]
    .cases he
   .cases he
  .cases he
 .rename_i l n kk0 kk k ti hx hy eA
  split at he
  .rename_i el hd
   split at he
   .rename_i te eG
    split at he
    .rename_i iK
     have iK:=cP iK
     simp only [dU,aW] at he
     subst he
     have hb:0<=k/\k<n:=ho _ (by simp)
     have ex:=bI ht hg hx
     have ey:=bI ht hg hy
     simp only [den,gM,aW] at ex ey
     obtain ⟨v,hσ,ex⟩:=ex
     obtain ⟨exv,hv⟩:=kA ex
     rcases hv with ⟨_,h0⟩ | ⟨b,base,c,rfl,_⟩
     .omega
     obtain ⟨_,i,z,hi,cH,_⟩:=aU el te eG
     have hu:=(aU t ti eA).1
     rw [hd] at hu
     refine bF (x:=.pointer (some ⟨b,base+k.toNat*te.size,none⟩)) ?_ (by simp [den,hσ,bJ,iK]) rfl rfl hT
     unfold execOp
     simp only [bZ,exv,<- ey,Instr.indexAt,asIntOf,Sem.run_bind,Sem.run_pure,run_underlying hu w,Result.andThen_ok,if_pos hb,run_sizeOf hi,cH,bJ]
    .cases he
   .cases he
  .cases he
 .cases he
def Ji (Γ:Env) (g:Nat->Option SV) (t:TypeId) (x:Operand) (n:Nat):Option bK:=
 match ev Γ g x,Γ.ty t with
 | some (.agg cs),some ti=>match ti.desc with
   | .struct fs=>match fs.toList[n]? with
     | some f=>match Γ.ty f.type with
       | some tf=>match sP tf.desc with
         | true=>lit (.agg ((cs.drop f.offset).take tf.size))
         | false=>(cs[f.offset]?).bind lit
       | none=>none
     | none=>none
   | _=>none
 | _,_=>none
theorem wE {α:Type} (l:List α) (i j:Nat):l.toArray.extract i (i+j)=((l.drop i).take j).toArray:=by
 apply Array.ext'
 simp [List.extract_eq_take_drop]
theorem Sp (aU:cD P Γ) (ht:cJ V g a) (hg:bR Γ V) (hT:aD w0 M V T w) {t:TypeId} {x:Operand} {n:Nat} (bZ:o.op = .field t x n) (he:Ji Γ g t x n=some e) (lab:Nat):lB P w0 M V T lab e o a w:=by
 unfold Ji at he
 split at he
 .rename_i cs ti hx eA
  split at he
  .rename_i fs hfs
   split at he
   .rename_i f hf
    split at he
    .rename_i tf htf
     have ex:=bI ht hg hx
     simp only [den,dH] at ex
     obtain ⟨xs,nL,ex⟩:=ex
     obtain ⟨huf,i,z,hi,cH,_⟩:=aU f.type tf htf
     have hu:=(aU t ti eA).1
     rw [hfs] at hu
     have hf':fs[n]?=some f:=by rw [<- Array.getElem?_toList];exact hf
     split at he
     .rename_i gH
      simp only [lit,aW] at he
      subst he
      refine bF (x:=.agg ((xs.drop f.offset).take tf.size).toArray) ?_ (by simp [den,dW _ (gU _ nL)]) rfl rfl hT
      unfold execOp
      simp only [bZ,<- ex,Instr.field,Sem.run_bind,run_underlying hu w,Result.andThen_ok,hf',asAgg,Sem.run_pure,part,eO huf,gH,if_true,run_sizeOf hi,cH,wE]
     .rename_i gH
      simp only [gM,lit,aW] at he
      obtain ⟨v,hv,rfl⟩:=he
      obtain ⟨y,hy,hdy⟩:=dR nL _ v hv
      refine bF (x:=y) ?_ hdy rfl rfl hT
      have hy':xs.toArray[f.offset]?=some y:=by simpa using hy
      unfold execOp
      simp only [bZ,<- ex,Instr.field,Sem.run_bind,run_underlying hu w,Result.andThen_ok,hf',asAgg,Sem.run_pure,part,eO huf,gH,Bool.false_eq_true,if_false,hy']
    .cases he
   .cases he
  .cases he
 .cases he
def Je (Γ:Env) (g:Nat->Option SV) (t:TypeId) (x y:Operand):Option bK:=
 match ev Γ g x,ev Γ g y,Γ.ty t with
 | some (.agg cs),some (.int true _ k),some ti=>match ti.desc with
   | .array len el=>match Γ.ty el with
     | some te=>match decide (0<=k/\k<len),sP te.desc with
       | true,true=>lit (.agg ((cs.drop (k.toNat*te.size)).take te.size))
       | true,false=>(cs[k.toNat*te.size]?).bind lit
       | _,_=>none
     | none=>none
   | _=>none
 | some (.raw (.string s)),some (.int true _ k),some ti=>match ti.desc,decide (0<=k),s[k.toNat]? with
   | .string,true,some b=>lit (.int true .u8 b.toNat)
   | _,_,_=>none
 | _,_,_=>none
theorem Sl (aU:cD P Γ) (ht:cJ V g a) (hg:bR Γ V) (hT:aD w0 M V T w) {t:TypeId} {x y:Operand} (bZ:o.op = .index t x y) (he:Je Γ g t x y=some e) (lab:Nat):lB P w0 M V T lab e o a w:=by
 unfold Je at he
 split at he
 .rename_i cs kk k ti hx hy eA
  split at he
  .rename_i len el hd
   split at he
   .rename_i te eG
    have ex:=bI ht hg hx
    have ey:=bI ht hg hy
    simp only [den,dH,aW] at ex ey
    obtain ⟨xs,nL,ex⟩:=ex
    obtain ⟨Ec,i,z,hi,cH,_⟩:=aU el te eG
    have hu:=(aU t ti eA).1
    rw [hd] at hu
    split at he
    .rename_i hb gH
     have iL:=jP hb
     simp only [lit,aW] at he
     subst he
     refine bF (x:=.agg ((xs.drop (k.toNat*te.size)).take te.size).toArray) ?_ (by simp [den,dW _ (gU _ nL)]) rfl rfl hT
     unfold execOp
     simp only [bZ,<- ex,<- ey,Instr.index,asIntOf,Sem.run_bind,Sem.run_pure,run_underlying hu w,Result.andThen_ok,if_pos iL,part,eO Ec,gH,if_true,run_sizeOf hi,cH,wE]
    .rename_i hb gH
     have iL:=jP hb
     simp only [gM,lit,aW] at he
     obtain ⟨v,hv,rfl⟩:=he
     obtain ⟨u,hu',hdu⟩:=dR nL _ v hv
     refine bF (x:=u) ?_ hdu rfl rfl hT
     have hy':xs.toArray[k.toNat*te.size]?=some u:=by simpa using hu'
     unfold execOp
     simp only [bZ,<- ex,<- ey,Instr.index,asIntOf,Sem.run_bind,Sem.run_pure,run_underlying hu w,Result.andThen_ok,if_pos iL,part,eO Ec,gH,Bool.false_eq_true,if_false,run_sizeOf hi,cH,hy']
    .cases he
   .cases he
  .cases he
 .rename_i s kk k ti hx hy eA
  split at he
  .rename_i b hd hk hb
   have gX:=jP hk
   have ex:=bI ht hg hx
   have ey:=bI ht hg hy
   simp only [den,aW] at ex ey
   have hu:=(aU t ti eA).1
   rw [hd] at hu
   simp only [lit,aW] at he
   subst he
   refine bF (x:=.int .u8 b.toNat) ?_ rfl rfl rfl hT
   unfold execOp
   simp only [bZ,<- ex,<- ey,Instr.index,asIntOf,Sem.run_bind,Sem.run_pure,run_underlying hu w,Result.andThen_ok,if_pos gX,hb]
  .cases he
 .cases he
def aFg (Γ:Env) (T:aX) (d:TypeDesc) (v:SV):Option bK:=
 match d,v with
 | .slice _,.aH _ s _ len _=>lit (.int s .i64 len)
 | .slice _,.raw (.slice _ n _)=>lit (.int true .i64 n)
 | .slice _,.dJ _ _ len _=>lit (.int true .i64 len)
 | .slice _,.buf l=>match T l with
   | some (.dF _ xs _)=>lit (.int false .i64 xs.length)
   | some (.fQ _ n _)=>lit (.int false .i64 n)
   | some (.eK xs _)=>lit (.int false .i64 xs.length)
   | some (.rC xs)=>lit (.int false .i64 xs.length)
   | _=>none
 | .slice _,.mG _ lo hi=>lit (.int false .i64 ((hi-lo:Nat):Int))
 | .slice _,.iH _ n=>lit (.int false .i64 n)
 | .slice _,.pT _ n _ _ _ _=>lit (.int false .i64 n)
 | .array n _,_=>lit (.int true .i64 n)
 | .pointer el,_=>match Γ.ty el with
   | some te=>match te.desc with
     | .array n _=>lit (.int true .i64 n)
     | _=>none
   | none=>none
 | .string,.raw (.string s)=>lit (.int true .i64 s.size)
 | _,_=>none
theorem yI {ty:TypeId} {sz n:Nat} {v:Value} {cs:List Value} (h:w.ownsRow 0 ty sz v n cs):∃ b c,v = .slice b n c:=by
 rcases h.2 with ⟨rfl,rfl⟩ | ⟨gb,cap,cur,rfl,_⟩
 .exact ⟨_,_,rfl⟩
 .exact ⟨_,_,rfl⟩
theorem aBf (aU:cD P Γ) {T':aX} (aR:∀ l B,T' l=some B->T l=some B) (hT:aD w0 M V T w) {Eh:Array TypeId} {t ty:TypeId} {d:TypeDesc} {v:SV} {x:Value} (Af:Eh[0]?=some t) (hu:P.underlying t=some d)
 (hv:den V v=some x) (he:aFg Γ T' d v=some e):∃ y,(Builtin.len_ Eh ty #[x]).run P w = .ok y w/\den V e.val=some y/\e.new=[]/\e.wr=[]:=by
 unfold aFg at he
 split at he
 .simp only [lit,aW] at he
  subst he
  simp only [den,dH] at hv
  obtain ⟨p,_,rfl⟩:=hv
  exact ⟨_,by simp [Builtin.len_,Af,run_underlying hu w];rfl,rfl,rfl,rfl⟩
 .simp only [lit,aW] at he
  subst he
  simp only [den,aW] at hv
  subst hv
  exact ⟨_,by simp [Builtin.len_,Af,run_underlying hu w];rfl,rfl,rfl,rfl⟩
 .simp only [lit,aW] at he
  subst he
  simp only [den,dH,gM] at hv
  obtain ⟨p,_,c,_,rfl⟩:=hv
  exact ⟨_,by simp [Builtin.len_,Af,run_underlying hu w];rfl,rfl,rfl,rfl⟩
 .split at he
  .rename_i l _ k xs ty hB
   simp only [lit,aW] at he
   subst he
   obtain ⟨cs,hc,u,hσ,bT⟩:=hT.ok l _ (aR l _ hB)
   simp only [den,hσ,aW] at hv
   subst hv
   obtain ⟨b,c,rfl⟩:=yI bT.1
   exact ⟨_,by simp [Builtin.len_,Af,run_underlying hu w];rfl,rfl,rfl,rfl⟩
  .rename_i l _ sz n ty hB
   simp only [lit,aW] at he
   subst he
   obtain ⟨cs,hc,u,us,hσ,bT,_⟩:=hT.ok l _ (aR l _ hB)
   simp only [den,hσ,aW] at hv
   subst hv
   rcases bT.2 with ⟨rfl,rfl⟩ | ⟨g,cap,cur,rfl,_⟩
   .exact ⟨_,by simp [Builtin.len_,Af,run_underlying hu w];rfl,rfl,rfl,rfl⟩
   .exact ⟨_,by simp [Builtin.len_,Af,run_underlying hu w];rfl,rfl,rfl,rfl⟩
  .rename_i l _ xs ty hB
   simp only [lit,aW] at he
   subst he
   obtain ⟨cs,hc,u,hσ,bT⟩:=hT.ok l _ (aR l _ hB)
   simp only [den,hσ,aW] at hv
   subst hv
   obtain ⟨b,c,rfl⟩:=yI bT
   exact ⟨_,by simp [Builtin.len_,Af,run_underlying hu w];rfl,rfl,rfl,rfl⟩
  .rename_i l _ xs hB
   simp only [lit,aW] at he
   subst he
   obtain ⟨cs,hc,u,hσ,bT⟩:=hT.ok l _ (aR l _ hB)
   simp only [den,hσ,aW] at hv
   subst hv
   rcases bT with ⟨⟨ad,rfl⟩,rfl⟩ | ⟨b,o,c,rfl,_⟩
   .exact ⟨_,by simp [Builtin.len_,Af,run_underlying hu w];rfl,rfl,rfl,rfl⟩
   .exact ⟨_,by simp [Builtin.len_,Af,run_underlying hu w];rfl,rfl,rfl,rfl⟩
  .cases he
 .simp only [lit,aW] at he
  subst he
  simp only [den] at hv
  split at hv
  .cases hv
   exact ⟨_,by simp [Builtin.len_,Af,run_underlying hu w];rfl,rfl,rfl,rfl⟩
  .cases hv
 .simp only [lit,aW] at he
  subst he
  simp only [den,gM] at hv
  obtain ⟨v,_,hv⟩:=hv
  obtain ⟨rfl,⟨⟨_,rfl⟩,rfl⟩ | ⟨b,o,c,rfl,_⟩⟩:=kA hv
  .exact ⟨_,by simp [Builtin.len_,Af,run_underlying hu w];rfl,rfl,rfl,rfl⟩
  .exact ⟨_,by simp [Builtin.len_,Af,run_underlying hu w];rfl,rfl,rfl,rfl⟩
 .simp only [lit,aW] at he
  subst he
  simp only [den,gM] at hv
  obtain ⟨p,_,q,_,hv⟩:=hv
  split at hv
  case h_2=>cases hv
  cases hv
  exact ⟨_,by simp [Builtin.len_,Af,run_underlying hu w];rfl,rfl,rfl,rfl⟩
 .simp only [lit,aW] at he
  subst he
  exact ⟨_,by simp [Builtin.len_,Af,run_underlying hu w];rfl,rfl,rfl,rfl⟩
 .split at he
  .rename_i el _ te eG
   split at he
   .rename_i n el' hd
    simp only [lit,aW] at he
    subst he
    have hu2:=(aU el te eG).1
    rw [hd] at hu2
    exact ⟨_,by simp [Builtin.len_,Af,run_underlying hu w,run_underlying hu2 w];rfl,rfl,rfl,rfl⟩
   .cases he
  .cases he
 .simp only [lit,aW] at he
  subst he
  simp only [den,aW] at hv
  subst hv
  exact ⟨_,by simp [Builtin.len_,Af,run_underlying hu w];rfl,rfl,rfl,rfl⟩
 .cases he
def aFh (v:SV):Option bK:=
 match v with
 | .aH _ s _ _ cap=>lit (.int s .i64 cap)
 | .raw (.slice _ _ n)=>lit (.int true .i64 n)
 | _=>none
theorem aBh {Eh:Array TypeId} {t ty el:TypeId} {v:SV} {x:Value} (Af:Eh[0]?=some t) (hu:P.underlying t=some (.slice el)) (hv:den V v=some x) (he:aFh v=some e) :
 ∃ y,(Builtin.cap_ Eh ty #[x]).run P w = .ok y w/\den V e.val=some y/\e.new=[]/\e.wr=[]:=by
 unfold aFh at he
 split at he
 .simp only [lit,aW] at he
  subst he
  simp only [den,dH] at hv
  obtain ⟨p,_,rfl⟩:=hv
  exact ⟨_,by simp [Builtin.cap_,Af,run_underlying hu w];rfl,rfl,rfl,rfl⟩
 .simp only [lit,aW] at he
  subst he
  simp only [den,aW] at hv
  subst hv
  exact ⟨_,by simp [Builtin.cap_,Af,run_underlying hu w];rfl,rfl,rfl,rfl⟩
 .cases he
end He
section He
variable {P:Program} {Γ:Env} {V:bA} {w w0:World} {M:Nat->Prop} {T:aX} {g:Nat->Option SV} {a:Act} {o:Oper} {e:bK}
def Ai (Γ:Env) (g:Nat->Option SV) (x:Option Operand) (s:Bool) (aZe:Nat):Option (Bool × Int):=
 match x with
 | none=>some (s,aZe)
 | some x=>match ev Γ g x with
   | some (.int s _ k)=>some (s,k)
   | _=>none
def yV (lo:Option Operand) (m l:Int) (off size:Nat):Nat:=match lo with
 | none=>off
 | some _=>if m=l then off else off+l.toNat*size
def Qp (Γ:Env) (g:Nat->Option SV) (T:aX) (t:TypeId) (x:Operand) (lo hi mx:Option Operand):Option bK:=
 match ev Γ g x,Γ.ty t with
 | some (.ptr l s off),some ti=>match ti.desc with
   | .array n el=>match Γ.ty el,Ai Γ g mx true n,Ai Γ g hi true n,Ai Γ g lo true 0 with
     | some te,some (sm,m),some (sh,h),some (sl,k)=>match mx.isSome&&hi.isNone with
       | true=>none
       | false=>(rY (s&&sm&&sh&&sl) (0<=m/\m<=n/\0<=h/\h<=m/\0<=k/\k<=h)).map
         (dU (.aH l (s&&sm&&sh&&sl) (yV lo m k off te.size) (h.toNat-k.toNat) (m.toNat-k.toNat)))
     | _,_,_,_=>none
   | _=>none
 | some (.aH l s off len cap),some ti=>match ti.desc with
   | .slice el=>match Γ.ty el,Ai Γ g mx s cap,Ai Γ g hi s len,Ai Γ g lo true 0 with
     | some te,some (sm,m),some (sh,h),some (sl,k)=>match mx.isSome&&hi.isNone with
       | true=>none
       | false=>(rY (s&&sm&&sh&&sl) (0<=m/\m<=cap/\0<=h/\h<=m/\0<=k/\k<=h)).map
         (dU (.aH l (s&&sm&&sh&&sl) (yV lo m k off te.size) (h.toNat-k.toNat) (m.toNat-k.toNat)))
     | _,_,_,_=>none
   | _=>none
 | some (.raw (.slice none 0 0)),some ti=>match ti.desc with
   | .slice el=>match Γ.ty el,Ai Γ g mx true 0,Ai Γ g hi true 0,Ai Γ g lo true 0 with
     | some _,some (sm,m),some (sh,h),some (sl,k)=>match mx.isSome&&hi.isNone with
       | true=>none
       | false=>(rY (sm&&sh&&sl) (0<=m/\m<=(0:Nat)/\0<=h/\h<=m/\0<=k/\k<=h)).map (dU (.raw (.slice none 0 0)))
     | _,_,_,_=>none
   | _=>none
 | some (.dJ l off len l0),some ti=>match ti.desc with
   | .slice el=>match Γ.ty el,T l,Ai Γ g hi true len,Ai Γ g lo true 0 with
     | some te,some (.row sz cells _),some (true,h),some (true,k)=>match Nat.beq te.size sz&&Nat.blt 0 sz&&Nat.beq off (l0*sz)&&Nat.ble (off+len*sz) cells.length,mx with
       | true,none=>match decide (0<=k/\k<=h/\(h<=len\/off+h.toNat*sz<=cells.length)/\(k<len\/k=0)) with
         | true=>some { val:=.dJ l (off+k.toNat*sz) (h.toNat-k.toNat) (l0+k.toNat) }
         | false=>none
       | true,some y=>match Ai Γ g (some y) true 0,hi.isSome with
         | some (true,m),true=>match decide (0<=k/\k<=h/\h<=m/\m<=len) with
           | true=>some { val:=.aH l true (yV lo m k off sz) (h.toNat-k.toNat) (m.toNat-k.toNat) }
           | false=>none
         | _,_=>none
       | _,_=>none
     | _,_,_,_=>none
   | _=>none
 | some (.buf l),some ti=>match ti.desc,mx with
   | .slice el,none=>match Γ.ty el,T l with
     | some te,some (.dF _ xs _)=>match Ai Γ g hi false xs.length,Ai Γ g lo true 0,Nat.beq te.size 1 with
       | some (_,h),some (_,k),true=>some (dU (.mG l k.toNat h.toNat) [0<=k/\k<=h/\h<=xs.length])
       | _,_,_=>none
     | _,_=>none
   | _,_=>none
 | _,_=>none
theorem cQ (k:IntKind) (i:Int) (y:Nat) (code:BoundsCode) (h:0<=i/\i<=y):(Instr.sliceBound (.int k i) y code).run P w = .ok i.toNat w:=by
 simp [Instr.sliceBound,asIntOf,h]
theorem fA (ht:cJ V g a) (hg:bR Γ V) {x:Option Operand} {s sb:Bool} {d:Nat} {n:Int} (h:Ai Γ g x s d=some (sb,n)) :
 (x=none/\n=d)\/∃ y k,x=some y/\a.eval y = .int k n:=by
 unfold Ai at h
 split at h
 .simp only [aW,Prod.mk.injEq] at h;exact .inl ⟨rfl,h.2.symm⟩
 .rename_i y
  split at h
  .rename_i s' k n' hy
   simp only [aW,Prod.mk.injEq] at h
   obtain ⟨rfl,rfl⟩:=h
   have:=bI ht hg hy
   simp only [den,aW] at this
   exact .inr ⟨y,k,rfl,this.symm⟩
  .cases h
theorem Nr (isS:Bool) (len cap:Nat) {lo hi mx:Option Value} {m h k:Int}
 (hm:(mx=none/\m=cap)\/∃ kk,mx=some (.int kk m)) (hh:(hi=none/\h=len)\/∃ kk,hi=some (.int kk h))
 (hl:(lo=none/\k=(0:Nat))\/∃ kk,lo=some (.int kk k)) (hx:(mx.isSome&&hi.isNone)=false) (hb:0<=m/\m<=cap/\0<=h/\h<=m/\0<=k/\k<=h) :
 (Instr.sliceBounds isS len cap lo hi mx).run P w = .ok (k.toNat,h.toNat,m.toNat) w:=by
 obtain ⟨h1,h2,h3,h4,h5,h6⟩:=hb
 rcases hm with ⟨rfl,rfl⟩ | ⟨km,rfl⟩ <;> rcases hh with ⟨rfl,rfl⟩ | ⟨kh,rfl⟩ <;> rcases hl with ⟨rfl,rfl⟩ | ⟨kl,rfl⟩
 .simp [Instr.sliceBounds]
 .simp only [Instr.sliceBounds,Sem.run_bind,Sem.run_pure,Result.andThen_ok]
  rw [cQ _ _ _ _ (by omega)];simp
 .simp only [Instr.sliceBounds,Sem.run_bind,Sem.run_pure,Result.andThen_ok]
  rw [cQ _ _ _ _ (by omega)];simp
 .simp only [Instr.sliceBounds,Sem.run_bind,Sem.run_pure,Result.andThen_ok]
  rw [cQ _ _ _ _ (by omega)]
  simp only [Result.andThen_ok]
  rw [cQ _ _ _ _ (by omega)];simp
 .simp at hx
 .simp at hx
 .simp only [Instr.sliceBounds,Sem.run_bind,Sem.run_pure,Result.andThen_ok]
  rw [cQ _ _ _ _ (by omega)]
  simp only [Result.andThen_ok]
  rw [cQ _ _ _ _ (by omega)];simp
 .simp only [Instr.sliceBounds,Sem.run_bind,Sem.run_pure]
  rw [cQ _ _ _ _ (by omega)]
  simp only [Result.andThen_ok]
  rw [cQ _ _ _ _ (by omega)]
  simp only [Result.andThen_ok]
  rw [cQ _ _ _ _ (by omega)];simp
theorem eV (isS:Bool) (len cap:Nat) {lo hi mx:Option Operand} {m h k:Int}
 (hm:(mx=none/\m=cap)\/∃ y kk,mx=some y/\a.eval y = .int kk m) (hh:(hi=none/\h=len)\/∃ y kk,hi=some y/\a.eval y = .int kk h)
 (hl:(lo=none/\k=(0:Nat))\/∃ y kk,lo=some y/\a.eval y = .int kk k) (hx:(mx.isSome&&hi.isNone)=false) (hb:0<=m/\m<=cap/\0<=h/\h<=m/\0<=k/\k<=h) :
 (Instr.sliceBounds isS len cap (lo.map a.eval) (hi.map a.eval) (mx.map a.eval)).run P w = .ok (k.toNat,h.toNat,m.toNat) w:=by
 refine Nr isS len cap ?_ ?_ ?_ (by simpa using hx) hb
 .rcases hm with ⟨rfl,e⟩ | ⟨y,kk,rfl,e⟩
  .exact .inl ⟨rfl,e⟩
  .exact .inr ⟨kk,by rw [gL,e]⟩
 .rcases hh with ⟨rfl,e⟩ | ⟨y,kk,rfl,e⟩
  .exact .inl ⟨rfl,e⟩
  .exact .inr ⟨kk,by rw [gL,e]⟩
 .rcases hl with ⟨rfl,e⟩ | ⟨y,kk,rfl,e⟩
  .exact .inl ⟨rfl,e⟩
  .exact .inr ⟨kk,by rw [gL,e]⟩
theorem AD (aU:cD P Γ) (ht:cJ V g a) (hg:bR Γ V) {T':aX} (aR:∀ l B,T' l=some B->T l=some B) (hT:aD w0 M V T w) {t:TypeId} {x:Operand} {lo hi mx:Option Operand} (bZ:o.op = .slice t x lo hi mx)
 (he:Qp Γ g T' t x lo hi mx=some e) (ho:∀ q∈e.bO,q) (lab:Nat):lB P w0 M V T lab e o a w:=by
 unfold Qp at he
 split at he
 .rename_i l s off ti hx eA
  split at he
  .rename_i n el hd
   split at he
   .rename_i te sm m sh h sl k eG hm hh hl
    split at he
    .cases he
    .rename_i hxx
     simp only [dH] at he
     obtain ⟨ob,rT,rfl⟩:=he
     have hb:=gO rT ho
     have ex:=bI ht hg hx
     simp only [den,dH] at ex
     obtain ⟨⟨b,base⟩,hβ,ex⟩:=ex
     have hu:=(aU t ti eA).1
     rw [hd] at hu
     obtain ⟨_,i,z,fV,cH,_⟩:=aU el te eG
     have hr:=eV (P:=P) (w:=w) (a:=a) false n n (fA ht hg hm) (fA ht hg hh) (fA ht hg hl) hxx hb
     refine bF (x:=.slice (some ⟨b,base+yV lo m k off te.size,none⟩) (h.toNat-k.toNat) (m.toNat-k.toNat)) ?_ (by simp [dU,den,hβ]) rfl rfl hT
     have tX:(if m.toNat=k.toNat then (⟨b,base+off,none⟩:Addr) else (⟨b,base+off,none⟩:Addr).add (k.toNat*i.size))=⟨b,base+yV lo m k off te.size,none⟩:=by
      unfold yV
      cases lo with
      | none=>
        simp only [Ai,aW,Prod.mk.injEq] at hl
        obtain ⟨_,rfl⟩:=hl
        split
        .rfl
        .rw [bJ];simp
      | some y=>
        have e1:(m.toNat=k.toNat)<->m=k:=by omega
        by_cases Hc:m=k
        .simp only [if_pos (e1.2 Hc),if_pos Hc]
        .simp only [if_neg (fun q=>Hc (e1.1 q)),if_neg Hc];rw [bJ,cH,Nat.add_assoc]
     unfold execOp
     simp only [bZ,<- ex,Instr.sliceAt,Sem.run_bind,run_underlying hu w,Result.andThen_ok,Instr.sureAddr,Sem.run_pure,hr,run_sizeOf fV,tX]
   .cases he
  .cases he
 .rename_i l s off len cap ti hx eA
  split at he
  .rename_i el hd
   split at he
   .rename_i te sm m sh h sl k eG hm hh hl
    split at he
    .cases he
    .rename_i hxx
     simp only [dH] at he
     obtain ⟨ob,rT,rfl⟩:=he
     have hb:=gO rT ho
     have ex:=bI ht hg hx
     simp only [den,dH] at ex
     obtain ⟨⟨b,base⟩,hβ,ex⟩:=ex
     have hu:=(aU t ti eA).1
     rw [hd] at hu
     obtain ⟨_,i,z,fV,cH,_⟩:=aU el te eG
     have hr:=eV (P:=P) (w:=w) (a:=a) true len cap (fA ht hg hm) (fA ht hg hh) (fA ht hg hl) hxx hb
     refine bF (x:=.slice (some ⟨b,base+yV lo m k off te.size,none⟩) (h.toNat-k.toNat) (m.toNat-k.toNat)) ?_ (by simp [dU,den,hβ]) rfl rfl hT
     have tX:(if m.toNat=k.toNat then some (⟨b,base+off,none⟩:Addr) else (some (⟨b,base+off,none⟩:Addr)).map (·.add (k.toNat*i.size)))=some ⟨b,base+yV lo m k off te.size,none⟩:=by
      unfold yV
      cases lo with
      | none=>
        simp only [Ai,aW,Prod.mk.injEq] at hl
        obtain ⟨_,rfl⟩:=hl
        split
        .rfl
        .rw [gL,bJ];simp
      | some y=>
        have e1:(m.toNat=k.toNat)<->m=k:=by omega
        by_cases Hc:m=k
        .simp only [if_pos (e1.2 Hc),if_pos Hc]
        .simp only [if_neg (fun q=>Hc (e1.1 q)),if_neg Hc];rw [gL,bJ,cH,Nat.add_assoc]
     unfold execOp
     simp only [bZ,<- ex,Instr.sliceAt,Instr.slice,Sem.run_bind,run_underlying hu w,Result.andThen_ok,Sem.run_pure,hr,run_sizeOf fV,tX]
   .cases he
  .cases he
 .rename_i ti hx eA
  split at he
  .rename_i el hd
   split at he
   .rename_i te sm m sh h sl k eG hm hh hl
    split at he
    .cases he
    .rename_i hxx
     simp only [dH] at he
     obtain ⟨ob,rT,rfl⟩:=he
     have hb:=gO rT ho
     have ex:=bI ht hg hx
     simp only [den,aW] at ex
     have hu:=(aU t ti eA).1
     rw [hd] at hu
     obtain ⟨_,i,z,fV,cH,_⟩:=aU el te eG
     have hr:=eV (P:=P) (w:=w) (a:=a) true 0 0 (fA ht hg hm) (fA ht hg hh) (fA ht hg hl) hxx hb
     have e0:m.toNat=0/\h.toNat=0/\k.toNat=0:=by omega
     refine bF (x:=.slice none 0 0) ?_ rfl rfl rfl hT
     unfold execOp
     simp only [bZ,<- ex,Instr.sliceAt,Instr.slice,Sem.run_bind,run_underlying hu w,Result.andThen_ok,Sem.run_pure,hr,run_sizeOf fV,e0.1,e0.2.1,e0.2.2,if_true,Nat.sub_self]
   .cases he
  .cases he
 .rename_i l off len l0 ti hx eA
  split at he
  .rename_i el hd
   split at he
   .rename_i te sz cells ty0 h k eG hB hh hl
    have ex:=bI ht hg hx
    simp only [den,dH,gM] at ex
    obtain ⟨⟨b,base⟩,hβ,c,qE,ex⟩:=ex
    obtain ⟨cs,kD,b',cap,cur,hβ',hσ,_,_,_,⟨n,hn,CB⟩,_⟩:=hT.ok l _ (aR l _ hB)
    rw [hβ] at hβ'
    cases hβ'
    rw [hσ] at qE
    simp only [qJ,aW,sJ] at qE
    subst qE
    have hu:=(aU t ti eA).1
    rw [hd] at hu
    obtain ⟨_,i,z,fV,cH,_⟩:=aU el te eG
    have rV:=bH (show aJ V cells=some cs from kD)
    have aDj:(Nat.beq te.size sz&&Nat.blt 0 sz&&Nat.beq off (l0*sz)&&Nat.ble (off+len*sz) cells.length)=true->te.size=sz/\0<sz/\off=l0*sz/\l0+len<=cap:=by
     intro hq
     simp only [iN] at hq
     obtain ⟨⟨⟨q1,q2⟩,q3⟩,q4⟩:=hq
     have q1:=cP q1
     have q2:0<sz:=by simpa [Nat.blt_eq] using q2
     have q3:=cP q3
     have q4:=jX q4
     refine ⟨q1,q2,q3,Nat.le_trans ?_ CB⟩
     rw [<- rV,hn,q3,<- Nat.add_mul] at q4
     exact Nat.le_of_mul_le_mul_right q4 q2
    split at he
    .rename_i hq
     obtain ⟨q1,q2,q3,q4⟩:=aDj hq
     split at he
     .rename_i DC
      have Ef:=jP DC
      have hb:0<=k/\k<=h/\h<=((cap-l0:Nat):Int)/\(k<len\/k=0):=by
       refine ⟨Ef.1,Ef.2.1,?_,Ef.2.2.2⟩
       rcases Ef.2.2.1 with h1 | h1
       .omega
       .have h2:l0+h.toNat<=cap:=by
         refine Nat.le_trans ?_ CB
         rw [<- rV,hn,q3,<- Nat.add_mul] at h1
         exact Nat.le_of_mul_le_mul_right h1 q2
        omega
      simp only [aW] at he
      subst he
      have hr:=eV (P:=P) (w:=w) (a:=a) true len (cap-l0) (lo:=lo) (hi:=hi) (mx:=none) (m:=((cap-l0:Nat):Int)) (.inl ⟨rfl,rfl⟩) (fA ht hg hh) (fA ht hg hl) rfl (by omega)
      simp only [sJ] at hr
      have tX:(if cap-l0=k.toNat then some (⟨b,0+off,none⟩:Addr) else (some (⟨b,0+off,none⟩:Addr)).map (·.add (k.toNat*sz)))=some ⟨b,0+(off+k.toNat*sz),none⟩:=by
       by_cases hk:k.toNat=0
       .rw [hk];split
        .simp
        .rw [gL,bJ];simp
       .rw [if_neg (by omega),gL,bJ,Nat.add_assoc]
      refine bF (x:=.slice (some ⟨b,0+(off+k.toNat*sz),none⟩) (h.toNat-k.toNat) (cap-(l0+k.toNat))) ?_ (by simp [den,hβ,hσ,qJ]) rfl rfl hT
      unfold execOp
      simp only [bZ,<- ex,Instr.sliceAt,Instr.slice,Sem.run_bind,run_underlying hu w,Result.andThen_ok,Sem.run_pure,hr,run_sizeOf fV,cH,q1,tX]
      rw [Nat.sub_add_eq]
     .cases he
    .rename_i y hq
     obtain ⟨q1,q2,q3,q4⟩:=aDj hq
     split at he
     .rename_i m hm his
      split at he
      .rename_i DC
       have hb:=jP DC
       simp only [aW] at he
       subst he
       have kM:(some y=none/\m=((cap-l0:Nat):Int))\/∃ y' kk,some y=some y'/\a.eval y' = .int kk m:=by
        rcases fA ht hg hm with ⟨h1,_⟩ | h1
        .cases h1
        .exact .inr h1
       have hr:=eV (P:=P) (w:=w) (a:=a) true len (cap-l0) (lo:=lo) (hi:=hi) (mx:=some y) (m:=m) kM (fA ht hg hh) (fA ht hg hl) (by simpa using his) (by omega)
       have tX:(if m.toNat=k.toNat then some (⟨b,0+off,none⟩:Addr) else (some (⟨b,0+off,none⟩:Addr)).map (·.add (k.toNat*sz)))=some ⟨b,0+yV lo m k off sz,none⟩:=by
        unfold yV
        cases lo with
        | none=>
          simp only [Ai,aW,Prod.mk.injEq] at hl
          obtain ⟨_,rfl⟩:=hl
          split
          .rfl
          .rw [gL,bJ];simp
        | some y=>
          have e1:(m.toNat=k.toNat)<->m=k:=by omega
          by_cases Hc:m=k
          .simp only [if_pos (e1.2 Hc),if_pos Hc]
          .simp only [if_neg (fun q=>Hc (e1.1 q)),if_neg Hc];rw [gL,bJ,Nat.add_assoc]
       refine bF (x:=.slice (some ⟨b,0+yV lo m k off sz,none⟩) (h.toNat-k.toNat) (m.toNat-k.toNat)) ?_ (by simp [den,hβ]) rfl rfl hT
       unfold execOp
       simp only [bZ,<- ex,Instr.sliceAt,Instr.slice,Sem.run_bind,run_underlying hu w,Result.andThen_ok,Sem.run_pure,hr,run_sizeOf fV,cH,q1,tX]
      .cases he
     .cases he
    .cases he
   .cases he
  .cases he
 .rename_i l ti hx eA
  split at he
  .rename_i el hd
   split at he
   .rename_i te k0 xs ty0 eG hB
    split at he
    .rename_i sh h sl k hh hl gF
     simp only [dU,aW] at he
     subst he
     have hb:0<=k/\k<=h/\h<=xs.length:=ho _ (by simp)
     have ex:=bI ht hg hx
     obtain ⟨cs,hc,u,hσ,bT⟩:=hT.ok l _ (aR l _ hB)
     simp only [den,hσ,aW] at ex
     have hu:=(aU t ti eA).1
     rw [hd] at hu
     obtain ⟨_,i,z,fV,cH,_⟩:=aU el te eG
     have aEq:i.size=1:=by rw [cH];exact cP gF
     obtain ⟨A,cap,hA,qE⟩:∃ A cap,u = .slice A xs.length cap/\xs.length<=cap:=by
      rcases bT.1.2 with ⟨rfl,h0⟩ | ⟨gb,cap,cur,rfl,_,_,hle,_⟩
      .exact ⟨none,0,by rw [h0],by omega⟩
      .exact ⟨_,cap,rfl,hle⟩
     subst hA
     have hr:=eV (P:=P) (w:=w) (a:=a) true xs.length cap (lo:=lo) (hi:=hi) (mx:=none) (m:=cap) (.inl ⟨rfl,rfl⟩) (fA ht hg hh) (fA ht hg hl) rfl (by omega)
     simp only [Option.map_none,sJ] at hr
     refine bF (x:=.slice (if cap=k.toNat then A else A.map (·.add k.toNat)) (h.toNat-k.toNat) (cap-k.toNat)) ?_ (by simp [den,hσ]) rfl rfl hT
     unfold execOp
     simp only [bZ,<- ex,Instr.sliceAt,Instr.slice,Sem.run_bind,run_underlying hu w,Result.andThen_ok,Sem.run_pure,hr,run_sizeOf fV,aEq,Nat.mul_one,Option.map_none]
    .cases he
   .cases he
  .cases he
 .cases he
def Ja (Γ:Env) (g:Nat->Option SV) (T:aX) (t:TypeId) (x:Operand) (lo hi mx:Option Operand) (lab:Nat):Option bK:=
 match ev Γ g x,Γ.ty t,mx with
 | some (.iH l n),some ti,none=>match ti.desc with
   | .slice el=>match Γ.ty el,T l,Ai Γ g hi false n,Ai Γ g lo true 0 with
     | some te,some (.gC k xs),some (_,h),some (_,j)=>match Nat.beq te.size 1 with
       | true=>some { bO:=[0<=j/\j<=h/\h<=n],val:=.iH lab (h.toNat-j.toNat),new:=[.gC k ((xs.drop j.toNat).take (h.toNat-j.toNat))] }
       | false=>none
     | _,_,_,_=>none
   | _=>none
 | _,_,_=>none
theorem Sh (aU:cD P Γ) (ht:cJ V g a) (hg:bR Γ V) {T':aX} (aR:∀ l B,T' l=some B->T l=some B) (hT:aD w0 M V T w) {t:TypeId} {x:Operand} {lo hi mx:Option Operand} (bZ:o.op = .slice t x lo hi mx) {lab:Nat} (hf:V.fresh lab)
 (he:Ja Γ g T' t x lo hi mx lab=some e) (ho:∀ q∈e.bO,q):lB P w0 M V T lab e o a w:=by
 unfold Ja at he
 split at he
 case h_2=>cases he
 rename_i l n ti hx eA
 split at he
 case h_2=>cases he
 rename_i el hd
 split at he
 case h_2=>cases he
 rename_i te k xs sh h sj j eG hB hh hj
 split at he
 case h_2=>cases he
 rename_i iK
 have iK:=cP iK
 simp only [aW] at he
 subst he
 have hb:0<=j/\j<=h/\h<=n:=ho _ (by simp)
 have ex:=bI ht hg hx
 simp only [den,gM] at ex
 obtain ⟨v,hσ,ex⟩:=ex
 obtain ⟨exv,hv⟩:=kA ex
 obtain ⟨cs,hc,v',gN,bT⟩:=hT.ok l _ (aR l _ hB)
 rw [hσ] at gN
 cases gN
 simp only [SB.cells,aW] at hc
 subst hc
 have hu:=(aU t ti eA).1
 rw [hd] at hu
 obtain ⟨_,i,z,fV,cH,_⟩:=aU el te eG
 obtain ⟨y,gW,Fh,hy3,hy4⟩:∃ y:Value,(execOp a.eval o).run P w = .ok (.value y) w/\rX (h.toNat-j.toNat) y=some y/\(∀ m,iD y=some m->iD v=some m) /\
  ((Yi y/\(xs.drop j.toNat).take (h.toNat-j.toNat)=[])\/∃ b o c,y = .slice (some ⟨b,o,none⟩) ((xs.drop j.toNat).take (h.toNat-j.toNat)).length c/\b<w.heap.size/\((xs.drop j.toNat).take (h.toNat-j.toNat)).length<=c/\∀ (i:Nat) (u:Value),(((xs.drop j.toNat).take (h.toNat-j.toNat)).map (Value.int k))[i]?=some u->w.cell? ⟨b,o+i,none⟩=some u):=by
  rcases bT with ⟨⟨ad,rfl⟩,rfl⟩ | ⟨b,base,c,rfl,cM,hle,fP⟩
  .have hn:n=0:=by
    rcases hv with ⟨_,h0⟩ | ⟨_,_,_,h0,_⟩
    .exact h0
    .injection h0 with _ h0 _;exact h0.symm
   subst hn
   have hr:=eV (P:=P) (w:=w) (a:=a) true 0 0 (mx:=none) (m:=((0:Nat):Int)) (.inl ⟨rfl,rfl⟩) (fA ht hg hh) (fA ht hg hj) rfl (by omega)
   have e0:h.toNat=0/\j.toNat=0:=by omega
   refine ⟨.slice ad 0 0,?_,by cases ad <;> simp [rX,e0.1,e0.2],fun m hm=>hm,.inl ⟨⟨_,rfl⟩,by simp⟩⟩
   unfold execOp
   simp only [bZ,exv,Option.map_none,Instr.sliceAt,Instr.slice,Sem.run_bind,run_underlying hu w,Result.andThen_ok,Sem.run_pure,run_sizeOf fV] at hr |-
   simp only [hr,Result.andThen_ok,e0.1,e0.2,if_true,Nat.sub_self,sJ]
  .have hn:n=xs.length:=by
    rcases hv with ⟨⟨_,h0⟩,h1⟩ | ⟨_,_,_,h0,_⟩
    .injection h0 with _ h0 _;omega
    .injection h0 with _ h0 _;exact h0.symm
   subst hn
   have hr:=eV (P:=P) (w:=w) (a:=a) true xs.length c (lo:=lo) (hi:=hi) (mx:=none) (m:=(c:Int)) (h:=h) (k:=j) (.inl ⟨rfl,rfl⟩) (fA ht hg hh) (fA ht hg hj) rfl ⟨by omega,by omega,by omega,by omega,by omega,by omega⟩
   have hlen:((xs.drop j.toNat).take (h.toNat-j.toNat)).length=h.toNat-j.toNat:=by simp;omega
   refine ⟨.slice (if c=j.toNat then some ⟨b,base,none⟩ else some ⟨b,base+j.toNat,none⟩) (h.toNat-j.toNat) (c-j.toNat),?_,?_,?_,.inr ?_⟩
   .have tX:(if c=j.toNat then some (⟨b,base,none⟩:Addr) else (some (⟨b,base,none⟩:Addr)).map (·.add (j.toNat*te.size)))=(if c=j.toNat then some ⟨b,base,none⟩ else some ⟨b,base+j.toNat,none⟩):=by
     split
     .rfl
     .rw [gL,bJ,iK,Nat.mul_one]
    unfold execOp
    simp only [bZ,exv,Option.map_none,Instr.sliceAt,Instr.slice,Sem.run_bind,run_underlying hu w,Result.andThen_ok,Sem.run_pure,run_sizeOf fV] at hr |-
    simp only [hr,Result.andThen_ok,cH,sJ,tX]
   .by_cases BJ:c=j.toNat
    .rw [if_pos BJ];unfold rX;exact if_pos ⟨rfl,by omega,.inr rfl⟩
    .rw [if_neg BJ];unfold rX;exact if_pos ⟨rfl,by omega,.inr rfl⟩
   .intro m hm
    by_cases BJ:c=j.toNat
    .rw [BJ,Nat.sub_self] at hm;cases hm
    .rw [if_neg BJ] at hm
     obtain ⟨m',rfl⟩:∃ m,c=m+1:=⟨c-1,by omega⟩
     exact fC hm
   .by_cases BJ:c=j.toNat
    .refine ⟨b,base,c-j.toNat,by rw [hlen,if_pos BJ],cM,by omega,fun i u hi=>?_⟩
     have:h.toNat-j.toNat=0:=by omega
     rw [this] at hi
     simp at hi
    .refine ⟨b,base+j.toNat,c-j.toNat,by rw [hlen,if_neg BJ],cM,by omega,fun i u hi=>?_⟩
     rw [Nat.add_assoc]
     apply fP
     simp only [List.map_take,List.map_drop,List.getElem?_take] at hi
     split at hi
     .rwa [List.getElem?_drop] at hi
     .cases hi
 intro K Q hK
 unfold Oper.wp
 rw [gW,Oper.upon_value]
 refine hK (V.bC lab y) y w (bA.cG hf lab (cT _) (by omega) y) ?_ ?_
 .simp [den,bA.bC,Fh]
 .refine hT.step (N:=fun m=>if m=lab then some (.gC k ((xs.drop j.toNat).take (h.toNat-j.toNat))) else none) (bA.cG hf lab (cT _) (by omega) y).1 (fun m C hm=>?_) (fun m C hm=>?_) (fun m C q hm hq=>?_) (fun m C m' C' q dI hm kM tP _=>?_) (cT _) (fun _ _ _=>rfl) rfl rfl rfl
  .unfold eT bK.eW at hm
   simp only [gE,mZ,look] at hm
   by_cases e:m=lab
   .subst e
    left
    simpa using hm
   .right
    refine ⟨if_neg e,?_⟩
    have:Nat.beq lab m=false:=by
     cases lA:Nat.beq lab m with
     | false=>rfl
     | true=>exact absurd (cP lA).symm e
    simpa [this] using hm
  .split at hm
   .rename_i e
    subst e
    cases hm
    exact ⟨_,rfl,y,by simp [bA.bC],hy4⟩
   .cases hm
  .split at hm
   .rename_i e
    subst e
    cases hm
    refine .inr (.inr ⟨rfl,fun l2 B2 hn2 rU tP lA=>?_⟩)
    simp only [SB.aT,bA.bC,if_pos,lI] at hq
    have hq':=hy3 q hq
    have dI:l2≠l:=fun e=>by subst e;rw [aR _ _ hB] at rU;cases rU;cases tP
    exact hT.iY l2 B2 l _ q dI rU (aR _ _ hB) tP lA (by simp [SB.aT,hσ,hq'])
   .cases hm
  .split at hm
   .cases hm;cases tP
   .cases hm
def Jb (Γ:Env) (g:Nat->Option SV) (T:aX) (t:TypeId) (x:Operand) (lo hi mx:Option Operand) (lab:Nat):Option bK:=
 match ev Γ g x,Γ.ty t,lo,hi,mx with
 | some (.iZ l off),some ti,none,none,none=>match ti.desc with
   | .array n el=>match Γ.ty el,T l,Nat.beq off 0 with
     | some te,some (.gC k xs),true=>match Nat.beq te.size 1,Nat.blt 0 n with
       | true,true=>some { bO:=[n<=xs.length],val:=.iH lab n,new:=[.gC k (xs.take n)] }
       | _,_=>none
     | _,_,_=>none
   | _=>none
 | _,_,_,_,_=>none
theorem Si (aU:cD P Γ) (ht:cJ V g a) (hg:bR Γ V) {T':aX} (aR:∀ l B,T' l=some B->T l=some B) (hT:aD w0 M V T w) {t:TypeId} {x:Operand} {lo hi mx:Option Operand} (bZ:o.op = .slice t x lo hi mx) {lab:Nat} (hf:V.fresh lab)
 (he:Jb Γ g T' t x lo hi mx lab=some e) (ho:∀ q∈e.bO,q):lB P w0 M V T lab e o a w:=by
 unfold Jb at he
 split at he
 case h_2=>cases he
 rename_i l off ti hx eA
 split at he
 case h_2=>cases he
 rename_i n el hd
 split at he
 case h_2=>cases he
 rename_i te k xs eG hB tX
 split at he
 case h_2=>cases he
 rename_i iK Ob
 have iK:=cP iK
 have tX:=cP tX
 subst tX
 have Ob:0<n:=by simpa [Nat.blt_eq] using Ob
 simp only [aW] at he
 subst he
 have hb:n<=xs.length:=ho _ (by simp)
 have ex:=bI ht hg hx
 obtain ⟨cs,hc,v,hσ,bT⟩:=hT.ok l _ (aR l _ hB)
 simp only [SB.cells,aW] at hc
 subst hc
 simp only [den,hσ] at ex
 rcases bT with ⟨_,rfl⟩ | ⟨b,base,c,rfl,cM,hle,fP⟩
 .simp at hb;omega
 have ex:Value.pointer (some (⟨b,base,none⟩:Addr))=a.eval x:=by
  have e0:(⟨b,base,none⟩:Addr).add 0=⟨b,base,none⟩:=by simp [Addr.add]
  rw [<- e0];simpa using ex
 have hu:=(aU t ti eA).1
 rw [hd] at hu
 obtain ⟨_,i,z,fV,cH,_⟩:=aU el te eG
 have hr:=eV (P:=P) (w:=w) (a:=a) false n n (lo:=none) (hi:=none) (mx:=none) (m:=(n:Int)) (h:=(n:Int)) (k:=((0:Nat):Int)) (.inl ⟨rfl,rfl⟩) (.inl ⟨rfl,rfl⟩) (.inl ⟨rfl,rfl⟩) rfl (by omega)
 have hml:(xs.take n).length=n:=by rw [List.length_take];omega
 intro K Q hK
 unfold Oper.wp
 have gW:(execOp a.eval o).run P w = .ok (.value (.slice (some ⟨b,base,none⟩) n n)) w:=by
  unfold execOp
  simp only [Option.map_none] at hr
  simp only [bZ,<- ex,Option.map_none,Instr.sliceAt,Sem.run_bind,run_underlying hu w,Result.andThen_ok,Instr.sureAddr,Sem.run_pure,hr,run_sizeOf fV,sJ,Nat.sub_zero,Nat.zero_mul]
  have dI:¬ n=0:=by omega
  simp [dI,Addr.add]
 rw [gW,Oper.upon_value]
 refine hK (V.bC lab (.slice (some ⟨b,base,none⟩) n n)) _ w (bA.cG hf lab (cT _) (by omega) _) ?_ ?_
 .simp only [den,bA.bC,if_pos,lI]
  unfold rX
  exact if_pos ⟨rfl,cT n,.inr rfl⟩
 .refine hT.step (N:=fun m=>if m=lab then some (.gC k (xs.take n)) else none) (bA.cG hf lab (cT _) (by omega) _).1 (fun m C hm=>?_) (fun m C hm=>?_) (fun m C q hm hq=>?_) (fun m C m' C' q dI hm kM tP _=>?_) (cT _) (fun _ _ _=>rfl) rfl rfl rfl
  .unfold eT bK.eW at hm
   simp only [gE,mZ,look] at hm
   by_cases e:m=lab
   .subst e
    left
    simpa using hm
   .right
    refine ⟨if_neg e,?_⟩
    have:Nat.beq lab m=false:=by
     cases lA:Nat.beq lab m with
     | false=>rfl
     | true=>exact absurd (cP lA).symm e
    simpa [this] using hm
  .split at hm
   .rename_i e
    subst e
    cases hm
    refine ⟨_,rfl,.slice (some ⟨b,base,none⟩) n n,by simp [bA.bC],.inr ⟨b,base,n,by rw [hml],cM,by rw [hml];exact cT n,fun i u hi=>?_⟩⟩
    apply fP
    rw [List.map_take,List.getElem?_take] at hi
    split at hi
    .exact hi
    .cases hi
   .cases hm
  .split at hm
   .rename_i e
    subst e
    cases hm
    refine .inr (.inr ⟨rfl,fun l2 B2 hn2 rU tP lA=>?_⟩)
    simp only [SB.aT,bA.bC,if_pos,lI] at hq
    have hq':=fC hq
    have dI:l2≠l:=fun e=>by subst e;rw [aR _ _ hB] at rU;cases rU;cases tP
    have hqb:iD (.slice (some ⟨b,base,none⟩) xs.length c)=some q:=by
     obtain ⟨m',rfl⟩:∃ m,c=m+1:=⟨c-1,by omega⟩
     exact hq'
    exact hT.iY l2 B2 l _ q dI rU (aR _ _ hB) tP lA (by simp [SB.aT,hσ,hqb])
   .cases hm
  .split at hm
   .cases hm;cases tP
   .cases hm
end He
section He
variable {P:Program} {Γ:Env} {V:bA} {w w0:World} {M:Nat->Prop} {T:aX} {g:Nat->Option SV} {a:Act} {o:Oper} {e:bK}
def tK (Γ:Env) (g:Nat->Option SV) (t:TypeId) (x y:Operand) (lab:Nat):Option bK:=
 match ev Γ g x,ev Γ g y,Γ.ty t with
 | some (.int sx _ n),some (.int sy _ c),some ti=>match ti.desc with
   | .slice el=>match Γ.ty el with
     | some te=>match rY (sx&&sy) (0<=n/\n<=c/\(te.bytes:Int)*c<=2^48/\c<2^63) with
       | some ob=>match te.zero,Nat.beq te.size 1 with
         | [.int _ k z],true=>match sx&&sy with
           | true=>some { bO:=ob,val:=.aH lab true 0 n.toNat c.toNat,new:=[.own (List.replicate c.toNat (.int true k z)) el] }
           | false=>some { bO:=ob,val:=.aH lab sx 0 n.toNat c.toNat,new:=[.ints k (List.replicate c.toNat z) el] }
         | _,_=>none
       | none=>none
     | none=>none
   | _=>none
 | _,_,_=>none
theorem rO {n:Int} (h1 : -(2^63)<=n) (h2:n<2^63):IntKind.i64.wrap n=n:=by
 have e:IntKind.i64.wrap n=if (n%2^64:Int)>=2^63 then n%2^64-2^64 else n%2^64:=by
  simp [IntKind.wrap,IntKind.bits,IntKind.signed]
 rw [e]
 split <;> omega
theorem wI {t el:TypeId} {i:TypeInfo} {u:Value} {zv:Value} {kx ky:IntKind} {n c:Int} (hu:P.underlying t=some (.slice el)) (hi:P.info? el=some i) (hz:i.zero=some zv) (Dw:zv.cells = #[u]) (hs:i.size=1)
 (h:0<=n/\n<=c/\(i.bytes:Int)*c<=2^48/\c<2^63) :
 (Instr.makeSlice t (.int kx n) (.int ky c)).run P w = .ok (.slice (some ⟨w.heap.size,0,none⟩) n.toNat c.toNat) (w.alloc (.cells (List.replicate c.toNat (u)).toArray el)):=by
 obtain ⟨h1,h2,h3,h4⟩:=h
 have en:IntKind.i64.wrap n=n:=rO (by omega) (by omega)
 have ec:IntKind.i64.wrap c=c:=rO (by omega) (by omega)
 have eA:(typeInfo el).run P w = .ok i w:=by simp [typeInfo,hi]
 have cC:((Array.range (c.toNat*1)).map fun j=>(#[u]:Array Value)[j%(#[u]:Array Value).size]!)=(List.replicate c.toNat (u)).toArray:=by
  apply Array.ext'
  simp only [Nat.mul_one,Array.toList_map,Array.toList_range]
  apply List.ext_getElem
  .simp
  .intro j h1 h2
   simp [Nat.mod_one]
 have Bv:(c<0||(i.bytes:Int)*c>2^48||n<0||n>c)=false:=by simp;omega
 unfold Instr.makeSlice
 simp only [Sem.run_bind,run_underlying hu w,Result.andThen_ok,asInt,asIntOf,Sem.run_pure,eA,en,ec,Bv,Bool.false_eq_true,if_false,run_askRoom,run_sizeOf hi,hs]
 by_cases Ae:c.toNat*1=0
 .have:c.toNat=0:=by omega
  simp [this,newRow,show Array.range 0 = #[] from rfl]
 .simp only [if_neg Ae,Sem.run_bind,dZ hi hz,Result.andThen_ok,Sem.run_pure,Dw,cC,newRow,run_newObj,World.alloc_eq]
theorem Fa (aU:cD P Γ) (ht:cJ V g a) (hg:bR Γ V) (hT:aD w0 M V T w) {t:TypeId} {x y:Operand} (bZ:o.op = .makeSlice t x y) {lab:Nat} (hf:V.fresh lab) (he:tK Γ g t x y lab=some e) (ho:∀ q∈e.bO,q):lB P w0 M V T lab e o a w:=by
 unfold tK at he
 split at he
 .rename_i sx kx n sy ky c ti hx hy eA
  split at he
  .rename_i el hd
   split at he
   .rename_i te eG
    split at he
    .rename_i ob rT
     have ex:=bI ht hg hx
     have ey:=bI ht hg hy
     simp only [den,aW] at ex ey
     have hu:=(aU t ti eA).1
     rw [hd] at hu
     obtain ⟨_,i,zv,hi,cH,RF,hz,hzero⟩:=aU el te eG
     split at he
     .rename_i sz k z hzz gF
      have iK:i.size=1:=by rw [cH];exact cP gF
      have Dw:zv.cells = #[.int k z]:=by
       have:=hzero V
       rw [hzz] at this
       simp only [aJ,den,lI,gL,aW] at this
       rw [<- Array.toList_inj,<- this]
      have aXb:∀ q∈ob,q:=by split at he <;> (cases he;exact ho)
      have hb:=gO rT aXb
      rw [<- RF] at hb
      have dY:=wI (P:=P) (w:=w) (kx:=kx) (ky:=ky) hu hi hz Dw iK hb
      have aRt:(execOp a.eval o).run P w = .ok (.value (.slice (some ⟨w.heap.size,0,none⟩) n.toNat c.toNat)) (w.alloc (.cells (List.replicate c.toNat (Value.int k z)).toArray el)):=by
       unfold execOp
       simp only [bZ,<- ex,<- ey,Sem.run_bind,dY,Result.andThen_ok,Sem.run_pure]
      intro K Q hK
      unfold Oper.wp
      rw [aRt,Oper.upon_value]
      split at he
      .cases he
       have hc:aJ V (List.replicate c.toNat (.int true k z))=some (List.replicate c.toNat (Value.int k z)):=by
        generalize c.toNat=m
        induction m with
        | zero=>simp [aJ]
        | succ m ih=>simp [List.replicate_succ,aJ,den,ih]
       exact hK _ _ _ (bA.kB hf lab (cT _) (by omega) _) (by simp [den,bA.put]) (hT.alloc hf (B:=.own _ el) (.inl rfl) hc _ _)
      .cases he
       exact hK _ _ _ (bA.kB hf lab (cT _) (by omega) _) (by simp [den,bA.put]) (hT.alloc hf (B:=.ints k _ el) (.inr (.inl rfl)) (by simp [SB.cells]) _ _)
     .cases he
    .cases he
   .cases he
  .cases he
 .cases he
theorem Jp (vs:List Value):∀ (cells:Array Value) (off j0:Nat),off+j0+vs.length<=cells.size ->
 ((vs.zipIdx j0).foldl (fun cs (p:Value × Nat)=>cs.setIfInBounds (off+p.2) p.1) cells).toList=cells.toList.take (off+j0)++vs++cells.toList.drop (off+j0+vs.length):=by
 induction vs with
 | nil=>intro cells off j0 _;simp
 | cons v vs ih=>
   intro cells off j0 h
   simp only [List.length_cons] at h
   simp only [List.zipIdx_cons,List.foldl_cons]
   rw [ih (cells.setIfInBounds (off+j0) v) off (j0+1) (by simp;omega)]
   have e:=list_seg_step cells.toList (off+j0) v vs (by simp;omega)
   simpa [Array.toList_setIfInBounds,Nat.add_assoc] using e
def Bw (T:aX) (place:Nat->Option (Nat × Nat)) (cells:List SV):List (Nat × SV)->Option (List SV)
 | []=>some cells
 | (i,v)::rest=>match place i with
   | none=>none
   | some (off,size)=>match Nat.beq (cellsOf v).length size,Bl T (cellsOf v),Nat.ble (off+(cellsOf v).length) cells.length with
     | true,true,true=>Bw T place (cells.take off++cellsOf v++cells.drop (off+(cellsOf v).length)) rest
     | _,_,_=>none
theorem wA {T':aX} (aR:∀ l B,T' l=some B->T l=some B) (hT:aD w0 M V T w) {place:Nat->Option (Nat × Nat)}:∀ {parts:List (Nat × SV)} {eN:List (Nat × Value)} {cells:List SV} {cs:List Value} {r:List SV},
 Bw T' place cells parts=some r->aJ V cells=some cs->eN.map (·.1)=parts.map (·.1)->aJ V (parts.map (·.2))=some (eN.map (·.2)) ->
 ∃ rs,Instr.fill place cs.toArray eN=some rs/\aJ V r=some rs.toList
 | [],eN,cells,cs,r,h,hc,h1,_=>by
   simp only [Bw,aW] at h
   subst h
   have:eN=[]:=by simpa using h1
   subst this
   exact ⟨cs.toArray,rfl,by simpa using hc⟩
 | (i,v)::rest,eN,cells,cs,r,h,hc,h1,h2=>by
   obtain ⟨⟨i',x⟩,bAn,rfl⟩:∃ p l,eN=p::l:=by cases eN with | nil=>simp at h1 | cons p l=>exact ⟨p,l,rfl⟩
   simp only [List.map_cons,List.cons.injEq] at h1
   obtain ⟨rfl,h1⟩:=h1
   simp only [List.map_cons,aJ,dH,gM] at h2
   obtain ⟨x',hx,ys,hy,h2⟩:=h2
   simp only [List.cons.injEq] at h2
   obtain ⟨rfl,rfl⟩:=h2
   simp only [Bw] at h
   split at h
   .cases h
   .rename_i off size hp
    split at h
    .rename_i gF jB hle
     have aWu:=cP gF
     have SY:=jX hle
     have cC:=qZ aR hT jB hx
     have hlen:=bH cC
     have bAq:=bH hc
     have CY:=cK (cK (dW off hc) cC) (gU (off+(cellsOf v).length) hc)
     obtain ⟨rs,Xd,hd⟩:=wA aR hT h CY h1 hy
     refine ⟨rs,?_,hd⟩
     have nL:x'.cells.size=(cellsOf v).length:=by rw [<- hlen];simp
     have Bv:(x'.cells.size≠size||off+x'.cells.size>cs.toArray.size)=false:=by
      simp [nL,aWu];omega
     have hsp:=Jp x'.cells.toList cs.toArray off 0 (by simp;omega)
     have bAp:(x'.cells.zipIdx.foldl (fun cs (p:Value × Nat)=>cs.setIfInBounds (off+p.2) p.1) cs.toArray)=(cs.take off++x'.cells.toList++cs.drop (off+(cellsOf v).length)).toArray:=by
      apply Array.ext'
      have e:x'.cells.zipIdx.foldl (fun cs (p:Value × Nat)=>cs.setIfInBounds (off+p.2) p.1) cs.toArray=(x'.cells.toList.zipIdx 0).foldl (fun cs (p:Value × Nat)=>cs.setIfInBounds (off+p.2) p.1) cs.toArray:=by
       rw [<- Array.foldl_toList,Array.toList_zipIdx]
      rw [e,hsp]
      simp [nL]
     unfold Instr.fill
     simp only [hp,Bv,Bool.false_eq_true,if_false]
     rw [<- Xd]
     congr 1
    .cases h
end He
section He
variable {P:Program} {Γ:Env} {V:bA} {w w0:World} {M:Nat->Prop} {T:aX} {g:Nat->Option SV} {a:Act} {o:Oper} {e:bK}
def Xn (T:aX) (k:IntKind):SV->Option (List Prop × List Int)
 | .aH l s off len _=>match T l with
   | some (.ints k2 xs _)=>match decide (k=k2) with
     | true=>some ([off+len<=xs.length],(xs.drop off).take len)
     | false=>none
   | some (.nT k2 xs)=>match decide (k=k2) with
     | true=>some ([off+len<=xs.length],(xs.drop off).take len)
     | false=>none
   | some B=>match Tc B s off len with
     | some (ob,r)=>(cU k r).map fun ns=>(ob,ns)
     | none=>none
   | none=>none
 | .buf l=>match T l with
   | some (.dF k2 xs _)=>match decide (k=k2) with
     | true=>some ([],xs)
     | false=>none
   | _=>none
 | .mG l lo hi=>match T l with
   | some (.dF k2 xs _)=>match decide (k=k2) with
     | true=>some ([lo<=hi/\hi<=xs.length],(xs.drop lo).take (hi-lo))
     | false=>none
   | _=>none
 | .raw (.slice none 0 0)=>some ([],[])
 | .iH l _=>match T l with
   | some (.gC k2 xs)=>match decide (k=k2) with
     | true=>some ([],xs)
     | false=>none
   | _=>none
 | _=>none
def Um (w:World) (x:Value) (cs:List Value):Prop:=
 (x = .slice none 0 0/\cs=[])\/∃ ad c,x = .slice (some ad) cs.length c/\∀ (j:Nat) (u:Value),cs[j]?=some u->w.cell? (ad.add j)=some u
theorem uN {k:IntKind} {v:SV} {x:Value} {ob:List Prop} {ys:List Int} (hT:aD w0 M V T w) (hv:den V v=some x) (h:Xn T k v=some (ob,ys)) (ho:∀ q∈ob,q) :
 Um w x (ys.map (Value.int k)):=by
 have rd:∀ (l:Nat) (B:SB) (s:Bool) (off len c:Nat) (r:List SV) (p:Nat × Nat),T l=some B->V.β l=some p->Tc B s off len=some (ob,r)->aJ V r=some (ys.map (Value.int k)) ->
  Um w (.slice (some ⟨p.1,p.2+off,none⟩) len c) (ys.map (Value.int k)):=by
  intro l B s off len c r p hB hβ hr hd
  obtain ⟨xs,h1,h2,h3⟩:=oX (hT.ok l B hB) (b:=p.1) (o:=p.2) hβ hr ho
  rw [hd] at h1
  cases h1
  exact .inr ⟨_,c,by rw [h2],fun j u hj=>by rw [bJ];exact h3 j u hj⟩
 have aMt:∀ (l:Nat) (B:SB) (xs:List Int) (off len c:Nat) (p:Nat × Nat),(B = .ints k xs (match B with | .ints _ _ ty=>ty | _=>0)\/B = .nT k xs)->T l=some B->V.β l=some p->off+len<=xs.length->ys=(xs.drop off).take len ->
  Um w (.slice (some ⟨p.1,p.2+off,none⟩) len c) (ys.map (Value.int k)):=by
  intro l B xs off len c p hBk hB hβ hle pY
  have hr:Tc B false off len=some ([off+len<=xs.length],(List.range len).map fun j=>.int false k (xs.getD (off+j) 0)):=by
   rcases hBk with e | e <;> rw [e] <;> rfl
  obtain ⟨zs,h1,h2,h3⟩:=oX (hT.ok l B hB) (b:=p.1) (o:=p.2) hβ hr (by intro q hq;simp only [List.mem_singleton] at hq;subst hq;exact hle)
  have hd:=fM (V:=V) len (fun j=>.int false k (xs.getD (off+j) 0)) (fun j=>.int k (xs.getD (off+j) 0)) (fun j _=>rfl)
  rw [hd] at h1
  cases h1
  have e:(List.range len).map (fun j=>Value.int k (xs.getD (off+j) 0))=ys.map (Value.int k):=by
   subst pY
   apply List.ext_getElem
   .simp;omega
   .intro j h4 h5
    simp only [List.length_map,List.length_range] at h4
    have h6:off+j<xs.length:=by omega
    simp [gY,h6]
  rw [e] at h3
  have hlen:len=(ys.map (Value.int k)).length:=by rw [<- e];simp
  exact .inr ⟨_,c,by rw [<- hlen],fun j u hj=>by rw [bJ];exact h3 j u hj⟩
 unfold Xn at h
 split at h
 .rename_i l s off len c
  simp only [den,dH] at hv
  obtain ⟨p,hβ,rfl⟩:=hv
  split at h
  .rename_i k2 xs ty hB
   split at h
   .rename_i hd
    have:=jP hd
    subst this
    simp only [aW,Prod.mk.injEq] at h
    obtain ⟨rfl,rfl⟩:=h
    exact aMt l _ xs off len c p (.inl rfl) hB hβ (ho _ (by simp)) rfl
   .cases h
  .rename_i k2 xs hB
   split at h
   .rename_i hd
    have:=jP hd
    subst this
    simp only [aW,Prod.mk.injEq] at h
    obtain ⟨rfl,rfl⟩:=h
    exact aMt l _ xs off len c p (.inr rfl) hB hβ (ho _ (by simp)) rfl
   .cases h
  .rename_i B _ _ hB
   split at h
   .rename_i ob' r hr
    simp only [dH,Prod.mk.injEq] at h
    obtain ⟨ns,hns,rfl,rfl⟩:=h
    exact rd l B s off len c r p hB hβ hr (cS hns)
   .cases h
  .cases h
 .rename_i l
  split at h
  .rename_i k2 xs ty hB
   split at h
   .rename_i hd
    have:=jP hd
    subst this
    simp only [aW,Prod.mk.injEq] at h
    obtain ⟨rfl,rfl⟩:=h
    obtain ⟨cs,hc,u,hσ,bT⟩:=hT.ok l _ hB
    simp only [SB.cells,aW] at hc
    subst hc
    simp only [den,hσ,aW] at hv
    subst hv
    rcases bT.1.2 with ⟨rfl,h0⟩ | ⟨gb,cap,cur,rfl,_,hh,_,_,_,dG⟩
    .have:xs=[]:=List.eq_nil_of_length_eq_zero h0
     subst this
     exact .inl ⟨rfl,rfl⟩
    .refine .inr ⟨⟨gb,0,none⟩,cap,by simp,fun j u hj=>?_⟩
     rw [bJ,cell_of_row w gb _ _ _ _ hh]
     rw [<- dG,List.getElem?_take] at hj
     split at hj
     .simpa using hj
     .cases hj
   .cases h
  .cases h
 .rename_i l lo hi
  split at h
  .rename_i k2 xs ty hB
   split at h
   .rename_i hd
    have:=jP hd
    subst this
    simp only [aW,Prod.mk.injEq] at h
    obtain ⟨rfl,rfl⟩:=h
    have hb:lo<=hi/\hi<=xs.length:=ho _ (by simp)
    obtain ⟨cs,hc,u,hσ,bT⟩:=hT.ok l _ hB
    simp only [SB.cells,aW] at hc
    subst hc
    simp only [den,hσ] at hv
    rcases bT.1.2 with ⟨rfl,h0⟩ | ⟨gb,cap,cur,rfl,_,hh,hle,_,_,dG⟩
    .have:xs=[]:=List.eq_nil_of_length_eq_zero h0
     subst this
     simp only [aW] at hv
     have e1:lo=0/\hi=0:=by simp at hb;omega
     obtain ⟨rfl,rfl⟩:=e1
     left
     refine ⟨by rw [<- hv];simp,by simp⟩
    .simp only [aW] at hv
     right
     have hlen:((((xs.drop lo).take (hi-lo)).map (Value.int k)).length)=hi-lo:=by simp;omega
     by_cases rV:cap=lo
     .rw [if_pos rV] at hv
      have h0:hi-lo=0:=by omega
      refine ⟨_,cap-lo,by rw [hlen];exact hv.symm,fun j u hj=>?_⟩
      rw [h0] at hj
      simp at hj
     .rw [if_neg rV] at hv
      refine ⟨_,cap-lo,by rw [hlen];exact hv.symm,fun j u hj=>?_⟩
      show w.cell? (((⟨gb,0,none⟩:Addr).add lo).add j)=some u
      rw [bJ,bJ,cell_of_row w gb _ _ _ _ hh]
      have h5:(xs.map (Value.int k))[lo+j]?=some u:=by
       simp only [List.map_take,List.map_drop,List.getElem?_take] at hj
       split at hj
       .rwa [List.getElem?_drop] at hj
       .cases hj
      rw [<- dG,List.getElem?_take] at h5
      split at h5
      .simpa using h5
      .cases h5
   .cases h
  .cases h
 .simp only [aW,Prod.mk.injEq] at h
  obtain ⟨rfl,rfl⟩:=h
  simp only [den,aW] at hv
  exact .inl ⟨hv.symm,rfl⟩
 .rename_i l n
  split at h
  .rename_i k2 xs hB
   split at h
   .rename_i hd
    have:=jP hd
    subst this
    simp only [aW,Prod.mk.injEq] at h
    obtain ⟨rfl,rfl⟩:=h
    obtain ⟨cs,hc,u,hσ,bT⟩:=hT.ok l _ hB
    simp only [SB.cells,aW] at hc
    subst hc
    simp only [den,gM] at hv
    obtain ⟨u',gN,hv⟩:=hv
    rw [hσ] at gN
    cases gN
    obtain ⟨rfl,_⟩:=kA hv
    rcases bT with ⟨⟨ad,rfl⟩,rfl⟩ | ⟨b,o,c,rfl,_,_,hh⟩
    .cases ad with
     | none=>exact .inl ⟨rfl,rfl⟩
     | some ad=>exact .inr ⟨ad,0,rfl,fun j u hj=>by simp at hj⟩
    .exact .inr ⟨⟨b,o,none⟩,c,by simp,fun j u hj=>by rw [bJ];exact hh j u hj⟩
   .cases h
  .cases h
 .cases h
end He
section He
variable {P:Program} {Γ:Env} {V:bA} {w w0:World} {M:Nat->Prop} {T:aX} {g:Nat->Option SV} {a:Act} {o:Oper} {e:bK}
theorem pH {t ty el:TypeId} {i:TypeInfo} {z:Value} {v v' x:Value} {w':World} {n:Nat} {xs news:List Value} (ht:P.underlying t=some (.slice el)) (hi:P.info? el=some i) (hz:i.zero=some z)
 (fH:w.ownsRow 0 el i.size v n xs) {ad:Addr} {m c:Nat} (hx:x = .slice (some ad) m c) (hl:news.length=m*i.size) (Bs:∀ (j:Nat) (u:Value),news[j]?=some u->w.cell? (ad.add j)=some u)
 (h1:∀ u∈news,u.oneCell'=true) (h63:n+m<=maxLen) (Cn:(n+m)*i.bytes<=140737488355328)
 (hr:(Builtin.append_ #[t,t] ty #[v,x]).run P w = .ok v' w'):v'.ownBlock=v.ownBlock\/v'.ownBlock=some w.heap.size:=by
 subst hx
 have Qj:n+m<=9223372036854775807:=by simp only [maxLen] at h63;omega
 rcases fH.2 with ⟨rfl,rfl⟩ | ⟨gb,cap,cur,rfl,_,hg,CB,RE,kD,dG⟩
 .by_cases hm:m=0
  .subst hm
   have hn:news=[]:=List.eq_nil_of_length_eq_zero (by simpa using hl)
   subst hn
   have:(Builtin.append_ #[t,t] ty #[.slice none 0 0,.slice (some ad) 0 c]).run P w = .ok (.slice none 0 0) w:=by
    simp [Builtin.append_,run_underlying ht,sizeOf,typeInfo,hi,Builtin.lenOf,Builtin.firstCells,loadCells,loadCellsFrom]
   rw [this] at hr
   cases hr
   exact .inl rfl
  .rw [run_append_nil (P:=P) w t ty el i z ht hi hz ad m c news hl Bs (by omega) (by omega) (by simp only [Nat.zero_add] at Cn;omega)] at hr
   cases hr
   exact .inr rfl
 .by_cases uB:n+m<=cap
  .rw [run_append_room (P:=P) w t ty el i ht hi gb n cap cur hg ad m c news hl Bs h1 uB (by rw [hl,kD,<- Nat.add_mul];exact Nat.mul_le_mul_right _ uB)] at hr
   cases hr
   exact .inl rfl
  .have holds:∀ (j:Nat) (u:Value),xs[j]?=some u->w.cell? ((⟨gb,0,none⟩:Addr).add j)=some u:=fun j u hj=>by
    rw [bJ,cell_of_row w gb _ _ _ _ hg]
    rw [<- dG,List.getElem?_take] at hj
    split at hj
    .simpa using hj
    .cases hj
   rw [run_append_grow (P:=P) w t ty el i z ht hi hz ⟨gb,0,none⟩ n cap xs fH.1 holds ad m c news hl Bs (by omega) (by omega) (growslice_fits (by omega) Cn)] at hr
   cases hr
   exact .inr rfl
theorem rA {k:IntKind} {z:Int} {m:Nat}:∀ x∈(Builtin.zeroCells #[Value.int k z] m).toList,∃ n,x=Value.int k n:=by
 intro x hx
 simp only [Builtin.zeroCells,Array.toList_map,List.mem_map] at hx
 obtain ⟨j,_,rfl⟩:=hx
 refine ⟨z,?_⟩
 have:j%1=0:=Nat.mod_one j
 simp [this]
theorem Nz {k:IntKind} {t ty el:TypeId} {i:TypeInfo} {z0:Int} {z v v' x:Value} {w':World} {n:Nat} {xs news:List Value} (ht:P.underlying t=some (.slice el)) (hi:P.info? el=some i) (hz:i.zero=some z) (Dw:z.cells = #[Value.int k z0])
 (fH:w.ownsRow 0 el i.size v n xs) {ad:Addr} {m c:Nat} (hx:x = .slice (some ad) m c) (hl:news.length=m*i.size) (Bs:∀ (j:Nat) (u:Value),news[j]?=some u->w.cell? (ad.add j)=some u)
 (h1:∀ u∈news,u.oneCell'=true) (h63:n+m<=maxLen) (Cn:(n+m)*i.bytes<=140737488355328) (hI:hY w k v) (hn:∀ u∈news,∃ n,u=Value.int k n)
 (hr:(Builtin.append_ #[t,t] ty #[v,x]).run P w = .ok v' w'):hY w' k v':=by
 subst hx
 have Qj:n+m<=9223372036854775807:=by simp only [maxLen] at h63;omega
 rcases fH.2 with ⟨rfl,rfl⟩ | ⟨gb,cap,cur,rfl,_,hg,CB,RE,kD,dG⟩
 .by_cases hm:m=0
  .subst hm
   have hn:news=[]:=List.eq_nil_of_length_eq_zero (by simpa using hl)
   subst hn
   have:(Builtin.append_ #[t,t] ty #[.slice none 0 0,.slice (some ad) 0 c]).run P w = .ok (.slice none 0 0) w:=by
    simp [Builtin.append_,run_underlying ht,sizeOf,typeInfo,hi,Builtin.lenOf,Builtin.firstCells,loadCells,loadCellsFrom]
   rw [this] at hr
   cases hr
   exact hY.nil rfl
  .rw [run_append_nil (P:=P) w t ty el i z ht hi hz ad m c news hl Bs (by omega) (by omega) (by simp only [Nat.zero_add] at Cn;omega)] at hr
   cases hr
   intro b hb
   cases hb
   refine ⟨_,_,_,heap_alloc_new w.drew _,fun q hq=>?_⟩
   simp only [Array.toList_append,List.mem_append] at hq
   rcases hq with hq | hq
   .exact hn q hq
   .rw [Dw] at hq;exact rA q hq
 .obtain ⟨TU,ty2,p2,tV,fR⟩:=hI gb rfl
  rw [hg] at tV
  cases tV
  by_cases uB:n+m<=cap
  .rw [run_append_room (P:=P) w t ty el i ht hi gb n cap cur hg ad m c news hl Bs h1 uB (by rw [hl,kD,<- Nat.add_mul];exact Nat.mul_le_mul_right _ uB)] at hr
   cases hr
   intro b hb
   cases hb
   refine ⟨_,_,_,setRow_heap w gb cur _ el (0,0) hg,fun q hq=>?_⟩
   simp only [List.mem_append] at hq
   rcases hq with (hq | hq) | hq
   .exact fR q (List.mem_of_mem_take hq)
   .exact hn q hq
   .exact fR q (List.mem_of_mem_drop hq)
  .have holds:∀ (j:Nat) (u:Value),xs[j]?=some u->w.cell? ((⟨gb,0,none⟩:Addr).add j)=some u:=fun j u hj=>by
    rw [bJ,cell_of_row w gb _ _ _ _ hg]
    rw [<- dG,List.getElem?_take] at hj
    split at hj
    .simpa using hj
    .cases hj
   rw [run_append_grow (P:=P) w t ty el i z ht hi hz ⟨gb,0,none⟩ n cap xs fH.1 holds ad m c news hl Bs (by omega) (by omega) (growslice_fits (by omega) Cn)] at hr
   cases hr
   intro b hb
   cases hb
   refine ⟨_,_,_,heap_alloc_new w.drew _,fun q hq=>?_⟩
   simp only [Array.toList_append,List.mem_append] at hq
   rcases hq with (hq | hq) | hq
   .rw [<- dG] at hq
    exact fR q (List.mem_of_mem_take hq)
   .exact hn q hq
   .rw [Dw] at hq;exact rA q hq
def Gb (T:aX) (k:IntKind) (el:TypeId):SV->Option (Option Nat × List Prop × List Int)
 | .raw (.slice none 0 0)=>some (none,[],[])
 | .buf l=>match T l with
   | some (.dF k2 xs ty)=>match decide (k2=k),Nat.beq ty el with
     | true,true=>some (some l,[],xs)
     | _,_=>none
   | _=>none
 | .aH l s 0 len cap=>match T l with
   | some (.ints k2 xs ty)=>match decide (k2=k),Nat.beq ty el with
     | true,true=>some (some l,[cap=xs.length/\len<=cap/\cap<=9223372036854775807],xs.take len)
     | _,_=>none
   | some (.own cells ty)=>match s,cU k cells,Nat.beq ty el with
     | true,some xs,true=>match Nat.beq cap cells.length,Nat.ble len cap,Nat.ble cap 9223372036854775807 with
       | true,true,true=>some (some l,[],xs.take len)
       | _,_,_=>none
     | _,_,_=>none
   | _=>none
 | _=>none
theorem Nd {k:IntKind} {el:TypeId} {v:SV} {x:Value} {lo:Option Nat} {ob:List Prop} {xs:List Int} (hT:aD w0 M V T w) (hv:den V v=some x) (h:Gb T k el v=some (lo,ob,xs)) (ho:∀ q∈ob,q) :
 w.ownsRow 0 el 1 x xs.length (xs.map (Value.int k))/\(lo=none->x.ownBlock=none)/\∀ l,lo=some l->∃ B,T l=some B/\B.owned=true/\∀ n,x.ownBlock=some n->B.aT V l=some n:=by
 have full:∀ (l:Nat) (B:SB) (ys:List Int) (len cap:Nat),T l=some B->B.owned=true->V.β l≠none->(∃ b,V.β l=some (b,0)/\B.aT V l=some b/\w.heap[b]?=some (.cells (ys.map (Value.int k)).toArray el (0,0)))->cap=ys.length->len<=cap->cap<=9223372036854775807 ->
  den V (.aH l true 0 len cap)=some x->w.ownsRow 0 el 1 x (ys.take len).length ((ys.take len).map (Value.int k))/\∃ B,T l=some B/\B.owned=true/\∀ n,x.ownBlock=some n->B.aT V l=some n:=by
  intro l B ys len cap hB fH _ ⟨b,hβ,fF,hh⟩ qE hle Hk hd
  simp only [den,hβ,gL,aW,Nat.add_zero] at hd
  subst hd
  have hlen:(ys.take len).length=len:=by simp;omega
  refine ⟨⟨by simp,.inr ⟨b,cap,_,by rw [hlen],Nat.zero_le _,hh,by omega,by simp only [maxLen];omega,by simp [qE],by rw [hlen];simp [List.map_take]⟩⟩,B,hB,fH,fun n hn=>?_⟩
  simp only [Value.ownBlock,aW] at hn
  subst hn
  exact fF
 unfold Gb at h
 split at h
 .simp only [aW,Prod.mk.injEq] at h
  obtain ⟨rfl,rfl,rfl⟩:=h
  simp only [den,aW] at hv
  subst hv
  exact ⟨World.ownsRow_nil w 0 el 1,fun _=>rfl,fun l hl=>(by cases hl)⟩
 .rename_i l
  split at h
  .rename_i k2 ys ty hB
   split at h
   .rename_i h1 h2
    have:=jP h1
    subst this
    have:=cP h2
    subst this
    simp only [aW,Prod.mk.injEq] at h
    obtain ⟨rfl,rfl,rfl⟩:=h
    obtain ⟨cs,hc,u,hσ,bT⟩:=hT.ok l _ hB
    simp only [SB.cells,aW] at hc
    subst hc
    simp only [den,hσ,aW] at hv
    subst hv
    refine ⟨bT.1,fun h=>(by cases h),fun l' sL=>?_⟩
    cases sL
    exact ⟨_,hB,rfl,fun n hn=>by simp [SB.aT,hσ,hn]⟩
   .cases h
  .cases h
 .rename_i l s len cap
  have PV:den V (.aH l true 0 len cap)=some x:=hv
  split at h
  .rename_i k2 ys ty hB
   split at h
   .rename_i h1 h2
    have:=jP h1
    subst this
    have:=cP h2
    subst this
    simp only [aW,Prod.mk.injEq] at h
    obtain ⟨rfl,rfl,rfl⟩:=h
    obtain ⟨qE,hle,Hk⟩:cap=ys.length/\len<=cap/\cap<=9223372036854775807:=ho _ (by simp)
    obtain ⟨cs,hc,b,hβ,hh⟩:=hT.ok l _ hB
    simp only [SB.cells,aW] at hc
    subst hc
    obtain ⟨r1,r2⟩:=full l _ ys len cap hB rfl (by rw [hβ];simp) ⟨b,hβ,by simp [SB.aT,hβ],hh⟩ qE hle Hk PV
    exact ⟨r1,fun h=>(by cases h),fun l' sL=>(by cases sL;exact r2)⟩
   .cases h
  .rename_i cells ty hB
   split at h
   .rename_i ys pY h2
    have:=cP h2
    subst this
    split at h
    .rename_i h3 h4 h5
     simp only [aW,Prod.mk.injEq] at h
     obtain ⟨rfl,rfl,rfl⟩:=h
     obtain ⟨cs,hc,b,hβ,hh⟩:=hT.ok l _ hB
     have tV:=cS (V:=V) pY
     rw [show SB.cells V (.own cells ty)=aJ V cells from rfl,tV] at hc
     cases hc
     have rU:=bH tV
     obtain ⟨r1,r2⟩:=full l _ ys len cap hB rfl (by rw [hβ];simp) ⟨b,hβ,by simp [SB.aT,hβ],hh⟩ (by rw [cP h3];simpa using rU.symm) (jX h4) (jX h5) PV
     exact ⟨r1,fun h=>(by cases h),fun l' sL=>(by cases sL;exact r2)⟩
    .cases h
   .cases h
  .cases h
 .cases h
theorem tN {k:IntKind} {el:TypeId} {v:SV} {x:Value} {lo:Option Nat} {ob:List Prop} {xs:List Int} (hT:aD w0 M V T w) (hv:den V v=some x) (h:Gb T k el v=some (lo,ob,xs)):hY w k x:=by
 have full:∀ (l:Nat) (ys:List Int) (s:Bool) (len cap b:Nat),V.β l=some (b,0)->w.heap[b]?=some (.cells (ys.map (Value.int k)).toArray el (0,0))->den V (.aH l s 0 len cap)=some x->hY w k x:=by
  intro l ys s len cap b hβ hh hd
  simp only [den,hβ,gL,aW,Nat.add_zero] at hd
  subst hd
  intro b' hb
  cases hb
  refine ⟨_,_,_,hh,fun q hq=>?_⟩
  obtain ⟨n,_,rfl⟩:=List.mem_map.1 (by simpa using hq)
  exact ⟨n,rfl⟩
 unfold Gb at h
 split at h
 .simp only [den,aW] at hv
  subst hv
  exact hY.nil rfl
 .rename_i l
  split at h
  .rename_i k2 ys ty hB
   split at h
   .rename_i h1 h2
    have:=jP h1
    subst this
    obtain ⟨cs,hc,u,hσ,bT⟩:=hT.ok l _ hB
    simp only [den,hσ,aW] at hv
    subst hv
    exact bT.2
   .cases h
  .cases h
 .rename_i l s len cap
  split at h
  .rename_i k2 ys ty hB
   split at h
   .rename_i h1 h2
    have:=jP h1
    subst this
    have:=cP h2
    subst this
    obtain ⟨cs,hc,b,hβ,hh⟩:=hT.ok l _ hB
    simp only [SB.cells,aW] at hc
    subst hc
    exact full l ys s len cap b hβ hh hv
   .cases h
  .rename_i cells ty hB
   split at h
   .rename_i ys pY h2
    have:=cP h2
    subst this
    obtain ⟨cs,hc,b,hβ,hh⟩:=hT.ok l _ hB
    have tV:=cS (V:=V) pY
    rw [show SB.cells V (.own cells ty)=aJ V cells from rfl,tV] at hc
    cases hc
    exact full l ys _ len cap b hβ hh hv
   .cases h
  .cases h
 .cases h
def iE:Option Nat->List (Nat × SB)
 | some l=>[(l,.gone)]
 | none=>[]
theorem aD.rM (h:aD w0 M V T w) {lab:Nat} (hf:V.fresh lab) {w':World} {v v' u':Value} {lo:Option Nat} {B:SB}
 (kX:okB (V.bC lab u') w' lab B) (Fj:∀ n,B.aT (V.bC lab u') lab=some n->v'.ownBlock=some n) (tS:w.grownBy w' v.ownBlock)
 (fF:v'.ownBlock=v.ownBlock\/v'.ownBlock=some w.heap.size) (jS:lo=none->v.ownBlock=none)
 (Jz:∀ l,lo=some l->∃ B,T l=some B/\B.owned=true/\∀ n,v.ownBlock=some n->B.aT V l=some n) (rv:SV) (ob:List Prop) :
 aD w0 M (V.bC lab u') (eT T lab { bO:=ob,val:=rv,new:=[B],wr:=iE lo }) w':=by
 have bU:=bA.cG hf lab (cT _) (by omega) u'
 have kO:∀ l,lo=some l->l≠lab:=by
  intro l hl e
  subst e
  obtain ⟨B1,h1,h2,_⟩:=Jz l hl
  rcases h.known h1 (by rintro rfl;cases h2) with h3 | h3
  .exact h3 (hf l (cT _) (by omega)).1
  .exact h3 (hf l (cT _) (by omega)).2
 have Lk:∀ n,v.ownBlock=some n->∃ l B0,lo=some l/\T l=some B0/\B0.owned=true/\B0.aT V l=some n:=by
  intro n hn
  cases jQ:lo with
  | none=>rw [jS jQ] at hn;cases hn
  | some l=>obtain ⟨B1,h1,h2,h3⟩:=Jz l jQ;exact ⟨l,B1,rfl,h1,h2,h3 n hn⟩
 refine h.step (N:=fun k=>if k=lab then some B else if lo=some k then some .gone else none) bU.1 (fun k C hk=>?_) (fun k C hk=>?_) (fun k C n hk hb=>?_) (fun k C k' C' n dI hk gX fH hb=>?_) tS.size (fun n hn hx=>?_) tS.os tS.tape tS.output
 .have fJ:look k (iE lo++[(lab,B)])=some C\/(look k (iE lo++[(lab,B)])=none/\T k=some C):=by
   unfold eT bK.eW at hk
   simp only [gE] at hk
   split at hk
   .rename_i C' hC;cases hk;exact .inl hC
   .rename_i hC;exact .inr ⟨hC,hk⟩
  rw [cE] at fJ
  by_cases e:k=lab
  .subst e
   left
   have h0:look k (iE lo)=none:=by
    cases jQ:lo with
    | none=>rfl
    | some l=>simp only [iE];rw [aE (kO l jQ)];rfl
   rw [h0] at fJ
   simp only [aI] at fJ
   rcases fJ with fJ | ⟨fJ,_⟩
   .simpa using fJ
   .cases fJ
  .have h0:look k [(lab,B)]=none:=by rw [aE (fun x=>e x.symm)];rfl
   rw [h0] at fJ
   cases jQ:lo with
   | none=>
     rw [jQ] at fJ
     simp only [iE,look] at fJ
     rcases fJ with fJ | ⟨_,fJ⟩
     .cases fJ
     .right;exact ⟨by simp [e],fJ⟩
   | some l=>
     rw [jQ] at fJ
     simp only [iE] at fJ
     by_cases e2:l=k
     .subst e2
      rw [aI] at fJ
      rcases fJ with fJ | ⟨fJ,_⟩
      .left;simp only [aW] at fJ;subst fJ;simp [e]
      .cases fJ
     .rw [aE e2] at fJ
      simp only [look] at fJ
      rcases fJ with fJ | ⟨_,fJ⟩
      .cases fJ
      .right;exact ⟨by simp [e,e2],fJ⟩
 .by_cases e:k=lab
  .subst e
   simp only [if_true,aW] at hk
   subst hk
   exact kX
  .simp only [e,if_false] at hk
   split at hk
   .cases hk;exact ⟨[],rfl,trivial⟩
   .cases hk
 .by_cases e:k=lab
  .subst e
   simp only [if_true,aW] at hk
   subst hk
   have iL:v'.ownBlock=some n:=Fj n hb
   rcases fF with lA | lA
   .rw [lA] at iL
    obtain ⟨l,B0,h0,h1,h2,h3⟩:=Lk n iL
    exact .inr (.inl ⟨l,B0,h1,h2,h3,by simp [kO l h0,h0]⟩)
   .rw [lA] at iL;cases iL;exact .inl (cT _)
  .simp only [e,if_false] at hk
   split at hk
   .cases hk;simp [SB.aT] at hb
   .cases hk
 .by_cases e:k=lab
  .subst e
   have e':k'≠k:=fun x=>dI x.symm
   simp only [e',if_false] at gX
   split at gX
   .cases gX;simp [SB.aT]
   .cases gX
  .simp only [e,if_false] at hk
   split at hk
   .cases hk;cases fH
   .cases hk
 .refine tS.block n hn fun e=>?_
  obtain ⟨l,B0,h0,h1,h2,h3⟩:=Lk n e.symm
  exact hx l B0 h1 h2 (by simp [kO l h0,h0]) h3
theorem aD.append (h:aD w0 M V T w) {lab:Nat} (hf:V.fresh lab) {w':World} {v v':Value} {lo:Option Nat} {B:SB} {cs:List Value} {el:TypeId} {sz n:Nat}
 (hB:∃ k xs,B = .dF k xs el/\sz=1/\n=xs.length/\hY w' k v') (hc:B.cells V=some cs) (bT:w'.ownsRow 0 el sz v' n cs) (tS:w.grownBy w' v.ownBlock)
 (fF:v'.ownBlock=v.ownBlock\/v'.ownBlock=some w.heap.size) (jS:lo=none->v.ownBlock=none)
 (Jz:∀ l,lo=some l->∃ B,T l=some B/\B.owned=true/\∀ n,v.ownBlock=some n->B.aT V l=some n) (rv:SV) (ob:List Prop) :
 aD w0 M (V.bC lab v') (eT T lab { bO:=ob,val:=rv,new:=[B],wr:=iE lo }) w':=by
 have bU:=bA.cG hf lab (cT _) (by omega) v'
 have Ax:(V.bC lab v').σ lab=some v':=by simp [bA.bC]
 refine h.rM hf ⟨cs,SB.iM bU.1 hc,?_⟩ (fun n hb=>?_) tS fF jS Jz rv ob
 .obtain ⟨kk,xs,rfl,rfl,rfl,hI⟩:=hB
  exact ⟨v',Ax,bT,hI⟩
 .obtain ⟨kk,xs,rfl,_⟩:=hB
  simpa [SB.aT,Ax] using hb
theorem aD.Jn (h:aD w0 M V T w) {lab:Nat} (hf:V.fresh lab) {w':World} {v':Value} {own:Option Nat} {lo:Option Nat} {cells:List SV} {cs:List Value} {el:TypeId} {sz nn:Nat}
 (hc:aJ V cells=some cs) (bT:w'.ownsRow 0 el sz v' nn cs) (Kh:v' ≠ .slice none 0 0) (tS:w.grownBy w' own)
 (fF:v'.ownBlock=own\/v'.ownBlock=some w.heap.size) (jS:lo=none->own=none)
 (Jz:∀ l,lo=some l->∃ B,T l=some B/\B.owned=true/\∀ n,own=some n->B.aT V l=some n) (rv:SV) (ob:List Prop) :
 ∃ b cap,v' = .slice (some ⟨b,0,none⟩) nn cap/\aD w0 M (V.Hi lab (b,0) (.int .i64 (cap:Nat))) (eT T lab { bO:=ob,val:=rv,new:=[.row sz cells el],wr:=iE lo }) w':=by
 obtain ⟨b,cap,cur,rfl,_,Bu,aRq,RE,kD,dG⟩:=bT.2.resolve_left (fun q=>Kh q.1)
 refine ⟨b,cap,rfl,?_⟩
 have bU:=bA.vT hf lab (cT _) (by omega) (b,0) (.int .i64 (cap:Nat))
 have Ax:(V.Hi lab (b,0) (.int .i64 (cap:Nat))).β lab=some (b,0):=by simp [bA.Hi,bA.put,bA.bC]
 have aJn:(V.Hi lab (b,0) (.int .i64 (cap:Nat))).σ lab=some (.int .i64 (cap:Nat)):=by simp [bA.Hi,bA.put,bA.bC]
 have kO:∀ l,lo=some l->l≠lab:=by
  intro l hl e
  subst e
  obtain ⟨B1,h1,h2,_⟩:=Jz l hl
  rcases h.known h1 (by rintro rfl;cases h2) with h3 | h3
  .exact h3 (hf l (cT _) (by omega)).1
  .exact h3 (hf l (cT _) (by omega)).2
 have Lk:∀ n,own=some n->∃ l B0,lo=some l/\T l=some B0/\B0.owned=true/\B0.aT V l=some n:=by
  intro n hn
  cases jQ:lo with
  | none=>rw [jS jQ] at hn;cases hn
  | some l=>obtain ⟨B1,h1,h2,h3⟩:=Jz l jQ;exact ⟨l,B1,rfl,h1,h2,h3 n hn⟩
 refine h.step (N:=fun k=>if k=lab then some (.row sz cells el) else if lo=some k then some .gone else none) bU.1 (fun k C hk=>?_) (fun k C hk=>?_) (fun k C n hk hb=>?_) (fun k C k' C' n dI hk gX fH hb=>?_) tS.size (fun n hn hx=>?_) tS.os tS.tape tS.output
 .have fJ:look k (iE lo++[(lab,SB.row sz cells el)])=some C\/(look k (iE lo++[(lab,SB.row sz cells el)])=none/\T k=some C):=by
   unfold eT bK.eW at hk
   simp only [gE] at hk
   split at hk
   .rename_i C' hC;cases hk;exact .inl hC
   .rename_i hC;exact .inr ⟨hC,hk⟩
  rw [cE] at fJ
  by_cases e:k=lab
  .subst e
   left
   have h0:look k (iE lo)=none:=by
    cases jQ:lo with
    | none=>rfl
    | some l=>simp only [iE];rw [aE (kO l jQ)];rfl
   rw [h0] at fJ
   simp only [aI] at fJ
   rcases fJ with fJ | ⟨fJ,_⟩
   .simpa using fJ
   .cases fJ
  .have h0:look k [(lab,SB.row sz cells el)]=none:=by rw [aE (fun x=>e x.symm)];rfl
   rw [h0] at fJ
   cases jQ:lo with
   | none=>
     rw [jQ] at fJ
     simp only [iE,look] at fJ
     rcases fJ with fJ | ⟨_,fJ⟩
     .cases fJ
     .right;exact ⟨by simp [e],fJ⟩
   | some l=>
     rw [jQ] at fJ
     simp only [iE] at fJ
     by_cases e2:l=k
     .subst e2
      rw [aI] at fJ
      rcases fJ with fJ | ⟨fJ,_⟩
      .left;simp only [aW] at fJ;subst fJ;simp [e]
      .cases fJ
     .rw [aE e2] at fJ
      simp only [look] at fJ
      rcases fJ with fJ | ⟨_,fJ⟩
      .cases fJ
      .right;exact ⟨by simp [e,e2],fJ⟩
 .by_cases e:k=lab
  .subst e
   simp only [if_true,aW] at hk
   subst hk
   refine ⟨cs,cV bU.1 hc,b,cap,cur,Ax,aJn,Bu,RE,kD,⟨nn,bT.1,aRq⟩,?_⟩
   rw [bT.1];exact dG
  .simp only [e,if_false] at hk
   split at hk
   .cases hk;exact ⟨[],rfl,trivial⟩
   .cases hk
 .by_cases e:k=lab
  .subst e
   simp only [if_true,aW] at hk
   subst hk
   have iL:(Value.slice (some ⟨b,0,none⟩) nn cap).ownBlock=some n:=by
    simpa [SB.aT,Ax,Value.ownBlock] using hb
   rcases fF with lA | lA
   .rw [lA] at iL
    obtain ⟨l,B0,h0,h1,h2,h3⟩:=Lk n iL
    exact .inr (.inl ⟨l,B0,h1,h2,h3,by simp [kO l h0,h0]⟩)
   .rw [lA] at iL;cases iL;exact .inl (cT _)
  .simp only [e,if_false] at hk
   split at hk
   .cases hk;simp [SB.aT] at hb
   .cases hk
 .by_cases e:k=lab
  .subst e
   have e':k'≠k:=fun x=>dI x.symm
   simp only [e',if_false] at gX
   split at gX
   .cases gX;simp [SB.aT]
   .cases gX
  .simp only [e,if_false] at hk
   split at hk
   .cases hk;cases fH
   .cases hk
 .refine tS.block n hn fun e=>?_
  obtain ⟨l,B0,h0,h1,h2,h3⟩:=Lk n e.symm
  exact hx l B0 h1 h2 (by simp [kO l h0,h0]) h3
end He
section He
variable {P:Program} {Γ:Env} {V:bA} {w w0:World} {M:Nat->Prop} {T:aX} {g:Nat->Option SV} {a:Act} {o:Oper} {e:bK}
def oV (P:Program) (w0:World) (M:Nat->Prop) (V:bA) (T:aX) (lab:Nat) (e:bK) (s:Sem Value) (w:World):Prop:=
 ∃ V' x w',s.run P w = .ok x w'/\V.ext lab V'/\den V' e.val=some x/\aD w0 M V' (eT T lab e) w'
theorem oK {lab:Nat} {s:Sem Value} (h:∃ x,s.run P w = .ok x w/\den V e.val=some x/\e.new=[]/\e.wr=[]) (hT:aD w0 M V T w):oV P w0 M V T lab e s w:=by
 obtain ⟨x,h1,h2,h3,h4⟩:=h
 exact ⟨V,x,w,h1,V.cO lab,h2,by rw [jN T lab h3 h4];exact hT⟩
theorem aD.sub {T':aX} (h:aD w0 M V T w) (aR:∀ l B,T' l=some B->T l=some B):aD w0 M V T' w:=
 ⟨fun l B hl=>h.ok l B (aR l B hl),fun l B l' B' n dI hl sL=>h.iY l B l' B' n dI (aR l B hl) (aR l' B' sL),fun l B n hl=>h.perm l B n (aR l B hl),h.frame⟩
def Xv:TypeDesc->Option IntKind
 | .int k=>some k
 | _=>none
def zI (te:TI):Bool:=match te.zero,te.desc with
 | [.int _ k _],.int k2=>decide (k=k2)
 | _,_=>false
def GP (T:aX) (te:TI) (el:TypeId) (lab:Nat) (x y:SV):Option bK:=
 match Xv te.desc,Nat.beq te.size 1,Nat.blt 0 te.bytes&&zI te with
 | some k,true,true=>match Gb T k el x,Xn T k y with
   | some (lo,o1,xs),some (o2,ys)=>some { bO:=[(xs.length+ys.length)*te.bytes<=140737488355328]++o1++o2,val:=.buf lab,new:=[.dF k (xs++ys) el],wr:=iE lo }
   | _,_=>none
 | _,_,_=>none
theorem OS (aU:cD P Γ) {T':aX} (aR:∀ l B,T' l=some B->T l=some B) (hT:aD w0 M V T w) {lab:Nat} (hf:V.fresh lab) {t ty el:TypeId} {te:TI} (ht:P.underlying t=some (.slice el)) (eG:Γ.ty el=some te)
 {x y:SV} {u v:Value} (hx:den V x=some u) (hy:den V y=some v) (he:GP T' te el lab x y=some e) (ho:∀ q∈e.bO,q):oV P w0 M V T lab e (Builtin.append_ #[t,t] ty #[u,v]) w:=by
 unfold GP at he
 split at he
 .rename_i k hk gF RF
  split at he
  .rename_i lo o1 xs o2 ys h1 h2
   simp only [aW] at he
   subst he
   obtain ⟨_,i,z,hi,cH,mC,hz,hzero⟩:=aU el te eG
   have iK:i.size=1:=by rw [cH];exact cP gF
   simp only [iN] at RF
   have pM:0<te.bytes:=by simpa [Nat.blt_eq] using RF.1
   have hbound:(xs.length+ys.length)*te.bytes<=140737488355328:=ho _ (by simp)
   have hd:=Nd (hT.sub aR) hx h1 (fun q hq=>ho q (by simp [hq]))
   have hh:=uN (hT.sub aR) hy h2 (fun q hq=>ho q (by simp [hq]))
   obtain ⟨bT,jS,Jz⟩:=hd
   have jQ:∀ l,lo=some l->∃ B,T l=some B/\B.owned=true/\∀ n,u.ownBlock=some n->B.aT V l=some n:=fun l hl=>by
    obtain ⟨B,h1,h2,h3⟩:=Jz l hl;exact ⟨B,aR l B h1,h2,h3⟩
   have CZ:xs.length+ys.length<=maxLen:=by
    have:=Nat.le_mul_of_pos_right (xs.length+ys.length) pM
    simp only [maxLen];omega
   obtain ⟨z0,Dw⟩:∃ z0,z.cells = #[Value.int k z0]:=by
    have hq:=RF.2
    unfold zI at hq
    split at hq
    .rename_i s k1 z1 k2 hz1 RC
     have e1:=jP hq
     subst e1
     have Ad:k1=k:=by
      unfold Xv at hk
      rw [RC] at hk
      simpa using hk
     subst Ad
     have h3:=hzero V
     rw [hz1] at h3
     simp only [aJ,den,lI,gL,aW] at h3
     exact ⟨z1,by apply Array.ext';rw [<- h3]⟩
    .cases hq
   have sK:z.cells.size=1:=by rw [Dw];rfl
   rcases hh with ⟨rfl,pY⟩ | ⟨ad,c,rfl,cC⟩
   .have:ys=[]:=by simpa using pY
    subst this
    have hr:=run_append_owned_none (P:=P) (w:=w) 0 t ty el i 1 ht hi u xs.length _ bT
    refine ⟨V.bC lab u,u,w,hr,bA.cG hf lab (cT _) (by omega) u,by simp [den,bA.bC],?_⟩
    exact hT.append hf ⟨k,xs++[],rfl,rfl,rfl,tN (hT.sub aR) hx h1⟩ (show SB.cells V (.dF k (xs++[]) el)=some ((xs++[]).map (Value.int k)) from rfl) (by simpa using bT) ⟨rfl,rfl,rfl,cT _,fun _ _ _=>rfl⟩ (.inl rfl) jS jQ _ _
   .have jB:∀ q∈ys.map (Value.int k),q.oneCell'=true:=by
     intro q hq
     obtain ⟨n,_,rfl⟩:=List.mem_map.1 hq
     rfl
    have hl:(ys.map (Value.int k)).length=(ys.map (Value.int k)).length*i.size:=by rw [iK];simp
    have FR:w.ownsRow 0 el i.size u xs.length (xs.map (Value.int k)):=by rw [iK];exact bT
    obtain ⟨v',w',hr,sI,tS,_⟩:=run_append_own (P:=P) w 0 t ty el i z i.size i.bytes ht hi hz rfl rfl (by rw [iK];exact sK) (by omega) u xs.length (xs.map (Value.int k)) FR ad _ c _ hl cC jB (by simpa using CZ) (by rw [mC];simpa using hbound) (Nat.zero_le _)
    have fF:=pH (P:=P) ht hi hz FR rfl hl cC jB (by simpa using CZ) (by rw [mC];simpa using hbound) hr
    refine ⟨V.bC lab v',v',w',hr,bA.cG hf lab (cT _) (by omega) v',by simp [den,bA.bC],?_⟩
    rw [iK] at sI
    have hI:=Nz (P:=P) ht hi hz Dw FR rfl hl cC jB (by simpa using CZ) (by rw [mC];simpa using hbound) (tN (hT.sub aR) hx h1) (fun u hu=>by obtain ⟨n,_,rfl⟩:=List.mem_map.1 hu;exact ⟨n,rfl⟩) hr
    exact hT.append hf ⟨k,xs++ys,rfl,rfl,rfl,hI⟩ (show SB.cells V (.dF k (xs++ys) el)=some ((xs++ys).map (Value.int k)) from rfl) (by simpa using sI) tS fF jS jQ _ _
  .cases he
 .cases he
end He
section He
variable {P:Program} {Γ:Env} {V:bA} {w w0:World} {M:Nat->Prop} {T:aX} {g:Nat->Option SV} {a:Act} {o:Oper} {e:bK}
def JF (w:World) (sz:Nat) (x:Value) (m:Nat) (cs:List Value):Prop:=
 (x = .slice none 0 0/\m=0/\cs=[])\/∃ ad c,x = .slice (some ad) m c/\cs.length=m*sz/\∀ (j:Nat) (u:Value),cs[j]?=some u->w.cell? (ad.add j)=some u
def Ek (T:aX) (sz:Nat):SV->Option (Nat × List SV)
 | .aH l s off len _=>match T l with
   | some B=>match Tc B s off (len*sz) with
     | some ([],r)=>match nD r with
       | true=>some (len,r)
       | false=>none
     | _=>none
   | none=>none
 | .dJ l off len _=>match T l with
   | some B=>match Tc B true off (len*sz) with
     | some ([],r)=>match nD r with
       | true=>some (len,r)
       | false=>none
     | _=>none
   | none=>none
 | .raw (.slice none 0 0)=>some (0,[])
 | _=>none
theorem uO {sz:Nat} {v:SV} {x:Value} {m:Nat} {r:List SV} (hT:aD w0 M V T w) (hv:den V v=some x) (h:Ek T sz v=some (m,r)) :
 ∃ cs,aJ V r=some cs/\nD r=true/\JF w sz x m cs:=by
 have rd:∀ (l:Nat) (B:SB) (s:Bool) (off len c:Nat) (r:List SV) (p:Nat × Nat),T l=some B->V.β l=some p->Tc B s off (len*sz)=some ([],r) ->
  ∃ cs,aJ V r=some cs/\JF w sz (.slice (some ⟨p.1,p.2+off,none⟩) len c) len cs:=by
  intro l B s off len c r p hB hβ hr
  obtain ⟨xs,h1,h2,h3⟩:=oX (hT.ok l B hB) (b:=p.1) (o:=p.2) hβ hr (by simp)
  exact ⟨xs,h1,.inr ⟨_,c,rfl,h2,fun j u hj=>by rw [bJ];exact h3 j u hj⟩⟩
 unfold Ek at h
 split at h
 .rename_i l s off len c
  simp only [den,dH] at hv
  obtain ⟨p,hβ,rfl⟩:=hv
  split at h
  .rename_i B hB
   split at h
   .rename_i r' hr
    split at h
    .rename_i jB
     simp only [aW,Prod.mk.injEq] at h
     obtain ⟨rfl,rfl⟩:=h
     obtain ⟨cs,h1,h2⟩:=rd l B s off len c r' p hB hβ hr
     exact ⟨cs,h1,jB,h2⟩
    .cases h
   .cases h
  .cases h
 .rename_i l off len lo
  simp only [den,dH,gM] at hv
  obtain ⟨p,hβ,c,_,rfl⟩:=hv
  split at h
  .rename_i B hB
   split at h
   .rename_i r' hr
    split at h
    .rename_i jB
     simp only [aW,Prod.mk.injEq] at h
     obtain ⟨rfl,rfl⟩:=h
     obtain ⟨cs,h1,h2⟩:=rd l B true off len (c-lo) r' p hB hβ hr
     exact ⟨cs,h1,jB,h2⟩
    .cases h
   .cases h
  .cases h
 .simp only [aW,Prod.mk.injEq] at h
  obtain ⟨rfl,rfl⟩:=h
  simp only [den,aW] at hv
  exact ⟨[],rfl,rfl,.inl ⟨hv.symm,rfl,rfl⟩⟩
 .cases h
def Lq (T:aX) (el:TypeId) (sz:Nat):SV->Option (Option Nat × Nat × List SV)
 | .raw (.slice none 0 0)=>some (none,0,[])
 | .dJ l 0 len 0=>match T l with
   | some (.row sz2 cells ty)=>match Nat.beq sz2 sz,Nat.beq ty el,Nat.ble (len*sz) cells.length&&Nat.blt 0 sz with
     | true,true,true=>some (some l,len,cells.take (len*sz))
     | _,_,_=>none
   | _=>none
 | .aH l true 0 len cap=>match T l with
   | some (.own cells ty)=>match Nat.beq (cap*sz) cells.length,Nat.beq ty el,Nat.ble len cap&&Nat.ble cap 9223372036854775807 with
     | true,true,true=>some (some l,len,cells.take (len*sz))
     | _,_,_=>none
   | _=>none
 | _=>none
theorem Nf {el:TypeId} {sz:Nat} {v:SV} {x:Value} {lo:Option Nat} {n:Nat} {r:List SV} (hT:aD w0 M V T w) (hv:den V v=some x) (h:Lq T el sz v=some (lo,n,r)) :
 ∃ cs,aJ V r=some cs/\w.ownsRow 0 el sz x n cs/\(lo=none->x = .slice none 0 0)/\(∀ l,lo=some l->x ≠ .slice none 0 0)/\∀ l,lo=some l->∃ B,T l=some B/\B.owned=true/\∀ n,x.ownBlock=some n->B.aT V l=some n:=by
 unfold Lq at h
 split at h
 .simp only [aW,Prod.mk.injEq] at h
  obtain ⟨rfl,rfl,rfl⟩:=h
  simp only [den,aW] at hv
  subst hv
  exact ⟨[],rfl,World.ownsRow_nil w 0 el sz,fun _=>rfl,fun l hl=>(by cases hl),fun l hl=>(by cases hl)⟩
 .rename_i l len
  split at h
  .rename_i sz2 cells ty hB
   split at h
   .rename_i h1 h2 h3
    have:=cP h1
    subst this
    have:=cP h2
    subst this
    simp only [iN] at h3
    have h3a:=jX h3.1
    have h3b:0<sz2:=by simpa [Nat.blt_eq] using h3.2
    simp only [aW,Prod.mk.injEq] at h
    obtain ⟨rfl,rfl,rfl⟩:=h
    obtain ⟨cs,hc,b,cap,cur,hβ,hσ,hh,RE,kD,⟨n,hn,CB⟩,dG⟩:=hT.ok l _ hB
    have rV:=bH (show aJ V cells=some cs from hc)
    simp only [den,hβ,hσ,qJ,lI,gL,aW,Nat.add_zero,Nat.sub_zero,sJ] at hv
    subst hv
    have hle:len<=n:=by
     rw [<- rV,hn] at h3a
     exact Nat.le_of_mul_le_mul_right h3a h3b
    refine ⟨cs.take (len*sz2),dW _ hc,⟨by rw [List.length_take,rV];omega,.inr ⟨b,cap,cur,rfl,Nat.zero_le _,hh,by omega,RE,kD,?_⟩⟩,fun h=>(by cases h),fun _ _ h=>(by cases h),fun l' sL=>?_⟩
    .rw [<- dG,List.take_take,Nat.min_eq_left (by rw [rV];exact h3a)]
    .cases sL
     exact ⟨_,hB,rfl,fun n hn=>by simpa [SB.aT,hβ,Value.ownBlock] using hn⟩
   .cases h
  .cases h
 .rename_i l len cap
  split at h
  .rename_i cells ty hB
   split at h
   .rename_i h1 h2 h3
    have h1:=cP h1
    have:=cP h2
    subst this
    simp only [iN] at h3
    have h3a:=jX h3.1
    have h3b:=jX h3.2
    simp only [aW,Prod.mk.injEq] at h
    obtain ⟨rfl,rfl,rfl⟩:=h
    obtain ⟨cs,hc,b,hβ,hh⟩:=hT.ok l _ hB
    have rV:=bH (show aJ V cells=some cs from hc)
    simp only [den,hβ,gL,aW,Nat.add_zero] at hv
    subst hv
    have hle:len*sz<=cells.length:=by rw [<- h1];exact Nat.mul_le_mul_right _ h3a
    refine ⟨cs.take (len*sz),dW _ hc,⟨by rw [List.length_take,rV];omega,.inr ⟨b,cap,cs.toArray,rfl,Nat.zero_le _,hh,h3a,by simp only [maxLen];omega,by simp [rV,h1],rfl⟩⟩,fun h=>(by cases h),fun _ _ h=>(by cases h),fun l' sL=>?_⟩
    cases sL
    exact ⟨_,hB,rfl,fun n hn=>by simpa [SB.aT,hβ,Value.ownBlock] using hn⟩
   .cases h
  .cases h
 .cases h
def Vj:Option Nat->Bool
 | none=>true
 | some _=>false
def GQ (T:aX) (te:TI) (el:TypeId) (lab:Nat) (x y:SV):Option bK:=
 match Nat.blt 0 te.size,Nat.beq te.zero.length te.size with
 | true,true=>match Ek T te.size y with
   | some (m,ys)=>match x with
     | .aH _ _ _ 0 0=>match Nat.blt 0 m,Nat.ble (m*te.bytes) 140737488355328&&Nat.ble m 9223372036854775807 with
       | true,true=>some { val:=.dJ lab 0 m 0,new:=[.row te.size ys el] }
       | _,_=>none
     | _=>match Lq T el te.size x with
       | some (lo,n,xs)=>match Nat.blt 0 (n+m) || !Vj lo,Nat.ble ((n+m)*te.bytes) 140737488355328&&Nat.ble (n+m) 9223372036854775807 with
         | true,true=>match y with
           | .raw _=>match lo with
             | none=>none
             | some _=>some { val:=x }
           | _=>some { val:=.dJ lab 0 (n+m) 0,new:=[.row te.size (xs++ys) el],wr:=iE lo }
         | false,true=>match y with
           | .raw _=>some { val:=x }
           | _=>none
         | _,_=>none
       | none=>none
   | none=>none
 | _,_=>none
theorem OT (aU:cD P Γ) {T':aX} (aR:∀ l B,T' l=some B->T l=some B) (hT:aD w0 M V T w) {lab:Nat} (hf:V.fresh lab) {t ty el:TypeId} {te:TI} (ht:P.underlying t=some (.slice el)) (eG:Γ.ty el=some te)
 {x y:SV} {u v:Value} (hx:den V x=some u) (hy:den V y=some v) (he:GQ T' te el lab x y=some e):oV P w0 M V T lab e (Builtin.append_ #[t,t] ty #[u,v]) w:=by
 unfold GQ at he
 split at he
 case h_2=>cases he
 rename_i Fi PT
 have Fi:0<te.size:=by simpa [Nat.blt_eq] using Fi
 have PT:=cP PT
 obtain ⟨_,i,z,hi,cH,mC,hz,hzero⟩:=aU el te eG
 have sK:z.cells.size=i.size:=by
  have h1:=bH (hzero V)
  rw [cH,<- PT,<- h1];simp
 split at he
 case h_2=>cases he
 rename_i m ys CW
 obtain ⟨cy,RD,jB,hh⟩:=uO (hT.sub aR) hy CW
 have h1:=rH jB RD
 rw [<- cH] at hh Fi
 split at he
 .rename_i l s off
  split at he
  case h_2=>cases he
  rename_i hm hb
  have hm:0<m:=by simpa [Nat.blt_eq] using hm
  simp only [iN] at hb
  have pM:=jX hb.1
  have lA:=jX hb.2
  simp only [aW] at he
  subst he
  rcases hh with ⟨_,h0,_⟩ | ⟨ad,c,rfl,hl,cC⟩
  .omega
  simp only [den,dH] at hx
  obtain ⟨p,_,rfl⟩:=hx
  have hr:=run_append_grow (P:=P) w t ty el i z ht hi hz ⟨p.1,p.2+off,none⟩ 0 0 [] (by simp) (by intro j u hj;simp at hj) ad m c cy hl cC (by omega) (by simp only [Nat.zero_add];omega) (growslice_fits (by omega) (by rw [mC];simpa using pM))
  have hgc:=grownCap_ge w (0+m) 0 el
  have hgm:grownCap w (0+m) 0 el<=maxLen:=grownCap_le_maxLen w (0+m) 0 el (by simp only [maxLen];omega)
  have bT:(w.drew.alloc (.cells ((([]:List Value)).toArray++cy.toArray++Builtin.zeroCells z.cells (grownCap w (0+m) 0 el-(0+m))) el)).ownsRow 0 el i.size (.slice (some ⟨w.heap.size,0,none⟩) (0+m) (grownCap w (0+m) 0 el)) (0+m) cy:=by
   refine ⟨by simpa using hl,.inr ⟨w.heap.size,_,_,rfl,Nat.zero_le _,heap_alloc_new w.drew _,hgc,hgm,?_,?_⟩⟩
   .simp only [Array.size_append,List.size_toArray,size_zeroCells,sK,hl,List.length_nil,Nat.zero_add,<- Nat.add_mul]
    congr 1
    simp only [Nat.zero_add] at hgc
    omega
   .rw [Nat.zero_add,<- hl];simp
  have tS:w.grownBy (w.drew.alloc (.cells ((([]:List Value)).toArray++cy.toArray++Builtin.zeroCells z.cells (grownCap w (0+m) 0 el-(0+m))) el)) none:=⟨rfl,rfl,rfl,by simp,fun k hk _=>heap_alloc_old w.drew _ hk⟩
  rw [Nat.zero_add] at hr bT tS
  obtain ⟨b,cap,PV,pU⟩:=hT.Jn (lab:=lab) hf (lo:=none) (own:=none) RD bT (by simp) tS (.inr rfl) (fun _=>rfl) (fun l hl=>(by cases hl)) (.dJ lab 0 m 0) []
  refine ⟨_,_,_,hr,bA.vT hf lab (cT _) (by omega) _ _,?_,by rw [<- cH];exact pU⟩
  simp [den,bA.Hi,bA.put,bA.bC,qJ,PV]
 .split at he
  case h_2=>cases he
  rename_i lo n xs TD
  obtain ⟨cx,hcx,bT,jS,aRg,Jz⟩:=Nf (hT.sub aR) hx TD
  rw [<- cH] at bT
  have jQ:∀ l,lo=some l->∃ B,T l=some B/\B.owned=true/\∀ n,u.ownBlock=some n->B.aT V l=some n:=fun l hl=>by
   obtain ⟨B,h1,h2,h3⟩:=Jz l hl;exact ⟨B,aR l B h1,h2,h3⟩
  have qD:∀ {q:Value},y = .raw q->oV P w0 M V T lab { val:=x } (Builtin.append_ #[t,t] ty #[u,v]) w:=by
   intro q hq
   subst hq
   unfold Ek at CW
   split at CW <;> first | (cases CW;done) | skip
   all_goals first
    | (rename_i heq;cases heq;done)
    | (rename_i heq;cases heq;simp only [den,aW] at hy;subst hy;exact oK ⟨u,run_append_owned_none (P:=P) (w:=w) 0 t ty el i i.size ht hi u n _ bT,hx,rfl,rfl⟩ hT)
    | (simp only [den,aW] at hy;subst hy;exact oK ⟨u,run_append_owned_none (P:=P) (w:=w) 0 t ty el i i.size ht hi u n _ bT,hx,rfl,rfl⟩ hT)
  split at he
  .rename_i Ay hb
   simp only [iN] at hb
   have pM:=jX hb.1
   have lA:=jX hb.2
   split at he
   .split at he
    .cases he
    .simp only [aW] at he
     subst he
     exact qD rfl
   .rename_i hnr
    simp only [aW] at he
    subst he
    rcases hh with ⟨rfl,rfl,rfl⟩ | ⟨ad,c,rfl,hl,cC⟩
    .exfalso
     have:∀ s:SV,den V s=some (.slice none 0 0)->Ek T' te.size s=some (0,ys)->∃ q,s = .raw q:=by
      intro s iK wR
      unfold Ek at wR
      split at wR
      .simp only [den,dH] at iK
       obtain ⟨p,_,hp⟩:=iK
       cases hp
      .simp only [den,dH,gM] at iK
       obtain ⟨p,_,c,_,hp⟩:=iK
       cases hp
      .exact ⟨_,rfl⟩
      .cases wR
     obtain ⟨q,hq⟩:=this y hy CW
     exact hnr q hq
    .obtain ⟨v',w',hr,sI,tS,Kh⟩:=run_append_own (P:=P) w 0 t ty el i z i.size i.bytes ht hi hz rfl rfl sK Fi u n cx bT ad m c cy hl cC h1 (by simp only [maxLen];omega) (by rw [mC];exact pM) (Nat.zero_le _)
     have fF:=pH (P:=P) ht hi hz bT rfl hl cC h1 (by simp only [maxLen];omega) (by rw [mC];exact pM) hr
     have dI:v' ≠ .slice none 0 0:=by
      intro h
      obtain ⟨h2,h3⟩:=Kh.1 h
      cases aNi:lo with
      | none=>
        simp only [aNi,Vj,Bool.not_true,Bool.or_false] at Ay
        have:0<n+m:=by simpa [Nat.blt_eq] using Ay
        subst h2
        rcases bT.2 with ⟨_,h4⟩ | ⟨_,_,_,h4,_⟩
        .omega
        .cases h4
      | some l=>exact aRg l aNi h2
     obtain ⟨b,cap,PV,pU⟩:=hT.Jn (lab:=lab) hf (lo:=lo) (own:=u.ownBlock) (cK hcx RD) sI dI tS fF (fun h=>by rw [jS h];rfl) jQ (.dJ lab 0 (n+m) 0) []
     refine ⟨_,_,_,hr,bA.vT hf lab (cT _) (by omega) _ _,?_,by rw [<- cH];exact pU⟩
     simp [den,bA.Hi,bA.put,bA.bC,qJ,PV]
  .split at he
   .simp only [aW] at he
    subst he
    exact qD rfl
   .cases he
  .cases he
def isX (T:aX):SV->Bool
 | .buf l=>match T l with
   | some (.fQ _ _ _)=>true
   | _=>false
 | _=>false
def rdX (T:aX) (sz:Nat):SV->Option Nat
 | .buf l=>match T l with
   | some (.fQ BQ n _)=>match Nat.beq BQ sz with
     | true=>some n
     | false=>none
   | _=>none
 | v=>match Ek T sz v with
   | some (m,_)=>some m
   | none=>none
def dsX (T:aX) (el:TypeId) (sz:Nat):SV->Option (Option Nat × Nat)
 | .buf l=>match T l with
   | some (.fQ BQ n ty)=>match Nat.beq BQ sz&&Nat.beq ty el with
     | true=>some (some l,n)
     | false=>none
   | _=>none
 | v=>match Lq T el sz v with
   | some (lo,n,xs)=>match nD xs with
     | true=>some (lo,n)
     | false=>none
   | none=>none
def GM (T:aX) (te:TI) (el:TypeId) (lab:Nat) (x y:SV):Option bK:=
 match isX T x||(isX T y||Nat.blt 1 te.size),Nat.blt 0 te.size&&Nat.beq te.zero.length te.size,dsX T el te.size x,rdX T te.size y with
 | true,true,some (lo,n),some m=>some { bO:=[(n+m)*te.bytes<=140737488355328/\n+m<=9223372036854775807],val:=.buf lab,new:=[.fQ te.size (n+m) el],wr:=iE lo }
 | _,_,_,_=>none
theorem aHx {sz:Nat} {v:SV} {x:Value} {m:Nat} (hT:aD w0 M V T w) (hv:den V v=some x) (h:rdX T sz v=some m) :
 (x = .slice none 0 0/\m=0)\/∃ (ad:Addr) (c:Nat) (cy:List Value),x = .slice (some ad) m c/\cy.length=m*sz/\(∀ (j:Nat) (u:Value),cy[j]?=some u->w.cell? (ad.add j)=some u)/\∀ q∈cy,q.oneCell'=true:=by
 have gen:∀ v:SV,den V v=some x->(match Ek T sz v with | some (m,_)=>some m | none=>none)=some m->(x = .slice none 0 0/\m=0)\/∃ (ad:Addr) (c:Nat) (cy:List Value),x = .slice (some ad) m c/\cy.length=m*sz/\(∀ (j:Nat) (u:Value),cy[j]?=some u->w.cell? (ad.add j)=some u)/\∀ q∈cy,q.oneCell'=true:=by
  intro v hv h
  split at h
  .rename_i m' ys hs
   cases h
   obtain ⟨cy,RD,jB,hh⟩:=uO hT hv hs
   have h1:=rH jB RD
   rcases hh with ⟨rfl,rfl,_⟩ | ⟨ad,c,rfl,hl,cC⟩
   .exact .inl ⟨rfl,rfl⟩
   .exact .inr ⟨ad,c,cy,rfl,hl,cC,h1⟩
  .cases h
 unfold rdX at h
 split at h
 .rename_i l
  split at h
  .rename_i BQ n ty hB
   split at h
   case h_2=>cases h
   rename_i gF
   cases h
   have gF:=cP gF
   subst gF
   obtain ⟨cs,hc,u,us,hσ,bT,hq⟩:=hT.ok l _ hB
   simp only [den,hσ,aW] at hv
   subst hv
   rcases bT.2 with ⟨rfl,rfl⟩ | ⟨g,cap,cur,rfl,_,hh,hle,_,kD,dG⟩
   .exact .inl ⟨rfl,rfl⟩
   .refine .inr ⟨⟨g,0,none⟩,cap,us,rfl,bT.1,fun j u hj=>?_,hq⟩
    rw [<- dG,List.getElem?_take] at hj
    split at hj
    .have:w.cell? ⟨g,0+j,none⟩=some u:=by rw [cell_of_row w g _ _ _ _ hh];simpa using hj
     rw [bJ]
     exact this
    .cases hj
  .cases h
 .exact gen _ hv h
theorem aLn {el:TypeId} {sz:Nat} {v:SV} {x:Value} {lo:Option Nat} {n:Nat} (hT:aD w0 M V T w) (hv:den V v=some x) (h:dsX T el sz v=some (lo,n)) :
 ∃ cs:List Value,w.ownsRow 0 el sz x n cs/\(∀ q∈cs,q.oneCell'=true)/\(lo=none->x.ownBlock=none)/\∀ l,lo=some l->∃ B,T l=some B/\B.owned=true/\∀ n,x.ownBlock=some n->B.aT V l=some n:=by
 have gen:∀ v:SV,den V v=some x->(match Lq T el sz v with | some (lo,n,xs)=>(match nD xs with | true=>some (lo,n) | false=>none) | none=>none)=some (lo,n)->∃ cs:List Value,w.ownsRow 0 el sz x n cs/\(∀ q∈cs,q.oneCell'=true)/\(lo=none->x.ownBlock=none)/\∀ l,lo=some l->∃ B,T l=some B/\B.owned=true/\∀ n,x.ownBlock=some n->B.aT V l=some n:=by
  intro v hv h
  split at h
  .rename_i lo' n' xs hd
   split at h
   case h_2=>cases h
   rename_i jB
   cases h
   obtain ⟨cs,kD,bT,hn,_,hl⟩:=Nf hT hv hd
   exact ⟨cs,bT,rH jB kD,fun e=>by rw [hn e];rfl,hl⟩
  .cases h
 unfold dsX at h
 split at h
 .rename_i l
  split at h
  .rename_i BQ n' ty hB
   split at h
   case h_2=>cases h
   rename_i kE
   simp only [iN] at kE
   cases h
   have h1:=cP kE.1
   have h2:=cP kE.2
   subst h1 h2
   obtain ⟨cs,hc,u,us,hσ,bT,hq⟩:=hT.ok l _ hB
   simp only [den,hσ,aW] at hv
   subst hv
   exact ⟨us,bT,hq,fun e=>by (cases e),fun l' e=>by cases e;exact ⟨_,hB,rfl,fun n hn=>by simp [SB.aT,hσ,hn]⟩⟩
  .cases h
 .exact gen _ hv h
theorem OP (aU:cD P Γ) {T':aX} (aR:∀ l B,T' l=some B->T l=some B) (hT:aD w0 M V T w) {lab:Nat} (hf:V.fresh lab) {t ty el:TypeId} {te:TI} (ht:P.underlying t=some (.slice el)) (eG:Γ.ty el=some te)
 {x y:SV} {u v:Value} (hx:den V x=some u) (hy:den V y=some v) (he:GM T' te el lab x y=some e) (ho:∀ q∈e.bO,q):oV P w0 M V T lab e (Builtin.append_ #[t,t] ty #[u,v]) w:=by
 unfold GM at he
 split at he
 case h_2=>cases he
 rename_i lo n m _ gF hd hr
 cases he
 simp only [iN] at gF
 have Fi:0<te.size:=by simpa [Nat.blt_eq] using gF.1
 have PT:=cP gF.2
 obtain ⟨_,i,z,hi,cH,mC,hz,hzero⟩:=aU el te eG
 have sK:z.cells.size=i.size:=by
  have h1:=bH (hzero V)
  rw [cH,<- PT,<- h1];simp
 obtain ⟨pM,lA⟩:=ho _ dC
 obtain ⟨cx,bT,hox,jS,Jz⟩:=aLn (hT.sub aR) hx hd
 have jQ:∀ l,lo=some l->∃ B,T l=some B/\B.owned=true/\∀ n,u.ownBlock=some n->B.aT V l=some n:=fun l hl=>by
  obtain ⟨B,h1,h2,h3⟩:=Jz l hl;exact ⟨B,aR l B h1,h2,h3⟩
 rw [<- cH] at bT Fi
 have Hk:n+m<=maxLen:=by simp only [maxLen];omega
 rcases aHx (hT.sub aR) hy hr with ⟨rfl,rfl⟩ | ⟨ad,c,cy,rfl,hl,cC,jB⟩
 .have dY:=run_append_owned_none (P:=P) (w:=w) 0 t ty el i i.size ht hi u n _ bT
  refine ⟨V.bC lab u,u,w,dY,bA.cG hf lab (cT _) (by omega) u,by simp [den,bA.bC],?_⟩
  have kX:okB (V.bC lab u) w lab (.fQ te.size (n+0) el):=⟨[],rfl,u,cx,by simp [bA.bC],by rw [<- cH];exact bT,hox⟩
  refine hT.rM hf kX (fun n hb=>by simpa [SB.aT,bA.bC] using hb) ⟨rfl,rfl,rfl,cT _,fun _ _ _=>rfl⟩ (.inl rfl) jS jQ _ _
 .rw [<- cH] at hl
  obtain ⟨v',w',dY,sI,tS,_⟩:=run_append_own (P:=P) w 0 t ty el i z i.size i.bytes ht hi hz rfl rfl sK Fi u n cx bT ad m c cy hl cC jB Hk (by rw [mC];exact pM) (Nat.zero_le _)
  have fF:=pH (P:=P) ht hi hz bT rfl hl cC jB Hk (by rw [mC];exact pM) dY
  refine ⟨V.bC lab v',v',w',dY,bA.cG hf lab (cT _) (by omega) v',by simp [den,bA.bC],?_⟩
  have kX:okB (V.bC lab v') w' lab (.fQ te.size (n+m) el):=⟨[],rfl,v',cx++cy,by simp [bA.bC],by rw [<- cH];exact sI,fun q hq=>?_⟩
  refine hT.rM hf kX (fun n hb=>by simpa [SB.aT,bA.bC] using hb) tS fF jS jQ _ _
  rcases List.mem_append.1 hq with hq | hq
  .exact hox q hq
  .exact jB q hq
end He
section He
variable {P:Program} {Γ:Env} {V:bA} {w w0:World} {M:Nat->Prop} {T:aX} {g:Nat->Option SV} {a:Act} {o:Oper} {e:bK}
def Kx:SV->Option (Nat × Nat × Nat)
 | .aH l true off len _=>some (l,off,len)
 | .dJ l off len _=>some (l,off,len)
 | _=>none
theorem Cs {v:SV} {x:Value} {l off len:Nat} (h:Kx v=some (l,off,len)) (hv:den V v=some x):∃ p c,V.β l=some p/\x = .slice (some ⟨p.1,p.2+off,none⟩) len c:=by
 unfold Kx at h
 split at h
 .simp only [aW,Prod.mk.injEq] at h
  obtain ⟨rfl,rfl,rfl⟩:=h
  simp only [den,dH] at hv
  obtain ⟨p,hβ,rfl⟩:=hv
  exact ⟨p,_,hβ,rfl⟩
 .simp only [aW,Prod.mk.injEq] at h
  obtain ⟨rfl,rfl,rfl⟩:=h
  simp only [den,dH,gM] at hv
  obtain ⟨p,hβ,c,_,rfl⟩:=hv
  exact ⟨p,_,hβ,rfl⟩
 .cases h
def Qw (T:aX) (sz:Nat) (x y:SV):Option bK:=
 match Kx x,Ek T sz y with
 | some (l,off,len),some (m,ys)=>match T l with
   | some B=>match BO B true off (ys.take (Nat.min m len*sz)) with
     | some ([],B')=>some { val:=.int true .i64 ((Nat.min m len:Nat):Int),wr:=[(l,B')] }
     | _=>none
   | none=>none
 | none,some _=>match x with
   | .raw (.slice none 0 0)=>some { val:=.int true .i64 0 }
   | _=>none
 | _,_=>none
theorem AK (aU:cD P Γ) {T':aX} (aR:∀ l B,T' l=some B->T l=some B) (hT:aD w0 M V T w) {lab:Nat} {dT sT ty el:TypeId} {te:TI} (ht:P.underlying dT=some (.slice el)) (eG:Γ.ty el=some te)
 {x y:SV} {u v:Value} (hx:den V x=some u) (hy:den V y=some v) (he:Qw T' te.size x y=some e):oV P w0 M V T lab e (Builtin.copy_ #[dT,sT] ty #[u,v]) w:=by
 unfold Qw at he
 split at he
 case h_3=>cases he
 case h_2=>
  rename_i q hs hq
  split at he
  case h_2=>cases he
  cases he
  simp only [den,aW] at hx
  subst hx
  obtain ⟨_,i,z,hi,cH,_⟩:=aU el te eG
  refine ⟨V,.int .i64 0,w,?_,V.cO lab,rfl,by rw [jN T lab rfl rfl];exact hT⟩
  obtain ⟨m,ys⟩:=q
  obtain ⟨cy,RD,jB,hh⟩:=uO (hT.sub aR) hy hq
  rcases hh with ⟨rfl,rfl,rfl⟩ | ⟨ad,c',rfl,hl,cC⟩
  .have hf:=run_firstCells_none (P:=P) (w:=w) te.size 0 0 0
   simp [Builtin.copy_,run_underlying ht,Builtin.lenOf,run_sizeOf hi,cH,hf,goInt]
  .have hf:=run_firstCells_some (P:=P) (w:=w) te.size 0 ad m c' [] (by simp) (fun j q hj=>by simp at hj)
   simp [Builtin.copy_,run_underlying ht,Builtin.lenOf,run_sizeOf hi,cH,hf,goInt]
 rename_i l off len m ys hs hq
 split at he
 case h_2=>cases he
 rename_i B hB
 split at he
 case h_2=>cases he
 rename_i B' hw
 simp only [aW] at he
 subst he
 obtain ⟨_,i,z,hi,cH,_⟩:=aU el te eG
 obtain ⟨p,c,hβ,rfl⟩:=Cs hs hx
 obtain ⟨cy,RD,jB,hh⟩:=uO (hT.sub aR) hy hq
 have h1:=rH jB RD
 have hd:=dW (Nat.min m len*te.size) RD
 obtain ⟨w',hr,pU⟩:=Ht (P:=P) lab (.int true .i64 ((Nat.min m len:Nat):Int)) hT (aR l B hB) (b:=p.1) (o:=p.2) hβ hw (by simp) hd (fun q hq=>h1 q (List.mem_of_mem_take hq))
 refine ⟨V,_,w',?_,V.cO lab,rfl,pU⟩
 rcases hh with ⟨rfl,rfl,rfl⟩ | ⟨ad,c',rfl,hl,cC⟩
 .have hf:=run_firstCells_none (P:=P) (w:=w) te.size 0 0 0
  simp only [List.take_nil] at hr
  simp [Builtin.copy_,run_underlying ht,Builtin.lenOf,run_sizeOf hi,cH,hf,hr,goInt]
 .have hf:=run_firstCells_some (P:=P) (w:=w) te.size (Nat.min m len) ad m c' (cy.take (Nat.min m len*te.size))
   (by rw [List.length_take,hl];exact Nat.min_eq_left (Nat.mul_le_mul_right _ (Nat.min_le_left _ _)))
   (fun j q hj=>by
    rw [List.getElem?_take] at hj
    split at hj
    .exact cC j q hj
    .cases hj)
  simp [Builtin.copy_,run_underlying ht,Builtin.lenOf,run_sizeOf hi,cH,hf,hr,goInt]
def wZ (zero:List SV) (n:Nat):List SV:=(List.range (n*zero.length)).map fun j=>zero.getD (j%zero.length) (.raw undef)
theorem Gc {zero:List SV} {z:Array Value} (h:aJ V zero=some z.toList) (h0:0<zero.length) (n:Nat):aJ V (wZ zero n)=some (((Array.range (n*z.size)).map fun j=>z[j%z.size]!).toList):=by
 have hl:z.size=zero.length:=by have:=bH h;simpa using this
 have:=fM (V:=V) (n*zero.length) (fun j=>zero.getD (j%zero.length) (.raw undef)) (fun j=>z[j%zero.length]!) (fun j _=>by
  have cM:j%zero.length<zero.length:=Nat.mod_lt _ h0
  obtain ⟨x,hx,hd⟩:=dR h (j%zero.length) _ (List.getElem?_eq_getElem cM)
  have e1:zero.getD (j%zero.length) (.raw undef)=zero[j%zero.length]:=by simp [gY,cM]
  rw [e1,hd]
  have hz:j%zero.length<z.size:=by omega
  simp only [Array.getElem?_toList,Array.getElem?_eq_getElem hz,aW] at hx
  rw [<- hx]
  simp [getElem!_def,Array.getElem?_eq_getElem hz])
 rw [wZ,this,hl]
 simp [Array.toList_range]
def Jl (T:aX) (te:TI) (x:SV):Option bK:=
 match x with
 | .raw (.slice none _ _)=>some { val:=.eD [] }
 | _=>match Kx x,Nat.blt 0 te.zero.length&&nD te.zero with
   | some (l,off,len),true=>match T l with
     | some B=>match BO B true off (wZ te.zero len) with
       | some ([],B')=>some { val:=.eD [],wr:=[(l,B')] }
       | _=>none
     | none=>none
   | _,_=>none
theorem Yu {vs:List SV} (h:nD vs=true) {v:SV} (hv:v∈vs):SL v=true:=by
 unfold nD at h
 exact List.all_eq_true.1 h v hv
theorem Nn {zero:List SV} (h:nD zero=true) (h0:0<zero.length) (n:Nat):nD (wZ zero n)=true:=by
 unfold nD wZ
 rw [List.all_eq_true]
 intro v hv
 obtain ⟨j,_,rfl⟩:=List.mem_map.1 hv
 have cM:j%zero.length<zero.length:=Nat.mod_lt _ h0
 simp only [gY,List.getElem?_eq_getElem cM,Option.getD_some]
 exact Yu h (List.getElem_mem cM)
theorem Ss (aU:cD P Γ) {T':aX} (aR:∀ l B,T' l=some B->T l=some B) (hT:aD w0 M V T w) {lab:Nat} {t ty el:TypeId} {te:TI} (ht:P.underlying t=some (.slice el)) (eG:Γ.ty el=some te)
 {x:SV} {u:Value} (hx:den V x=some u) (he:Jl T' te x=some e):oV P w0 M V T lab e (Builtin.clear_ #[t] ty #[u]) w:=by
 unfold Jl at he
 split at he
 .simp only [aW] at he
  subst he
  simp only [den,aW] at hx
  subst hx
  exact oK ⟨.tuple #[],by simp [Builtin.clear_,run_underlying ht],by simp [den,aJ],rfl,rfl⟩ hT
 .split at he
  case h_2=>cases he
  rename_i l off len hs hz
  split at he
  case h_2=>cases he
  rename_i B hB
  split at he
  case h_2=>cases he
  rename_i B' hw
  simp only [aW] at he
  subst he
  simp only [iN] at hz
  have h0:0<te.zero.length:=by simpa [Nat.blt_eq] using hz.1
  obtain ⟨_,i,z,hi,cH,_,hzz,hzero⟩:=aU el te eG
  obtain ⟨p,c,hβ,rfl⟩:=Cs hs hx
  have hd:=Gc (V:=V) (hzero V) h0 len
  have h1:=rH (Nn hz.2 h0 len) hd
  obtain ⟨w',hr,pU⟩:=Ht (P:=P) lab (.eD []) hT (aR l B hB) (b:=p.1) (o:=p.2) hβ hw (by simp) hd h1
  cases len with
  | zero=>
    refine ⟨V,.tuple #[],w,?_,V.cO lab,by simp [den,aJ],?_⟩
    .simp [Builtin.clear_,run_underlying ht]
    .have:w'=w:=by
      have e0:((Array.range (0*z.cells.size)).map fun j=>z.cells[j%z.cells.size]!).toList=[]:=by simp
      rw [e0] at hr
      simp only [storeCells,Sem.run_pure,Result.ok.injEq,true_and] at hr
      exact hr.symm
     rw [<- this];exact pU
  | succ n=>
    refine ⟨V,.tuple #[],w',?_,V.cO lab,by simp [den,aJ],pU⟩
    have Dw:(Builtin.zeroCells z.cells (n+1)).toList=((Array.range ((n+1)*z.cells.size)).map fun j=>z.cells[j%z.cells.size]!).toList:=rfl
    rw [<- Dw] at hr
    simp [Builtin.clear_,run_underlying ht,dZ hi hzz,hr]
def evP (Γ:Env) (g:Nat->Option SV):List (Nat × Operand)->Option (List (Nat × SV))
 | []=>some []
 | (i,x)::r=>match ev Γ g x,evP Γ g r with
   | some v,some vs=>some ((i,v)::vs)
   | _,_=>none
theorem Qm (ht:cJ V g a) (hg:bR Γ V):∀ {ps:List (Nat × Operand)} {vs:List (Nat × SV)},evP Γ g ps=some vs ->
 (ps.map fun p=>(p.1,a.eval p.2)).map (·.1)=vs.map (·.1)/\aJ V (vs.map (·.2))=some ((ps.map fun p=>(p.1,a.eval p.2)).map (·.2))
 | [],vs,h=>by simp only [evP,aW] at h;subst h;simp [aJ]
 | (i,x)::r,vs,h=>by
   simp only [evP] at h
   split at h
   .rename_i v us hv Dy
    cases h
    obtain ⟨h1,h2⟩:=Qm ht hg Dy
    refine ⟨by simp only [List.map_cons,h1],?_⟩
    simp only [List.map_cons,aJ,bI ht hg hv,lI,h2,gL]
   .cases h
def placesOf (Γ:Env):List Field->Option (List (Nat × Nat))
 | []=>some []
 | f::r=>match Γ.ty f.type,placesOf Γ r with
   | some ti,some ps=>some ((f.offset,ti.size)::ps)
   | _,_=>none
theorem yH (aU:cD P Γ) (w:World):∀ {fs:List Field} {ps:List (Nat × Nat)},placesOf Γ fs=some ps ->
 (fs.mapM (m:=Sem) fun f=>do pure (f.offset,<- sizeOf f.type)).run P w = .ok ps w
 | [],ps,h=>by simp only [placesOf,aW] at h;subst h;simp
 | f::r,ps,h=>by
   simp only [placesOf] at h
   split at h
   .rename_i ti qs eA hqs
    cases h
    obtain ⟨_,i,z,hi,cH,_⟩:=aU _ _ eA
    have ih:=yH aU w hqs
    simp only [List.mapM_cons,Sem.run_bind,run_sizeOf hi,Result.andThen_ok,Sem.run_pure,ih,cH]
   .cases h
def yE (a b:IntKind):Bool:=decide (a=b)
def cN (k:IntKind) (n:Nat) (xs:List Int):List SV:=(List.range n).map fun j=>.int false k (xs.getD j 0)
theorem vY {V:bA} {k:IntKind} {n:Nat} {xs:List Int} (h:xs.length=n):aJ V (cN k n xs)=some (xs.map (Value.int k)):=by
 unfold cN
 rw [fM (V:=V) n (fun j=>.int false k (xs.getD j 0)) (fun j=>.int k (xs.getD j 0)) (fun j _=>rfl)]
 congr 1
 apply List.ext_getElem
 .simp [h]
 .intro i h1 h2
  have h3:i<xs.length:=by simpa using h2
  simp [gY,h3]
def Hn (place:Nat->Option (Nat × Nat)):List (Nat × SV)->List Prop × List (Nat × SV)
 | []=>([],[])
 | (i,v)::r=>match Hn place r with
   | (ob,r')=>match v,place i with
     | .ai k xs,some (_,n)=>((xs.length=n)::ob,(i,.agg (cN k n xs))::r')
     | v,_=>(ob,(i,v)::r')
theorem zT {place:Nat->Option (Nat × Nat)}:∀ {l r:List (Nat × SV)} {ob:List Prop},Hn place l=(ob,r)->(∀ q∈ob,q)->r.map (·.1)=l.map (·.1)/\aJ V (r.map (·.2))=aJ V (l.map (·.2))
 | [],r,ob,h,ho=>by simp only [Hn,Prod.mk.injEq] at h;obtain ⟨_,rfl⟩:=h;exact ⟨rfl,rfl⟩
 | (i,v)::l,r,ob,h,ho=>by
   simp only [Hn] at h
   obtain ⟨ob1,r1,h1⟩:∃ ob1 r1,Hn place l=(ob1,r1):=⟨_,_,rfl⟩
   rw [h1] at h
   simp only at h
   have plain:(ob1,(i,v)::r1)=(ob,r)->r.map (·.1)=((i,v)::l).map (·.1)/\aJ V (r.map (·.2))=aJ V (((i,v)::l).map (·.2)):=by
    intro h
    simp only [Prod.mk.injEq] at h
    obtain ⟨rfl,rfl⟩:=h
    obtain ⟨e1,e2⟩:=zT h1 ho
    exact ⟨by simp [e1],by simp only [List.map_cons,aJ,e2]⟩
   split at h
   .rename_i k xs _ n _
    simp only [Prod.mk.injEq] at h
    obtain ⟨rfl,rfl⟩:=h
    obtain ⟨e1,e2⟩:=zT h1 (fun q hq=>ho q (eM _ hq))
    have hn:xs.length=n:=ho _ dC
    exact ⟨by simp [e1],by simp only [List.map_cons,aJ,den,e2,vY hn,gL]⟩
   .exact plain h
def Ra (Γ:Env) (g:Nat->Option SV) (T:aX) (t:TypeId) (parts:Array (Nat × Operand)):Option bK:=
 match Γ.ty t,evP Γ g parts.toList with
 | some ti,some vs=>match ti.desc with
   | .struct fs=>match placesOf Γ fs.toList with
     | some ps=>match Hn (fun i=>ps[i]?) vs with
       | (ob,vs)=>(Bw T (fun i=>ps[i]?) ti.zero vs).map fun r=>{ bO:=ob,val:=.agg r }
     | none=>none
   | .array _ el=>match Γ.ty el with
     | some te=>match Hn (fun i=>some (i*te.size,te.size)) vs with
       | (ob,vs)=>(Bw T (fun i=>some (i*te.size,te.size)) ti.zero vs).map fun r=>{ bO:=ob,val:=.agg r }
     | none=>none
   | _=>none
 | _,_=>none
theorem AN (aU:cD P Γ) (ht:cJ V g a) (hg:bR Γ V) {T':aX} (aR:∀ l B,T' l=some B->T l=some B) (hT:aD w0 M V T w) {t:TypeId} {parts:Array (Nat × Operand)} (bZ:o.op = .build t parts) (he:Ra Γ g T' t parts=some e) (ho:∀ q∈e.bO,q) (lab:Nat):lB P w0 M V T lab e o a w:=by
 unfold Ra at he
 split at he
 case h_2=>cases he
 rename_i ti vs eA hvs
 obtain ⟨hu,i,z,hi,cH,_,hz,hzero⟩:=aU t ti eA
 obtain ⟨h1,h2⟩:=Qm ht hg hvs
 have BY:(parts.map fun (p:Nat × Operand)=>(p.1,a.eval p.2)).toList=parts.toList.map fun p=>(p.1,a.eval p.2):=by simp
 split at he
 .rename_i fs hd
  rw [hd] at hu
  split at he
  case h_2=>cases he
  rename_i ps hps
  obtain ⟨ob,Jr,hex⟩:∃ ob Jr,Hn (fun i=>ps[i]?) vs=(ob,Jr):=⟨_,_,rfl⟩
  rw [hex] at he
  simp only [dH] at he
  obtain ⟨r,hr,rfl⟩:=he
  obtain ⟨e1,e2⟩:=zT (V:=V) hex ho
  obtain ⟨rs,Xd,hdr⟩:=wA (V:=V) aR hT hr (hzero V) (h1.trans e1.symm) (e2.trans h2)
  refine bF (x:=.agg rs) ?_ (by simp [den,hdr]) rfl rfl hT
  have hm:(fs.mapM (m:=Sem) fun f=>do pure (f.offset,<- sizeOf f.type)).run P w = .ok ps.toArray w:=by
   rw [Array.mapM_eq_mapM_toList]
   simp only [map_eq_pure_bind,Sem.run_bind,yH aU w hps,Result.andThen_ok,Sem.run_pure]
  have Pk:Instr.fill (fun i=>ps.toArray[i]?) z.cells (parts.toList.map fun p=>(p.1,a.eval p.2))=some rs:=by
   simpa using Xd
  unfold execOp
  simp only [bZ,Instr.build,Sem.run_bind,dZ hi hz,Result.andThen_ok,run_underlying hu w,hm,BY,Pk,Sem.run_pure]
 .rename_i n el hd
  rw [hd] at hu
  split at he
  case h_2=>cases he
  rename_i te eG
  obtain ⟨_,i2,z2,Tj,aRr,_⟩:=aU el te eG
  obtain ⟨ob,Jr,hex⟩:∃ ob Jr,Hn (fun i=>some (i*te.size,te.size)) vs=(ob,Jr):=⟨_,_,rfl⟩
  rw [hex] at he
  simp only [dH] at he
  obtain ⟨r,hr,rfl⟩:=he
  obtain ⟨e1,e2⟩:=zT (V:=V) hex ho
  obtain ⟨rs,Xd,hdr⟩:=wA (V:=V) aR hT hr (hzero V) (h1.trans e1.symm) (e2.trans h2)
  refine bF (x:=.agg rs) ?_ (by simp [den,hdr]) rfl rfl hT
  have Pk:Instr.fill (fun i=>some (i*te.size,te.size)) z.cells (parts.toList.map fun p=>(p.1,a.eval p.2))=some rs:=by
   simpa using Xd
  unfold execOp
  simp only [bZ,Instr.build,Sem.run_bind,dZ hi hz,Result.andThen_ok,run_underlying hu w,run_sizeOf Tj,aRr,BY,Pk,Sem.run_pure]
 .cases he
def qX (Γ:Env) (g:Nat->Option SV) (T:aX) (t:TypeId) (len:Nat) (parts:Array (Nat × Operand)) (lab:Nat):Option bK:=
 match Γ.ty t,evP Γ g parts.toList with
 | some ti,some vs=>match ti.desc with
   | .slice el=>match Γ.ty el with
     | some te=>match Nat.blt 0 te.size&&Nat.beq te.zero.length te.size&&Nat.ble (len*te.size) 16777216 with
       | true=>(Bw T (fun i=>some (i*te.size,te.size)) (wZ te.zero len) vs).map fun r=>{ val:=.aH lab true 0 len len,new:=[.own r el] }
       | false=>none
     | none=>none
   | _=>none
 | _,_=>none
theorem Du (aU:cD P Γ) (ht:cJ V g a) (hg:bR Γ V) {T':aX} (aR:∀ l B,T' l=some B->T l=some B) (hT:aD w0 M V T w) {t:TypeId} {len:Nat} {parts:Array (Nat × Operand)} (bZ:o.op = .buildSlice t len parts) {lab:Nat} (hf:V.fresh lab)
 (he:qX Γ g T' t len parts lab=some e):lB P w0 M V T lab e o a w:=by
 unfold qX at he
 split at he
 case h_2=>cases he
 rename_i ti vs eA hvs
 obtain ⟨hu,_⟩:=aU t ti eA
 obtain ⟨h1,h2⟩:=Qm ht hg hvs
 have BY:(parts.map fun (p:Nat × Operand)=>(p.1,a.eval p.2)).toList=parts.toList.map fun p=>(p.1,a.eval p.2):=by simp
 split at he
 case h_2=>cases he
 rename_i el hd
 rw [hd] at hu
 split at he
 case h_2=>cases he
 rename_i te eG
 obtain ⟨_,i,z,hi,cH,_,hz,hzero⟩:=aU el te eG
 split at he
 case h_2=>cases he
 rename_i hc
 simp only [iN] at hc
 have BK:0<te.size:=by simpa [Nat.blt_eq] using hc.1.1
 have tV:=cP hc.1.2
 have hc3:=jX hc.2
 have sK:z.cells.size=te.size:=by
  have h1:=bH (hzero V)
  rw [<- tV,<- h1];simp
 simp only [dH] at he
 obtain ⟨r,hr,rfl⟩:=he
 have aWn:=Gc (V:=V) (hzero V) (by omega) len
 obtain ⟨rs,Xd,hdr⟩:=wA (V:=V) (T':=T') aR hT hr aWn h1 h2
 intro K Q hK
 unfold Oper.wp
 have Pk:Instr.fill (fun i=>some (i*te.size,te.size)) ((Array.range (len*te.size)).map (z.cells[· % z.cells.size]!)) (parts.toList.map fun p=>(p.1,a.eval p.2))=some rs:=by
  rw [<- Xd,sK]
 have dY:(execOp a.eval o).run P w = .ok (.value (.slice (some ⟨w.heap.size,0,none⟩) len len)) (w.alloc (.cells rs el)):=by
  unfold execOp
  have En:¬ (len*te.size>2^24):=by omega
  by_cases h0:len*te.size=0
  .have hlen:len=0:=by
    rcases Nat.mul_eq_zero.1 h0 with h | h
    .exact h
    .omega
   subst hlen
   have hr0:Array.range (0*te.size) = #[]:=by rw [Nat.zero_mul];rfl
   rw [hr0,Array.map_empty] at Pk
   simp only [bZ,Instr.buildSlice,Sem.run_bind,run_underlying hu w,Result.andThen_ok,run_sizeOf hi,cH,if_neg En,if_pos h0,Sem.run_pure,hr0,Array.map_empty,BY,Pk]
   simp [newRow]
  .simp only [bZ,Instr.buildSlice,Sem.run_bind,run_underlying hu w,Result.andThen_ok,run_sizeOf hi,cH,if_neg En,if_neg h0,dZ hi hz,Sem.run_pure,BY,Pk]
   simp [newRow]
 rw [dY,Oper.upon_value]
 have:=hT.alloc hf (B:=.own r el) (cs:=rs.toList) (.inl rfl) hdr (.aH lab true 0 len len) []
 exact hK (V.put lab (w.heap.size,0)) _ _ (bA.kB hf lab (cT _) (by omega) _) (by simp [den,bA.put]) this
def aFj (Γ:Env) (g:Nat->Option SV) (t:TypeId) (x:Operand):Option bK:=
 match Γ.ty t,ev Γ g x with
 | some ti,some v=>match ti.desc,Kx v with
   | .array n _,some (l,off,len)=>match Nat.ble n len with
     | true=>some { val:=.ptr l true off }
     | false=>none
   | .array n _,none=>match v with
     | .aH l false off len _=>some { bO:=[n<=len],val:=.ptr l false off }
     | .iH l len=>match Nat.blt 0 n with
       | true=>some { bO:=[n<=len],val:=.iZ l 0 }
       | false=>none
     | _=>none
   | _,_=>none
 | _,_=>none
theorem aBj (aU:cD P Γ) (ht:cJ V g a) (hg:bR Γ V) (hT:aD w0 M V T w) {t:TypeId} {x:Operand} (bZ:o.op = .sliceToArrayPointer t x) (he:aFj Γ g t x=some e) (ho:∀ q∈e.bO,q) (lab:Nat):lB P w0 M V T lab e o a w:=by
 unfold aFj at he
 split at he
 case h_2=>cases he
 rename_i ti v eA hv
 split at he
 case h_3=>cases he
 case h_2=>
  rename_i n el hd hs
  split at he
  case h_3=>cases he
  case h_2=>
   rename_i l len
   split at he
   case h_2=>cases he
   rename_i Ob
   have Ob:0<n:=by simpa [Nat.blt_eq] using Ob
   simp only [aW] at he
   subst he
   have hle:n<=len:=ho _ dC
   obtain ⟨hu,_⟩:=aU t ti eA
   rw [hd] at hu
   have hx:=bI ht hg hv
   simp only [den,gM] at hx
   obtain ⟨y,hσ,hx⟩:=hx
   obtain ⟨hx,hy⟩:=kA hx
   rcases hy with ⟨_,h0⟩ | ⟨b,base,c,rfl,_⟩
   .omega
   refine bF (x:=.pointer (some ⟨b,base,none⟩)) ?_ (by simp [den,hσ,Addr.add]) rfl rfl hT
   unfold execOp
   have En:¬ len<n:=by omega
   simp only [bZ,hx,Instr.arrayAt,Sem.run_bind,run_underlying hu w,Result.andThen_ok,if_neg En,Sem.run_pure]
  rename_i l off len cap
  simp only [aW] at he
  subst he
  have hle:n<=len:=ho _ dC
  obtain ⟨hu,_⟩:=aU t ti eA
  rw [hd] at hu
  have hx:=bI ht hg hv
  simp only [den,dH] at hx
  obtain ⟨p,hβ,hx⟩:=hx
  refine bF (x:=.pointer (some ⟨p.1,p.2+off,none⟩)) ?_ (by simp [den,hβ]) rfl rfl hT
  unfold execOp
  have En:¬ len<n:=by omega
  simp only [bZ,<- hx,Instr.arrayAt,Sem.run_bind,run_underlying hu w,Result.andThen_ok,if_neg En,Sem.run_pure]
 rename_i n el l off len hd hs
 split at he
 case h_2=>cases he
 rename_i hle
 have hle:=jX hle
 simp only [aW] at he
 subst he
 obtain ⟨hu,_⟩:=aU t ti eA
 rw [hd] at hu
 obtain ⟨p,c,hβ,hx⟩:=Cs hs (bI ht hg hv)
 refine bF (x:=.pointer (some ⟨p.1,p.2+off,none⟩)) ?_ (by simp [den,hβ]) rfl rfl hT
 unfold execOp
 have En:¬ len<n:=by omega
 simp only [bZ,hx,Instr.arrayAt,Sem.run_bind,run_underlying hu w,Result.andThen_ok,if_neg En,Sem.run_pure]
def zOf:SV->Option (SV × Value)
 | .int _ k z=>some (.int true k z,.int k z)
 | .raw (.slice none 0 0)=>some (.raw (.slice none 0 0),.slice none 0 0)
 | _=>none
theorem aFy {v s:SV} {x:Value} (h:zOf v=some (s,x)) (V:bA):den V v=some x/\den V s=some x/\x.oneCell'=true:=by
 unfold zOf at h
 split at h
 .cases h;exact ⟨rfl,rfl,rfl⟩
 .cases h;exact ⟨rfl,rfl,rfl⟩
 .cases h
def De (d:TypeDesc) (te:TI) (el:TypeId) (lab:Nat) (x y:SV):Option bK:=
 match d,x,y with
 | .int _,.raw (.slice none 0 0),.int sn _ n=>match rY sn (0<n/\n*te.bytes<=140737488355328/\n<=9223372036854775807),te.zero,Nat.beq te.size 1 with
   | some ob,[z],true=>match zOf z with
     | some (s,_)=>some { bO:=ob,val:=.dJ lab 0 n.toNat 0,new:=[.row 1 (List.replicate n.toNat s) el] }
     | none=>none
   | _,_,_=>none
 | _,_,_=>none
theorem iG (v:Value) (n:Nat):Builtin.zeroCells #[v] n=(List.replicate n v).toArray:=by
 apply Array.ext
 .simp [Builtin.zeroCells]
 .intro i h1 h2
  simp [Builtin.zeroCells,Nat.mod_one]
theorem pP (w:World) {t t2 ty el:TypeId} {ik:IntKind} {i:TypeInfo} {z:Value} (ht:P.underlying t=some (.slice el)) (On:P.underlying t2=some (.int ik)) (hi:P.info? el=some i) (hz:i.zero=some z) (gF:i.size=1) (k0:IntKind) (n:Nat)
 (h0:0<n) (h63:(n:Int)<=9223372036854775807) (hb:n*i.bytes<=140737488355328) :
 (Builtin.append_ #[t,t2] ty #[.slice none 0 0,.int k0 n]).run P w = .ok (.slice (some ⟨w.heap.size,0,none⟩) n (grownCap w n 0 el))
  (w.drew.alloc (.cells (Builtin.zeroCells z.cells n++Builtin.zeroCells z.cells (grownCap w n 0 el-n)) el)):=by
 have hw:IntKind.i64.wrap (n:Int)=n:=IntWalk.i64_in _ (by omega)
 have hn:n≠0:=by omega
 have aEu:¬ (9223372036854775807<(n:Int)):=by omega
 have h1:¬ ((n:Int)<0):=by omega
 have h2:¬ (281474976710656<(n:Int)*(i.bytes:Int)):=by
  have:((n*i.bytes:Nat):Int)<=140737488355328:=by omega
  rw [Int.natCast_mul] at this
  omega
 have aEv:¬ (281474976710656<Builtin.nextslicecap n 0*i.bytes):=by rw [nextslicecap_zero h0];omega
 simp [Builtin.append_,run_underlying ht,run_underlying On,sizeOf,typeInfo,zeroValue,hi,hz,gF,asInt,asIntOf,hw,h1,h2,hn,aEu,aEv,Question.forced,newRow,grownCap,Builtin.firstCells]
theorem Nx (aU:cD P Γ) (hT:aD w0 M V T w) {lab:Nat} (hf:V.fresh lab) {t t2 ty el:TypeId} {d:TypeDesc} {te:TI} (ht:P.underlying t=some (.slice el)) (On:P.underlying t2=some d) (eG:Γ.ty el=some te)
 {x y:SV} {u v:Value} (hx:den V x=some u) (hy:den V y=some v) (he:De d te el lab x y=some e) (ho:∀ q∈e.bO,q):oV P w0 M V T lab e (Builtin.append_ #[t,t2] ty #[u,v]) w:=by
 unfold De at he
 split at he
 case h_2=>cases he
 rename_i ik sn kk n
 split at he
 case h_2=>cases he
 rename_i ob z0 hc PT hs
 split at he
 case h_2=>cases he
 rename_i s x0 hzo
 have hs:=cP hs
 simp only [aW] at he
 subst he
 obtain ⟨h1,h2,h3⟩:=gO hc ho
 simp only [den,aW] at hx hy
 subst hx hy
 obtain ⟨_,i,zv,hi,cH,mC,hz,hzero⟩:=aU el te eG
 obtain ⟨m,rfl⟩:=pW (Int.le_of_lt h1)
 have hm:0<m:=by omega
 obtain ⟨zo1,zo2,zo3⟩:=aFy hzo V
 have Dw:zv.cells = #[x0]:=by
  have:=hzero V
  rw [PT] at this
  simp only [aJ,zo1,lI,gL,aW] at this
  apply Array.ext'
  exact this.symm
 have hb:m*i.bytes<=140737488355328:=by
  rw [mC]
  have:((m*te.bytes:Nat):Int)<=140737488355328:=by rw [Int.natCast_mul];exact h2
  exact Int.ofNat_le.1 this
 have hr:=pP (P:=P) (ty:=ty) w ht On hi hz (cH.trans hs) kk m hm h3 hb
 have hgc:=grownCap_ge w m 0 el
 have hgm:grownCap w m 0 el<=maxLen:=grownCap_le_maxLen w m 0 el (by simp only [maxLen];omega)
 have bT:(w.drew.alloc (.cells (Builtin.zeroCells zv.cells m++Builtin.zeroCells zv.cells (grownCap w m 0 el-m)) el)).ownsRow 0 el 1 (.slice (some ⟨w.heap.size,0,none⟩) m (grownCap w m 0 el)) m (List.replicate m x0):=by
  refine ⟨by simp,.inr ⟨w.heap.size,_,_,rfl,Nat.zero_le _,heap_alloc_new w.drew _,hgc,hgm,?_,?_⟩⟩
  .rw [Dw];simp [iG];omega
  .rw [Dw];simp [iG]
 have tS:w.grownBy (w.drew.alloc (.cells (Builtin.zeroCells zv.cells m++Builtin.zeroCells zv.cells (grownCap w m 0 el-m)) el)) none:=⟨rfl,rfl,rfl,by simp,fun k hk _=>heap_alloc_old w.drew _ hk⟩
 have Pm:aJ V (List.replicate m s)=some (List.replicate m x0):=by
  clear hr hgc hgm bT tS hb h1 h2 h3 hm hc ho
  induction m with
  | zero=>rfl
  | succ m ih=>simp [List.replicate_succ,aJ,zo2,ih]
 obtain ⟨b,cap,PV,pU⟩:=hT.Jn (lab:=lab) hf (lo:=none) (own:=none) Pm bT (by simp) tS (.inr rfl) (fun _=>rfl) (fun l hl=>(by cases hl)) (.dJ lab 0 m 0) ob
 refine ⟨_,_,_,hr,bA.vT hf lab (cT _) (by omega) _ _,?_,pU⟩
 simp [den,bA.Hi,bA.put,bA.bC,qJ,PV]
def DQ (Γ:Env) (d:TypeDesc):Option IntKind:=match d with
 | .array _ el=>match Γ.ty el with
   | some te=>match te.desc,Nat.beq te.size 1 with
     | .int k,true=>some k
     | _,_=>none
   | none=>none
 | _=>none
def Qs (Γ:Env) (g:Nat->Option SV) (T:aX) (t:TypeId) (x:Operand):Option bK:=
 match ev Γ g x,Γ.ty t with
 | some (.ptr l s off),some ti=>match DQ Γ ti.desc,T l with
   | some _,some (.ints k xs _)=>match s&&Nat.beq off 0 with
     | true=>some (dU (.ai k xs) [xs.length=ti.size])
     | false=>some (dU (.ai k ((xs.drop off).take ti.size)) [off+ti.size<=xs.length])
   | some _,some (.nT k xs)=>some (dU (.ai k ((xs.drop off).take ti.size)) [off+ti.size<=xs.length])
   | _,_=>none
 | _,_=>none
theorem pO (xs:List Int) (off n:Nat) (h:off+n<=xs.length) (k:IntKind):(List.range n).map (fun j=>Value.int k (xs.getD (off+j) 0))=((xs.drop off).take n).map (Value.int k):=by
 apply List.ext_getElem
 .simp;omega
 .intro i h1 h2
  simp only [List.length_map,List.length_range] at h1
  have h3:off+i<xs.length:=by omega
  simp [gY,h3]
theorem AG (aU:cD P Γ) (ht:cJ V g a) (hg:bR Γ V) {T':aX} (aR:∀ l B,T' l=some B->T l=some B) (hT:aD w0 M V T w) {t:TypeId} {x:Operand} (bZ:o.op = .load t x)
 (he:Qs Γ g T' t x=some e) (ho:∀ q∈e.bO,q) (lab:Nat):lB P w0 M V T lab e o a w:=by
 unfold Qs at he
 split at he
 case h_2=>cases he
 rename_i l s off ti hx eA
 have ex:=bI ht hg hx
 simp only [den,dH] at ex
 obtain ⟨⟨b,base⟩,hβ,ex⟩:=ex
 obtain ⟨hu,i,z,hi,gF,_⟩:=aU t ti eA
 have main:∀ (B:SB) (k:IntKind) (xs ys:List Int),(B = .ints k xs (match B with | .ints _ _ ty=>ty | _=>0)\/B = .nT k xs)->T' l=some B->sP ti.desc=true->off+ti.size<=xs.length->ys=(xs.drop off).take ti.size->e.val = .ai k ys->e.new=[]->e.wr=[]->lB P w0 M V T lab e o a w:=by
  intro B k xs ys hBk hB gH hle pY h1 h2 h3
  have hr:Tc B false off ti.size=some ([off+ti.size<=xs.length],(List.range ti.size).map fun j=>.int false k (xs.getD (off+j) 0)):=by
   rcases hBk with q | q <;> rw [q] <;> rfl
  obtain ⟨zs,g1,g2,g3⟩:=oX (hT.ok l B (aR l B hB)) hβ hr (by intro q hq;simp only [List.mem_singleton] at hq;subst hq;exact hle)
  rw [fM (V:=V) ti.size (fun j=>.int false k (xs.getD (off+j) 0)) (fun j=>.int k (xs.getD (off+j) 0)) (fun j _=>rfl),pO xs off ti.size hle k] at g1
  cases g1
  have:=(dS hu hi b (base+off) _ (by rw [g2,gF]) g3).1 gH
  refine bF (x:=.agg (((xs.drop off).take ti.size).map (Value.int k)).toArray) ?_ (by rw [h1,pY];rfl) h2 h3 hT
  unfold execOp
  simp only [bZ,<- ex,Instr.loadAt,Instr.sureAddr,Sem.run_bind,Sem.run_pure,Result.andThen_ok,this]
 have gH:∀ k0,DQ Γ ti.desc=some k0->sP ti.desc=true:=by
  intro k0 h
  unfold DQ at h
  split at h
  .rename_i hd;rw [hd];rfl
  .cases h
 split at he
 .rename_i k0 k xs ty ha hB
  split at he
  .rename_i hs
   simp only [iN] at hs
   have h0:=cP hs.2
   subst h0
   simp only [dU,aW] at he
   subst he
   have hl:xs.length=ti.size:=ho _ (by simp)
   exact main (.ints k xs ty) k xs xs (.inl rfl) hB (gH _ ha) (by omega) (by rw [List.drop_zero,<- hl,List.take_length]) rfl rfl rfl
  .simp only [dU,aW] at he
   subst he
   exact main (.ints k xs ty) k xs _ (.inl rfl) hB (gH _ ha) (ho _ (by simp)) rfl rfl rfl rfl
 .rename_i k0 k xs ha hB
  simp only [dU,aW] at he
  subst he
  exact main (.nT k xs) k xs _ (.inr rfl) hB (gH _ ha) (ho _ (by simp)) rfl rfl rfl rfl
 .cases he
def wrA (B:SB) (s:Bool) (off n:Nat) (k:IntKind) (xs:List Int):Option (List Prop × SB):=
 match B with
 | .ints k2 ys ty=>match yE k k2,s&&Nat.beq off 0 with
   | true,true=>some ([xs.length=n/\ys.length=n],.ints k xs ty)
   | true,false=>some ([xs.length=n/\off+n<=ys.length],.ints k (ys.take off++xs++ys.drop (off+n)) ty)
   | _,_=>none
 | .own cs ty=>match s&&(Nat.beq off 0&&Nat.beq cs.length n) with
   | true=>some ([xs.length=n],.ints k xs ty)
   | false=>match BO (.own cs ty) s off (cN k n xs) with
     | some (ob,B')=>some ((xs.length=n)::ob,B')
     | none=>none
 | B=>match BO B s off (cN k n xs) with
   | some (ob,B')=>some ((xs.length=n)::ob,B')
   | none=>none
def Iz (Γ:Env) (g:Nat->Option SV) (T:aX) (t:TypeId) (x y:Operand):Option bK:=
 match ev Γ g x,ev Γ g y,Γ.ty t with
 | some (.ptr l s off),some (.ai k xs),some ti=>match T l with
   | some B=>match wrA B s off ti.size k xs with
     | some (ob,B')=>some { bO:=ob,val:=.raw undef,wr:=[(l,B')] }
     | none=>none
   | none=>none
 | _,_,_=>none
theorem oJ {l:Nat} {ys xs:List Int} {ty:TypeId} {k:IntKind} {off b o:Nat} (lab:Nat) (rv:SV) (ob:List Prop)
 (hT:aD w0 M V T w) (hl:T l=some (.ints k ys ty)) (hβ:V.β l=some (b,o)) (hle:off+xs.length<=ys.length) :
 ∃ w',(storeCells ⟨b,o+off,none⟩ (xs.map (Value.int k))).run P w = .ok () w'/\aD w0 M V (eT T lab { bO:=ob,val:=rv,wr:=[(l,.ints k (ys.take off++xs++ys.drop (off+xs.length)) ty)] }) w':=by
 obtain ⟨cs,hc,b',hb,hh⟩:=hT.ok l _ hl
 rw [hβ] at hb;cases hb
 simp only [SB.cells,aW] at hc
 subst hc
 refine ⟨_,run_storeCells_at P b (0+off) ty _ 0 _ w hh (by simp;omega) (by intro x hx;simp only [List.mem_map] at hx;obtain ⟨y,_,rfl⟩:=hx;rfl),?_⟩
 have cC:SB.cells V (.ints k (ys.take off++xs++ys.drop (off+xs.length)) ty)=some ((ys.map (Value.int k)).take off++xs.map (Value.int k)++(ys.map (Value.int k)).drop (off+(xs.map (Value.int k)).length)):=by
  simp [SB.cells,List.map_take,List.map_drop]
 have:=hT.write (B0:=.ints k ys ty) (B:=.ints k (ys.take off++xs++ys.drop (off+xs.length)) ty) hl hβ rfl (by simp [SB.aT,hβ]) hh cC (.inr (.inl rfl)) lab rv ob
 simpa using this
theorem aGe {l:Nat} {B B':SB} {s:Bool} {off n:Nat} {k:IntKind} {xs:List Int} {ob:List Prop} {b o:Nat} (lab:Nat) (rv:SV)
 (hT:aD w0 M V T w) (hl:T l=some B) (hβ:V.β l=some (b,o)) (h:wrA B s off n k xs=some (ob,B')) (ho:∀ q∈ob,q) :
 xs.length=n/\∃ w',(storeCells ⟨b,o+off,none⟩ (xs.map (Value.int k))).run P w = .ok () w'/\aD w0 M V (eT T lab { bO:=ob,val:=rv,wr:=[(l,B')] }) w':=by
 have rest:∀ ob',(match BO B s off (cN k n xs) with
   | some (ob,B')=>some ((xs.length=n)::ob,B')
   | none=>none)=some (ob',B')->(∀ q∈ob',q)->ob'=ob->xs.length=n/\∃ w',(storeCells ⟨b,o+off,none⟩ (xs.map (Value.int k))).run P w = .ok () w'/\aD w0 M V (eT T lab { bO:=ob,val:=rv,wr:=[(l,B')] }) w':=by
  intro ob' h kC rT
  split at h
  .rename_i ob2 B2 h2
   cases h
   have hn:xs.length=n:=kC _ dC
   refine ⟨hn,?_⟩
   obtain ⟨w',h3,h4⟩:=Ht (P:=P) lab rv hT hl hβ h2 (fun q hq=>kC q (eM _ hq)) (vY hn) (by intro x hx;simp only [List.mem_map] at hx;obtain ⟨y,_,rfl⟩:=hx;rfl)
   exact ⟨w',h3,h4⟩
  .cases h
 cases B with
 | ints k2 ys ty=>
   simp only [wrA] at h
   split at h
   .rename_i hk hs
    cases h
    have hk:k=k2:=jP hk
    subst hk
    simp only [iN] at hs
    have h0:=cP hs.2
    subst h0
    obtain ⟨h1,h2⟩:xs.length=n/\ys.length=n:=ho _ (by simp)
    refine ⟨h1,?_⟩
    obtain ⟨w',h3,h4⟩:=oJ (P:=P) (xs:=xs) (off:=0) lab rv [xs.length=n/\ys.length=n] hT hl hβ (by omega)
    refine ⟨w',h3,?_⟩
    have e:ys.take 0++xs++ys.drop (0+xs.length)=xs:=by
     rw [Nat.zero_add,h1,<- h2,List.drop_length];simp
    rw [e] at h4
    exact h4
   .rename_i hk hs
    cases h
    have hk:k=k2:=jP hk
    subst hk
    obtain ⟨h1,h2⟩:xs.length=n/\off+n<=ys.length:=ho _ (by simp)
    refine ⟨h1,?_⟩
    subst h1
    exact oJ (P:=P) lab rv _ hT hl hβ h2
   .cases h
 | own cells ty=>
   simp only [wrA] at h
   split at h
   .rename_i hs
    cases h
    simp only [iN] at hs
    have h0:=cP hs.2.1
    have rV:=cP hs.2.2
    subst h0
    have h1:xs.length=n:=ho _ (by simp)
    refine ⟨h1,?_⟩
    obtain ⟨cs,hc,b',hb,hh⟩:=hT.ok l _ hl
    rw [hβ] at hb;cases hb
    have kD:=bH (show aJ V cells=some cs from hc)
    refine ⟨_,run_storeCells_at P b (0+0) ty _ 0 _ w hh (by simp;omega) (by intro x hx;simp only [List.mem_map] at hx;obtain ⟨y,_,rfl⟩:=hx;rfl),?_⟩
    have e:cs.take 0++xs.map (Value.int k)++cs.drop (0+(xs.map (Value.int k)).length)=xs.map (Value.int k):=by
     simp;omega
    have:=hT.write (B0:=.own cells ty) (B:=.ints k xs ty) hl hβ rfl (by simp [SB.aT,hβ]) hh rfl (.inr (.inl rfl)) lab rv [xs.length=n]
    rw [<- e] at this
    simpa using this
   .exact rest ob h ho rfl
 | row sz cells ty=>exact rest ob h ho rfl
 | eQ cells=>exact rest ob h ho rfl
 | nT k xs=>exact rest ob h ho rfl
 | dF k xs ty=>exact rest ob h ho rfl
 | fQ sz n ty=>exact rest ob h ho rfl
 | eN vs ty=>exact rest ob h ho rfl
 | gC k xs=>exact rest ob h ho rfl
 | eK xs ty=>exact rest ob h ho rfl
 | rC xs=>exact rest ob h ho rfl
 | gone=>exact rest ob h ho rfl
theorem Sg (aU:cD P Γ) (ht:cJ V g a) (hg:bR Γ V) {T':aX} (aR:∀ l B,T' l=some B->T l=some B) (hT:aD w0 M V T w) {t:TypeId} {x y:Operand} (bZ:o.op = .store t x y)
 (he:Iz Γ g T' t x y=some e) (ho:∀ q∈e.bO,q) (lab:Nat):lB P w0 M V T lab e o a w:=by
 unfold Iz at he
 split at he
 case h_2=>cases he
 rename_i l s off k xs ti hx hy eA
 split at he
 case h_2=>cases he
 rename_i B hB
 split at he
 case h_2=>cases he
 rename_i ob B' hw
 simp only [aW] at he
 subst he
 have ex:=bI ht hg hx
 simp only [den,dH] at ex
 obtain ⟨⟨b,base⟩,hβ,ex⟩:=ex
 have ey:=bI ht hg hy
 simp only [den,aW] at ey
 obtain ⟨hu,i,z,hi,gF,_⟩:=aU t ti eA
 obtain ⟨hn,w',h1,h2⟩:=aGe (P:=P) lab (.raw undef) hT (aR l B hB) hβ hw ho
 intro K Q hK
 unfold Oper.wp
 have hl:(a.eval y).cells.size=i.size:=by rw [<- ey,gF,<- hn];simp [Value.cells]
 have rV:(a.eval y).cells.toList=xs.map (Value.int k):=by rw [<- ey];simp [Value.cells]
 have dY:(execOp a.eval o).run P w = .ok .skip w':=by
  unfold execOp
  simp [bZ,<- ex,Instr.storeAt,Instr.sureAddr,storeVar,run_sizeOf hi,hl,rV,h1]
 rw [dY,Oper.upon_skip]
 exact hK V undef w' (V.cO lab) rfl h2
def Ix (Γ:Env) (g:Nat->Option SV) (T:aX) (t:TypeId) (x y:Operand):Option bK:=
 match ev Γ g x,ev Γ g y,Γ.ty t with
 | some (.ptr l true off),some (.buf l2),some ti=>match T l,TW T l2,Nat.beq ti.size 1 with
   | some (.own cs ty),true,true=>match Nat.blt off cs.length with
     | true=>some { val:=.raw undef,wr:=[(l,.own (cs.take off++[.buf l2]++cs.drop (off+1)) ty)] }
     | false=>none
   | _,_,_=>none
 | _,_,_=>none
theorem Se (aU:cD P Γ) (ht:cJ V g a) (hg:bR Γ V) {T':aX} (aR:∀ l B,T' l=some B->T l=some B) (hT:aD w0 M V T w) {t:TypeId} {x y:Operand} (bZ:o.op = .store t x y)
 (he:Ix Γ g T' t x y=some e) (lab:Nat):lB P w0 M V T lab e o a w:=by
 unfold Ix at he
 split at he
 case h_2=>cases he
 rename_i l off l2 ti hx hy eA
 split at he
 case h_2=>cases he
 rename_i cells ty hB aXj gF
 split at he
 case h_2=>cases he
 rename_i cM
 have cM:off<cells.length:=by simpa [Nat.blt_eq] using cM
 simp only [aW] at he
 subst he
 have ex:=bI ht hg hx
 simp only [den,dH] at ex
 obtain ⟨⟨b,base⟩,hβ,ex⟩:=ex
 have ey:=bI ht hg hy
 obtain ⟨hu,i,z,hi,cH,_⟩:=aU t ti eA
 obtain ⟨h1,h2⟩:=Wp aR hT aXj ey
 obtain ⟨cs,hc,b',hb,hh⟩:=hT.ok l _ (aR l _ hB)
 rw [hβ] at hb;cases hb
 have hlen:=bH (show aJ V cells=some cs from hc)
 have cC:aJ V (cells.take off++[SV.buf l2]++cells.drop (off+1))=some (cs.take off++[a.eval y]++cs.drop (off+[a.eval y].length)):=
  cK (cK (dW off hc) (by simp only [aJ,ey,lI,gL])) (gU _ hc)
 obtain ⟨w',h3,h4⟩:∃ w',(storeCells ⟨b,0+off,none⟩ [a.eval y]).run P w = .ok () w'/\aD w0 M V (eT T lab { val:=.raw undef,wr:=[(l,.own (cells.take off++[SV.buf l2]++cells.drop (off+1)) ty)] }) w':=by
  refine ⟨_,run_storeCells_at P b (0+off) ty [a.eval y] 0 cs.toArray w hh (by simp;omega) (fun q hq=>by simp only [List.mem_singleton] at hq;subst hq;exact h1),?_⟩
  have:=hT.write (B0:=.own cells ty) (B:=.own (cells.take off++[SV.buf l2]++cells.drop (off+1)) ty) (aR l _ hB) hβ rfl (by simp [SB.aT,hβ]) hh cC (.inl rfl) lab (.raw undef) []
  simpa using this
 intro K Q hK
 unfold Oper.wp
 have aEq:i.size=1:=by rw [cH];exact cP gF
 have dY:(execOp a.eval o).run P w = .ok .skip w':=by
  unfold execOp
  simp only [Nat.zero_add] at h3
  simp [bZ,<- ex,Instr.storeAt,Instr.sureAddr,storeVar,run_sizeOf hi,h2,aEq,h3]
 rw [dY,Oper.upon_skip]
 exact hK V undef w' (V.cO lab) rfl h4
def GK (Γ:Env) (g:Nat->Option SV) (t:TypeId) (x:Operand) (lab:Nat):Option bK:=
 match ev Γ g x with
 | some (.ai k xs)=>some { val:=.ptr lab true 0,new:=[.ints k xs t] }
 | _=>none
theorem ON (ht:cJ V g a) (hg:bR Γ V) (hT:aD w0 M V T w) {t:TypeId} {x:Operand} (bZ:o.op = .box t x) {lab:Nat} (hf:V.fresh lab) (he:GK Γ g t x lab=some e):lB P w0 M V T lab e o a w:=by
 unfold GK at he
 split at he
 case h_2=>cases he
 rename_i k xs hx
 simp only [aW] at he
 subst he
 have ex:=bI ht hg hx
 simp only [den,aW] at ex
 intro K Q hK
 unfold Oper.wp
 have hr:(execOp a.eval o).run P w = .ok (.value (.pointer (some ⟨w.heap.size,0,none⟩))) (w.alloc (.cells (xs.map (Value.int k)).toArray t)):=by
  unfold execOp
  simp [bZ,<- ex,Instr.box,newVar,newRow,Value.cells]
 rw [hr,Oper.upon_value]
 have:=hT.alloc hf (B:=.ints k xs t) (.inr (.inl rfl)) rfl (.ptr lab true 0) []
 exact hK _ _ _ (bA.kB hf lab (cT _) (by omega) _) (by simp [den,bA.put]) this
def Jh (Γ:Env) (g:Nat->Option SV) (t:TypeId) (x y:Operand):Option bK:=
 match ev Γ g x,ev Γ g y,Γ.ty t with
 | some (.ai k xs),some (.int _ _ i),some ti=>match ti.desc with
   | .array len el=>match Γ.ty el with
     | some te=>match Nat.beq te.size 1,sP te.desc with
       | true,false=>some (dU (.int false k (xs.getD i.toNat 0)) [0<=i/\i<len/\i.toNat<xs.length])
       | _,_=>none
     | none=>none
   | _=>none
 | _,_,_=>none
theorem So (aU:cD P Γ) (ht:cJ V g a) (hg:bR Γ V) (hT:aD w0 M V T w) {t:TypeId} {x y:Operand} (bZ:o.op = .index t x y) (he:Jh Γ g t x y=some e) (ho:∀ q∈e.bO,q) (lab:Nat):lB P w0 M V T lab e o a w:=by
 unfold Jh at he
 split at he
 case h_2=>cases he
 rename_i k xs s2 k2 i ti hx hy eA
 split at he
 case h_2=>cases he
 rename_i len el hd
 split at he
 case h_2=>cases he
 rename_i te eG
 split at he
 case h_2=>cases he
 rename_i iK gH
 have iK:=cP iK
 simp only [dU,aW] at he
 subst he
 obtain ⟨h1,h2,h3⟩:0<=i/\i<len/\i.toNat<xs.length:=ho _ (by simp)
 have ex:=bI ht hg hx
 have ey:=bI ht hg hy
 simp only [den,aW] at ex ey
 obtain ⟨Ec,ii,z,hi,cH,_⟩:=aU el te eG
 have hu:=(aU t ti eA).1
 rw [hd] at hu
 refine bF (x:=.int k (xs.getD i.toNat 0)) ?_ rfl rfl rfl hT
 have hy':(xs.map (Value.int k)).toArray[i.toNat*te.size]?=some (.int k (xs.getD i.toNat 0)):=by
  rw [iK,Nat.mul_one];simp [h3,gY]
 unfold execOp
 simp only [bZ,<- ex,<- ey,Instr.index,asIntOf,Sem.run_bind,Sem.run_pure,run_underlying hu w,Result.andThen_ok,if_pos (And.intro h1 h2),part,eO Ec,gH,Bool.false_eq_true,if_false,run_sizeOf hi,cH,hy']
def uA:List SV->Option (IntKind × List Int)
 | .int s k n::r=>(cU k (.int s k n::r)).map fun ns=>(k,ns)
 | _=>none
theorem Da {V:bA} {vs:List SV} {k:IntKind} {ns:List Int} (h:uA vs=some (k,ns)):aJ V vs=some (ns.map (Value.int k)):=by
 unfold uA at h
 split at h
 .simp only [dH,Prod.mk.injEq] at h
  obtain ⟨ms,hm,rfl,rfl⟩:=h
  exact cS hm
 .cases h
def cL:SV->Option (IntKind × List Int)
 | .ai k xs=>some (k,xs)
 | .agg vs=>uA vs
 | _=>none
theorem Gp {v:SV} {k:IntKind} {xs:List Int} (h:cL v=some (k,xs)):den V v=some (.agg (xs.map (Value.int k)).toArray):=by
 unfold cL at h
 split at h
 .cases h;rfl
 .simp only [den,Da h,gL]
 .cases h
end He
section aTk
variable {P:Program} {Γ:Env} {V:bA} {w w0:World} {M:Nat->Prop} {T:aX} {g:Nat->Option SV} {a:Act} {o:Oper} {e:bK}
def aJd:List SV->Bool
 | .int .. :: _=>true
 | _=>false
def Jd (Γ:Env) (g:Nat->Option SV) (T:aX) (t:TypeId) (x:Operand) (lo hi mx:Option Operand):Option bK:=
 match hi,lo,mx with
 | some y,none,none=>match ev Γ g y with
   | some (.int true _ h)=>match decide (h=0) with
     | true=>match ev Γ g x,Γ.ty t with
       | some (.dJ l 0 _ 0),some ti=>match ti.desc with
         | .slice el=>match Γ.ty el,T l with
           | some _,some (.row sz cs ty)=>match aJd cs with
             | true=>none
             | false=>some { val:=.dJ l 0 0 0,wr:=[(l,.row sz [] ty)] }
           | _,_=>none
         | _=>none
       | _,_=>none
     | false=>none
   | _=>none
 | _,_,_=>none
theorem Sk (aU:cD P Γ) (ht:cJ V g a) (hg:bR Γ V) {T':aX} (aR:∀ l B,T' l=some B->T l=some B) (hT:aD w0 M V T w) {t:TypeId} {x:Operand} {lo hi mx:Option Operand} (bZ:o.op = .slice t x lo hi mx)
 (he:Jd Γ g T' t x lo hi mx=some e) (lab:Nat):lB P w0 M V T lab e o a w:=by
 unfold Jd at he
 split at he
 case h_2=>cases he
 rename_i y
 split at he
 case h_2=>cases he
 rename_i kk h hy
 split at he
 case h_2=>cases he
 rename_i h0
 have h0:=jP h0
 subst h0
 split at he
 case h_2=>cases he
 rename_i l len ti hx eA
 split at he
 case h_2=>cases he
 rename_i el hd
 split at he
 case h_2=>cases he
 rename_i te sz cells ty0 eG hB
 split at he
 case h_1=>cases he
 cases he
 have ex:=bI ht hg hx
 have ey:=bI ht hg hy
 simp only [den,dH,gM,aW,Nat.add_zero,Nat.sub_zero] at ex ey
 obtain ⟨⟨b,base⟩,hβ,c,hc,ex⟩:=ex
 have hu:=(aU t ti eA).1
 rw [hd] at hu
 obtain ⟨_,i,z,fV,cH,_⟩:=aU el te eG
 have hr:=eV (P:=P) (w:=w) (a:=a) true len c (lo:=none) (hi:=some y) (mx:=none) (m:=(c:Int)) (h:=0) (k:=((0:Nat):Int)) (.inl ⟨rfl,rfl⟩) (.inr ⟨y,kk,rfl,ey.symm⟩) (.inl ⟨rfl,rfl⟩) rfl ⟨by omega,by omega,by omega,by omega,by omega,by omega⟩
 simp only [Option.map_none,gL,sJ,Int.toNat_zero] at hr
 have hB:=aR l _ hB
 obtain ⟨xs,nL,b',cap,cur,r1,r2,r3,r4,r5,r6,r7⟩:=hT.ok l _ hB
 have pU:=hT.change (B:=.row sz [] ty0) (b:=b') hB rfl (by simp [SB.aT,r1]) ⟨[],rfl,b',cap,cur,r1,r2,r3,r4,r5,⟨0,by simp,Nat.zero_le _⟩,rfl⟩ (by simp [SB.aT,r1]) (cT _) (fun _ _ _=>rfl) rfl rfl rfl lab (.dJ l 0 0 0) []
 have dY:(execOp a.eval o).run P w = .ok (.value (.slice (some ⟨b,base,none⟩) 0 c)) w:=?_
 .intro K Q hK
  unfold Oper.wp
  rw [dY,Oper.upon_value]
  exact hK V _ w (V.cO lab) (by simp [den,hβ,hc]) pU
 unfold execOp
 simp only [bZ,<- ex,Instr.sliceAt,Instr.slice,Sem.run_bind,run_underlying hu w,Result.andThen_ok,Sem.run_pure,hr,run_sizeOf fV,Option.map_none,gL,Nat.zero_mul,Nat.sub_zero,bJ,Nat.add_zero,ite_self]
end aTk
def Lj:SV->Option Nat
 | .aH l _ _ _ _=>some l
 | .buf l=>some l
 | .mG l _ _=>some l
 | .iH l _=>some l
 | .dJ l _ _ _=>some l
 | _=>none
section aTj
variable {P:Program} {Γ:Env} {V:bA} {w w0:World} {M:Nat->Prop} {T:aX} {g:Nat->Option SV} {a:Act} {o:Oper} {e:bK}
def aEc:SB->Option (List (Int × Int))
 | .eK xs _=>some xs
 | .rC xs=>some xs
 | _=>none
def Fm (T:aX):SV->Option (List (Int × Int))
 | .raw (.slice none 0 0)=>some []
 | .buf l=>match T l with
   | some B=>aEc B
   | _=>none
 | .iH l _=>match T l with
   | some (.rC xs)=>some xs
   | _=>none
 | _=>none
theorem Iq {l:Nat} {B:SB} {xs:List (Int × Int)} (kX:okB V w l B) (h:aEc B=some xs):∃ u,V.σ l=some u/\Kw w u xs/\∀ n,iD u=some n->B.aT V l=some n:=by
 obtain ⟨cs,hc,hh⟩:=kX
 cases B with
 | eK ys ty=>
   cases h
   cases hc
   obtain ⟨u,hσ,bT⟩:=hh
   refine ⟨u,hσ,?_,fun n hn=>by simp [SB.aT,hσ,fC hn]⟩
   rcases bT.2 with ⟨rfl,h0⟩ | ⟨gb,cap,cur,rfl,_,hh,hle,_,_,dG⟩
   .exact .inl ⟨.nil,List.eq_nil_of_length_eq_zero h0⟩
   .refine .inr ⟨gb,0,cap,rfl,(Array.getElem?_eq_some_iff.1 hh).1,hle,fun j u hj=>?_⟩
    rw [cell_of_row w gb _ _ _ _ hh]
    rw [<- dG,List.getElem?_take] at hj
    split at hj
    .simpa using hj
    .cases hj
 | rC ys=>
   cases h
   obtain ⟨u,hσ,bT⟩:=hh
   exact ⟨u,hσ,bT,fun n hn=>by simp [SB.aT,hσ,hn]⟩
 | _=>cases h
theorem Ct {v:SV} {x:Value} {ys:List (Int × Int)} (hT:aD w0 M V T w) (hv:den V v=some x) (h:Fm T v=some ys) :
 Kw w x ys/\∀ n,iD x=some n->∃ l B,Lj v=some l/\T l=some B/\B.aT V l=some n:=by
 unfold Fm at h
 split at h
 .cases h
  simp only [den,aW] at hv
  subst hv
  exact ⟨.inl ⟨.nil,rfl⟩,fun n hn=>by cases hn⟩
 .rename_i l
  split at h
  case h_2=>cases h
  rename_i B hB
  obtain ⟨u,hσ,h1,h2⟩:=Iq (hT.ok l _ hB) h
  simp only [den,hσ,aW] at hv
  subst hv
  exact ⟨h1,fun n hn=>⟨l,_,rfl,hB,h2 n hn⟩⟩
 .rename_i l n0
  split at h
  case h_2=>cases h
  rename_i xs hB
  cases h
  obtain ⟨cs,hc,u,hσ,bT⟩:=hT.ok l _ hB
  simp only [den,gM] at hv
  obtain ⟨u',gN,hv⟩:=hv
  rw [hσ] at gN
  cases gN
  obtain ⟨rfl,_⟩:=kA hv
  exact ⟨bT,fun n hn=>⟨l,_,rfl,hB,by simp [SB.aT,hσ,hn]⟩⟩
 .cases h
theorem Kw.iH {x:Value} {ys:List (Int × Int)} (h:Kw w x ys):rX ys.length x=some x:=by
 rcases h with ⟨⟨a,rfl⟩,rfl⟩ | ⟨b,o,c,rfl,_,hc,_⟩
 .cases a <;> simp [rX]
 .simp [rX,hc]
def zR:List SV->Option (List (Int × Int))
 | []=>some []
 | .int _ .i64 x :: .int _ .i64 y::r=>(zR r).map ((x,y) :: ·)
 | _=>none
theorem Ru {V:bA}:∀ {cs:List SV} {ps:List (Int × Int)},zR cs=some ps->aJ V cs=some (dV ps):=by
 intro cs
 fun_induction zR cs with
 | case1=>intro ps h;cases h;rfl
 | case2 s1 x s2 y r ih=>
   intro ps h
   simp only [dH] at h
   obtain ⟨qs,hq,rfl⟩:=h
   simp [aJ,den,ih hq,dV]
 | case3=>intro ps h;cases h
def aDy (T:aX) (y:SV):Option (List (Int × Int)):=match Fm T y with
 | some ys=>some ys
 | none=>match Ek T 2 y with
   | some (m,cs)=>match zR cs with
     | some ys=>match Nat.beq ys.length m with
       | true=>some ys
       | false=>none
     | none=>none
   | none=>none
theorem oL:∀ xs:List (Int × Int),(dV xs).length=xs.length*2
 | []=>rfl
 | p::r=>by
   have:=oL r
   simp only [dV,List.flatMap_cons,List.length_append,List.length_cons,List.length_nil] at this |-
   omega
theorem pJ (xs ys:List (Int × Int)):dV (xs++ys)=dV xs++dV ys:=by simp [dV]
theorem Gi (xs:List (Int × Int)):∀ q∈dV xs,q.oneCell'=true:=by
 intro q hq
 simp only [dV,List.mem_flatMap] at hq
 obtain ⟨p,_,hq⟩:=hq
 simp only [List.mem_cons,List.not_mem_nil,or_false] at hq
 rcases hq with rfl | rfl <;> rfl
theorem UZ {y:SV} {v:Value} {ys:List (Int × Int)} (hT:aD w0 M V T w) (hv:den V y=some v) (h:aDy T y=some ys) :
 (∃ a,v = .slice a 0 0/\ys=[])\/∃ (ad:Addr) (c:Nat),v = .slice (some ad) ys.length c/\∀ (j:Nat) (u:Value),(dV ys)[j]?=some u->w.cell? (ad.add j)=some u:=by
 unfold aDy at h
 split at h
 .rename_i ys' hs
  cases h
  rcases (Ct hT hv hs).1 with ⟨⟨a,rfl⟩,rfl⟩ | ⟨b,o,c,rfl,_,_,hc⟩
  .exact .inl ⟨a,rfl,rfl⟩
  .exact .inr ⟨_,c,rfl,fun j u hj=>by rw [bJ];exact hc j u hj⟩
 .split at h
  case h_2=>cases h
  rename_i m cs hs
  split at h
  case h_2=>cases h
  rename_i ys' hp
  split at h
  case h_2=>cases h
  rename_i hl
  have hl:=cP hl
  cases h
  obtain ⟨xs,h1,_,h3⟩:=uO hT hv hs
  have e:=h1.symm.trans (Ru hp)
  cases e
  rcases h3 with ⟨rfl,rfl,h0⟩ | ⟨ad,c,rfl,_,hc⟩
  .exact .inl ⟨_,rfl,List.eq_nil_of_length_eq_zero hl⟩
  .exact .inr ⟨ad,c,by rw [hl],hc⟩
def aFk (T:aX) (el:TypeId):SV->Option (Option Nat × List (Int × Int))
 | .raw (.slice none 0 0)=>some (none,[])
 | .buf l=>match T l with
   | some (.eK xs ty)=>match Nat.beq ty el with
     | true=>some (some l,xs)
     | false=>none
   | _=>none
 | _=>none
theorem aBl {el:TypeId} {v:SV} {x:Value} {lo:Option Nat} {xs:List (Int × Int)} (hT:aD w0 M V T w) (hv:den V v=some x) (h:aFk T el v=some (lo,xs)) :
 w.ownsRow 0 el 2 x xs.length (dV xs)/\(lo=none->x.ownBlock=none)/\∀ l,lo=some l->∃ B,T l=some B/\B.owned=true/\∀ n,x.ownBlock=some n->B.aT V l=some n:=by
 unfold aFk at h
 split at h
 .cases h
  simp only [den,aW] at hv
  subst hv
  exact ⟨World.ownsRow_nil w 0 el 2,fun _=>rfl,fun l hl=>(by cases hl)⟩
 .rename_i l
  split at h
  case h_2=>cases h
  rename_i ys ty hB
  split at h
  case h_2=>cases h
  rename_i aU
  have:=cP aU
  subst this
  cases h
  obtain ⟨cs,hc,u,hσ,bT⟩:=hT.ok l _ hB
  cases hc
  simp only [den,hσ,aW] at hv
  subst hv
  exact ⟨bT,fun h=>(by cases h),fun l' sL=>by cases sL;exact ⟨_,hB,rfl,fun n hn=>by simp [SB.aT,hσ,hn]⟩⟩
 .cases h
def GN (T:aX) (te:TI) (el:TypeId) (lab:Nat) (x y:SV):Option bK:=
 match Nat.beq te.size 2&&Nat.beq te.zero.length 2,aFk T el x with
 | true,some (lo,xs)=>match aDy T y with
   | some ys=>some { bO:=[(xs.length+ys.length)*te.bytes<=140737488355328/\xs.length+ys.length<=9223372036854775807],val:=.buf lab,new:=[.eK (xs++ys) el],wr:=iE lo }
   | none=>none
 | _,_=>none
theorem OQ (aU:cD P Γ) {T':aX} (aR:∀ l B,T' l=some B->T l=some B) (hT:aD w0 M V T w) {lab:Nat} (hf:V.fresh lab) {t ty el:TypeId} {te:TI} (ht:P.underlying t=some (.slice el)) (eG:Γ.ty el=some te)
 {x y:SV} {u v:Value} (hx:den V x=some u) (hy:den V y=some v) (he:GN T' te el lab x y=some e) (ho:∀ q∈e.bO,q):oV P w0 M V T lab e (Builtin.append_ #[t,t] ty #[u,v]) w:=by
 unfold GN at he
 split at he
 case h_2=>cases he
 rename_i lo xs gF hd
 split at he
 case h_2=>cases he
 rename_i ys hr
 cases he
 simp only [iN] at gF
 have wR:=cP gF.1
 have hz2:=cP gF.2
 obtain ⟨_,i,z,hi,cH,mC,hz,hzero⟩:=aU el te eG
 have Tj:i.size=2:=cH.trans wR
 have sK:z.cells.size=i.size:=by
  have h1:=bH (hzero V)
  rw [Tj,<- hz2,<- h1];simp
 obtain ⟨pM,lA⟩:=ho _ dC
 obtain ⟨bT,jS,Jz⟩:=aBl (hT.sub aR) hx hd
 have jQ:∀ l,lo=some l->∃ B,T l=some B/\B.owned=true/\∀ n,u.ownBlock=some n->B.aT V l=some n:=fun l hl=>by
  obtain ⟨B,h1,h2,h3⟩:=Jz l hl;exact ⟨B,aR l B h1,h2,h3⟩
 rw [<- Tj] at bT
 have Hk:xs.length+ys.length<=maxLen:=by simp only [maxLen];omega
 have go:∀ (ad:Addr) (c:Nat),v = .slice (some ad) ys.length c->(∀ (j:Nat) (u:Value),(dV ys)[j]?=some u->w.cell? (ad.add j)=some u)->oV P w0 M V T lab { bO:=[(xs.length+ys.length)*te.bytes<=140737488355328/\xs.length+ys.length<=9223372036854775807],val:=.buf lab,new:=[.eK (xs++ys) el],wr:=iE lo } (Builtin.append_ #[t,t] ty #[u,v]) w:=by
  rintro ad c rfl cC
  have hl:(dV ys).length=ys.length*i.size:=by rw [Tj];exact oL ys
  obtain ⟨v',w',dY,sI,tS,_⟩:=run_append_own (P:=P) w 0 t ty el i z i.size i.bytes ht hi hz rfl rfl sK (by omega) u xs.length (dV xs) bT ad ys.length c (dV ys) hl cC (Gi ys) Hk (by rw [mC];exact pM) (Nat.zero_le _)
  have fF:=pH (P:=P) ht hi hz bT rfl hl cC (Gi ys) Hk (by rw [mC];exact pM) dY
  refine ⟨V.bC lab v',v',w',dY,bA.cG hf lab (cT _) (by omega) v',by simp [den,bA.bC],?_⟩
  have kX:okB (V.bC lab v') w' lab (.eK (xs++ys) el):=⟨dV (xs++ys),rfl,v',by simp [bA.bC],by rw [List.length_append,pJ,<- Tj];exact sI⟩
  exact hT.rM hf kX (fun n hb=>by simpa [SB.aT,bA.bC] using hb) tS fF jS jQ _ _
 rcases UZ (hT.sub aR) hy hr with ⟨ad,rfl,rfl⟩ | ⟨ad,c,hv,cC⟩
 .cases ad with
  | some ad=>exact go ad 0 rfl (fun j u hj=>by simp [dV] at hj)
  | none=>
    have dY:=run_append_owned_none (P:=P) (w:=w) 0 t ty el i i.size ht hi u xs.length _ bT
    refine ⟨V.bC lab u,u,w,dY,bA.cG hf lab (cT _) (by omega) u,by simp [den,bA.bC],?_⟩
    have kX:okB (V.bC lab u) w lab (.eK (xs++[]) el):=⟨dV (xs++[]),rfl,u,by simp [bA.bC],by rw [List.append_nil,<- Tj];exact bT⟩
    exact hT.rM hf kX (fun n hb=>by simpa [SB.aT,bA.bC] using hb) ⟨rfl,rfl,rfl,cT _,fun _ _ _=>rfl⟩ (.inl rfl) jS jQ _ _
 .exact go ad c hv cC
def Jf (Γ:Env) (g:Nat->Option SV) (t:TypeId) (x y:Operand):Option bK:=
 match ev Γ g x,ev Γ g y,Γ.ty t with
 | some (.iH l n),some (.int _ _ k),some ti=>match ti.desc with
   | .slice el=>match Γ.ty el with
     | some te=>match Nat.beq te.size 2 with
       | true=>some { bO:=[0<=k/\k<n],val:=.iZ l (2*k.toNat) }
       | false=>none
     | none=>none
   | _=>none
 | _,_,_=>none
theorem Sm (aU:cD P Γ) (ht:cJ V g a) (hg:bR Γ V) (hT:aD w0 M V T w) {t:TypeId} {x y:Operand} (bZ:o.op = .indexAddr t x y)
 (he:Jf Γ g t x y=some e) (ho:∀ q∈e.bO,q) (lab:Nat):lB P w0 M V T lab e o a w:=by
 unfold Jf at he
 split at he
 case h_2=>cases he
 rename_i l n sk kk k ti hx hy eA
 split at he
 case h_2=>cases he
 rename_i el hd
 split at he
 case h_2=>cases he
 rename_i te eG
 split at he
 case h_2=>cases he
 rename_i wR
 have wR:=cP wR
 simp only [aW] at he
 subst he
 have hb:0<=k/\k<n:=ho _ (by simp)
 have ex:=bI ht hg hx
 have ey:=bI ht hg hy
 simp only [den,aW] at ey
 simp only [den,gM] at ex
 obtain ⟨u,hσ,hv⟩:=ex
 obtain ⟨e1,hv⟩:=kA hv
 subst e1
 rcases hv with ⟨_,rfl⟩ | ⟨b,o0,c,hv,_⟩
 .omega
 obtain ⟨_,i,z,hi,cH,_⟩:=aU el te eG
 have hu:=(aU t ti eA).1
 rw [hd] at hu
 refine bF (x:=.pointer (some ⟨b,o0+k.toNat*te.size,none⟩)) ?_ (by simp [den,hσ,hv,bJ,wR,Nat.mul_comm]) rfl rfl hT
 unfold execOp
 simp only [bZ,hv,<- ey,Instr.indexAt,asIntOf,Sem.run_bind,Sem.run_pure,run_underlying hu w,Result.andThen_ok,if_pos hb,run_sizeOf hi,cH,bJ]
def Qr (Γ:Env) (g:Nat->Option SV) (T:aX) (t:TypeId) (x:Operand):Option bK:=
 match ev Γ g x,Γ.ty t with
 | some (.iZ l off),some ti=>match (T l).bind aEc,sP ti.desc&&Nat.beq ti.size 2 with
   | some xs,true=>some { bO:=[off=2*(off/2)/\off/2<xs.length],val:=.agg [.int false .i64 (xs.getD (off/2) (0,0)).1,.int false .i64 (xs.getD (off/2) (0,0)).2] }
   | _,_=>none
 | _,_=>none
theorem JZ {xs:List (Int × Int)} {i:Nat} (h:i<xs.length):(dV xs)[2*i]?=some (.int .i64 (xs.getD i (0,0)).1)/\(dV xs)[2*i+1]?=some (.int .i64 (xs.getD i (0,0)).2):=by
 induction xs generalizing i with
 | nil=>simp at h
 | cons p r ih=>
   have e:dV (p::r)=Value.int .i64 p.1::Value.int .i64 p.2::dV r:=rfl
   cases i with
   | zero=>rw [e];exact ⟨rfl,rfl⟩
   | succ i=>
     have:=ih (i:=i) (by simpa using h)
     rw [e,show 2*(i+1)=2*i+1+1 by omega]
     simpa using this
theorem AF (aU:cD P Γ) (ht:cJ V g a) (hg:bR Γ V) {T':aX} (aR:∀ l B,T' l=some B->T l=some B) (hT:aD w0 M V T w) {t:TypeId} {x:Operand} (bZ:o.op = .load t x)
 (he:Qr Γ g T' t x=some e) (ho:∀ q∈e.bO,q) (lab:Nat):lB P w0 M V T lab e o a w:=by
 unfold Qr at he
 split at he
 case h_2=>cases he
 rename_i l off ti hx eA
 split at he
 case h_2=>cases he
 rename_i xs hB kE
 simp only [gM] at hB
 obtain ⟨B,hB,hp⟩:=hB
 simp only [iN] at kE
 have wR:=cP kE.2
 simp only [aW] at he
 subst he
 obtain ⟨h1,h2⟩:=ho _ dC
 have ex:=bI ht hg hx
 obtain ⟨u,hσ,hrp,_⟩:=Iq (hT.ok l _ (aR l _ hB)) hp
 obtain ⟨hu,i,z,hi,gF,_⟩:=aU t ti eA
 rcases hrp with ⟨_,rfl⟩ | ⟨b,base,c,rfl,_,_,fP⟩
 .simp at h2
 simp only [den,hσ,bJ,aW] at ex
 obtain ⟨g1,g2⟩:=JZ h2
 rw [<- h1] at g1 g2
 have dY:=(dS (P:=P) hu hi b (base+off) [.int .i64 (xs.getD (off/2) (0,0)).1,.int .i64 (xs.getD (off/2) (0,0)).2] (by rw [gF,wR];rfl) (fun j v hj=>by
  match j,hj with
  | 0,hj=>simp only [List.getElem?_cons_zero,aW] at hj;subst hj;exact fP _ _ g1
  | 1,hj=>simp only [List.getElem?_cons_succ,List.getElem?_cons_zero,aW] at hj;subst hj;rw [Nat.add_assoc];exact fP _ _ g2
  | j+2,hj=>simp at hj)).1 kE.1
 refine bF (x:=.agg #[.int .i64 (xs.getD (off/2) (0,0)).1,.int .i64 (xs.getD (off/2) (0,0)).2]) ?_ (by simp [den,aJ]) rfl rfl hT
 unfold execOp
 simp only [bZ,<- ex,Instr.loadAt,Instr.sureAddr,Sem.run_bind,Sem.run_pure,Result.andThen_ok,dY]
def nC (j h:Nat):Value->Value
 | .slice ad _ c=>.slice (if c=j then ad else ad.map (·.add (j*2))) (h-j) (c-j)
 | v=>v
theorem Kw.part {u:Value} {xs:List (Int × Int)} {j h:Nat} (hF:Kw w u xs) (hj:j<=h) (hh:h<=xs.length):Kw w (nC j h u) ((xs.drop j).take (h-j))/\∀ n,iD (nC j h u)=some n->iD u=some n:=by
 have hlen:((xs.drop j).take (h-j)).length=h-j:=by simp;omega
 rcases hF with ⟨⟨ad,rfl⟩,rfl⟩ | ⟨b,base,c,rfl,cM,hle,fP⟩
 .have:j=0/\h=0:=by simp at hh;omega
  obtain ⟨rfl,rfl⟩:=this
  exact ⟨.inl ⟨⟨ad,by simp [nC]⟩,by simp⟩,fun n hn=>by simp [nC,iD] at hn⟩
 .by_cases BJ:c=j
  .subst BJ
   have h0:h-c=0:=by omega
   refine ⟨.inr ⟨b,base,0,by simp [nC,h0],cM,by rw [hlen];omega,fun q v hq=>?_⟩,fun n hn=>?_⟩
   .rw [h0] at hq;simp [dV] at hq
   .simp [nC,iD] at hn
  .refine ⟨.inr ⟨b,base+j*2,c-j,by simp [nC,BJ,hlen,bJ],cM,by rw [hlen];omega,fun q v hq=>?_⟩,fun n hn=>?_⟩
   .rw [Nat.add_assoc]
    apply fP
    have Tg:(dV ((xs.drop j).take (h-j)))[q]?=(dV xs)[j*2+q]?:=by
     have rU:q<(dV ((xs.drop j).take (h-j))).length:=by
      rcases Nat.lt_or_ge q (dV ((xs.drop j).take (h-j))).length with h1 | h1
      .exact h1
      .rw [List.getElem?_eq_none h1] at hq;cases hq
     rw [oL,hlen] at rU
     have e:xs=xs.take j++((xs.drop j).take (h-j)++(xs.drop j).drop (h-j)):=by rw [List.take_append_drop,List.take_append_drop]
     have e2:dV xs=dV (xs.take j)++(dV ((xs.drop j).take (h-j))++dV ((xs.drop j).drop (h-j))):=by
      rw [<- pJ,<- pJ,<- e]
     have l1:(dV (xs.take j)).length=j*2:=by rw [oL];simp;omega
     rw [e2,List.getElem?_append_right (by omega),l1,Nat.add_sub_cancel_left,List.getElem?_append_left (by rw [oL,hlen];exact rU)]
    rw [<- Tg];exact hq
   .simp only [nC,if_neg BJ] at hn
    have:=fC hn
    obtain ⟨c',rfl⟩:∃ c',c=c'+1:=⟨c-1,by omega⟩
    simpa [iD,Value.ownBlock,bJ] using this
def Jc (Γ:Env) (g:Nat->Option SV) (T:aX) (t:TypeId) (x:Operand) (lo hi mx:Option Operand) (lab:Nat):Option bK:=
 match ev Γ g x,Γ.ty t,mx with
 | some (.iH l n),some ti,none=>match ti.desc with
   | .slice el=>match Γ.ty el,T l,Ai Γ g hi false n,Ai Γ g lo true 0 with
     | some te,some (.rC xs),some (_,h),some (_,j)=>match Nat.beq te.size 2 with
       | true=>some { bO:=[0<=j/\j<=h/\h<=n],val:=.iH lab (h.toNat-j.toNat),new:=[.rC ((xs.drop j.toNat).take (h.toNat-j.toNat))] }
       | false=>none
     | _,_,_,_=>none
   | _=>none
 | _,_,_=>none
theorem Sj (aU:cD P Γ) (ht:cJ V g a) (hg:bR Γ V) {T':aX} (aR:∀ l B,T' l=some B->T l=some B) (hT:aD w0 M V T w) {t:TypeId} {x:Operand} {lo hi mx:Option Operand} (bZ:o.op = .slice t x lo hi mx) {lab:Nat} (hf:V.fresh lab)
 (he:Jc Γ g T' t x lo hi mx lab=some e) (ho:∀ q∈e.bO,q):lB P w0 M V T lab e o a w:=by
 unfold Jc at he
 split at he
 case h_2=>cases he
 rename_i l n ti hx eA
 split at he
 case h_2=>cases he
 rename_i el hd
 split at he
 case h_2=>cases he
 rename_i te xs sh h sj j eG hB hh hj
 split at he
 case h_2=>cases he
 rename_i wR
 have wR:=cP wR
 simp only [aW] at he
 subst he
 have hb:0<=j/\j<=h/\h<=n:=ho _ (by simp)
 have ex:=bI ht hg hx
 have hTB:=aR l _ hB
 obtain ⟨u,hσ,hF,fF⟩:=Iq (hT.ok l _ hTB) rfl
 simp only [den,hσ,lI] at ex
 obtain ⟨exv,hv⟩:=kA ex
 obtain ⟨ad,c,Ec,hc,hn⟩:∃ ad c,u = .slice ad xs.length c/\xs.length<=c/\n=xs.length:=by
  rcases hF with ⟨⟨ad,rfl⟩,h0⟩ | ⟨b,base,c,rfl,_,hc,_⟩
  .rcases hv with ⟨_,h1⟩ | ⟨b,o,c,h1,h2⟩
   .exact ⟨ad,0,by rw [h0];rfl,by simp [h0],by rw [h1,h0];rfl⟩
   .cases h1;exact ⟨_,0,by rw [h0];rfl,by simp [h0],by rw [h0];rfl⟩
  .rcases hv with ⟨⟨_,h1⟩,h2⟩ | ⟨b,o,c,h1,h2⟩
   .injection h1 with _ h3 _;exact ⟨_,c,rfl,hc,by omega⟩
   .injection h1 with _ h3 _;exact ⟨_,_,rfl,hc,h3.symm⟩
 subst hn
 have hu:=(aU t ti eA).1
 rw [hd] at hu
 obtain ⟨_,i,z,fV,cH,_⟩:=aU el te eG
 have hr:=eV (P:=P) (w:=w) (a:=a) true xs.length c (lo:=lo) (hi:=hi) (mx:=none) (m:=(c:Int)) (h:=h) (k:=j) (.inl ⟨rfl,rfl⟩) (fA ht hg hh) (fA ht hg hj) rfl ⟨by omega,by omega,by omega,by omega,by omega,by omega⟩
 obtain ⟨hFp,hbp⟩:=hF.part (j:=j.toNat) (h:=h.toNat) (by omega) (by omega)
 have hlen:((xs.drop j.toNat).take (h.toNat-j.toNat)).length=h.toNat-j.toNat:=by simp;omega
 have dY:(execOp a.eval o).run P w = .ok (.value (nC j.toNat h.toNat u)) w:=by
  unfold execOp
  simp only [bZ,exv,Ec,Option.map_none,Instr.sliceAt,Instr.slice,Sem.run_bind,run_underlying hu w,Result.andThen_ok,Sem.run_pure,run_sizeOf fV] at hr |-
  simp only [hr,Result.andThen_ok,cH,wR,sJ,nC]
 intro K Q hK
 unfold Oper.wp
 rw [dY,Oper.upon_value]
 have bU:=bA.cG hf lab (cT _) (by omega) (nC j.toNat h.toNat u)
 have hse:(V.bC lab (nC j.toNat h.toNat u)).σ lab=some (nC j.toNat h.toNat u):=by simp [bA.bC]
 refine hK (V.bC lab (nC j.toNat h.toNat u)) _ w bU ?_ ?_
 .simp only [den,hse,lI]
  rcases hFp with ⟨⟨ad',h1⟩,h2⟩ | ⟨b,o',c',h1,_,h2,_⟩
  .rw [h1]
   have:h.toNat-j.toNat=0:=by rw [<- hlen,h2];rfl
   rw [this]
   cases ad' <;> simp [rX]
  .rw [h1,hlen]
   rw [hlen] at h2
   simp [rX,h2]
 .refine hT.step (N:=fun m=>if m=lab then some (.rC ((xs.drop j.toNat).take (h.toNat-j.toNat))) else none) bU.1 (fun m C hm=>?_) (fun m C hm=>?_) (fun m C q hm hq=>?_) (fun m C m' C' q dI hm kM tP _=>?_) (cT _) (fun _ _ _=>rfl) rfl rfl rfl
  .unfold eT bK.eW at hm
   simp only [gE,mZ] at hm
   by_cases e:m=lab
   .subst e
    left
    rw [aI] at hm
    rw [if_pos rfl];exact hm
   .right
    rw [aE (fun q=>e q.symm)] at hm
    exact ⟨by rw [if_neg e],hm⟩
  .split at hm
   .rename_i e;subst e;cases hm;exact ⟨_,rfl,_,hse,hFp⟩
   .cases hm
  .right;right
   split at hm
   .rename_i e
    subst e
    cases hm
    refine ⟨rfl,fun l2 B2 hn h2 h3 h4=>?_⟩
    simp only [SB.aT,hse,lI] at hq
    by_cases e2:l2=l
    .subst e2;rw [hTB] at h2;cases h2;cases h3
    .exact hT.iY l2 B2 l _ q e2 h2 hTB h3 h4 (fF q (hbp q hq))
   .cases hm
  .split at hm
   .cases hm;cases tP
   .cases hm
end aTj
end Go.Proofs.YtnodfocobmghiaaGreatDoor.Sx
