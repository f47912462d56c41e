/- The symbolic executor, first text: symbolic values and blocks, what they denote, effects. No program in sight. -/
import Derived.WalkKit
import Derived.Orders
import Derived.Laws.AppendOwnNone
import Derived.Deep.AppendSrc
import Derived.IntWalk
open Go
set_option maxRecDepth 100000
namespace Go.Proofs.YtnodfocobmghiaaGreatDoor.Sx
theorem aV.{u} {α:Type u} (a b:α):(some a=some b)=(a=b):=Option.some.injEq a b
theorem cM {n m:Nat} (h:Nat.beq n m=true):n=m:=Nat.eq_of_beq_eq_true h
theorem dB.{u} {α:Type u} {a:α} {l:List α}:a∈a::l:=List.mem_cons_self
theorem dC.{u,v} {α:Type u} {β:Type v} {x:Option α} {f:α->β} {b:β}:x.map f=some b<->∃ a,x=some a/\f a=b:=Option.map_eq_some_iff
theorem gL.{u,v} {α:Type u} {β:Type v} {x:Option α} {f:α->Option β} {b:β}:x.bind f=some b<->∃ a,x=some a/\f a=some b:=Option.bind_eq_some_iff
theorem eK.{u} {α:Type u} {a:α} {l:List α} (y:α) (h:a∈l):a∈y::l:=List.mem_cons_of_mem y h
theorem gH.{u} {α:Type u} {l:List α} {i:Nat} {a:α}:l.getD i a=l[i]?.getD a:=List.getD_eq_getElem?_getD
theorem kJ {n m:Nat} (h:Nat.ble n m=true):n<=m:=Nat.le_of_ble_eq_true h
theorem jG {p:Prop} [inst:Decidable p] (h:decide p=true):p:=of_decide_eq_true h
theorem nD {p:Prop} [inst:Decidable p] (h:¬ p):decide p=false:=decide_eq_false h
theorem pD {a:Int} (h:0<=a):∃ n:Nat,a=n:=Int.eq_ofNat_of_zero_le h
theorem mZ.{u,v} {α:Type u} {β:Type v} (a:α) (f:α->Option β):(some a).bind f=f a:=rfl
theorem gQ.{u,v} {α:Type u} {β:Type v} (a:α) (f:α->β):(some a).map f=some (f a):=rfl
theorem iG (a b:Bool):((a&&b)=true)=(a=true/\b=true):=Bool.and_eq_true a b
theorem dF (n:Nat):n<=n:=Nat.le_refl n
theorem qZ (n:Nat):(n:Int).toNat=n:=Int.toNat_natCast n
theorem oR.{u} {α:Type u} (l:List α):[]++l=l:=rfl
abbrev sh {α β:Type} (x:α) (f:α->β):β:=f x
inductive SV where
 | int (s:Bool) (k:IntKind) (n:Int)
 | bool (s:Bool) (b:Bool)
 | ptr (l:Nat) (s:Bool) (off:Nat)
 | aG (l:Nat) (s:Bool) (off len cap:Nat)
 | agg (vs:List SV)
 | eF (vs:List SV)
 | fn (f:Fn) (first Fz:List SV)
 | rC (t:TypeId) (v:SV)
 | raw (v:Value)
 | buf (l:Nat)
 | iS (l:Nat) (off:Nat)
 | lS (l:Nat) (lo hi:Nat)
 | dD (l:Nat) (off len lo:Nat)
 | iA (l n:Nat)
 | ai (k:IntKind) (xs:List Int)
 | Qr (l n cap sz j le:Nat)
structure bA where
 β:Nat->Option (Nat × Nat)
 σ:Nat->Option Value
def pM:Option Value->Option Nat
 | some (.int _ c)=>some c.toNat
 | _=>none
def nW (n:Nat):Value->Option Value
 | .slice none m c=>if m=0/\n=0/\c=0 then some (.slice none 0 0) else none
 | .slice (some a) m c=>if m=n/\n<=c/\(c=0\/a.spot=none) then some (.slice (some a) m c) else none
 | _=>none
def Vu (v:Value):Prop:=∃ a,v = .slice a 0 0
theorem Vu.nil:Vu (.slice none 0 0):=⟨none,rfl⟩
theorem jR {n:Nat} {v x:Value} (h:nW n v=some x):x=v/\((Vu v/\n=0)\/∃ b o c,v = .slice (some ⟨b,o,none⟩) n c/\n<=c):=by
 unfold nW at h
 split at h
 .split at h
  .rename_i hc;obtain ⟨rfl,rfl,rfl⟩:=hc;cases h;exact ⟨rfl,.inl ⟨.nil,rfl⟩⟩
  .cases h
 .rename_i a m c
  split at h
  .rename_i hc;obtain ⟨rfl,hn,hs⟩:=hc;cases h
   obtain ⟨b,o,s⟩:=a
   rcases hs with rfl | hs
   .have:m=0:=by omega
    subst this
    exact ⟨rfl,.inl ⟨⟨_,rfl⟩,rfl⟩⟩
   simp only at hs
   subst hs
   exact ⟨rfl,.inr ⟨b,o,c,rfl,hn⟩⟩
  .cases h
 .cases h
def gX:Value->Option Nat
 | .slice _ _ 0=>none
 | v=>v.ownBlock
theorem eV {v:Value} {n:Nat} (h:gX v=some n):v.ownBlock=some n:=by
 unfold gX at h
 split at h
 .cases h
 .exact h
mutual
def den (V:bA):SV->Option Value
 | .int _ k n=>some (.int k n)
 | .bool _ b=>some (.bool b)
 | .ptr l _ off=>(V.β l).map fun p=>.pointer (some ⟨p.1,p.2+off,none⟩)
 | .aG l _ off len cap=>(V.β l).map fun p=>.slice (some ⟨p.1,p.2+off,none⟩) len cap
 | .agg vs=>(aI V vs).map fun xs=>.agg xs.toArray
 | .eF vs=>(aI V vs).map fun xs=>.tuple xs.toArray
 | .fn f fs cs=>(aI V fs).bind fun x=>(aI V cs).map fun y=>.func f x.toArray y.toArray
 | .rC t v=>(den V v).map fun x=>.iface t x
 | .raw v=>some v
 | .buf l=>V.σ l
 | .iS l off=>match V.σ l with
   | some (.slice (some a) _ _)=>some (.pointer (some (a.add off)))
   | _=>none
 | .lS l lo hi=>match V.σ l with
   | some (.slice a _ cap)=>some (.slice (if cap=lo then a else a.map (·.add lo)) (hi-lo) (cap-lo))
   | _=>none
 | .dD l off len lo=>(V.β l).bind fun p=>(pM (V.σ l)).map fun c=>.slice (some ⟨p.1,p.2+off,none⟩) len (c-lo)
 | .iA l n=>(V.σ l).bind (nW n)
 | .ai k xs=>some (.agg (xs.map (Value.int k)).toArray)
 | .Qr l n cap sz j le=>(V.β l).bind fun p=>(V.β le).bind fun q=>match decide (q=(p.1,p.2+j*sz)) with
   | true=>some (.slice (some ⟨p.1,p.2,none⟩) n cap)
   | false=>none
def aI (V:bA):List SV->Option (List Value)
 | []=>some []
 | v::vs=>(den V v).bind fun x=>(aI V vs).map fun xs=>x::xs
end
def bA.le (V V':bA):Prop:=(∀ l p,V.β l=some p->V'.β l=some p)/\(∀ l v,V.σ l=some v->V'.σ l=some v)
theorem bA.le_refl (V:bA):V.le V:=⟨fun _ _ h=>h,fun _ _ h=>h⟩
theorem bA.le_trans {U V W:bA} (h:U.le V) (k:V.le W):U.le W:=⟨fun l p e=>k.1 l p (h.1 l p e),fun l v e=>k.2 l v (h.2 l v e)⟩
mutual
theorem nP {V V':bA} (h:V.le V'):∀ {v:SV} {x:Value},den V v=some x->den V' v=some x
 | .int ..,_,e=>by simpa [den] using e
 | .bool ..,_,e=>by simpa [den] using e
 | .ptr l s off,x,e=>by
   simp only [den,dC] at e |-
   obtain ⟨p,hp,rfl⟩:=e
   exact ⟨p,h.1 l p hp,rfl⟩
 | .aG l s off len cap,x,e=>by
   simp only [den,dC] at e |-
   obtain ⟨p,hp,rfl⟩:=e
   exact ⟨p,h.1 l p hp,rfl⟩
 | .agg vs,x,e=>by
   simp only [den,dC] at e |-
   obtain ⟨p,hp,rfl⟩:=e
   exact ⟨p,cS h hp,rfl⟩
 | .eF vs,x,e=>by
   simp only [den,dC] at e |-
   obtain ⟨p,hp,rfl⟩:=e
   exact ⟨p,cS h hp,rfl⟩
 | .fn f fs cs,x,e=>by
   simp only [den,dC,gL] at e |-
   obtain ⟨p,hp,q,hq,rfl⟩:=e
   exact ⟨p,cS h hp,q,cS h hq,rfl⟩
 | .rC t v,x,e=>by
   simp only [den,dC] at e |-
   obtain ⟨p,hp,rfl⟩:=e
   exact ⟨p,nP h hp,rfl⟩
 | .raw v,x,e=>by simpa [den] using e
 | .buf l,x,e=>by simp only [den] at e |-;exact h.2 l x e
 | .iS l off,x,e=>by
   simp only [den] at e |-
   split at e
   .rename_i hs;rw [h.2 l _ hs];exact e
   .cases e
 | .lS l lo hi,x,e=>by
   simp only [den] at e |-
   split at e
   .rename_i hs;rw [h.2 l _ hs];exact e
   .cases e
 | .dD l off len lo,x,e=>by
   simp only [den,dC,gL] at e |-
   obtain ⟨p,hp,c,hc,rfl⟩:=e
   refine ⟨p,h.1 l _ hp,c,?_,rfl⟩
   cases hs:V.σ l with
   | none=>rw [hs] at hc;cases hc
   | some v=>rw [h.2 l v hs,<- hs];exact hc
 | .iA l n,x,e=>by
   simp only [den,gL] at e |-
   obtain ⟨v,hv,hx⟩:=e
   exact ⟨v,h.2 l v hv,hx⟩
 | .ai k xs,x,e=>by simpa [den] using e
 | .Qr l n cap sz j le,x,e=>by
   simp only [den,gL] at e |-
   obtain ⟨p,hp,q,hq,e⟩:=e
   exact ⟨p,h.1 l p hp,q,h.1 le q hq,e⟩
theorem cS {V V':bA} (h:V.le V'):∀ {vs:List SV} {xs:List Value},aI V vs=some xs->aI V' vs=some xs
 | [],_,e=>by simpa [aI] using e
 | v::vs,xs,e=>by
   simp only [aI,dC,gL] at e |-
   obtain ⟨x,hx,ys,hy,rfl⟩:=e
   exact ⟨x,nP h hx,ys,cS h hy,rfl⟩
end
theorem bG {V:bA}:∀ {vs:List SV} {xs:List Value},aI V vs=some xs->xs.length=vs.length
 | [],_,e=>by simp only [aI,aV] at e;subst e;rfl
 | v::vs,xs,e=>by
   simp only [aI,dC,gL] at e
   obtain ⟨x,hx,ys,hy,rfl⟩:=e
   simp [bG hy]
theorem dO {V:bA}:∀ {vs:List SV} {xs:List Value},aI V vs=some xs->∀ (i:Nat) (v:SV),vs[i]?=some v->∃ x,xs[i]?=some x/\den V v=some x
 | [],_,_,i,v,hi=>by simp at hi
 | v::vs,xs,e,i,u,hi=>by
   simp only [aI,dC,gL] at e
   obtain ⟨x,hx,ys,hy,rfl⟩:=e
   cases i with
   | zero=>simp only [List.getElem?_cons_zero,aV] at hi;subst hi;exact ⟨x,rfl,hx⟩
   | succ i=>simp only [List.getElem?_cons_succ] at hi |-;exact dO hy i u hi
theorem cI {V:bA}:∀ {vs us:List SV} {xs ys:List Value},aI V vs=some xs->aI V us=some ys->aI V (vs++us)=some (xs++ys)
 | [],us,xs,ys,e,f=>by simp only [aI,aV] at e;subst e;simpa using f
 | v::vs,us,xs,ys,e,f=>by
   simp only [aI,dC,gL,List.cons_append] at e |-
   obtain ⟨x,hx,zs,hz,rfl⟩:=e
   exact ⟨x,hx,zs++ys,cI hz f,rfl⟩
theorem dZ {V:bA}:∀ (n:Nat) {vs:List SV} {xs:List Value},aI V vs=some xs->aI V (vs.take n)=some (xs.take n)
 | 0,vs,xs,_=>by simp [aI]
 | n+1,[],xs,e=>by simp only [aI,aV] at e;subst e;simp [aI]
 | n+1,v::vs,xs,e=>by
   simp only [aI,dC,gL,List.take_succ_cons] at e |-
   obtain ⟨x,hx,zs,hz,rfl⟩:=e
   exact ⟨x,hx,zs.take n,dZ n hz,rfl⟩
theorem iM {V:bA}:∀ (n:Nat) {vs:List SV} {xs:List Value},aI V vs=some xs->aI V (vs.drop n)=some (xs.drop n)
 | 0,vs,xs,e=>by simpa using e
 | n+1,[],xs,e=>by simp only [aI,aV] at e;subst e;simp [aI]
 | n+1,v::vs,xs,e=>by
   simp only [aI,dC,gL] at e
   obtain ⟨x,hx,zs,hz,rfl⟩:=e
   simpa using iM n hz
def dS (xs:List (Int × Int)):List Value:=xs.flatMap fun p=>[.int .i64 p.1,.int .i64 p.2]
inductive SB where
 | own (cells:List SV) (ty:TypeId)
 | ints (k:IntKind) (xs:List Int) (ty:TypeId)
 | fL (cells:List SV)
 | nA (k:IntKind) (xs:List Int)
 | dL (k:IntKind) (xs:List Int) (ty:TypeId)
 | row (sz:Nat) (cells:List SV) (ty:TypeId)
 | eI (vs:List Value) (ty:TypeId)
 | iT (k:IntKind) (xs:List Int)
 | fM (sz n:Nat) (ty:TypeId)
 | eH (xs:List (Int × Int)) (ty:TypeId)
 | qG (xs:List (Int × Int))
 | gone
def SB.cells (V:bA):SB->Option (List Value)
 | .own cs _=>aI V cs
 | .ints k xs _=>some (xs.map (Value.int k))
 | .fL cs=>aI V cs
 | .nA k xs=>some (xs.map (Value.int k))
 | .dL k xs _=>some (xs.map (Value.int k))
 | .row _ cs _=>aI V cs
 | .eI vs _=>some vs
 | .iT k xs=>some (xs.map (Value.int k))
 | .fM _ _ _=>some []
 | .eH xs _=>some (dS xs)
 | .qG xs=>some (dS xs)
 | .gone=>some []
def SB.owned:SB->Bool
 | .fL _ | .nA _ _ | .iT _ _ | .qG _ | .gone=>false
 | _=>true
def SB.aT (V:bA) (l:Nat):SB->Option Nat
 | .dL .. => (V.σ l).bind Value.ownBlock
 | .iT .. => (V.σ l).bind gX
 | .fM .. => (V.σ l).bind Value.ownBlock
 | .eH .. => (V.σ l).bind Value.ownBlock
 | .qG .. => (V.σ l).bind gX
 | .gone=>none
 | _=>(V.β l).map (·.1)
theorem SB.iF {V V':bA} (h:V.le V') {B:SB} {cs:List Value} (e:B.cells V=some cs):B.cells V'=some cs:=by
 cases B <;> simp only [SB.cells] at e |- <;> first | exact cS h e | exact e
def tE (w:World) (b:Nat):Prop:=∃ c t,w.heap[b]?=some (.cells c t (0,0))
theorem tE.lt {w:World} {b:Nat} (h:tE w b):b<w.heap.size:=by obtain ⟨c,t,h⟩:=h;exact (Array.getElem?_eq_some_iff.1 h).1
theorem tE.pI {w w':World} {b:Nat} (h:tE w b) (e:w'.heap[b]?=w.heap[b]?):tE w' b:=by obtain ⟨c,t,h⟩:=h;exact ⟨c,t,e.trans h⟩
def Im (w:World) (b:Nat) (cs:List Value):Prop:=b<w.heap.size/\∀ s,cs[0]?=some (.string s)->tE w b
theorem Im.lt {w:World} {b:Nat} {cs:List Value} (h:Im w b cs):b<w.heap.size:=h.1
theorem Im.of {w:World} {b:Nat} {cs:List Value} {c:Array Value} {t:TypeId} (h:w.heap[b]?=some (.cells c t (0,0))):Im w b cs:=⟨(Array.getElem?_eq_some_iff.1 h).1,fun _ _=>⟨c,t,h⟩⟩
theorem Im.pI {w w':World} {b:Nat} {cs:List Value} (h:Im w b cs) (e:w'.heap[b]?=w.heap[b]?):Im w' b cs:=
 ⟨Nat.lt_of_not_le fun q=>(by rw [Array.getElem?_eq_none q,Array.getElem?_eq_getElem h.1] at e;cases e),fun s hs=>(h.2 s hs).pI e⟩
def vP (w:World) (k:IntKind) (x:Value) (ys:List Int):Prop:=
 (Vu x/\ys=[])\/∃ b o c,x = .slice (some ⟨b,o,none⟩) ys.length c/\b<w.heap.size/\ys.length<=c/\∀ (j:Nat) (u:Value),(ys.map (Value.int k))[j]?=some u->w.cell? ⟨b,o+j,none⟩=some u
def Ji (w:World) (x:Value) (ys:List (Int × Int)):Prop:=
 (Vu x/\ys=[])\/∃ b o c,x = .slice (some ⟨b,o,none⟩) ys.length c/\b<w.heap.size/\ys.length<=c/\∀ (j:Nat) (u:Value),(dS ys)[j]?=some u->w.cell? ⟨b,o+j,none⟩=some u
def gO (w:World) (k:IntKind) (v:Value):Prop:=∀ b,v.ownBlock=some b->∃ cur ty p,w.heap[b]?=some (.cells cur ty p)/\∀ x∈cur.toList,∃ n,x=Value.int k n
theorem gO.nil {w:World} {k:IntKind} {v:Value} (h:v.ownBlock=none):gO w k v:=fun b hb=>by rw [h] at hb;cases hb
def okB (V:bA) (w:World) (l:Nat) (B:SB):Prop:=
 ∃ cs,B.cells V=some cs /\
 match B with
 | .own _ ty | .ints _ _ ty | .eI _ ty=>∃ b,V.β l=some (b,0)/\w.heap[b]?=some (.cells cs.toArray ty (0,0))
 | .fL _ | .nA _ _=>∃ b o,V.β l=some (b,o)/\Im w b cs/\∀ (j:Nat) (v:Value),cs[j]?=some v->w.cell? ⟨b,o+j,none⟩=some v
 | .dL k xs ty=>∃ v,V.σ l=some v/\w.ownsRow 0 ty 1 v xs.length cs/\gO w k v
 | .fM sz n ty=>∃ v us,V.σ l=some v/\w.ownsRow 0 ty sz v n us/\∀ q∈us,q.oneCell'=true
 | .row sz _ ty=>∃ b cap cur,V.β l=some (b,0)/\V.σ l=some (.int .i64 (cap:Nat))/\w.heap[b]?=some (.cells cur ty (0,0))/\cap<=maxLen/\cur.size=cap*sz/\(∃ n,cs.length=n*sz/\n<=cap)/\cur.toList.take cs.length=cs
 | .iT k xs=>∃ v,V.σ l=some v/\vP w k v xs
 | .eH xs ty=>∃ v,V.σ l=some v/\w.ownsRow 0 ty 2 v xs.length cs
 | .qG xs=>∃ v,V.σ l=some v/\Ji w v xs
 | .gone=>True
structure gG (w0:World) (M:Nat->Prop) (w:World):Prop where
 os:w.os=w0.os
 tape:w.tape=w0.tape
 output:w.output=w0.output
 size:w0.heap.size<=w.heap.size
 block:∀ k,k<w0.heap.size->¬ M k->w.heap[k]?=w0.heap[k]?
theorem gG.refl (w:World) (M:Nat->Prop):gG w M w:=⟨rfl,rfl,rfl,dF _,fun _ _ _=>rfl⟩
theorem gG.trans {a b c:World} {M N:Nat->Prop} (h:gG a M b) (k:gG b N c) (hN:∀ n,n<a.heap.size->N n->M n):gG a M c:=
 ⟨k.os.trans h.os,k.tape.trans h.tape,k.output.trans h.output,Nat.le_trans h.size k.size,
  fun i hi hM=>(k.block i (Nat.lt_of_lt_of_le hi h.size) (fun e=>hM (hN i hi e))).trans (h.block i hi hM)⟩
theorem gG.mono {w0 w:World} {M N:Nat->Prop} (h:gG w0 M w) (hN:∀ n,n<w0.heap.size->M n->N n):gG w0 N w:=
 ⟨h.os,h.tape,h.output,h.size,fun k hk hn=>h.block k hk (fun e=>hn (hN k hk e))⟩
abbrev bB:=Nat->Option SB
structure aD (w0:World) (M:Nat->Prop) (V:bA) (T:bB) (w:World):Prop where
 ok:∀ l B,T l=some B->okB V w l B
 jI:∀ l B l' B' n,l≠l'->T l=some B->T l'=some B'->B.owned=true->B.aT V l=some n->B'.aT V l'≠some n
 perm:∀ l B n,T l=some B->B.owned=true->B.aT V l=some n->w0.heap.size<=n\/M n
 frame:gG w0 M w
structure bK where
 bO:List Prop:=[]
 val:SV
 new:List SB:=[]
 wr:List (Nat × SB):=[]
def look {α:Type} (l:Nat):List (Nat × α)->Option α
 | []=>none
 | (k,v)::r=>match Nat.beq k l with
   | true=>some v
   | false=>look l r
def gC {α:Type} (lab:Nat):List α->List (Nat × α)
 | []=>[]
 | v::r=>(lab,v)::gC (lab+1) r
def bK.fA (lab:Nat) (e:bK):List (Nat × SB):=e.wr++gC lab e.new
def eQ (T:bB) (lab:Nat) (e:bK):bB:=fun l=>match look l (e.fA lab) with
 | some B=>some B
 | none=>T l
theorem cB {α:Type} (l:Nat):∀ (a b:List (Nat × α)),look l (a++b)=match look l a with | some v=>some v | none=>look l b
 | [],b=>rfl
 | (k,v)::a,b=>by
   simp only [List.cons_append,look]
   cases h:Nat.beq k l with
   | true=>rfl
   | false=>exact cB l a b
theorem aK {α:Type} (l:Nat) (v:α) (r:List (Nat × α)):look l ((l,v)::r)=some v:=by simp [look,Nat.beq_refl]
theorem aH {α:Type} {l k:Nat} (h:k≠l) (v:α) (r:List (Nat × α)):look l ((k,v)::r)=look l r:=by
 have:Nat.beq k l=false:=by rw [<- Bool.not_eq_true,Nat.beq_eq];exact h
 simp [look,this]
theorem fT {α:Type} {l:Nat} {v:α}:∀ {r:List (Nat × α)},look l r=some v->(l,v)∈r
 | [],h=>by simp [look] at h
 | (k,u)::r,h=>by
   by_cases e:k=l
   .subst e;rw [aK] at h;cases h;exact dB
   .rw [aH e] at h;exact eK _ (fT h)
theorem eW {α:Type}:∀ (lab:Nat) (l:List α) (k:Nat),look k (gC lab l)=if lab<=k then l[k-lab]? else none
 | lab,[],k=>by simp [gC,look]
 | lab,v::r,k=>by
   by_cases e:lab=k
   .subst e;simp [gC,aK]
   .rw [gC,aH e,eW (lab+1) r k]
    by_cases h:lab<=k
    .rw [if_pos (by omega),if_pos h]
     obtain ⟨d,rfl⟩:∃ d,k=lab+1+d:=⟨k-(lab+1),by omega⟩
     rw [show lab+1+d-lab=d+1 from by omega,show lab+1+d-(lab+1)=d from by omega]
     simp
    .rw [if_neg (by omega),if_neg h]
def bA.ext (V:bA) (lab:Nat) (V':bA):Prop:=V.le V'/\∀ l,(l<lab\/lab+8<=l)->V'.β l=V.β l/\V'.σ l=V.σ l
theorem bA.cN (V:bA) (lab:Nat):V.ext lab V:=⟨V.le_refl,fun _ _=>⟨rfl,rfl⟩⟩
def bA.fresh (V:bA) (lab:Nat):Prop:=∀ l,lab<=l->l<lab+8->V.β l=none/\V.σ l=none
def bA.put (V:bA) (l:Nat) (p:Nat × Nat):bA:={ V with β:=fun k=>if k=l then some p else V.β k }
def bA.aZ (V:bA) (l:Nat) (v:Value):bA:={ V with σ:=fun k=>if k=l then some v else V.σ k }
theorem bA.kQ {V:bA} {lab:Nat} (hf:V.fresh lab) (l:Nat) (h1:lab<=l) (h2:l<lab+8) (p:Nat × Nat):V.ext lab (V.put l p):=by
 refine ⟨⟨fun k q hk=>?_,fun _ _ h=>h⟩,fun k hk=>⟨?_,rfl⟩⟩
 .show (if k=l then some p else V.β k)=some q
  by_cases e:k=l
  .subst e;rw [(hf k h1 h2).1] at hk;cases hk
  .rw [if_neg e];exact hk
 .show (if k=l then some p else V.β k)=V.β k
  rw [if_neg (by omega)]
def bA.Ft (V:bA) (l:Nat) (p:Nat × Nat) (v:Value):bA:=(V.put l p).aZ l v
theorem bA.cC {V:bA} {lab:Nat} (hf:V.fresh lab) (l:Nat) (h1:lab<=l) (h2:l<lab+8) (v:Value):V.ext lab (V.aZ l v):=by
 refine ⟨⟨fun _ _ h=>h,fun k q hk=>?_⟩,fun k hk=>⟨rfl,?_⟩⟩
 .show (if k=l then some v else V.σ k)=some q
  by_cases e:k=l
  .subst e;rw [(hf k h1 h2).2] at hk;cases hk
  .rw [if_neg e];exact hk
 .show (if k=l then some v else V.σ k)=V.σ k
  rw [if_neg (by omega)]
theorem bA.uN {V:bA} {lab:Nat} (hf:V.fresh lab) (l:Nat) (h1:lab<=l) (h2:l<lab+8) (p:Nat × Nat) (v:Value):V.ext lab (V.Ft l p v):=by
 refine ⟨⟨fun k q hk=>?_,fun k q hk=>?_⟩,fun k hk=>⟨?_,?_⟩⟩
 .show (if k=l then some p else V.β k)=some q
  by_cases e:k=l
  .subst e;rw [(hf k h1 h2).1] at hk;cases hk
  .rw [if_neg e];exact hk
 .show (if k=l then some v else V.σ k)=some q
  by_cases e:k=l
  .subst e;rw [(hf k h1 h2).2] at hk;cases hk
  .rw [if_neg e];exact hk
 .show (if k=l then some p else V.β k)=V.β k
  rw [if_neg (by omega)]
 .show (if k=l then some v else V.σ k)=V.σ k
  rw [if_neg (by omega)]
structure TI where
 desc:TypeDesc
 size:Nat
 bytes:Nat
 zero:List SV
abbrev Sum:=List SV->bB->Nat->Nat->Option bK
structure Env where
 ty:Nat->Option TI
 aR:List (Nat × Nat)
 sum:Nat->Option Sum
 PY:Nat->Option Sum
 cmp:List Nat:=[]
def cA (P:Program) (Γ:Env):Prop:=∀ t ti,Γ.ty t=some ti->P.underlying t=some ti.desc /\
 ∃ i z,P.info? t=some i/\i.size=ti.size/\i.bytes=ti.bytes/\i.zero=some z/\∀ V,aI V ti.zero=some z.cells.toList
def rU:Value->SV
 | .int k n=>.int true k n
 | .bool b=>.bool true b
 | v=>.raw v
def CA:Value->SV
 | .agg cs=>.agg (cs.toList.map rU)
 | v=>rU v
theorem Qk (V:bA) (v:Value):den V (rU v)=some v:=by cases v <;> simp [rU,den]
theorem qD (V:bA):∀ l:List Value,aI V (l.map rU)=some l
 | []=>by simp [aI]
 | v::l=>by simp [aI,Qk,qD V l]
theorem Yf (V:bA) (v:Value):den V (CA v)=some v:=by
 cases v <;> simp [CA,rU,den,qD]
def tiP (P:Program) (t:Nat):Option TI:=match P.info? t with
 | some i=>match P.underlying t,i.zero with
   | some d,some z=>some { desc:=d,size:=i.size,bytes:=i.bytes,zero:=z.cells.toList.map rU }
   | _,_=>none
 | none=>none
theorem cA.prog {P:Program} {Γ:Env} (h:Γ.ty=tiP P):cA P Γ:=by
 intro t ti ht
 rw [h] at ht
 unfold tiP at ht
 split at ht
 case h_2=>cases ht
 rename_i i hi
 split at ht
 case h_2=>cases ht
 rename_i d z hd hz
 cases ht
 exact ⟨hd,i,z,hi,rfl,rfl,hz,fun V=>qD V _⟩
def ev (Γ:Env) (g:Nat->Option SV):Operand->Option SV
 | .tmp t=>g t
 | .const v=>some (CA v)
 | .global n=>(look n Γ.aR).map fun l=>.ptr l true 0
 | .func f=>some (.fn (.func f) [] [])
def cF (V:bA) (g:Nat->Option SV) (a:Act):Prop:=∀ t v,g t=some v->den V v=some (a.eval (.tmp t))
def bP (Γ:Env) (V:bA):Prop:=∀ n l,look n Γ.aR=some l->V.β l=some (n,0)
theorem bH {Γ:Env} {V:bA} {g:Nat->Option SV} {a:Act} (ht:cF V g a) (hg:bP Γ V):∀ {x:Operand} {v:SV},ev Γ g x=some v->den V v=some (a.eval x)
 | .tmp t,v,h=>ht t v h
 | .const c,v,h=>by simp only [ev,aV] at h;subst h;exact Yf V c
 | .global n,v,h=>by
   simp only [ev,dC] at h
   obtain ⟨l,hl,rfl⟩:=h
   simp [den,hg n l hl,Act.eval]
 | .func f,v,h=>by simp only [ev,aV] at h;subst h;simp [den,aI,Act.eval]
def OA (Γ:Env) (g:Nat->Option SV):List Operand->Option (List SV)
 | []=>some []
 | x::r=>match ev Γ g x,OA Γ g r with
   | some v,some vs=>some (v::vs)
   | _,_=>none
theorem Gh {Γ:Env} {V:bA} {g:Nat->Option SV} {a:Act} (ht:cF V g a) (hg:bP Γ V):∀ {xs:List Operand} {vs:List SV},OA Γ g xs=some vs->aI V vs=some (xs.map a.eval)
 | [],vs,h=>by simp only [OA,aV] at h;subst h;simp [aI]
 | x::r,vs,h=>by
   simp only [OA] at h
   split at h
   .rename_i v us hv Dj
    cases h
    simp [aI,bH ht hg hv,Gh ht hg Dj]
   .cases h
def qX (s:Bool) (p:Prop) [Decidable p]:Option (List Prop):=match s with
 | true=>match decide p with
   | true=>some []
   | false=>none
 | false=>some [p]
theorem gE {s:Bool} {p:Prop} [Decidable p] {l:List Prop} (h:qX s p=some l) (ho:∀ q∈l,q):p:=by
 cases s with
 | true=>
   simp only [qX] at h
   split at h
   .rename_i hd;exact jG hd
   .cases h
 | false=>simp only [qX,aV] at h;subst h;exact ho p (by simp)
def Uj (h:Option Bool) (s:Bool) (b:Bool):bK:=match s with
 | true=>{ val:=.bool true b }
 | false=>match h with
   | some c=>{ bO:=[b=c],val:=.bool true c }
   | none=>{ val:=.bool false b }
theorem FD (V:bA) {h:Option Bool} {s b:Bool} (ho:∀ q∈(Uj h s b).bO,q):den V (Uj h s b).val=some (.bool b)/\(Uj h s b).new=[]/\(Uj h s b).wr=[]:=by
 unfold Uj at *
 split
 .simp [den]
 .split
  .rename_i c
   have hb:b=c:=ho (b=c) (by simp)
   subst hb
   simp [den]
  .simp [den]
theorem jW (T:bB) (lab:Nat) {e:bK} (hn:e.new=[]) (hw:e.wr=[]):eQ T lab e=T:=by
 funext l;simp [eQ,bK.fA,hn,hw,gC,look]
def kM (P:Program) (w0:World) (M:Nat->Prop) (V:bA) (T:bB) (lab:Nat) (e:bK) (o:Oper) (a:Act) (w:World):Prop:=
 ∀ K Q,(∀ V' x w',V.ext lab V'->den V' e.val=some x->aD w0 M V' (eQ T lab e) w'->K (a.put o.dst x) w')->o.wp P a w K Q
theorem bE {P:Program} {w0:World} {M:Nat->Prop} {V:bA} {T:bB} {lab:Nat} {e:bK} {o:Oper} {a:Act} {w:World} {x:Value}
 (hr:(execOp a.eval o).run P w = .ok (.value x) w) (hx:den V e.val=some x) (hn:e.new=[]) (hw:e.wr=[]) (hT:aD w0 M V T w):kM P w0 M V T lab e o a w:=by
 intro K Q hK
 unfold Oper.wp
 rw [hr,Oper.upon_value]
 exact hK V x w (V.cN lab) hx (by rw [jW T lab hn hw];exact hT)
section Tables
variable {w0 w w':World} {M:Nat->Prop} {V V':bA} {T:bB} {lab:Nat}
theorem aD.known (h:aD w0 M V T w) {l:Nat} {B:SB} (hl:T l=some B) (hg:B ≠ .gone):V.β l≠none\/V.σ l≠none:=by
 obtain ⟨cs,_,h2⟩:=h.ok l B hl
 cases B with
 | own cells ty=>obtain ⟨b,hb,_⟩:=h2;left;rw [hb];simp
 | ints k xs ty=>obtain ⟨b,hb,_⟩:=h2;left;rw [hb];simp
 | eI vs ty=>obtain ⟨b,hb,_⟩:=h2;left;rw [hb];simp
 | fL cells=>obtain ⟨b,o,hb,_⟩:=h2;left;rw [hb];simp
 | nA k xs=>obtain ⟨b,o,hb,_⟩:=h2;left;rw [hb];simp
 | dL k xs ty=>obtain ⟨v,hv,_⟩:=h2;right;rw [hv];simp
 | fM sz n ty=>obtain ⟨v,us,hv,_⟩:=h2;right;rw [hv];simp
 | row sz cells ty=>obtain ⟨b,_,_,hb,_⟩:=h2;left;rw [hb];simp
 | iT k xs=>obtain ⟨v,hv,_⟩:=h2;right;rw [hv];simp
 | eH xs ty=>obtain ⟨v,hv,_⟩:=h2;right;rw [hv];simp
 | qG xs=>obtain ⟨v,hv,_⟩:=h2;right;rw [hv];simp
 | gone=>exact absurd rfl hg
theorem qB {ty:TypeId} {sz n:Nat} {v:Value} {cs:List Value} (h:w.ownsRow 0 ty sz v n cs) {k:Nat} (hk:v.ownBlock=some k):k<w.heap.size:=(h.lt k hk).2
theorem okB.lt {l:Nat} {B:SB} (h:okB V w l B) {n:Nat} (hn:B.aT V l=some n):n<w.heap.size:=by
 obtain ⟨cs,_,h2⟩:=h
 cases B with
 | own cells ty=>obtain ⟨b,hb,hh⟩:=h2;simp [SB.aT,hb] at hn;subst hn;exact (Array.getElem?_eq_some_iff.1 hh).1
 | ints k xs ty=>obtain ⟨b,hb,hh⟩:=h2;simp [SB.aT,hb] at hn;subst hn;exact (Array.getElem?_eq_some_iff.1 hh).1
 | eI vs ty=>obtain ⟨b,hb,hh⟩:=h2;simp [SB.aT,hb] at hn;subst hn;exact (Array.getElem?_eq_some_iff.1 hh).1
 | fL cells=>obtain ⟨b,o,hb,cL,_⟩:=h2;simp [SB.aT,hb] at hn;subst hn;exact cL.lt
 | nA k xs=>obtain ⟨b,o,hb,cL,_⟩:=h2;simp [SB.aT,hb] at hn;subst hn;exact cL.lt
 | dL k xs ty=>obtain ⟨v,hv,ho⟩:=h2;simp [SB.aT,hv] at hn;exact qB ho.1 hn
 | fM sz n ty=>obtain ⟨v,us,hv,ho,_⟩:=h2;simp [SB.aT,hv] at hn;exact qB ho hn
 | row sz cells ty=>obtain ⟨b,_,_,hb,_,hh,_⟩:=h2;simp [SB.aT,hb] at hn;subst hn;exact (Array.getElem?_eq_some_iff.1 hh).1
 | iT k xs=>
   obtain ⟨v,hv,ho⟩:=h2
   simp only [SB.aT,hv,mZ] at hn
   rcases ho with ⟨⟨a,rfl⟩,_⟩ | ⟨b,o,c,rfl,cL,_⟩
   .cases hn
   .cases eV hn;exact cL
 | eH xs ty=>obtain ⟨v,hv,ho⟩:=h2;simp [SB.aT,hv] at hn;exact qB ho hn
 | qG xs=>
   obtain ⟨v,hv,ho⟩:=h2
   simp only [SB.aT,hv,mZ] at hn
   rcases ho with ⟨⟨a,rfl⟩,_⟩ | ⟨b,o,c,rfl,cL,_⟩
   .cases hn
   .cases eV hn;exact cL
 | gone=>simp [SB.aT] at hn
theorem Mb {w w':World} {k:IntKind} {v:Value} (h:gO w k v) (hb:∀ n,v.ownBlock=some n->w'.heap[n]?=w.heap[n]?):gO w' k v:=fun b hv=>by
 obtain ⟨cur,ty,p,h1,h2⟩:=h b hv
 exact ⟨cur,ty,p,by rw [hb b hv];exact h1,h2⟩
theorem oP {ty:TypeId} {sz n:Nat} {v:Value} {cs:List Value} (h:w.ownsRow 0 ty sz v n cs) (hb:∀ k,v.ownBlock=some k->w'.heap[k]?=w.heap[k]?):w'.ownsRow 0 ty sz v n cs:=by
 refine ⟨h.1,?_⟩
 rcases h.2 with hn | ⟨g,cap,cur,rfl,Cm,hh,r⟩
 .exact .inl hn
 .exact .inr ⟨g,cap,cur,rfl,Cm,by rw [hb g rfl];exact hh,r⟩
theorem okB.pI {l:Nat} {B:SB} (h:okB V w l B) (hV:V.le V') (hs:w.heap.size<=w'.heap.size) (hb:∀ n,B.aT V l=some n->w'.heap[n]?=w.heap[n]?):okB V' w' l B:=by
 obtain ⟨cs,hc,h2⟩:=h
 refine ⟨cs,SB.iF hV hc,?_⟩
 cases B with
 | own cells ty=>obtain ⟨b,hβ,hh⟩:=h2;exact ⟨b,hV.1 _ _ hβ,by rw [hb b (by simp [SB.aT,hβ])];exact hh⟩
 | ints k xs ty=>obtain ⟨b,hβ,hh⟩:=h2;exact ⟨b,hV.1 _ _ hβ,by rw [hb b (by simp [SB.aT,hβ])];exact hh⟩
 | eI vs ty=>obtain ⟨b,hβ,hh⟩:=h2;exact ⟨b,hV.1 _ _ hβ,by rw [hb b (by simp [SB.aT,hβ])];exact hh⟩
 | fL cells=>
   obtain ⟨b,o,hβ,cL,hh⟩:=h2
   refine ⟨b,o,hV.1 _ _ hβ,cL.pI (hb b (by simp [SB.aT,hβ])),fun j v hj=>?_⟩
   rw [<- hh j v hj]
   exact World.cell?_of_block (w:=w) (hb b (by simp [SB.aT,hβ]))
 | nA k xs=>
   obtain ⟨b,o,hβ,cL,hh⟩:=h2
   refine ⟨b,o,hV.1 _ _ hβ,cL.pI (hb b (by simp [SB.aT,hβ])),fun j v hj=>?_⟩
   rw [<- hh j v hj]
   exact World.cell?_of_block (w:=w) (hb b (by simp [SB.aT,hβ]))
 | dL k xs ty=>obtain ⟨v,hσ,ho,hi⟩:=h2;exact ⟨v,hV.2 _ _ hσ,oP ho (fun k hk=>hb k (by simp [SB.aT,hσ,hk])),Mb hi (fun k hk=>hb k (by simp [SB.aT,hσ,hk]))⟩
 | fM sz n ty=>obtain ⟨v,us,hσ,ho,hq⟩:=h2;exact ⟨v,us,hV.2 _ _ hσ,oP ho (fun k hk=>hb k (by simp [SB.aT,hσ,hk])),hq⟩
 | row sz cells ty=>obtain ⟨b,cap,cur,hβ,hσ,hh,r⟩:=h2;exact ⟨b,cap,cur,hV.1 _ _ hβ,hV.2 _ _ hσ,by rw [hb b (by simp [SB.aT,hβ])];exact hh,r⟩
 | iT k xs=>
   obtain ⟨v,hσ,ho⟩:=h2
   refine ⟨v,hV.2 _ _ hσ,?_⟩
   rcases ho with ho | ⟨b,o,c,rfl,cL,hc,hh⟩
   .exact .inl ho
   .refine .inr ⟨b,o,c,rfl,Nat.lt_of_lt_of_le cL hs,hc,fun j v hj=>?_⟩
    rw [<- hh j v hj]
    have Vf:j<xs.length:=by simpa using (List.getElem?_eq_some_iff.1 hj).1
    obtain ⟨m,rfl⟩:∃ m,c=m+1:=⟨c-1,by omega⟩
    exact World.cell?_of_block (w:=w) (hb b (by simp [SB.aT,hσ,gX,Value.ownBlock]))
 | eH xs ty=>obtain ⟨v,hσ,ho⟩:=h2;exact ⟨v,hV.2 _ _ hσ,oP ho (fun k hk=>hb k (by simp [SB.aT,hσ,hk]))⟩
 | qG xs=>
   obtain ⟨v,hσ,ho⟩:=h2
   refine ⟨v,hV.2 _ _ hσ,?_⟩
   rcases ho with ho | ⟨b,o,c,rfl,cL,hc,hh⟩
   .exact .inl ho
   .refine .inr ⟨b,o,c,rfl,Nat.lt_of_lt_of_le cL hs,hc,fun j v hj=>?_⟩
    rw [<- hh j v hj]
    have Vf:0<xs.length:=by
     cases xs with
     | nil=>simp [dS] at hj
     | cons a r=>simp
    obtain ⟨m,rfl⟩:∃ m,c=m+1:=⟨c-1,by omega⟩
    exact World.cell?_of_block (w:=w) (hb b (by simp [SB.aT,hσ,gX,Value.ownBlock]))
 | gone=>trivial
theorem SB.aIv (hV:V.le V') {l:Nat} {B:SB} {n:Nat} (h:B.aT V l=some n):B.aT V' l=some n:=by
 cases B <;> simp only [SB.aT,dC,gL] at h |-
 case gone=>cases h
 case dL=>obtain ⟨v,hv,e⟩:=h;exact ⟨v,hV.2 _ _ hv,e⟩
 case fM=>obtain ⟨v,hv,e⟩:=h;exact ⟨v,hV.2 _ _ hv,e⟩
 case iT=>obtain ⟨v,hv,e⟩:=h;exact ⟨v,hV.2 _ _ hv,e⟩
 case eH=>obtain ⟨v,hv,e⟩:=h;exact ⟨v,hV.2 _ _ hv,e⟩
 case qG=>obtain ⟨v,hv,e⟩:=h;exact ⟨v,hV.2 _ _ hv,e⟩
 all_goals (obtain ⟨p,hp,e⟩:=h;exact ⟨p,hV.1 _ _ hp,e⟩)
theorem okB.sC {l:Nat} {B:SB} (h:okB V w l B) (hV:V.le V'):B.aT V' l=B.aT V l:=by
 obtain ⟨cs,_,h2⟩:=h
 cases B with
 | own cells ty=>obtain ⟨b,hb,_⟩:=h2;simp [SB.aT,hb,hV.1 _ _ hb]
 | ints k xs ty=>obtain ⟨b,hb,_⟩:=h2;simp [SB.aT,hb,hV.1 _ _ hb]
 | eI vs ty=>obtain ⟨b,hb,_⟩:=h2;simp [SB.aT,hb,hV.1 _ _ hb]
 | fL cells=>obtain ⟨b,o,hb,_⟩:=h2;simp [SB.aT,hb,hV.1 _ _ hb]
 | nA k xs=>obtain ⟨b,o,hb,_⟩:=h2;simp [SB.aT,hb,hV.1 _ _ hb]
 | dL k xs ty=>obtain ⟨v,hv,_⟩:=h2;simp [SB.aT,hv,hV.2 _ _ hv]
 | fM sz n ty=>obtain ⟨v,us,hv,_⟩:=h2;simp [SB.aT,hv,hV.2 _ _ hv]
 | row sz cells ty=>obtain ⟨b,_,_,hb,_⟩:=h2;simp [SB.aT,hb,hV.1 _ _ hb]
 | iT k xs=>obtain ⟨v,hv,_⟩:=h2;simp [SB.aT,hv,hV.2 _ _ hv]
 | eH xs ty=>obtain ⟨v,hv,_⟩:=h2;simp [SB.aT,hv,hV.2 _ _ hv]
 | qG xs=>obtain ⟨v,hv,_⟩:=h2;simp [SB.aT,hv,hV.2 _ _ hv]
 | gone=>simp [SB.aT]
theorem aD.step (h:aD w0 M V T w) (hV:V.le V') {N T':bB}
 (hT:∀ l B,T' l=some B->N l=some B\/(N l=none/\T l=some B))
 (hN:∀ l B,N l=some B->okB V' w' l B)
 (eZ:∀ l B n,N l=some B->B.aT V' l=some n->w.heap.size<=n\/(∃ l0 B0,T l0=some B0/\B0.owned=true/\B0.aT V l0=some n/\N l0≠none)\/B.owned=false/\∀ l2 B2,N l2=none->T l2=some B2->B2.owned=true->B2.aT V l2≠some n)
 (aOp:∀ l B l' B' n,l≠l'->N l=some B->N l'=some B'->B.owned=true->B.aT V' l=some n->B'.aT V' l'≠some n)
 (Rn:w.heap.size<=w'.heap.size)
 (Ro:∀ n,n<w.heap.size->(∀ l B0,T l=some B0->B0.owned=true->N l≠none->B0.aT V l≠some n)->w'.heap[n]?=w.heap[n]?)
 (hos:w'.os=w.os) (Jw:w'.tape=w.tape) (AF:w'.output=w.output):aD w0 M V' T' w' where
 ok:=fun l B hl=>by
  rcases hT l B hl with hn | ⟨hn,ho⟩
  .exact hN l B hn
  .refine (h.ok l B ho).pI hV Rn (fun n hb=>Ro n ((h.ok l B ho).lt hb) fun l1 B1 h1 h2 h3 h4=>?_)
   by_cases e:l1=l
   .subst e;exact h3 hn
   .exact h.jI l1 B1 l B n e h1 ho h2 h4 hb
 jI:=fun l B l' B' n dJ hl sP fD hb=>by
  rcases hT l B hl with hn | ⟨hn,ho⟩ <;> rcases hT l' B' sP with Me | ⟨Me,jS⟩
  .exact aOp l B l' B' n dJ hn Me fD hb
  .rw [(h.ok l' B' jS).sC hV]
   intro iD
   rcases eZ l B n hn hb with MX | ⟨l0,B0,h0,h1,h2,h3⟩ | ⟨hf,_⟩
   .have:=(h.ok l' B' jS).lt iD;omega
   .exact h.jI l0 B0 l' B' n (fun e=>h3 (e ▸ Me)) h0 jS h1 h2 iD
   .rw [hf] at fD;cases fD
  .rw [(h.ok l B ho).sC hV] at hb
   intro iD
   rcases eZ l' B' n Me iD with MX | ⟨l0,B0,h0,h1,h2,h3⟩ | ⟨_,hf⟩
   .have:=(h.ok l B ho).lt hb;omega
   .exact h.jI l B l0 B0 n (fun e=>h3 (e ▸ hn)) ho h0 fD hb h2
   .exact hf l B hn ho fD hb
  .rw [(h.ok l B ho).sC hV] at hb
   rw [(h.ok l' B' jS).sC hV]
   exact h.jI l B l' B' n dJ ho jS fD hb
 perm:=fun l B n hl fD hb=>by
  rcases hT l B hl with hn | ⟨hn,ho⟩
  .rcases eZ l B n hn hb with MX | ⟨l0,B0,h0,h1,h2,_⟩ | ⟨hf,_⟩
   .left;have:=h.frame.size;omega
   .exact h.perm l0 B0 n h0 h1 h2
   .rw [hf] at fD;cases fD
  .rw [(h.ok l B ho).sC hV] at hb
   exact h.perm l B n ho fD hb
 frame:=by
  refine ⟨hos.trans h.frame.os,Jw.trans h.frame.tape,AF.trans h.frame.output,Nat.le_trans h.frame.size Rn,fun k hk hM=>?_⟩
  rw [<- h.frame.block k hk hM]
  refine Ro k (Nat.lt_of_lt_of_le hk h.frame.size) fun l B0 h1 h2 _ h4=>?_
  rcases h.perm l B0 k h1 h2 h4 with MX | hm
  .omega
  .exact hM hm
theorem aD.alloc (h:aD w0 M V T w) (hf:V.fresh lab) {B:SB} {cs:List Value} {ty:TypeId} (hB:B = .own (match B with | .own c _=>c | _=>[]) ty\/B = .ints (match B with | .ints k _ _=>k | _=>.i8) (match B with | .ints _ xs _=>xs | _=>[]) ty\/B = .eI (match B with | .eI vs _=>vs | _=>[]) ty) (hc:B.cells V=some cs) (v:SV) (l:List Prop) :
 aD w0 M (V.put lab (w.heap.size,0)) (eQ T lab { bO:=l,val:=v,new:=[B] }) (w.alloc (.cells cs.toArray ty)):=by
 have bT:=bA.kQ hf lab (dF _) (by omega) (w.heap.size,0)
 have zM:(V.put lab (w.heap.size,0)).β lab=some (w.heap.size,0):=by simp [bA.put]
 refine h.step (N:=fun k=>if k=lab then some B else none) bT.1 (fun k C hk=>?_) (fun k C hk=>?_) (fun k C n hk hb=>?_) (fun k C k' C' n dJ hk iH=>?_) (by simp) (fun n hn _=>heap_alloc_old w _ hn) rfl rfl rfl
 .simp only [eQ,bK.fA,gC,oR] at hk
  by_cases e:lab=k
  .subst e;rw [aK] at hk;left;simpa using hk
  .rw [aH e] at hk;right;simp only [look] at hk;exact ⟨if_neg (fun x=>e x.symm),hk⟩
 .by_cases e:k=lab
  .subst e
   simp only [if_true,aV] at hk
   subst hk
   refine ⟨cs,SB.iF bT.1 hc,?_⟩
   rcases hB with hB | hB | hB <;> rw [hB] <;> exact ⟨w.heap.size,zM,heap_alloc_new w _⟩
  .simp [e] at hk
 .by_cases e:k=lab
  .subst e
   simp only [if_true,aV] at hk
   subst hk
   left
   rcases hB with hB | hB | hB <;> (rw [hB] at hb;simp [SB.aT,zM] at hb;omega)
  .simp [e] at hk
 .by_cases e:k=lab
  .by_cases e':k'=lab
   .omega
   .simp [e'] at iH
  .simp [e] at hk
theorem aD.write (h:aD w0 M V T w) {l:Nat} {B0 B:SB} {b:Nat} {Dh cs:List Value} {ty:TypeId} (hl:T l=some B0) (hβ:V.β l=some (b,0)) (fD:B0.owned=true) (h0:B0.aT V l=some b)
 (Ac:w.heap[b]?=some (.cells Dh.toArray ty (0,0))) (hc:B.cells V=some cs)
 (hB:B = .own (match B with | .own c _=>c | _=>[]) ty\/B = .ints (match B with | .ints k _ _=>k | _=>.i8) (match B with | .ints _ xs _=>xs | _=>[]) ty\/B = .eI (match B with | .eI vs _=>vs | _=>[]) ty) (lab:Nat) (v:SV) (ob:List Prop) :
 aD w0 M V (eQ T lab { bO:=ob,val:=v,wr:=[(l,B)] }) (w.setRow b cs.toArray):=by
 have aOr:B.aT V l=some b:=by rcases hB with hB | hB | hB <;> (rw [hB];simp [SB.aT,hβ])
 refine h.step (N:=fun k=>if k=l then some B else none) (bA.le_refl V) (fun k C hk=>?_) (fun k C hk=>?_) (fun k C n hk hb=>?_) (fun k C k' C' n dJ hk iH=>?_) (by simp) (fun n hn hx=>?_) rfl rfl rfl
 .simp only [eQ,bK.fA,gC,List.append_nil] at hk
  by_cases e:l=k
  .subst e;rw [aK] at hk;left;simpa using hk
  .rw [aH e] at hk;right;simp only [look] at hk;exact ⟨if_neg (fun x=>e x.symm),hk⟩
 .by_cases e:k=l
  .subst e
   simp only [if_true,aV] at hk
   subst hk
   refine ⟨cs,hc,?_⟩
   have:=setRow_heap w b Dh.toArray cs.toArray ty (0,0) Ac
   rcases hB with hB | hB | hB <;> rw [hB] <;> exact ⟨b,hβ,this⟩
  .simp [e] at hk
 .by_cases e:k=l
  .subst e
   simp only [if_true,aV] at hk
   subst hk
   right;left
   rw [aOr] at hb
   cases hb
   exact ⟨k,B0,hl,fD,h0,by simp⟩
  .simp [e] at hk
 .by_cases e:k=l
  .by_cases e':k'=l
   .omega
   .simp [e'] at iH
  .simp [e] at hk
 .refine setRow_other w b n _ fun e=>?_
  subst e
  exact hx l B0 hl fD (by simp) h0
theorem aD.aPj (h:aD w0 M V T w) (hh:w'.heap=w.heap) (hos:w'.os=w.os) (Jw:w'.tape=w.tape) (AF:w'.output=w.output):aD w0 M V T w':=
 h.step (N:=fun _=>none) (bA.le_refl V) (fun l B hl=>.inr ⟨rfl,hl⟩) (fun _ _ hk=>by cases hk) (fun _ _ _ hk=>by cases hk) (fun _ _ _ _ _ _ hk=>by cases hk) (by rw [hh];exact dF _) (fun n _ _=>by rw [hh]) hos Jw AF
theorem vP.pI {w w':World} {k:IntKind} {x:Value} {ys:List Int} (h:vP w k x ys) (hs:w.heap.size<=w'.heap.size) (hb:∀ n,gX x=some n->w'.heap[n]?=w.heap[n]?):vP w' k x ys:=by
 rcases h with ho | ⟨b,o,c,rfl,cL,hc,hh⟩
 .exact .inl ho
 .refine .inr ⟨b,o,c,rfl,Nat.lt_of_lt_of_le cL hs,hc,fun j v hj=>?_⟩
  rw [<- hh j v hj]
  have Vf:j<ys.length:=by simpa using (List.getElem?_eq_some_iff.1 hj).1
  obtain ⟨m,rfl⟩:∃ m,c=m+1:=⟨c-1,by omega⟩
  exact World.cell?_of_block (w:=w) (hb b (by simp [gX,Value.ownBlock]))
theorem vP.iA {k:IntKind} {x:Value} {ys:List Int} (h:vP w k x ys):nW ys.length x=some x:=by
 rcases h with ⟨⟨a,rfl⟩,rfl⟩ | ⟨b,o,c,rfl,_,hc,_⟩
 .cases a <;> simp [nW]
 .unfold nW;exact if_pos ⟨rfl,hc,.inr rfl⟩
theorem aD.swap {l0:Nat} {B C:SB} (hT:aD w0 M V T w) (hl:T l0=some B) (mV:okB V w l0 B->okB V w l0 C) (eZ:C.aT V l0=B.aT V l0) (fD:C.owned=B.owned):aD w0 M V (fun l=>if l=l0 then some C else T l) w:=by
 have src:∀ l D,(if l=l0 then some C else T l)=some D->∃ E,T l=some E/\D.aT V l=E.aT V l/\D.owned=E.owned:=by
  intro l D h
  by_cases e:l=l0
  .subst e;rw [if_pos rfl] at h;cases h;exact ⟨B,hl,eZ,fD⟩
  .rw [if_neg e] at h;exact ⟨D,h,rfl,rfl⟩
 refine ⟨fun l D h=>?_,fun l D l' D' n dJ h h' ho hb=>?_,fun l D n h ho hb=>?_,hT.frame⟩
 .by_cases e:l=l0
  .subst e;simp only [if_true,aV] at h;subst h;exact mV (hT.ok l B hl)
  .simp only [if_neg e] at h;exact hT.ok l D h
 .obtain ⟨E,h1,h2,h3⟩:=src l D h
  obtain ⟨E',Mp,Yv,_⟩:=src l' D' h'
  rw [Yv]
  exact hT.jI l E l' E' n dJ h1 Mp (h3 ▸ ho) (h2 ▸ hb)
 .obtain ⟨E,h1,h2,h3⟩:=src l D h
  exact hT.perm l E n h1 (h3 ▸ ho) (h2 ▸ hb)
end Tables
def bR (k:IntKind) (x y:Int):Int:=k.wrap ((BitVec.ofInt k.bits x &&& BitVec.ofInt k.bits y).toNat:Int)
def jQ (k:IntKind) (x y:Int):Int:=k.wrap ((BitVec.ofInt k.bits x ||| BitVec.ofInt k.bits y).toNat:Int)
def gW (k:IntKind) (x y:Int):Int:=k.wrap ((BitVec.ofInt k.bits x ^^^ BitVec.ofInt k.bits y).toNat:Int)
def aVr (k:IntKind) (x y:Int):Int:=k.wrap ((BitVec.ofInt k.bits x &&& ~~~(BitVec.ofInt k.bits y)).toNat:Int)
def cZ (k:IntKind) (x y:Int):Int:=k.wrap (x*2^(min y.toNat k.bits))
def bU (k:IntKind) (x y:Int):Int:=x.fdiv (2^(min y.toNat k.bits))
def lit (v:SV):Option bK:=some { val:=v }
def dQ (v:SV) (l:List Prop):bK:={ bO:=l,val:=v }
def Vo (h:Option Bool) (op:BinOp) (k:IntKind) (a:Int) (k2:IntKind) (b:Int) (sa sb:Bool):Option bK:=
 match op with
 | .shl=>(qX sb (0<=b)).map (dQ (.int (sa&&sb) k (cZ k a b)))
 | .shr=>(qX sb (0<=b)).map (dQ (.int (sa&&sb) k (bU k a b)))
 | _=>match decide (k=k2) with
   | false=>none
   | true=>match op with
     | .add=>lit (.int (sa&&sb) k (k.wrap (a+b)))
     | .sub=>lit (.int (sa&&sb) k (k.wrap (a-b)))
     | .mul=>lit (.int (sa&&sb) k (k.wrap (a*b)))
     | .quo=>(qX sb (b≠0)).map (dQ (.int (sa&&sb) k (k.wrap (a.tdiv b))))
     | .rem=>(qX sb (b≠0)).map (dQ (.int (sa&&sb) k (a.tmod b)))
     | .and=>lit (.int (sa&&sb) k (bR k a b))
     | .or=>lit (.int (sa&&sb) k (jQ k a b))
     | .xor=>lit (.int (sa&&sb) k (gW k a b))
     | .andNot=>lit (.int (sa&&sb) k (aVr k a b))
     | .eql=>some (Uj h (sa&&sb) (a==b))
     | .neq=>some (Uj h (sa&&sb) (a != b))
     | .lss=>some (Uj h (sa&&sb) (decide (a<b)))
     | .leq=>some (Uj h (sa&&sb) (decide (a<=b)))
     | .gtr=>some (Uj h (sa&&sb) (decide (a>b)))
     | .geq=>some (Uj h (sa&&sb) (decide (a>=b)))
     | _=>none
theorem XO {P:Program} (V:bA) (w:World) {h:Option Bool} {op:BinOp} {k:IntKind} {a:Int} {k2:IntKind} {b:Int} {sa sb:Bool} {e:bK} (t:TypeId)
 (he:Vo h op k a k2 b sa sb=some e) (ho:∀ q∈e.bO,q) :
 ∃ x,(binOp op t (.int k a) (.int k2 b)).run P w = .ok x w/\den V e.val=some x/\e.new=[]/\e.wr=[]:=by
 have hk:op ≠ .shl->op ≠ .shr->k=k2:=by
  intro h1 h2
  cases op <;> simp only [Vo] at he <;> first | (split at he <;> first | (cases he;done) | (rename_i hd;exact jG hd)) | exact absurd rfl h1 | exact absurd rfl h2
 cases op
 case shl=>
  simp only [Vo,dC] at he
  obtain ⟨l,hl,rfl⟩:=he
  have hb:=gE hl ho
  exact ⟨_,by simp only [binOp,Op.shift];rw [if_neg (by omega)];rfl,rfl,rfl,rfl⟩
 case shr=>
  simp only [Vo,dC] at he
  obtain ⟨l,hl,rfl⟩:=he
  have hb:=gE hl ho
  exact ⟨_,by simp only [binOp,Op.shift];rw [if_neg (by omega)];rfl,rfl,rfl,rfl⟩
 all_goals
  have iH:=hk (by simp) (by simp)
  subst iH
  simp only [Vo,decide_true] at he
 case quo=>
  simp only [dC] at he
  obtain ⟨l,hl,rfl⟩:=he
  have hb:=gE hl ho
  exact ⟨_,by simp only [binOp];rw [if_neg (by simp)];simp only [Op.intDiv];rw [if_neg hb];rfl,rfl,rfl,rfl⟩
 case rem=>
  simp only [dC] at he
  obtain ⟨l,hl,rfl⟩:=he
  have hb:=gE hl ho
  exact ⟨_,by simp only [binOp];rw [if_neg (by simp)];simp only [Op.intDiv];rw [if_neg hb];rfl,rfl,rfl,rfl⟩
 all_goals first
  | (simp only [lit,aV] at he;subst he;exact ⟨_,by simp only [binOp];rw [if_neg (by simp)];rfl,rfl,rfl,rfl⟩)
  | (simp only [aV] at he;subst he;obtain ⟨h1,h2,h3⟩:=FD V ho;exact ⟨_,by simp only [binOp];rw [if_neg (by simp)];rfl,h1,h2,h3⟩)
  | (cases he;done)
def OZ:SV->Option Bool
 | .raw (.pointer none)=>some true
 | .ptr .. => some false
 | _=>none
def OY:SV->Option Bool
 | .raw (.slice none _ _)=>some true
 | .aG .. => some false
 | .dD .. => some false
 | _=>none
def PA:SV->Option Bool
 | .raw .nilIface=>some true
 | .rC .. => some false
 | _=>none
def sY (op:BinOp) (b:Bool):Option bK:=match op with
 | .eql=>lit (.bool true b)
 | .neq=>lit (.bool true (!b))
 | _=>none
def eEq (h:Option Bool) (op:BinOp) (d:TypeDesc) (cc:Bool) (x y:SV):Option bK:=
 match d with
 | .pointer _=>match OZ x,OZ y with
   | some a,some b=>match a||b with
     | true=>sY op (a&&b)
     | false=>none
   | _,_=>none
 | .slice _=>match OY x,OY y with
   | some a,some b=>match a||b with
     | true=>sY op (a&&b)
     | false=>none
   | _,_=>none
 | .interface _=>match PA x,PA y with
   | some true,some true=>match cc with
     | true=>sY op true
     | false=>none
   | some true,some false=>sY op false
   | some false,some true=>sY op false
   | _,_=>none
 | .bool=>match x,y with
   | .bool sa a,.bool sb b=>match op with
     | .eql=>some (Uj h (sa&&sb) (a==b))
     | .neq=>some (Uj h (sa&&sb) (!(a==b)))
     | _=>none
   | _,_=>none
 | _=>none
def AT (Γ:Env) (g:Nat->Option SV) (h:Option Bool) (op:BinOp) (t:TypeId) (x y:Operand):Option bK:=
 match ev Γ g x,ev Γ g y with
 | some (.int sa k a),some (.int sb k2 b)=>Vo h op k a k2 b sa sb
 | some u,some v=>match Γ.ty t with
   | some ti=>eEq h op ti.desc ((x matches .const _)||(y matches .const _)) u v
   | none=>none
 | _,_=>none
theorem cP {P:Program} (w:World) (op:BinOp) (t:TypeId) (x y:Operand) (a b:Value) (h1:¬ (a = .nilIface/\b = .nilIface)) (h2:∀ cs,a ≠ .agg cs) :
 (eqGuard op t x y a b).run P w = .ok () w:=by
 unfold eqGuard
 cases op <;> try rfl
 all_goals
  cases a <;> cases b <;> first | rfl | exact absurd rfl (h2 _) | exact absurd ⟨rfl,rfl⟩ h1
theorem xT {P:Program} (w:World) (op:BinOp) (t:TypeId) (x y:Operand) (h:((x matches .const _)||(y matches .const _))=true) :
 (eqGuard op t x y .nilIface .nilIface).run P w = .ok () w:=by
 unfold eqGuard
 cases op <;> try rfl
 all_goals (cases x <;> cases y <;> first | rfl | (simp at h;done))
theorem xS (n0:Nat) {P:Program} (w:World) {t E:TypeId} (hu:P.underlying t=some (.pointer E)) (a b:Option Addr) (h:a=none\/b=none) :
 (Op.equalIn (n0+1) t (.pointer a) (.pointer b)).run P w = .ok (a.isNone&&b.isNone) w:=by
 simp only [Op.equalIn,Sem.run_bind,run_underlying hu w,Result.andThen_ok]
 rcases h with rfl | rfl
 .simp
 .cases a <;> simp
theorem Da {P:Program} (w:World) {t E:TypeId} (hu:P.underlying t=some (.pointer E)) (a b:Option Addr) (h:a=none\/b=none) :
 (Op.equal t (.pointer a) (.pointer b)).run P w = .ok (a.isNone&&b.isNone) w:=xS 9999 w hu a b h
theorem vC (n0:Nat) {P:Program} (w:World) {t E:TypeId} (hu:P.underlying t=some (.slice E)) (a b:Option Addr) (n c m d:Nat) (h:a=none\/b=none) :
 (Op.equalIn (n0+1) t (.slice a n c) (.slice b m d)).run P w = .ok (a.isNone&&b.isNone) w:=by
 simp only [Op.equalIn,Sem.run_bind,run_underlying hu w,Result.andThen_ok]
 rcases h with rfl | rfl
 .simp
 .cases a <;> simp
theorem xR {P:Program} (w:World) {t E:TypeId} (hu:P.underlying t=some (.slice E)) (a b:Option Addr) (n c m d:Nat) (h:a=none\/b=none) :
 (Op.equal t (.slice a n c) (.slice b m d)).run P w = .ok (a.isNone&&b.isNone) w:=vC 9999 w hu a b n c m d h
theorem vD (n0:Nat) {P:Program} (w:World) {t:TypeId} {ms:Array (String × TypeId)} (hu:P.underlying t=some (.interface ms)) (a b:Value) (h:(a = .nilIface/\(b = .nilIface\/∃ u x,b = .iface u x))\/(∃ u x,a = .iface u x)/\b = .nilIface) :
 (Op.equalIn (n0+1) t a b).run P w = .ok ((a matches .nilIface)&&(b matches .nilIface)) w:=by
 simp only [Op.equalIn,Sem.run_bind,run_underlying hu w,Result.andThen_ok]
 rcases h with ⟨rfl,rfl | ⟨u,x,rfl⟩⟩ | ⟨⟨u,x,rfl⟩,rfl⟩ <;> simp
theorem kH {P:Program} (w:World) {t:TypeId} {ms:Array (String × TypeId)} (hu:P.underlying t=some (.interface ms)) (a b:Value) (h:(a = .nilIface/\(b = .nilIface\/∃ u x,b = .iface u x))\/(∃ u x,a = .iface u x)/\b = .nilIface) :
 (Op.equal t a b).run P w = .ok ((a matches .nilIface)&&(b matches .nilIface)) w:=vD 9999 w hu a b h
theorem wL (n0:Nat) {P:Program} (w:World) {t:TypeId} (hu:P.underlying t=some .bool) (a b:Bool) :
 (Op.equalIn (n0+1) t (.bool a) (.bool b)).run P w = .ok (a==b) w:=by
 simp only [Op.equalIn,Sem.run_bind,run_underlying hu w,Result.andThen_ok]
 rfl
theorem run_equal_bool {P:Program} (w:World) {t:TypeId} (hu:P.underlying t=some .bool) (a b:Bool) :
 (Op.equal t (.bool a) (.bool b)).run P w = .ok (a==b) w:=wL 9999 w hu a b
theorem Tg {V:bA} {x:SV} {v:Value} {b:Bool} (h:OZ x=some b) (hv:den V x=some v):∃ a,v = .pointer a/\a.isNone=b:=by
 unfold OZ at h
 split at h
 .cases h;simp only [den,aV] at hv;subst hv;exact ⟨none,rfl,rfl⟩
 .cases h;simp only [den,dC] at hv;obtain ⟨p,_,rfl⟩:=hv;exact ⟨_,rfl,rfl⟩
 .cases h
theorem Te {V:bA} {x:SV} {v:Value} {b:Bool} (h:OY x=some b) (hv:den V x=some v):∃ a n c,v = .slice a n c/\a.isNone=b:=by
 unfold OY at h
 split at h
 .cases h;simp only [den,aV] at hv;subst hv;exact ⟨none,_,_,rfl,rfl⟩
 .cases h;simp only [den,dC] at hv;obtain ⟨p,_,rfl⟩:=hv;exact ⟨_,_,_,rfl,rfl⟩
 .cases h
  simp only [den,dC,gL] at hv
  obtain ⟨p,_,c,_,rfl⟩:=hv
  exact ⟨_,_,_,rfl,rfl⟩
 .cases h
theorem qN {V:bA} {x:SV} {v:Value} {b:Bool} (h:PA x=some b) (hv:den V x=some v):(b=true/\v = .nilIface)\/(b=false/\∃ u y,v = .iface u y):=by
 unfold PA at h
 split at h
 .cases h;simp only [den,aV] at hv;subst hv;exact .inl ⟨rfl,rfl⟩
 .cases h;simp only [den,dC] at hv;obtain ⟨p,_,rfl⟩:=hv;exact .inr ⟨rfl,_,_,rfl⟩
 .cases h
theorem tR {P:Program} (V:bA) {w:World} {op:BinOp} {b:Bool} {e:bK} (h:sY op b=some e) {t:TypeId} {x y:Value}
 (hr:(Op.equal t x y).run P w = .ok b w) (hd:binOp op t x y=(match op with | .eql=>(do pure (.bool (<- Op.equal t x y))) | _=>(do pure (.bool (!(<- Op.equal t x y)))))) :
 ∃ z,(binOp op t x y).run P w = .ok z w/\den V e.val=some z/\e.new=[]/\e.wr=[]:=by
 rw [hd]
 cases op <;> simp only [sY,lit] at h <;> first | (cases h;done) | skip
 all_goals
  cases h
  exact ⟨_,by simp only [Sem.run_bind,hr,Result.andThen_ok,Sem.run_pure],rfl,rfl,rfl⟩
theorem aHw {P:Program} (V:bA) (w:World) {h:Option Bool} {op:BinOp} {d:TypeDesc} {X Y:Operand} {x y:SV} {t:TypeId} {e:bK} {u v:Value}
 (he:eEq h op d ((X matches .const _)||(Y matches .const _)) x y=some e) (ho:∀ q∈e.bO,q) (hu:P.underlying t=some d) (hx:den V x=some u) (hy:den V y=some v) :
 ∃ z,((do eqGuard op t X Y u v;binOp op t u v):Sem Value).run P w = .ok z w/\den V e.val=some z/\e.new=[]/\e.wr=[]:=by
 unfold eEq at he
 split at he
 case h_1 E=>
  split at he
  .rename_i a b ha hb
   split at he
   .rename_i hab
    obtain ⟨p,rfl,rfl⟩:=Tg ha hx
    obtain ⟨q,rfl,rfl⟩:=Tg hb hy
    have hr:=Da (P:=P) w hu p q (by cases p <;> cases q <;> simp at hab |-)
    obtain ⟨z,h1,h2⟩:=tR V he hr (by cases op <;> first | rfl | (cases he;done))
    refine ⟨z,?_,h2⟩
    rw [Sem.run_bind,cP w op t X Y _ _ (by simp) (by simp),Result.andThen_ok]
    exact h1
   .cases he
  .cases he
 case h_2 E=>
  split at he
  .rename_i a b ha hb
   split at he
   .rename_i hab
    obtain ⟨p,n,c,rfl,rfl⟩:=Te ha hx
    obtain ⟨q,m,k,rfl,rfl⟩:=Te hb hy
    have hr:=xR (P:=P) w hu p q n c m k (by cases p <;> cases q <;> simp at hab |-)
    obtain ⟨z,h1,h2⟩:=tR V he hr (by cases op <;> first | rfl | (cases he;done))
    refine ⟨z,?_,h2⟩
    rw [Sem.run_bind,cP w op t X Y _ _ (by simp) (by simp),Result.andThen_ok]
    exact h1
   .cases he
  .cases he
 case h_3 ms=>
  split at he
  .rename_i ha hb
   split at he
   .rename_i Ck
    obtain ⟨_,rfl⟩ | ⟨hf,_⟩:=qN ha hx
    obtain ⟨_,rfl⟩ | ⟨hf,_⟩:=qN hb hy
    .have hr:=kH (P:=P) w hu .nilIface .nilIface (.inl ⟨rfl,.inl rfl⟩)
     obtain ⟨z,h1,h2⟩:=tR V he hr (by cases op <;> first | rfl | (cases he;done))
     refine ⟨z,?_,h2⟩
     rw [Sem.run_bind,xT w op t X Y Ck,Result.andThen_ok]
     exact h1
    .cases hf
    .cases hf
   .cases he
  .rename_i ha hb
   obtain ⟨_,rfl⟩ | ⟨hf,_⟩:=qN ha hx
   obtain ⟨hf,_⟩ | ⟨_,U,z,rfl⟩:=qN hb hy
   .cases hf
   .have hr:=kH (P:=P) w hu .nilIface (.iface U z) (.inl ⟨rfl,.inr ⟨_,_,rfl⟩⟩)
    obtain ⟨z,h1,h2⟩:=tR V he hr (by cases op <;> first | rfl | (cases he;done))
    refine ⟨z,?_,h2⟩
    rw [Sem.run_bind,cP w op t X Y _ _ (by simp) (by simp),Result.andThen_ok]
    exact h1
   .cases hf
  .rename_i ha hb
   obtain ⟨hf,_⟩ | ⟨_,U,z,rfl⟩:=qN ha hx
   .cases hf
   obtain ⟨_,rfl⟩ | ⟨hf,_⟩:=qN hb hy
   .have hr:=kH (P:=P) w hu (.iface U z) .nilIface (.inr ⟨⟨_,_,rfl⟩,rfl⟩)
    obtain ⟨z,h1,h2⟩:=tR V he hr (by cases op <;> first | rfl | (cases he;done))
    refine ⟨z,?_,h2⟩
    rw [Sem.run_bind,cP w op t X Y _ _ (by simp) (by simp),Result.andThen_ok]
    exact h1
   .cases hf
  .cases he
 case h_4=>
  split at he
  .rename_i sa a sb b
   simp only [den,aV] at hx hy
   subst hx;subst hy
   have hr:=run_equal_bool (P:=P) w hu a b
   have hg:=cP (P:=P) w op t X Y (.bool a) (.bool b) (by simp) (by simp)
   cases op <;> simp only at he <;> first | (cases he;done) | skip
   all_goals
    cases he
    obtain ⟨h1,h2,h3⟩:=FD V ho
    exact ⟨_,by rw [Sem.run_bind,hg,Result.andThen_ok];simp only [binOp,Sem.run_bind,hr,Result.andThen_ok,Sem.run_pure],h1,h2,h3⟩
  .cases he
 case h_5=>cases he
theorem Ht {P:Program} {Γ:Env} {V:bA} {w w0:World} {M:Nat->Prop} {T:bB} {g:Nat->Option SV} {a:Act} (aW:cA P Γ) (ht:cF V g a) (hg:bP Γ V) (hT:aD w0 M V T w)
 {h:Option Bool} {op:BinOp} {t t2:TypeId} {x y:Operand} {o:Oper} (bV:o.op = .binOp op t x y t2) {e:bK} (he:AT Γ g h op t x y=some e) (ho:∀ q∈e.bO,q) (lab:Nat) :
 kM P w0 M V T lab e o a w:=by
 unfold AT at he
 split at he
 .rename_i sa k A sb k2 B hx hy
  have ex:=bH ht hg hx
  have ey:=bH ht hg hy
  simp only [den,aV] at ex ey
  obtain ⟨z,h1,h2,h3,h4⟩:=XO (P:=P) V w t he ho
  refine bE (x:=z) ?_ h2 h3 h4 hT
  unfold execOp
  simp only [bV,<- ex,<- ey,Sem.run_bind,cP w op t x y (.int k A) (.int k2 B) (by simp) (by simp),Result.andThen_ok,h1,Sem.run_pure]
 .rename_i u v _ hx hy
  split at he
  .rename_i ti dX
   obtain ⟨z,h1,h2,h3,h4⟩:=aHw (P:=P) V w he ho (aW t ti dX).1 (bH ht hg hx) (bH ht hg hy)
   refine bE (x:=z) ?_ h2 h3 h4 hT
   unfold execOp
   simp only [bV]
   rw [Sem.run_bind,h1]
   rfl
  .cases he
 .cases he
def eUn (Γ:Env) (g:Nat->Option SV) (op:UnOp) (x:Operand):Option bK:=
 match op,ev Γ g x with
 | .neg,some (.int s k n)=>lit (.int s k (k.wrap (0-n)))
 | .xor,some (.int s k n)=>lit (.int s k (gW k (if k.signed then -1 else k.max) n))
 | .not,some (.bool s b)=>lit (.bool s (!b))
 | _,_=>none
theorem aHv {P:Program} {Γ:Env} {V:bA} {w w0:World} {M:Nat->Prop} {T:bB} {g:Nat->Option SV} {a:Act} (ht:cF V g a) (hg:bP Γ V) (hT:aD w0 M V T w)
 {op:UnOp} {t:TypeId} {x:Operand} {o:Oper} (bV:o.op = .unOp op t x) {e:bK} (he:eUn Γ g op x=some e) (lab:Nat):kM P w0 M V T lab e o a w:=by
 unfold eUn at he
 split at he <;> first | (cases he;done) | skip
 all_goals
  rename_i hx
  have ex:=bH ht hg hx
  simp only [den,aV] at ex
  simp only [lit,aV] at he
  subst he
  refine bE (by unfold execOp;simp only [bV,<- ex];rfl) rfl rfl rfl hT
def DH (Γ:Env) (g:Nat->Option SV) (src dst:TypeId) (x:Operand):Option bK:=
 match ev Γ g x,Γ.ty src,Γ.ty dst with
 | some (.int s _ n),some _,some td=>match td.desc with
   | .int k=>lit (.int s k (k.wrap n))
   | _=>none
 | _,_,_=>none
theorem LI {P:Program} {Γ:Env} {V:bA} {w w0:World} {M:Nat->Prop} {T:bB} {g:Nat->Option SV} {a:Act} (aW:cA P Γ) (ht:cF V g a) (hg:bP Γ V) (hT:aD w0 M V T w)
 {src dst:TypeId} {x:Operand} {o:Oper} (bV:o.op = .convert src dst x) {e:bK} (he:DH Γ g src dst x=some e) (lab:Nat):kM P w0 M V T lab e o a w:=by
 unfold DH at he
 split at he
 .rename_i s k0 n ts td hx h1 h2
  split at he
  .rename_i k hk
   have ex:=bH ht hg hx
   simp only [den,aV] at ex
   simp only [lit,aV] at he
   subst he
   refine bE (x:=.int k (k.wrap n)) ?_ rfl rfl rfl hT
   unfold execOp
   simp only [bV,<- ex,convert,Sem.run_bind,run_underlying (aW src ts h1).1 w,run_underlying (aW dst td h2).1 w,Result.andThen_ok,hk]
   rfl
  .cases he
 .cases he
def rP:TypeDesc->Bool
 | .struct _ | .array _ _=>true
 | _=>false
theorem bJ (b o j:Nat):(⟨b,o,none⟩:Addr).add j=⟨b,o+j,none⟩:=by
 unfold Addr.add;split <;> simp_all
section Run
variable {P:Program} {w:World} {t:TypeId} {d:TypeDesc} {i:TypeInfo}
theorem eJ (hu:P.underlying t=some d):(isAgg t).run P w = .ok (rP d) w:=by
 unfold isAgg
 rw [Sem.run_bind,run_underlying hu w]
 cases d <;> rfl
theorem run_sizeOf (hi:P.info? t=some i):(sizeOf t).run P w = .ok i.size w:=by
 simp [sizeOf,typeInfo,hi]
theorem dV {z:Value} (hi:P.info? t=some i) (hz:i.zero=some z):(zeroValue t).run P w = .ok z w:=by
 simp [zeroValue,typeInfo,hi,hz]
theorem dP (hu:P.underlying t=some d) (hi:P.info? t=some i) (b o:Nat) (xs:List Value) (hx:xs.length=i.size)
 (hc:∀ (j:Nat) (v:Value),xs[j]?=some v->w.cell? ⟨b,o+j,none⟩=some v) :
 (rP d=true->(loadVar t ⟨b,o,none⟩).run P w = .ok (.agg xs.toArray) w) /\
 (rP d=false->∀ x,xs=[x]->(loadVar t ⟨b,o,none⟩).run P w = .ok x w):=by
 refine ⟨fun h=>?_,fun h x fO=>?_⟩
 .have hl:=run_loadCells_list (P:=P) w ⟨b,o,none⟩ xs (fun j v hj=>by rw [bJ];exact hc j v hj)
  rw [hx] at hl
  simp [loadVar,eJ hu,h,run_sizeOf hi,hl]
 .subst fO
  have:=hc 0 x rfl
  simp only [Nat.add_zero] at this
  simp [loadVar,eJ hu,h,this]
theorem Lu (v:Value) (h:v.oneCell'=true):v.cells = #[v]:=by cases v <;> first | rfl | (cases h;done)
end Run
def cellsOf:SV->List SV
 | .agg vs=>vs
 | v=>[v]
def OX:SV->Bool
 | .int .. | .bool .. | .ptr .. | .aG .. | .fn .. | .rC .. | .iS .. | .lS .. | .dD .. | .iA .. => true
 | .raw v=>v.oneCell'
 | _=>false
theorem Sz {V:bA}:∀ {v:SV} {x:Value},OX v=true->den V v=some x->x.oneCell'=true
 | .int ..,x,_,h=>by simp only [den,aV] at h;subst h;rfl
 | .bool ..,x,_,h=>by simp only [den,aV] at h;subst h;rfl
 | .ptr ..,x,_,h=>by simp only [den,dC] at h;obtain ⟨p,_,rfl⟩:=h;rfl
 | .aG ..,x,_,h=>by simp only [den,dC] at h;obtain ⟨p,_,rfl⟩:=h;rfl
 | .fn ..,x,_,h=>by simp only [den,dC,gL] at h;obtain ⟨p,_,q,_,rfl⟩:=h;rfl
 | .rC ..,x,_,h=>by simp only [den,dC] at h;obtain ⟨p,_,rfl⟩:=h;rfl
 | .iS ..,x,_,h=>by
   simp only [den] at h
   split at h
   .cases h;rfl
   .cases h
 | .lS ..,x,_,h=>by
   simp only [den] at h
   split at h
   .cases h;rfl
   .cases h
 | .raw v,x,h1,h=>by simp only [den,aV] at h;subst h;exact h1
 | .agg ..,_,h,_=>by cases h
 | .ai ..,_,h,_=>by cases h
 | .eF ..,_,h,_=>by cases h
 | .buf ..,_,h,_=>by cases h
 | .dD ..,x,_,h=>by
   simp only [den,dC,gL] at h
   obtain ⟨p,_,c,_,rfl⟩:=h
   rfl
 | .iA ..,x,_,h=>by
   simp only [den,gL] at h
   obtain ⟨v,_,h⟩:=h
   rcases jR h with ⟨rfl,⟨⟨_,rfl⟩,_⟩ | ⟨b,o,c,rfl,_⟩⟩ <;> rfl
def mL (vs:List SV):Bool:=vs.all OX
theorem qK {V:bA}:∀ {vs:List SV} {xs:List Value},mL vs=true->aI V vs=some xs->∀ x∈xs,x.oneCell'=true
 | [],xs,_,h=>by simp only [aI,aV] at h;subst h;simp
 | v::vs,xs,h1,h=>by
   simp only [aI,dC,gL] at h
   obtain ⟨x,hx,ys,hy,rfl⟩:=h
   simp only [mL,List.all_cons,iG] at h1
   intro z hz
   rcases List.mem_cons.1 hz with rfl | hz
   .exact Sz h1.1 hx
   .exact qK (by simpa [mL] using h1.2) hy z hz
def rdL (cs:List SV) (s:Bool) (off n:Nat):Option (List Prop × List SV):=match s with
 | true=>match Nat.beq ((cs.drop off).take n).length n with
   | true=>some ([],(cs.drop off).take n)
   | false=>none
 | false=>none
def Qt (B:SB) (s:Bool) (off n:Nat):Option (List Prop × List SV):=
 match B with
 | .own cs _=>rdL cs s off n
 | .row _ cs _=>rdL cs s off n
 | .fL cs=>rdL cs s off n
 | .ints k xs _=>some ([off+n<=xs.length],(List.range n).map fun j=>.int false k (xs.getD (off+j) 0))
 | .nA k xs=>some ([off+n<=xs.length],(List.range n).map fun j=>.int false k (xs.getD (off+j) 0))
 | .eI vs _=>some ([off+n<=vs.length],(List.range n).map fun j=>.raw (vs.getD (off+j) undef))
 | _=>none
theorem fI {V:bA} (n:Nat) (f:Nat->SV) (g:Nat->Value) (h:∀ j,j<n->den V (f j)=some (g j)):aI V ((List.range n).map f)=some ((List.range n).map g):=by
 induction n with
 | zero=>simp [aI]
 | succ n ih=>
   rw [List.range_succ,List.map_append,List.map_append]
   exact cI (ih fun j hj=>h j (by omega)) (by simp [aI,h n (by omega)])
theorem oD {V:bA} {w:World} {l:Nat} {B:SB} {s:Bool} {off n:Nat} {ob:List Prop} {r:List SV} {b o:Nat} (hB:okB V w l B) (hβ:V.β l=some (b,o))
 (h:Qt B s off n=some (ob,r)) (ho:∀ q∈ob,q) :
 ∃ xs:List Value,aI V r=some xs/\xs.length=n/\∀ (j:Nat) (v:Value),xs[j]?=some v->w.cell? ⟨b,o+off+j,none⟩=some v:=by
 obtain ⟨cs,hc,h2⟩:=hB
 have key:(∀ (j:Nat) (v:Value),cs[j]?=some v->w.cell? ⟨b,o+j,none⟩=some v)\/(∀ b o,V.β l=some (b,o)->False)\/(∃ k xs ty,B = .dL k xs ty)\/B = .gone:=by
  cases B with
  | own cells ty=>obtain ⟨b',hb,hh⟩:=h2;rw [hβ] at hb;cases hb;left;intro j v hj;rw [cell_of_row w b (0+j) _ _ _ hh];simpa using hj
  | ints k xs ty=>obtain ⟨b',hb,hh⟩:=h2;rw [hβ] at hb;cases hb;left;intro j v hj;rw [cell_of_row w b (0+j) _ _ _ hh];simpa using hj
  | eI vs ty=>obtain ⟨b',hb,hh⟩:=h2;rw [hβ] at hb;cases hb;left;intro j v hj;rw [cell_of_row w b (0+j) _ _ _ hh];simpa using hj
  | fL cells=>obtain ⟨b',o',hb,_,hh⟩:=h2;rw [hβ] at hb;cases hb;exact .inl hh
  | nA k xs=>obtain ⟨b',o',hb,_,hh⟩:=h2;rw [hβ] at hb;cases hb;exact .inl hh
  | dL k xs ty=>exact .inr (.inr (.inl ⟨_,_,_,rfl⟩))
  | fM=>cases h
  | row sz cells ty=>
    obtain ⟨b',cap,cur,hb,_,hh,_,_,_,dK⟩:=h2
    rw [hβ] at hb;cases hb
    left
    intro j v hj
    rw [cell_of_row w b (0+j) _ _ _ hh]
    rw [<- dK,List.getElem?_take] at hj
    split at hj
    .simpa using hj
    .cases hj
  | iT=>cases h
  | eH=>cases h
  | qG=>cases h
  | gone=>exact .inr (.inr (.inr rfl))
 have Yp:∀ cells:List SV,rdL cells s off n=some (ob,r) ->
  aI V cells=some cs->∃ xs:List Value,aI V r=some xs/\xs.length=n/\∀ (j:Nat) (v:Value),xs[j]?=some v->cs[off+j]?=some v:=by
  intro cells h hc
  unfold rdL at h
  split at h
  .split at h
   .rename_i hlen
    simp only [aV,Prod.mk.injEq] at h
    obtain ⟨rfl,rfl⟩:=h
    have hd:=dZ n (iM off hc)
    refine ⟨_,hd,by rw [bG hd];exact cM hlen,fun j v hj=>?_⟩
    rw [List.getElem?_take] at hj
    split at hj
    .rwa [List.getElem?_drop] at hj
    .cases hj
   .cases h
  .cases h
 have rng:∀ (f:Nat->SV) (gv:Nat->Value),(∀ j,off+j<cs.length->den V (f j)=some (gv j)/\cs[off+j]?=some (gv j))->off+n<=cs.length->r=(List.range n).map f ->
  ∃ xs:List Value,aI V r=some xs/\xs.length=n/\∀ (j:Nat) (v:Value),xs[j]?=some v->cs[off+j]?=some v:=by
  intro f gv hf hn hr
  subst hr
  refine ⟨_,fI n f gv (fun j hj=>(hf j (by omega)).1),by simp,fun j v hj=>?_⟩
  by_cases cL:j<n
  .simp only [List.getElem?_map,List.getElem?_range cL,gQ,aV] at hj
   subst hj
   exact (hf j (by omega)).2
  .rw [List.getElem?_eq_none (by simp;omega)] at hj;cases hj
 have fin:∀ xs:List Value,(∀ (j:Nat) (v:Value),xs[j]?=some v->cs[off+j]?=some v)->(∀ (j:Nat) (v:Value),cs[j]?=some v->w.cell? ⟨b,o+j,none⟩=some v) ->
  ∀ (j:Nat) (v:Value),xs[j]?=some v->w.cell? ⟨b,o+off+j,none⟩=some v:=fun xs h1 h2 j v hj=>by
  rw [Nat.add_assoc];exact h2 _ _ (h1 j v hj)
 rcases key with key | key | ⟨k,xs,ty,rfl⟩ | rfl
 .cases B with
  | own cells ty=>obtain ⟨xs,h1,h2,h3⟩:=Yp cells h hc;exact ⟨xs,h1,h2,fin xs h3 key⟩
  | fL cells=>obtain ⟨xs,h1,h2,h3⟩:=Yp cells h hc;exact ⟨xs,h1,h2,fin xs h3 key⟩
  | row sz cells ty=>obtain ⟨xs,h1,h2,h3⟩:=Yp cells h hc;exact ⟨xs,h1,h2,fin xs h3 key⟩
  | ints k ys ty=>
    simp only [Qt,aV,Prod.mk.injEq] at h
    obtain ⟨rfl,rfl⟩:=h
    simp only [SB.cells,aV] at hc
    subst hc
    have hn:off+n<=ys.length:=ho _ (by simp)
    obtain ⟨xs,h1,h2,h3⟩:=rng _ (fun j=>.int k (ys.getD (off+j) 0)) (fun j hj=>⟨rfl,by
     have hj':off+j<ys.length:=by simpa using hj
     simp [hj',gH]⟩) (by simpa using hn) rfl
    exact ⟨xs,h1,h2,fin xs h3 key⟩
  | nA k ys=>
    simp only [Qt,aV,Prod.mk.injEq] at h
    obtain ⟨rfl,rfl⟩:=h
    simp only [SB.cells,aV] at hc
    subst hc
    have hn:off+n<=ys.length:=ho _ (by simp)
    obtain ⟨xs,h1,h2,h3⟩:=rng _ (fun j=>.int k (ys.getD (off+j) 0)) (fun j hj=>⟨rfl,by
     have hj':off+j<ys.length:=by simpa using hj
     simp [hj',gH]⟩) (by simpa using hn) rfl
    exact ⟨xs,h1,h2,fin xs h3 key⟩
  | eI ys ty=>
    simp only [Qt,aV,Prod.mk.injEq] at h
    obtain ⟨rfl,rfl⟩:=h
    simp only [SB.cells,aV] at hc
    subst hc
    have hn:off+n<=ys.length:=ho _ (by simp)
    obtain ⟨xs,h1,h2,h3⟩:=rng _ (fun j=>ys.getD (off+j) undef) (fun j hj=>⟨rfl,by
     have hj':off+j<ys.length:=by simpa using hj
     simp [hj',gH]⟩) (by simpa using hn) rfl
    exact ⟨xs,h1,h2,fin xs h3 key⟩
  | dL=>cases h
  | iT=>cases h
  | fM=>cases h
  | eH=>cases h
  | qG=>cases h
  | gone=>cases h
 .exact (key b o hβ).elim
 .cases h
 .cases h
def cR (k:IntKind):List SV->Option (List Int)
 | []=>some []
 | .int _ k2 n::r=>match decide (k=k2) with
   | true=>(cR k r).map (n :: ·)
   | false=>none
 | _=>none
theorem cQ {V:bA} {k:IntKind}:∀ {vs:List SV} {ns:List Int},cR k vs=some ns->aI V vs=some (ns.map (Value.int k))
 | [],ns,h=>by simp only [cR,aV] at h;subst h;simp [aI]
 | .int s k2 n::r,ns,h=>by
   simp only [cR] at h
   split at h
   .rename_i hd
    have:=jG hd
    subst this
    simp only [dC] at h
    obtain ⟨ms,hm,rfl⟩:=h
    simp [aI,den,cQ hm]
   .cases h
 | .bool .. :: r,_,h=>by cases h
 | .ptr .. :: r,_,h=>by cases h
 | .aG .. :: r,_,h=>by cases h
 | .agg .. :: r,_,h=>by cases h
 | .eF .. :: r,_,h=>by cases h
 | .fn .. :: r,_,h=>by cases h
 | .rC .. :: r,_,h=>by cases h
 | .raw .. :: r,_,h=>by cases h
 | .buf .. :: r,_,h=>by cases h
 | .iS .. :: r,_,h=>by cases h
 | .lS .. :: r,_,h=>by cases h
 | .iA .. :: r,_,h=>by cases h
 | .ai .. :: r,_,h=>by cases h
theorem aD.change {w0 w w':World} {M:Nat->Prop} {V:bA} {T:bB} (h:aD w0 M V T w) {l:Nat} {B0 B:SB} {b:Nat} (hl:T l=some B0) (fD:B0.owned=true) (h0:B0.aT V l=some b)
 (mV:okB V w' l B) (hb:B.aT V l=some b) (Rn:w.heap.size<=w'.heap.size) (Ro:∀ n,n<w.heap.size->n≠b->w'.heap[n]?=w.heap[n]?)
 (hos:w'.os=w.os) (Jw:w'.tape=w.tape) (AF:w'.output=w.output) (lab:Nat) (v:SV) (ob:List Prop) :
 aD w0 M V (eQ T lab { bO:=ob,val:=v,wr:=[(l,B)] }) w':=by
 refine h.step (N:=fun k=>if k=l then some B else none) (bA.le_refl V) (fun k C hk=>?_) (fun k C hk=>?_) (fun k C n hk iD=>?_) (fun k C k' C' n dJ hk iH=>?_) Rn (fun n hn hx=>?_) hos Jw AF
 .simp only [eQ,bK.fA,gC,List.append_nil] at hk
  by_cases e:l=k
  .subst e;rw [aK] at hk;left;simpa using hk
  .rw [aH e] at hk;right;simp only [look] at hk;exact ⟨if_neg (fun x=>e x.symm),hk⟩
 .by_cases e:k=l
  .subst e
   simp only [if_true,aV] at hk
   subst hk
   exact mV
  .simp [e] at hk
 .by_cases e:k=l
  .subst e
   simp only [if_true,aV] at hk
   subst hk
   right;left
   rw [hb] at iD
   cases iD
   exact ⟨k,B0,hl,fD,h0,by simp⟩
  .simp [e] at hk
 .by_cases e:k=l
  .by_cases e':k'=l
   .omega
   .simp [e'] at iH
  .simp [e] at hk
 .refine Ro n hn fun e=>?_
  subst e
  exact hx l B0 hl fD (by simp) h0
theorem Lq {α:Type} (cur cs xs:List α) (off:Nat) (h:cur.take cs.length=cs) (hle:off+xs.length<=cs.length) :
 (cur.take off++xs++cur.drop (off+xs.length)).take cs.length=cs.take off++xs++cs.drop (off+xs.length):=by
 have hl:cs.length<=cur.length:=by
  have:=congrArg List.length h
  rw [List.length_take] at this
  omega
 apply List.ext_getElem?
 intro j
 have hj:∀ i,i<cs.length->cur[i]?=cs[i]?:=fun i hi=>by
  have:=congrArg (fun z=>z[i]?) h
  simpa [List.getElem?_take,hi] using this
 rw [List.getElem?_take]
 have e1:(cur.take off).length=off:=by simp;omega
 have e2:(cs.take off).length=off:=by simp;omega
 split
 .rename_i cL
  simp only [List.getElem?_append,List.length_append,e1,e2,List.getElem?_take,List.getElem?_drop]
  split
  .split
   .rename_i h3;exact hj j cL
   .rfl
  .rw [hj _ (by omega)]
 .rename_i MX
  symm
  apply List.getElem?_eq_none
  simp
  omega
def Yz (B:SB) (s:Bool) (off:Nat) (vs:List SV):Option (List Prop × SB):=
 match B with
 | .own cs ty=>match s with
   | true=>match Nat.ble (off+vs.length) cs.length with
     | true=>some ([],.own (cs.take off++vs++cs.drop (off+vs.length)) ty)
     | false=>none
   | false=>match vs with
     | [.int _ k n]=>match cR k cs with
       | some ys=>some ([off<ys.length],.ints k (ys.set off n) ty)
       | none=>none
     | _=>none
 | .row sz cs ty=>match s with
   | true=>match Nat.ble (off+vs.length) cs.length with
     | true=>some ([],.row sz (cs.take off++vs++cs.drop (off+vs.length)) ty)
     | false=>none
   | false=>none
 | .ints k xs ty=>match vs with
   | [.int _ k2 n]=>match decide (k=k2) with
     | true=>some ([off<xs.length],.ints k (xs.set off n) ty)
     | false=>none
   | _=>match cR k vs with
     | some ns=>some ([off+ns.length<=xs.length],.ints k (xs.take off++ns++xs.drop (off+ns.length)) ty)
     | none=>none
 | .eI us ty=>match vs with
   | [.raw u]=>some ([off<us.length],.eI (us.set off u) ty)
   | _=>none
 | _=>none
theorem sF {α:Type} (l:List α) (i:Nat) (x:α) (h:i<l.length):l.set i x=l.take i++[x]++l.drop (i+1):=by
 rw [List.set_eq_take_append_cons_drop,if_pos h];simp
theorem Gc {V:bA} {w w0:World} {M:Nat->Prop} {T:bB} {l:Nat} {B B':SB} {s:Bool} {off:Nat} {vs:List SV} {ob:List Prop} {b o:Nat} {P:Program} {xs:List Value} (lab:Nat) (rv:SV)
 (hT:aD w0 M V T w) (hl:T l=some B) (hβ:V.β l=some (b,o)) (h:Yz B s off vs=some (ob,B')) (ho:∀ q∈ob,q) (hx:aI V vs=some xs) (h1:∀ x∈xs,x.oneCell'=true) :
 ∃ w',(storeCells ⟨b,o+off,none⟩ xs).run P w = .ok () w'/\aD w0 M V (eQ T lab { bO:=ob,val:=rv,wr:=[(l,B')] }) w':=by
 have mV:=hT.ok l B hl
 obtain ⟨cs,hc,h2⟩:=mV
 cases B with
 | own cells ty=>
   obtain ⟨b',hb,hh⟩:=h2
   rw [hβ] at hb;cases hb
   simp only [Yz] at h
   split at h
   .split at h
    .rename_i hle
     simp only [aV,Prod.mk.injEq] at h
     obtain ⟨rfl,rfl⟩:=h
     have PI:=kJ hle
     have hlen:=bG (show aI V cells=some cs from hc)
     have Fh:=bG hx
     refine ⟨_,run_storeCells_at P b (0+off) ty xs 0 cs.toArray w hh (by simp;omega) h1,?_⟩
     have bY:aI V (cells.take off++vs++cells.drop (off+vs.length))=some (cs.take off++xs++cs.drop (off+xs.length)):=by
      rw [Fh]
      exact cI (cI (dZ off hc) hx) (iM _ hc)
     have:=hT.write (B0:=.own cells ty) (B:=.own (cells.take off++vs++cells.drop (off+vs.length)) ty) hl hβ rfl (by simp [SB.aT,hβ]) hh bY (.inl rfl) lab rv []
     simpa using this
    .cases h
   .split at h
    case h_2=>cases h
    rename_i s2 k n
    split at h
    case h_2=>cases h
    rename_i ys pE
    simp only [aV,Prod.mk.injEq] at h
    obtain ⟨rfl,rfl⟩:=h
    have cL:off<ys.length:=ho _ (by simp)
    have nU:=cQ (V:=V) pE
    rw [show aI V cells=some cs from hc] at nU
    cases nU
    simp only [aI,den,mZ,gQ,aV] at hx
    subst hx
    refine ⟨_,run_storeCells_at P b (0+off) ty _ 0 _ w hh (by simp;omega) h1,?_⟩
    have bY:SB.cells V (.ints k (ys.set off n) ty)=some ((ys.map (Value.int k)).take off++[Value.int k n]++(ys.map (Value.int k)).drop (off+1)):=by
     rw [sF ys off n cL]
     simp [SB.cells,List.map_take,List.map_drop]
    have:=hT.write (B0:=.own cells ty) (B:=.ints k (ys.set off n) ty) hl hβ rfl (by simp [SB.aT,hβ]) hh bY (.inr (.inl rfl)) lab rv [off<ys.length]
    simpa using this
 | row sz cells ty=>
   obtain ⟨b',cap,cur,hb,hσ,hh,NW,nU,⟨n,hn,MV⟩,dK⟩:=h2
   rw [hβ] at hb;cases hb
   simp only [Yz] at h
   split at h
   .split at h
    .rename_i hle
     simp only [aV,Prod.mk.injEq] at h
     obtain ⟨rfl,rfl⟩:=h
     have PI:=kJ hle
     have hlen:=bG (show aI V cells=some cs from hc)
     have Fh:=bG hx
     have qV:cs.length<=cur.size:=by rw [hn,nU];exact Nat.mul_le_mul_right _ MV
     have bY:aI V (cells.take off++vs++cells.drop (off+vs.length))=some (cs.take off++xs++cs.drop (off+xs.length)):=by
      rw [Fh]
      exact cI (cI (dZ off hc) hx) (iM _ hc)
     have NQ:(cs.take off++xs++cs.drop (off+xs.length)).length=cs.length:=by simp;omega
     refine ⟨_,run_storeCells_at P b (0+off) ty xs 0 cur w hh (by simp;omega) h1,?_⟩
     have Ac:=setRow_heap w b cur (cur.toList.take (0+off+0)++xs++cur.toList.drop (0+off+0+xs.length)).toArray ty (0,0) hh
     have aTa:okB V (w.setRow b (cur.toList.take (0+off+0)++xs++cur.toList.drop (0+off+0+xs.length)).toArray) l (.row sz (cells.take off++vs++cells.drop (off+vs.length)) ty):=by
      refine ⟨_,bY,b,cap,_,hβ,hσ,Ac,NW,?_,⟨n,by rw [NQ,hn],MV⟩,?_⟩
      .simp [<- nU];omega
      .rw [NQ]
       simpa using Lq cur.toList cs xs off dK (by omega)
     exact hT.change (B0:=.row sz cells ty) (b:=b) hl rfl (by simp [SB.aT,hβ]) aTa (by simp [SB.aT,hβ]) (by simp) (fun n _ dJ=>setRow_other w b n _ dJ) rfl rfl rfl lab rv []
    .cases h
   .cases h
 | ints k ys ty=>
   obtain ⟨b',hb,hh⟩:=h2
   rw [hβ] at hb;cases hb
   simp only [SB.cells,aV] at hc
   subst hc
   have gen:∀ ns:List Int,aI V vs=some (ns.map (Value.int k))->off+ns.length<=ys.length->∀ ob,
    ∃ w',(storeCells ⟨b,0+off,none⟩ xs).run P w = .ok () w'/\aD w0 M V (eQ T lab { bO:=ob,val:=rv,wr:=[(l,.ints k (ys.take off++ns++ys.drop (off+ns.length)) ty)] }) w':=by
    intro ns YX hle ob
    rw [hx] at YX
    cases YX
    refine ⟨_,run_storeCells_at P b (0+off) ty _ 0 _ w hh (by simp;omega) h1,?_⟩
    have bY:SB.cells V (.ints k (ys.take off++ns++ys.drop (off+ns.length)) ty)=some ((ys.map (Value.int k)).take off++ns.map (Value.int k)++(ys.map (Value.int k)).drop (off+(ns.map (Value.int k)).length)):=by
     simp [SB.cells,List.map_take,List.map_drop]
    have:=hT.write (B0:=.ints k ys ty) (B:=.ints k (ys.take off++ns++ys.drop (off+ns.length)) ty) hl hβ rfl (by simp [SB.aT,hβ]) hh bY (.inr (.inl rfl)) lab rv ob
    simpa using this
   simp only [Yz] at h
   split at h
   .rename_i s2 k2 n
    split at h
    .rename_i hd
     have:=jG hd
     subst this
     simp only [aV,Prod.mk.injEq] at h
     obtain ⟨rfl,rfl⟩:=h
     have cL:off<ys.length:=ho _ (by simp)
     obtain ⟨w',hr,pC⟩:=gen [n] (by simp [aI,den]) (by simp only [List.length_singleton];omega) [off<ys.length]
     rw [sF ys off n cL]
     exact ⟨w',hr,pC⟩
    .cases h
   .split at h
    .rename_i ns YX
     simp only [aV,Prod.mk.injEq] at h
     obtain ⟨rfl,rfl⟩:=h
     have hle:off+ns.length<=ys.length:=ho _ (by simp)
     exact gen ns (cQ YX) hle _
    .cases h
 | eI us ty=>
   obtain ⟨b',hb,hh⟩:=h2
   rw [hβ] at hb;cases hb
   simp only [SB.cells,aV] at hc
   subst hc
   simp only [Yz] at h
   split at h
   case h_2=>cases h
   rename_i u
   simp only [aV,Prod.mk.injEq] at h
   obtain ⟨rfl,rfl⟩:=h
   have cL:off<us.length:=ho _ (by simp)
   simp only [aI,den,mZ,gQ,aV] at hx
   subst hx
   refine ⟨_,run_storeCells_at P b (0+off) ty _ 0 _ w hh (by simp;omega) h1,?_⟩
   have:=hT.write (B0:=.eI us ty) (B:=.eI (us.set off u) ty) hl hβ rfl (by simp [SB.aT,hβ]) hh (cs:=us.take off++[u]++us.drop (off+[u].length)) (by rw [SB.cells,sF us off u cL];rfl) (.inr (.inr rfl)) lab rv [off<us.length]
   simpa using this
 | _=>cases h
section Fm
variable {P:Program} {Γ:Env} {V:bA} {w w0:World} {M:Nat->Prop} {T:bB} {g:Nat->Option SV} {a:Act} {o:Oper} {e:bK}
def DG (Γ:Env) (g:Nat->Option SV) (T:bB) (t:TypeId) (x:Operand):Option bK:=
 match ev Γ g x,Γ.ty t with
 | some (.ptr l s off),some ti=>match T l with
   | some B=>match Qt B s off ti.size with
     | some (ob,r)=>match rP ti.desc with
       | true=>some (dQ (.agg r) ob)
       | false=>match r with
         | [v]=>some (dQ v ob)
         | _=>none
     | none=>none
   | none=>none
 | some (.iS l off),some ti=>match T l,rP ti.desc with
   | some (.dL k xs _),false=>some (dQ (.int false k (xs.getD off 0)) [off<xs.length])
   | some (.iT k xs),false=>some (dQ (.int false k (xs.getD off 0)) [off<xs.length])
   | _,_=>none
 | _,_=>none
theorem LH (aW:cA P Γ) (ht:cF V g a) (hg:bP Γ V) {T':bB} (aO:∀ l B,T' l=some B->T l=some B) (hT:aD w0 M V T w) {t:TypeId} {x:Operand} (bV:o.op = .load t x)
 (he:DG Γ g T' t x=some e) (ho:∀ q∈e.bO,q) (lab:Nat):kM P w0 M V T lab e o a w:=by
 unfold DG at he
 split at he
 .rename_i l s off ti hx dX
  have ex:=bH ht hg hx
  simp only [den,dC] at ex
  obtain ⟨⟨b,base⟩,hβ,ex⟩:=ex
  obtain ⟨hu,i,z,hi,fX,_⟩:=aW t ti dX
  split at he
  .rename_i B hB
   have mV:=hT.ok l B (aO l B hB)
   split at he
   .rename_i ob r hr
    split at he
    .rename_i fZ
     simp only [dQ,aV] at he
     subst he
     obtain ⟨xs,h1,h2,h3⟩:=oD mV hβ hr ho
     have:=(dP hu hi b (base+off) xs (by rw [h2,fX]) h3).1 fZ
     refine bE (x:=.agg xs.toArray) ?_ (by simp [den,h1]) rfl rfl hT
     unfold execOp
     simp only [bV,<- ex,Instr.loadAt,Instr.sureAddr,Sem.run_bind,Sem.run_pure,Result.andThen_ok,this]
    .rename_i fZ
     split at he
     .rename_i v
      simp only [dQ,aV] at he
      subst he
      obtain ⟨xs,h1,h2,h3⟩:=oD mV hβ hr ho
      simp only [aI,dC,gL] at h1
      obtain ⟨y,hy,ys,pE,rfl⟩:=h1
      simp only [aV] at pE
      subst pE
      have:=(dP hu hi b (base+off) [y] (by rw [h2,fX]) h3).2 fZ y rfl
      refine bE (x:=y) ?_ hy rfl rfl hT
      unfold execOp
      simp only [bV,<- ex,Instr.loadAt,Instr.sureAddr,Sem.run_bind,Sem.run_pure,Result.andThen_ok,this]
     .cases he
   .cases he
  .cases he
 .rename_i l off ti hx dX
  have ex:=bH ht hg hx
  obtain ⟨hu,i,z,hi,fX,_⟩:=aW t ti dX
  split at he
  .rename_i k xs ty hB fZ
   simp only [dQ,aV] at he
   subst he
   have cL:off<xs.length:=ho _ (by simp)
   obtain ⟨cs,hc,v,hσ,bQ⟩:=hT.ok l _ (aO l _ hB)
   simp only [SB.cells,aV] at hc
   subst hc
   simp only [den,hσ] at ex
   obtain ⟨⟨_,bQ⟩,_⟩:=bQ
   rcases bQ with ⟨_,h0⟩ | ⟨gb,cap,cur,rfl,_,hh,_,_,_,dK⟩
   .rw [h0] at cL;omega
   .simp only [aV] at ex
    have gK:w.cell? ⟨gb,0+off,none⟩=some (.int k (xs.getD off 0)):=by
     rw [cell_of_row w gb _ _ _ _ hh]
     have h5:(cur.toList.take (xs.length*1))[off]?=some (.int k (xs.getD off 0)):=by
      rw [dK];simp [cL,gH]
     rw [List.getElem?_take] at h5
     split at h5
     .simpa using h5
     .cases h5
    refine bE (x:=.int k (xs.getD off 0)) ?_ rfl rfl rfl hT
    unfold execOp
    rw [bJ] at ex
    simp only [Nat.zero_add] at ex gK
    simp only [bV,<- ex,Instr.loadAt,Instr.sureAddr,loadVar,Sem.run_bind,Sem.run_pure,Result.andThen_ok,eJ hu,fZ,Bool.false_eq_true,if_false,run_load,gK]
  .rename_i k xs hB fZ
   simp only [dQ,aV] at he
   subst he
   have cL:off<xs.length:=ho _ (by simp)
   obtain ⟨cs,hc,v,hσ,bQ⟩:=hT.ok l _ (aO l _ hB)
   simp only [SB.cells,aV] at hc
   subst hc
   simp only [den,hσ] at ex
   rcases bQ with ⟨_,h0⟩ | ⟨gb,go,cap,rfl,_,_,hh⟩
   .rw [h0] at cL;simp at cL
   .simp only [aV] at ex
    have gK:w.cell? ⟨gb,go+off,none⟩=some (.int k (xs.getD off 0)):=hh off _ (by simp [cL,gH])
    refine bE (x:=.int k (xs.getD off 0)) ?_ rfl rfl rfl hT
    unfold execOp
    rw [bJ] at ex
    simp only [bV,<- ex,Instr.loadAt,Instr.sureAddr,loadVar,Sem.run_bind,Sem.run_pure,Result.andThen_ok,eJ hu,fZ,Bool.false_eq_true,if_false,run_load,gK]
  .cases he
 .cases he
def QA (T:bB) (l:Nat):Bool:=match T l with
 | some (.dL ..)=>true
 | some (.fM ..)=>true
 | some (.eH ..)=>true
 | _=>false
theorem Ua {T':bB} (aO:∀ l B,T' l=some B->T l=some B) {l:Nat} {x:Value} (hT:aD w0 M V T w) (h:QA T' l=true) (hx:den V (.buf l)=some x):x.oneCell'=true/\x.cells = #[x]:=by
 unfold QA at h
 split at h
 .rename_i hB
  obtain ⟨_,_,u,hσ,bQ,_⟩:=hT.ok l _ (aO l _ hB)
  simp only [den] at hx
  rw [hσ] at hx;cases hx
  rcases bQ.2 with ⟨rfl,_⟩ | ⟨_,_,_,rfl,_⟩ <;> exact ⟨rfl,rfl⟩
 .rename_i hB
  obtain ⟨_,_,mV⟩:=hT.ok l _ (aO l _ hB)
  obtain ⟨cs,u,hσ,bQ,_⟩:=mV
  simp only [den] at hx
  rw [hσ] at hx;cases hx
  rcases bQ.2 with ⟨rfl,_⟩ | ⟨_,_,_,rfl,_⟩ <;> exact ⟨rfl,rfl⟩
 .rename_i hB
  obtain ⟨_,_,u,hσ,bQ⟩:=hT.ok l _ (aO l _ hB)
  simp only [den] at hx
  rw [hσ] at hx;cases hx
  rcases bQ.2 with ⟨rfl,_⟩ | ⟨_,_,_,rfl,_⟩ <;> exact ⟨rfl,rfl⟩
 .cases h
def zV (T:bB) (vs:List SV):Bool:=vs.all fun v=>match v with
 | .buf l=>QA T l
 | v=>OX v
theorem Bf {T':bB} (aO:∀ l B,T' l=some B->T l=some B) (hT:aD w0 M V T w):∀ {vs:List SV} {xs:List Value},zV T' vs=true->aI V vs=some xs->∀ x∈xs,x.oneCell'=true
 | [],xs,_,h=>by simp only [aI,aV] at h;subst h;simp
 | v::vs,xs,h1,h=>by
   simp only [aI,dC,gL] at h
   obtain ⟨x,hx,ys,hy,rfl⟩:=h
   simp only [zV,List.all_cons,iG] at h1
   intro z hz
   rcases List.mem_cons.1 hz with rfl | hz
   .have h1:=h1.1
    split at h1
    .exact (Ua aO hT h1 hx).1
    .exact Sz h1 hx
   .exact Bf aO hT (by simpa [zV] using h1.2) hy z hz
theorem qE {T':bB} (aO:∀ l B,T' l=some B->T l=some B) (hT:aD w0 M V T w) {v:SV} {x:Value} (h1:zV T' (cellsOf v)=true) (h:den V v=some x):aI V (cellsOf v)=some x.cells.toList:=by
 cases v with
 | agg vs=>
   simp only [den,dC] at h
   obtain ⟨xs,hx,rfl⟩:=h
   simpa [cellsOf,Value.cells] using hx
 | _=>
   have iV:x.oneCell'=true:=Bf aO hT (vs:=[_]) (xs:=[x]) (by simpa [cellsOf] using h1) (by simp [aI,h]) x (by simp)
   rw [Lu x iV]
   simp [cellsOf,aI,h]
def Oc (Γ:Env) (g:Nat->Option SV) (T:bB) (t:TypeId) (x y:Operand):Option bK:=
 match ev Γ g x,ev Γ g y,Γ.ty t with
 | some (.ptr l s off),some v,some ti=>match T l,Nat.beq (cellsOf v).length ti.size,zV T (cellsOf v) with
   | some B,true,true=>match Yz B s off (cellsOf v) with
     | some (ob,B')=>some { bO:=ob,val:=.raw undef,wr:=[(l,B')] }
     | none=>none
   | _,_,_=>none
 | _,_,_=>none
theorem Xo (aW:cA P Γ) (ht:cF V g a) (hg:bP Γ V) {T':bB} (aO:∀ l B,T' l=some B->T l=some B) (hT:aD w0 M V T w) {t:TypeId} {x y:Operand} (bV:o.op = .store t x y)
 (he:Oc Γ g T' t x y=some e) (ho:∀ q∈e.bO,q) (lab:Nat):kM P w0 M V T lab e o a w:=by
 unfold Oc at he
 split at he
 .rename_i l s off v ti hx hy dX
  have ex:=bH ht hg hx
  simp only [den,dC] at ex
  obtain ⟨⟨b,base⟩,hβ,ex⟩:=ex
  have ey:=bH ht hg hy
  obtain ⟨hu,i,z,hi,fX,_⟩:=aW t ti dX
  split at he
  .rename_i B hB hlen iV
   split at he
   .rename_i ob B' hw
    simp only [aV] at he
    subst he
    have bY:=qE aO hT iV ey
    have aOh:=Bf aO hT iV bY
    obtain ⟨w',h1,h2⟩:=Gc (P:=P) lab (.raw undef) hT (aO l B hB) hβ hw ho bY aOh
    intro K Q hK
    have hl:(a.eval y).cells.size=i.size:=by
     have:=bG bY
     rw [fX,<- cM hlen,<- this];simp
    unfold Oper.wp
    have dY:(execOp a.eval o).run P w = .ok .skip w':=by
     unfold execOp
     simp [bV,<- ex,Instr.storeAt,Instr.sureAddr,storeVar,run_sizeOf hi,hl,h1]
    rw [dY,Oper.upon_skip]
    exact hK V undef w' (V.cN lab) rfl h2
   .cases he
  .cases he
 .cases he
theorem Sm (hT:aD w0 M V T w) {lab:Nat} (hf:V.fresh lab) {cells:List SV} {cs:List Value} {ty:TypeId} (hc:aI V cells=some cs)
 (hr:(execOp a.eval o).run P w = .ok (.value (.pointer (some ⟨w.heap.size,0,none⟩))) (w.alloc (.cells cs.toArray ty))) :
 kM P w0 M V T lab { val:=.ptr lab true 0,new:=[.own cells ty] } o a w:=by
 intro K Q hK
 unfold Oper.wp
 rw [hr,Oper.upon_value]
 have:=hT.alloc hf (B:=.own cells ty) (.inl rfl) hc (.ptr lab true 0) []
 exact hK _ _ _ (bA.kQ hf lab (dF _) (by omega) _) (by simp [den,bA.put]) this
def Oq (Γ:Env) (t:TypeId) (lab:Nat):Option bK:=
 match Γ.ty t with
 | some ti=>some { val:=.ptr lab true 0,new:=[.own ti.zero t] }
 | none=>none
theorem Ya (aW:cA P Γ) (hT:aD w0 M V T w) {t:TypeId} (bV:o.op = .alloc t) {lab:Nat} (hf:V.fresh lab) (he:Oq Γ t lab=some e):kM P w0 M V T lab e o a w:=by
 unfold Oq at he
 split at he
 .rename_i ti dX
  simp only [aV] at he
  subst he
  obtain ⟨hu,i,z,hi,fX,_,hz,hzero⟩:=aW t ti dX
  refine Sm hT hf (hzero V) ?_
  unfold execOp
  simp [bV,Instr.alloc,dV hi hz,newVar,newRow]
 .cases he
def aCj (Γ:Env) (g:Nat->Option SV) (T:bB) (t:TypeId) (x:Operand) (lab:Nat):Option bK:=
 match ev Γ g x with
 | some v=>match zV T (cellsOf v) with
   | true=>some { val:=.ptr lab true 0,new:=[.own (cellsOf v) t] }
   | false=>none
 | none=>none
theorem XQ (ht:cF V g a) (hg:bP Γ V) {T':bB} (aO:∀ l B,T' l=some B->T l=some B) (hT:aD w0 M V T w) {t:TypeId} {x:Operand} (bV:o.op = .box t x) {lab:Nat} (hf:V.fresh lab) (he:aCj Γ g T' t x lab=some e):kM P w0 M V T lab e o a w:=by
 unfold aCj at he
 split at he
 .rename_i v hx
  split at he
  .rename_i iV
   simp only [aV] at he
   subst he
   have ex:=bH ht hg hx
   refine Sm hT hf (qE aO hT iV ex) ?_
   unfold execOp
   simp [bV,Instr.box,newVar,newRow]
  .cases he
 .cases he
end Fm
section Fm
variable {P:Program} {Γ:Env} {V:bA} {w w0:World} {M:Nat->Prop} {T:bB} {g:Nat->Option SV} {a:Act} {o:Oper} {e:bK}
def Rs (Γ:Env) (g:Nat->Option SV) (x:Operand):Option bK:=(ev Γ g x).bind lit
theorem Le (ht:cF V g a) (hg:bP Γ V) (hT:aD w0 M V T w) {x:Operand} (bV:o.op = .move x\/o.op = .assign x) (he:Rs Γ g x=some e) (lab:Nat):kM P w0 M V T lab e o a w:=by
 simp only [Rs,gL,lit,aV] at he
 obtain ⟨v,hv,rfl⟩:=he
 refine bE (x:=a.eval x) ?_ (bH ht hg hv) rfl rfl hT
 unfold execOp
 rcases bV with h | h <;> simp only [h] <;> rfl
def DF (Γ:Env) (g:Nat->Option SV) (c x y:Operand):Option bK:=
 match ev Γ g c with
 | some (.bool true b)=>match b with
   | true=>(ev Γ g x).bind lit
   | false=>(ev Γ g y).bind lit
 | _=>none
theorem LG (ht:cF V g a) (hg:bP Γ V) (hT:aD w0 M V T w) {c x y:Operand} (bV:o.op = .pick c x y) (he:DF Γ g c x y=some e) (lab:Nat):kM P w0 M V T lab e o a w:=by
 unfold DF at he
 split at he
 .rename_i b hc
  have ec:=bH ht hg hc
  simp only [den,aV] at ec
  split at he
  .simp only [gL,lit,aV] at he
   obtain ⟨v,hv,rfl⟩:=he
   refine bE (x:=a.eval x) ?_ (bH ht hg hv) rfl rfl hT
   unfold execOp
   simp only [bV,<- ec]
   rfl
  .simp only [gL,lit,aV] at he
   obtain ⟨v,hv,rfl⟩:=he
   refine bE (x:=a.eval y) ?_ (bH ht hg hv) rfl rfl hT
   unfold execOp
   simp only [bV,<- ec]
   rfl
 .cases he
def aCg (Γ:Env) (g:Nat->Option SV) (x:Operand):Option bK:=
 match ev Γ g x with
 | some (.ptr l s off)=>lit (.ptr l s off)
 | some (.iS l off)=>lit (.iS l off)
 | some (.rC t v)=>lit (.rC t v)
 | some (.fn (.func f) xs cs)=>lit (.fn (.func f) xs cs)
 | _=>none
theorem XM (ht:cF V g a) (hg:bP Γ V) (hT:aD w0 M V T w) {x:Operand} (bV:o.op = .nilCheck x) (he:aCg Γ g x=some e) (lab:Nat):kM P w0 M V T lab e o a w:=by
 unfold aCg at he
 split at he <;> first | (cases he;done) | skip
 all_goals
  rename_i hx
  simp only [lit,aV] at he
  subst he
  have ex:=bH ht hg hx
  refine bE (x:=a.eval x) ?_ ex rfl rfl hT
  simp only [den,dC,gL] at ex
 .obtain ⟨p,_,ex⟩:=ex;unfold execOp;simp only [bV,<- ex];rfl
 .split at ex
  .simp only [aV] at ex;unfold execOp;simp only [bV,<- ex];rfl
  .cases ex
 .obtain ⟨p,_,ex⟩:=ex;unfold execOp;simp only [bV,<- ex];rfl
 .obtain ⟨p,_,q,_,ex⟩:=ex;unfold execOp;simp only [bV,<- ex];rfl
def Bm (Γ:Env) (g:Nat->Option SV) (x:Operand) (i:Nat):Option bK:=
 match ev Γ g x with
 | some (.eF vs)=>(vs[i]?).bind lit
 | _=>none
theorem Lw (ht:cF V g a) (hg:bP Γ V) (hT:aD w0 M V T w) {x:Operand} {i:Nat} (bV:o.op = .extract x i) (he:Bm Γ g x i=some e) (lab:Nat):kM P w0 M V T lab e o a w:=by
 unfold Bm at he
 split at he
 .rename_i vs hx
  simp only [gL,lit,aV] at he
  obtain ⟨v,hv,rfl⟩:=he
  have ex:=bH ht hg hx
  simp only [den,dC] at ex
  obtain ⟨xs,nE,ex⟩:=ex
  obtain ⟨y,hy,hd⟩:=dO nE i v hv
  refine bE (x:=y) ?_ hd rfl rfl hT
  unfold execOp
  simp [bV,<- ex,Instr.extract,hy]
 .cases he
def wH (Γ:Env) (g:Nat->Option SV) (f:Fn) (xs cs:Array Operand):Option bK:=
 match OA Γ g xs.toList,OA Γ g cs.toList with
 | some us,some vs=>lit (.fn f us vs)
 | _,_=>none
theorem Hy (ht:cF V g a) (hg:bP Γ V) (hT:aD w0 M V T w) {f:Fn} {xs cs:Array Operand} (bV:o.op = .makeFunc f xs cs) (he:wH Γ g f xs cs=some e) (lab:Nat):kM P w0 M V T lab e o a w:=by
 unfold wH at he
 split at he
 .rename_i us vs h1 h2
  simp only [lit,aV] at he
  subst he
  refine bE (x:=.func f (xs.map a.eval) (cs.map a.eval)) ?_ ?_ rfl rfl hT
  .unfold execOp;simp only [bV];rfl
  .simp only [den,Gh ht hg h1,Gh ht hg h2,mZ,gQ]
   congr 2 <;> (rw [<- Array.toList_inj];simp)
 .cases he
def aPl:TypeDesc->Bool
 | .interface _=>false
 | _=>true
def sJ (Γ:Env) (g:Nat->Option SV) (t:TypeId) (x:Operand):Option bK:=
 match ev Γ g x,Γ.ty t with
 | some v,some ti=>match aPl ti.desc with
   | true=>lit (.rC t v)
   | false=>none
 | _,_=>none
theorem Dc (aW:cA P Γ) (ht:cF V g a) (hg:bP Γ V) (hT:aD w0 M V T w) {t:TypeId} {x:Operand} (bV:o.op = .makeInterface t x) (he:sJ Γ g t x=some e) (lab:Nat):kM P w0 M V T lab e o a w:=by
 unfold sJ at he
 split at he
 .rename_i v ti hv dX
  split at he
  .rename_i hc
   simp only [lit,aV] at he
   subst he
   refine bE (x:=.iface t (a.eval x)) ?_ (by simp [den,bH ht hg hv]) rfl rfl hT
   unfold execOp
   simp only [bV,Instr.makeInterface,Sem.run_bind,run_underlying (aW t ti dX).1 w,Result.andThen_ok]
   cases hd:ti.desc <;> first | rfl | (rw [hd] at hc;cases hc)
  .cases he
 .cases he
def Oh (Γ:Env) (g:Nat->Option SV) (t:TypeId) (x:Operand) (n:Nat):Option bK:=
 match ev Γ g x,Γ.ty t with
 | some (.ptr l s off),some ti=>match ti.desc with
   | .struct fs=>match fs.toList[n]? with
     | some f=>match Γ.ty f.type with
       | some tf=>match Nat.beq tf.size 0 with
         | true=>none
         | false=>lit (.ptr l s (off+f.offset))
       | none=>none
     | none=>none
   | _=>none
 | _,_=>none
theorem Xt (aW:cA P Γ) (ht:cF V g a) (hg:bP Γ V) (hT:aD w0 M V T w) {t:TypeId} {x:Operand} {n:Nat} (bV:o.op = .fieldAddr t x n) (he:Oh Γ g t x n=some e) (lab:Nat):kM P w0 M V T lab e o a w:=by
 unfold Oh at he
 split at he
 .rename_i l s off ti hx dX
  split at he
  .rename_i fs hfs
   split at he
   .rename_i f hf
    split at he
    .rename_i tf htf
     split at he
     .cases he
     .rename_i fX
      simp only [lit,aV] at he
      subst he
      have ex:=bH ht hg hx
      simp only [den,dC] at ex
      obtain ⟨⟨b,base⟩,hβ,ex⟩:=ex
      obtain ⟨_,i,z,hi,cD,_⟩:=aW f.type tf htf
      have dJ:¬ i.size=0:=by
       rw [cD];intro h0;rw [h0] at fX;cases fX
      refine bE (x:=.pointer (some ⟨b,base+(off+f.offset),none⟩)) ?_ (by simp [den,hβ]) rfl rfl hT
      have hu:=(aW t ti dX).1
      rw [hfs] at hu
      have hf':fs[n]?=some f:=by rw [<- Array.getElem?_toList];exact hf
      unfold execOp
      simp only [bV,<- ex,Instr.fieldAt,Sem.run_bind,run_underlying hu w,Result.andThen_ok,hf',Instr.sureAddr,Sem.run_pure,fieldPlace,run_sizeOf hi,if_neg dJ,bJ,Nat.add_assoc]
    .cases he
   .cases he
  .cases he
 .cases he
def sK (Γ:Env) (g:Nat->Option SV) (t:TypeId) (x y:Operand):Option bK:=
 match ev Γ g x,ev Γ g y,Γ.ty t with
 | some (.ptr l s off),some (.int sk _ k),some ti=>match ti.desc with
   | .array len el=>match Γ.ty el with
     | some te=>match qX sk (0<=k/\k<len) with
       | some ob=>some (dQ (.ptr l (s&&sk) (off+k.toNat*te.size)) ob)
       | none=>none
     | none=>none
   | _=>none
 | some (.aG l s off len _),some (.int sk _ k),some ti=>match ti.desc with
   | .slice el=>match Γ.ty el with
     | some te=>match qX (s&&sk) (0<=k/\k<len) with
       | some ob=>some (dQ (.ptr l (s&&sk) (off+k.toNat*te.size)) ob)
       | none=>none
     | none=>none
   | _=>none
 | some (.dD l off len _),some (.int sk _ k),some ti=>match ti.desc with
   | .slice el=>match Γ.ty el with
     | some te=>match qX sk (0<=k/\k<len) with
       | some ob=>some (dQ (.ptr l sk (off+k.toNat*te.size)) ob)
       | none=>none
     | none=>none
   | _=>none
 | some (.Qr _ n _ sz j le),some (.int _ _ k),some ti=>match ti.desc with
   | .slice el=>match Γ.ty el with
     | some te=>match Nat.beq te.size sz with
       | true=>some (dQ (.ptr le true 0) [0<=k/\k<n/\k.toNat=j])
       | false=>none
     | none=>none
   | _=>none
 | some (.iA l n),some (.int _ _ k),some ti=>match ti.desc with
   | .slice el=>match Γ.ty el with
     | some te=>match Nat.beq te.size 1 with
       | true=>some (dQ (.iS l k.toNat) [0<=k/\k<n])
       | false=>none
     | none=>none
   | _=>none
 | _,_,_=>none
theorem Dd (aW:cA P Γ) (ht:cF V g a) (hg:bP Γ V) (hT:aD w0 M V T w) {t:TypeId} {x y:Operand} (bV:o.op = .indexAddr t x y) (he:sK Γ g t x y=some e) (ho:∀ q∈e.bO,q) (lab:Nat):kM P w0 M V T lab e o a w:=by
 unfold sK at he
 split at he
 .rename_i l s off sk kk k ti hx hy dX
  split at he
  .rename_i len el hd
   split at he
   .rename_i te eD
    split at he
    .rename_i ob rK
     simp only [dQ,aV] at he
     subst he
     have hb:=gE rK ho
     have ex:=bH ht hg hx
     have ey:=bH ht hg hy
     simp only [den,dC,aV] at ex ey
     obtain ⟨⟨b,base⟩,hβ,ex⟩:=ex
     obtain ⟨_,i,z,hi,cD,_⟩:=aW el te eD
     have hu:=(aW t ti dX).1
     rw [hd] at hu
     refine bE (x:=.pointer (some ⟨b,base+(off+k.toNat*te.size),none⟩)) ?_ (by simp [den,hβ]) rfl rfl hT
     unfold execOp
     simp only [bV,<- ex,<- ey,Instr.indexAt,asIntOf,Sem.run_bind,Sem.run_pure,run_underlying hu w,Result.andThen_ok,Instr.sureAddr,if_pos hb,run_sizeOf hi,cD,bJ,Nat.add_assoc]
    .cases he
   .cases he
  .cases he
 .rename_i l s off len cap sk kk k ti hx hy dX
  split at he
  .rename_i el hd
   split at he
   .rename_i te eD
    split at he
    .rename_i ob rK
     simp only [dQ,aV] at he
     subst he
     have hb:=gE rK ho
     have ex:=bH ht hg hx
     have ey:=bH ht hg hy
     simp only [den,dC,aV] at ex ey
     obtain ⟨⟨b,base⟩,hβ,ex⟩:=ex
     obtain ⟨_,i,z,hi,cD,_⟩:=aW el te eD
     have hu:=(aW t ti dX).1
     rw [hd] at hu
     refine bE (x:=.pointer (some ⟨b,base+(off+k.toNat*te.size),none⟩)) ?_ (by simp [den,hβ]) rfl rfl hT
     unfold execOp
     simp only [bV,<- ex,<- ey,Instr.indexAt,asIntOf,Sem.run_bind,Sem.run_pure,run_underlying hu w,Result.andThen_ok,if_pos hb,run_sizeOf hi,cD,bJ,Nat.add_assoc]
    .cases he
   .cases he
  .cases he
 .rename_i l off len lo sk kk k ti hx hy dX
  split at he
  .rename_i el hd
   split at he
   .rename_i te eD
    split at he
    .rename_i ob rK
     simp only [dQ,aV] at he
     subst he
     have hb:=gE rK ho
     have ex:=bH ht hg hx
     have ey:=bH ht hg hy
     simp only [den,dC,gL,aV] at ex ey
     obtain ⟨⟨b,base⟩,hβ,c,_,ex⟩:=ex
     obtain ⟨_,i,z,hi,cD,_⟩:=aW el te eD
     have hu:=(aW t ti dX).1
     rw [hd] at hu
     refine bE (x:=.pointer (some ⟨b,base+(off+k.toNat*te.size),none⟩)) ?_ (by simp [den,hβ]) rfl rfl hT
     unfold execOp
     simp only [bV,<- ex,<- ey,Instr.indexAt,asIntOf,Sem.run_bind,Sem.run_pure,run_underlying hu w,Result.andThen_ok,if_pos hb,run_sizeOf hi,cD,bJ,Nat.add_assoc]
    .cases he
   .cases he
  .cases he
 .rename_i l n aWn sz j le kk0 kk k ti hx hy dX
  split at he
  .rename_i el hd
   split at he
   .rename_i te eD
    split at he
    .rename_i iC
     have iC:=cM iC
     simp only [dQ,aV] at he
     subst he
     obtain ⟨pB,nC,MZ⟩:0<=k/\k<n/\k.toNat=j:=ho _ (by simp)
     have ex:=bH ht hg hx
     have ey:=bH ht hg hy
     simp only [den,gL,aV] at ex ey
     obtain ⟨⟨b,base⟩,hβ,q,hq,ex⟩:=ex
     split at ex
     case h_2=>cases ex
     rename_i hdq
     have hdq:=jG hdq
     simp only [aV] at ex
     subst hdq
     obtain ⟨_,i,z,hi,cD,_⟩:=aW el te eD
     have hu:=(aW t ti dX).1
     rw [hd] at hu
     refine bE (x:=.pointer (some ⟨b,base+(k.toNat*te.size),none⟩)) ?_ (by simp [den,hq,MZ,iC]) rfl rfl hT
     unfold execOp
     simp only [bV,<- ex,<- ey,Instr.indexAt,asIntOf,Sem.run_bind,Sem.run_pure,run_underlying hu w,Result.andThen_ok,if_pos (show 0<=k/\k<(n:Int) from ⟨pB,nC⟩),run_sizeOf hi,cD,bJ]
    .cases he
   .cases he
  .cases he
 .rename_i l n kk0 kk k ti hx hy dX
  split at he
  .rename_i el hd
   split at he
   .rename_i te eD
    split at he
    .rename_i iC
     have iC:=cM iC
     simp only [dQ,aV] at he
     subst he
     have hb:0<=k/\k<n:=ho _ (by simp)
     have ex:=bH ht hg hx
     have ey:=bH ht hg hy
     simp only [den,gL,aV] at ex ey
     obtain ⟨v,hσ,ex⟩:=ex
     obtain ⟨exv,hv⟩:=jR ex
     rcases hv with ⟨_,h0⟩ | ⟨b,base,c,rfl,_⟩
     .omega
     obtain ⟨_,i,z,hi,cD,_⟩:=aW el te eD
     have hu:=(aW t ti dX).1
     rw [hd] at hu
     refine bE (x:=.pointer (some ⟨b,base+k.toNat*te.size,none⟩)) ?_ (by simp [den,hσ,bJ,iC]) rfl rfl hT
     unfold execOp
     simp only [bV,exv,<- ey,Instr.indexAt,asIntOf,Sem.run_bind,Sem.run_pure,run_underlying hu w,Result.andThen_ok,if_pos hb,run_sizeOf hi,cD,bJ]
    .cases he
   .cases he
  .cases he
 .cases he
def Hp (Γ:Env) (g:Nat->Option SV) (t:TypeId) (x:Operand) (n:Nat):Option bK:=
 match ev Γ g x,Γ.ty t with
 | some (.agg cs),some ti=>match ti.desc with
   | .struct fs=>match fs.toList[n]? with
     | some f=>match Γ.ty f.type with
       | some tf=>match rP tf.desc with
         | true=>lit (.agg ((cs.drop f.offset).take tf.size))
         | false=>(cs[f.offset]?).bind lit
       | none=>none
     | none=>none
   | _=>none
 | _,_=>none
theorem uX {α:Type} (l:List α) (i j:Nat):l.toArray.extract i (i+j)=((l.drop i).take j).toArray:=by
 apply Array.ext'
 simp [List.extract_eq_take_drop]
theorem Qg (aW:cA P Γ) (ht:cF V g a) (hg:bP Γ V) (hT:aD w0 M V T w) {t:TypeId} {x:Operand} {n:Nat} (bV:o.op = .field t x n) (he:Hp Γ g t x n=some e) (lab:Nat):kM P w0 M V T lab e o a w:=by
 unfold Hp at he
 split at he
 .rename_i cs ti hx dX
  split at he
  .rename_i fs hfs
   split at he
   .rename_i f hf
    split at he
    .rename_i tf htf
     have ex:=bH ht hg hx
     simp only [den,dC] at ex
     obtain ⟨xs,nE,ex⟩:=ex
     obtain ⟨huf,i,z,hi,cD,_⟩:=aW f.type tf htf
     have hu:=(aW t ti dX).1
     rw [hfs] at hu
     have hf':fs[n]?=some f:=by rw [<- Array.getElem?_toList];exact hf
     split at he
     .rename_i fZ
      simp only [lit,aV] at he
      subst he
      refine bE (x:=.agg ((xs.drop f.offset).take tf.size).toArray) ?_ (by simp [den,dZ _ (iM _ nE)]) rfl rfl hT
      unfold execOp
      simp only [bV,<- ex,Instr.field,Sem.run_bind,run_underlying hu w,Result.andThen_ok,hf',asAgg,Sem.run_pure,part,eJ huf,fZ,if_true,run_sizeOf hi,cD,uX]
     .rename_i fZ
      simp only [gL,lit,aV] at he
      obtain ⟨v,hv,rfl⟩:=he
      obtain ⟨y,hy,hdy⟩:=dO nE _ v hv
      refine bE (x:=y) ?_ hdy rfl rfl hT
      have hy':xs.toArray[f.offset]?=some y:=by simpa using hy
      unfold execOp
      simp only [bV,<- ex,Instr.field,Sem.run_bind,run_underlying hu w,Result.andThen_ok,hf',asAgg,Sem.run_pure,part,eJ huf,fZ,Bool.false_eq_true,if_false,hy']
    .cases he
   .cases he
  .cases he
 .cases he
def Hl (Γ:Env) (g:Nat->Option SV) (t:TypeId) (x y:Operand):Option bK:=
 match ev Γ g x,ev Γ g y,Γ.ty t with
 | some (.agg cs),some (.int true _ k),some ti=>match ti.desc with
   | .array len el=>match Γ.ty el with
     | some te=>match decide (0<=k/\k<len),rP te.desc with
       | true,true=>lit (.agg ((cs.drop (k.toNat*te.size)).take te.size))
       | true,false=>(cs[k.toNat*te.size]?).bind lit
       | _,_=>none
     | none=>none
   | _=>none
 | some (.raw (.string s)),some (.int true _ k),some ti=>match ti.desc,decide (0<=k),s[k.toNat]? with
   | .string,true,some b=>lit (.int true .u8 b.toNat)
   | _,_,_=>none
 | _,_,_=>none
theorem Qc (aW:cA P Γ) (ht:cF V g a) (hg:bP Γ V) (hT:aD w0 M V T w) {t:TypeId} {x y:Operand} (bV:o.op = .index t x y) (he:Hl Γ g t x y=some e) (lab:Nat):kM P w0 M V T lab e o a w:=by
 unfold Hl at he
 split at he
 .rename_i cs kk k ti hx hy dX
  split at he
  .rename_i len el hd
   split at he
   .rename_i te eD
    have ex:=bH ht hg hx
    have ey:=bH ht hg hy
    simp only [den,dC,aV] at ex ey
    obtain ⟨xs,nE,ex⟩:=ex
    obtain ⟨Ci,i,z,hi,cD,_⟩:=aW el te eD
    have hu:=(aW t ti dX).1
    rw [hd] at hu
    split at he
    .rename_i hb fZ
     have iD:=jG hb
     simp only [lit,aV] at he
     subst he
     refine bE (x:=.agg ((xs.drop (k.toNat*te.size)).take te.size).toArray) ?_ (by simp [den,dZ _ (iM _ nE)]) rfl rfl hT
     unfold execOp
     simp only [bV,<- ex,<- ey,Instr.index,asIntOf,Sem.run_bind,Sem.run_pure,run_underlying hu w,Result.andThen_ok,if_pos iD,part,eJ Ci,fZ,if_true,run_sizeOf hi,cD,uX]
    .rename_i hb fZ
     have iD:=jG hb
     simp only [gL,lit,aV] at he
     obtain ⟨v,hv,rfl⟩:=he
     obtain ⟨u,hu',hdu⟩:=dO nE _ v hv
     refine bE (x:=u) ?_ hdu rfl rfl hT
     have hy':xs.toArray[k.toNat*te.size]?=some u:=by simpa using hu'
     unfold execOp
     simp only [bV,<- ex,<- ey,Instr.index,asIntOf,Sem.run_bind,Sem.run_pure,run_underlying hu w,Result.andThen_ok,if_pos iD,part,eJ Ci,fZ,Bool.false_eq_true,if_false,run_sizeOf hi,cD,hy']
    .cases he
   .cases he
  .cases he
 .rename_i s kk k ti hx hy dX
  split at he
  .rename_i b hd hk hb
   have iH:=jG hk
   have ex:=bH ht hg hx
   have ey:=bH ht hg hy
   simp only [den,aV] at ex ey
   have hu:=(aW t ti dX).1
   rw [hd] at hu
   simp only [lit,aV] at he
   subst he
   refine bE (x:=.int .u8 b.toNat) ?_ rfl rfl rfl hT
   unfold execOp
   simp only [bV,<- ex,<- ey,Instr.index,asIntOf,Sem.run_bind,Sem.run_pure,run_underlying hu w,Result.andThen_ok,if_pos iH,hb]
  .cases he
 .cases he
def aCh (Γ:Env) (T:bB) (d:TypeDesc) (v:SV):Option bK:=
 match d,v with
 | .slice _,.aG _ s _ len _=>lit (.int s .i64 len)
 | .slice _,.raw (.slice _ n _)=>lit (.int true .i64 n)
 | .slice _,.dD _ _ len _=>lit (.int true .i64 len)
 | .slice _,.buf l=>match T l with
   | some (.dL _ xs _)=>lit (.int false .i64 xs.length)
   | some (.fM _ n _)=>lit (.int false .i64 n)
   | some (.eH xs _)=>lit (.int false .i64 xs.length)
   | some (.qG xs)=>lit (.int false .i64 xs.length)
   | _=>none
 | .slice _,.lS _ lo hi=>lit (.int false .i64 ((hi-lo:Nat):Int))
 | .slice _,.iA _ n=>lit (.int false .i64 n)
 | .slice _,.Qr _ n _ _ _ _=>lit (.int false .i64 n)
 | .array n _,_=>lit (.int true .i64 n)
 | .pointer el,_=>match Γ.ty el with
   | some te=>match te.desc with
     | .array n _=>lit (.int true .i64 n)
     | _=>none
   | none=>none
 | .string,.raw (.string s)=>lit (.int true .i64 s.size)
 | _,_=>none
theorem xA {ty:TypeId} {sz n:Nat} {v:Value} {cs:List Value} (h:w.ownsRow 0 ty sz v n cs):∃ b c,v = .slice b n c:=by
 rcases h.2 with ⟨rfl,rfl⟩ | ⟨gb,cap,cur,rfl,_⟩
 .exact ⟨_,_,rfl⟩
 .exact ⟨_,_,rfl⟩
theorem XN (aW:cA P Γ) {T':bB} (aO:∀ l B,T' l=some B->T l=some B) (hT:aD w0 M V T w) {Cn:Array TypeId} {t ty:TypeId} {d:TypeDesc} {v:SV} {x:Value} (yT:Cn[0]?=some t) (hu:P.underlying t=some d)
 (hv:den V v=some x) (he:aCh Γ T' d v=some e):∃ y,(Builtin.len_ Cn ty #[x]).run P w = .ok y w/\den V e.val=some y/\e.new=[]/\e.wr=[]:=by
 unfold aCh at he
 split at he
 .simp only [lit,aV] at he
  subst he
  simp only [den,dC] at hv
  obtain ⟨p,_,rfl⟩:=hv
  exact ⟨_,by simp [Builtin.len_,yT,run_underlying hu w];rfl,rfl,rfl,rfl⟩
 .simp only [lit,aV] at he
  subst he
  simp only [den,aV] at hv
  subst hv
  exact ⟨_,by simp [Builtin.len_,yT,run_underlying hu w];rfl,rfl,rfl,rfl⟩
 .simp only [lit,aV] at he
  subst he
  simp only [den,dC,gL] at hv
  obtain ⟨p,_,c,_,rfl⟩:=hv
  exact ⟨_,by simp [Builtin.len_,yT,run_underlying hu w];rfl,rfl,rfl,rfl⟩
 .split at he
  .rename_i l _ k xs ty hB
   simp only [lit,aV] at he
   subst he
   obtain ⟨cs,hc,u,hσ,bQ⟩:=hT.ok l _ (aO l _ hB)
   simp only [den,hσ,aV] at hv
   subst hv
   obtain ⟨b,c,rfl⟩:=xA bQ.1
   exact ⟨_,by simp [Builtin.len_,yT,run_underlying hu w];rfl,rfl,rfl,rfl⟩
  .rename_i l _ sz n ty hB
   simp only [lit,aV] at he
   subst he
   obtain ⟨cs,hc,u,us,hσ,bQ,_⟩:=hT.ok l _ (aO l _ hB)
   simp only [den,hσ,aV] at hv
   subst hv
   rcases bQ.2 with ⟨rfl,rfl⟩ | ⟨g,cap,cur,rfl,_⟩
   .exact ⟨_,by simp [Builtin.len_,yT,run_underlying hu w];rfl,rfl,rfl,rfl⟩
   .exact ⟨_,by simp [Builtin.len_,yT,run_underlying hu w];rfl,rfl,rfl,rfl⟩
  .rename_i l _ xs ty hB
   simp only [lit,aV] at he
   subst he
   obtain ⟨cs,hc,u,hσ,bQ⟩:=hT.ok l _ (aO l _ hB)
   simp only [den,hσ,aV] at hv
   subst hv
   obtain ⟨b,c,rfl⟩:=xA bQ
   exact ⟨_,by simp [Builtin.len_,yT,run_underlying hu w];rfl,rfl,rfl,rfl⟩
  .rename_i l _ xs hB
   simp only [lit,aV] at he
   subst he
   obtain ⟨cs,hc,u,hσ,bQ⟩:=hT.ok l _ (aO l _ hB)
   simp only [den,hσ,aV] at hv
   subst hv
   rcases bQ with ⟨⟨ad,rfl⟩,rfl⟩ | ⟨b,o,c,rfl,_⟩
   .exact ⟨_,by simp [Builtin.len_,yT,run_underlying hu w];rfl,rfl,rfl,rfl⟩
   .exact ⟨_,by simp [Builtin.len_,yT,run_underlying hu w];rfl,rfl,rfl,rfl⟩
  .cases he
 .simp only [lit,aV] at he
  subst he
  simp only [den] at hv
  split at hv
  .cases hv
   exact ⟨_,by simp [Builtin.len_,yT,run_underlying hu w];rfl,rfl,rfl,rfl⟩
  .cases hv
 .simp only [lit,aV] at he
  subst he
  simp only [den,gL] at hv
  obtain ⟨v,_,hv⟩:=hv
  obtain ⟨rfl,⟨⟨_,rfl⟩,rfl⟩ | ⟨b,o,c,rfl,_⟩⟩:=jR hv
  .exact ⟨_,by simp [Builtin.len_,yT,run_underlying hu w];rfl,rfl,rfl,rfl⟩
  .exact ⟨_,by simp [Builtin.len_,yT,run_underlying hu w];rfl,rfl,rfl,rfl⟩
 .simp only [lit,aV] at he
  subst he
  simp only [den,gL] at hv
  obtain ⟨p,_,q,_,hv⟩:=hv
  split at hv
  case h_2=>cases hv
  cases hv
  exact ⟨_,by simp [Builtin.len_,yT,run_underlying hu w];rfl,rfl,rfl,rfl⟩
 .simp only [lit,aV] at he
  subst he
  exact ⟨_,by simp [Builtin.len_,yT,run_underlying hu w];rfl,rfl,rfl,rfl⟩
 .split at he
  .rename_i el _ te eD
   split at he
   .rename_i n el' hd
    simp only [lit,aV] at he
    subst he
    have hu2:=(aW el te eD).1
    rw [hd] at hu2
    exact ⟨_,by simp [Builtin.len_,yT,run_underlying hu w,run_underlying hu2 w];rfl,rfl,rfl,rfl⟩
   .cases he
  .cases he
 .simp only [lit,aV] at he
  subst he
  simp only [den,aV] at hv
  subst hv
  exact ⟨_,by simp [Builtin.len_,yT,run_underlying hu w];rfl,rfl,rfl,rfl⟩
 .cases he
def aCi (v:SV):Option bK:=
 match v with
 | .aG _ s _ _ cap=>lit (.int s .i64 cap)
 | .raw (.slice _ _ n)=>lit (.int true .i64 n)
 | _=>none
theorem XP {Cn:Array TypeId} {t ty el:TypeId} {v:SV} {x:Value} (yT:Cn[0]?=some t) (hu:P.underlying t=some (.slice el)) (hv:den V v=some x) (he:aCi v=some e) :
 ∃ y,(Builtin.cap_ Cn ty #[x]).run P w = .ok y w/\den V e.val=some y/\e.new=[]/\e.wr=[]:=by
 unfold aCi at he
 split at he
 .simp only [lit,aV] at he
  subst he
  simp only [den,dC] at hv
  obtain ⟨p,_,rfl⟩:=hv
  exact ⟨_,by simp [Builtin.cap_,yT,run_underlying hu w];rfl,rfl,rfl,rfl⟩
 .simp only [lit,aV] at he
  subst he
  simp only [den,aV] at hv
  subst hv
  exact ⟨_,by simp [Builtin.cap_,yT,run_underlying hu w];rfl,rfl,rfl,rfl⟩
 .cases he
end Fm
section Fm
variable {P:Program} {Γ:Env} {V:bA} {w w0:World} {M:Nat->Prop} {T:bB} {g:Nat->Option SV} {a:Act} {o:Oper} {e:bK}
def yW (Γ:Env) (g:Nat->Option SV) (x:Option Operand) (s:Bool) (aVe:Nat):Option (Bool × Int):=
 match x with
 | none=>some (s,aVe)
 | some x=>match ev Γ g x with
   | some (.int s _ k)=>some (s,k)
   | _=>none
def xK (lo:Option Operand) (m l:Int) (off size:Nat):Nat:=match lo with
 | none=>off
 | some _=>if m=l then off else off+l.toNat*size
def Od (Γ:Env) (g:Nat->Option SV) (T:bB) (t:TypeId) (x:Operand) (lo hi mx:Option Operand):Option bK:=
 match ev Γ g x,Γ.ty t with
 | some (.ptr l s off),some ti=>match ti.desc with
   | .array n el=>match Γ.ty el,yW Γ g mx true n,yW Γ g hi true n,yW Γ g lo true 0 with
     | some te,some (sm,m),some (sh,h),some (sl,k)=>match mx.isSome&&hi.isNone with
       | true=>none
       | false=>(qX (s&&sm&&sh&&sl) (0<=m/\m<=n/\0<=h/\h<=m/\0<=k/\k<=h)).map
         (dQ (.aG l (s&&sm&&sh&&sl) (xK lo m k off te.size) (h.toNat-k.toNat) (m.toNat-k.toNat)))
     | _,_,_,_=>none
   | _=>none
 | some (.aG l s off len cap),some ti=>match ti.desc with
   | .slice el=>match Γ.ty el,yW Γ g mx s cap,yW Γ g hi s len,yW Γ g lo true 0 with
     | some te,some (sm,m),some (sh,h),some (sl,k)=>match mx.isSome&&hi.isNone with
       | true=>none
       | false=>(qX (s&&sm&&sh&&sl) (0<=m/\m<=cap/\0<=h/\h<=m/\0<=k/\k<=h)).map
         (dQ (.aG l (s&&sm&&sh&&sl) (xK lo m k off te.size) (h.toNat-k.toNat) (m.toNat-k.toNat)))
     | _,_,_,_=>none
   | _=>none
 | some (.raw (.slice none 0 0)),some ti=>match ti.desc with
   | .slice el=>match Γ.ty el,yW Γ g mx true 0,yW Γ g hi true 0,yW Γ g lo true 0 with
     | some _,some (sm,m),some (sh,h),some (sl,k)=>match mx.isSome&&hi.isNone with
       | true=>none
       | false=>(qX (sm&&sh&&sl) (0<=m/\m<=(0:Nat)/\0<=h/\h<=m/\0<=k/\k<=h)).map (dQ (.raw (.slice none 0 0)))
     | _,_,_,_=>none
   | _=>none
 | some (.dD l off len l0),some ti=>match ti.desc with
   | .slice el=>match Γ.ty el,T l,yW Γ g hi true len,yW Γ g lo true 0 with
     | some te,some (.row sz cells _),some (true,h),some (true,k)=>match Nat.beq te.size sz&&Nat.blt 0 sz&&Nat.beq off (l0*sz)&&Nat.ble (off+len*sz) cells.length,mx with
       | true,none=>match decide (0<=k/\k<=h/\(h<=len\/off+h.toNat*sz<=cells.length)/\(k<len\/k=0)) with
         | true=>some { val:=.dD l (off+k.toNat*sz) (h.toNat-k.toNat) (l0+k.toNat) }
         | false=>none
       | true,some y=>match yW Γ g (some y) true 0,hi.isSome with
         | some (true,m),true=>match decide (0<=k/\k<=h/\h<=m/\m<=len) with
           | true=>some { val:=.aG l true (xK lo m k off sz) (h.toNat-k.toNat) (m.toNat-k.toNat) }
           | false=>none
         | _,_=>none
       | _,_=>none
     | _,_,_,_=>none
   | _=>none
 | some (.buf l),some ti=>match ti.desc,mx with
   | .slice el,none=>match Γ.ty el,T l with
     | some te,some (.dL _ xs _)=>match yW Γ g hi false xs.length,yW Γ g lo true 0,Nat.beq te.size 1 with
       | some (_,h),some (_,k),true=>some (dQ (.lS l k.toNat h.toNat) [0<=k/\k<=h/\h<=xs.length])
       | _,_,_=>none
     | _,_=>none
   | _,_=>none
 | _,_=>none
theorem cO (k:IntKind) (i:Int) (y:Nat) (code:BoundsCode) (h:0<=i/\i<=y):(Instr.sliceBound (.int k i) y code).run P w = .ok i.toNat w:=by
 simp [Instr.sliceBound,asIntOf,h]
theorem eT (ht:cF V g a) (hg:bP Γ V) {x:Option Operand} {s sb:Bool} {d:Nat} {n:Int} (h:yW Γ g x s d=some (sb,n)) :
 (x=none/\n=d)\/∃ y k,x=some y/\a.eval y = .int k n:=by
 unfold yW at h
 split at h
 .simp only [aV,Prod.mk.injEq] at h;exact .inl ⟨rfl,h.2.symm⟩
 .rename_i y
  split at h
  .rename_i s' k n' hy
   simp only [aV,Prod.mk.injEq] at h
   obtain ⟨rfl,rfl⟩:=h
   have:=bH ht hg hy
   simp only [den,aV] at this
   exact .inr ⟨y,k,rfl,this.symm⟩
  .cases h
theorem Lt (isS:Bool) (len cap:Nat) {lo hi mx:Option Value} {m h k:Int}
 (hm:(mx=none/\m=cap)\/∃ kk,mx=some (.int kk m)) (hh:(hi=none/\h=len)\/∃ kk,hi=some (.int kk h))
 (hl:(lo=none/\k=(0:Nat))\/∃ kk,lo=some (.int kk k)) (hx:(mx.isSome&&hi.isNone)=false) (hb:0<=m/\m<=cap/\0<=h/\h<=m/\0<=k/\k<=h) :
 (Instr.sliceBounds isS len cap lo hi mx).run P w = .ok (k.toNat,h.toNat,m.toNat) w:=by
 obtain ⟨h1,h2,h3,h4,h5,h6⟩:=hb
 rcases hm with ⟨rfl,rfl⟩ | ⟨km,rfl⟩ <;> rcases hh with ⟨rfl,rfl⟩ | ⟨kh,rfl⟩ <;> rcases hl with ⟨rfl,rfl⟩ | ⟨kl,rfl⟩
 .simp [Instr.sliceBounds]
 .simp only [Instr.sliceBounds,Sem.run_bind,Sem.run_pure,Result.andThen_ok]
  rw [cO _ _ _ _ (by omega)];simp
 .simp only [Instr.sliceBounds,Sem.run_bind,Sem.run_pure,Result.andThen_ok]
  rw [cO _ _ _ _ (by omega)];simp
 .simp only [Instr.sliceBounds,Sem.run_bind,Sem.run_pure,Result.andThen_ok]
  rw [cO _ _ _ _ (by omega)]
  simp only [Result.andThen_ok]
  rw [cO _ _ _ _ (by omega)];simp
 .simp at hx
 .simp at hx
 .simp only [Instr.sliceBounds,Sem.run_bind,Sem.run_pure,Result.andThen_ok]
  rw [cO _ _ _ _ (by omega)]
  simp only [Result.andThen_ok]
  rw [cO _ _ _ _ (by omega)];simp
 .simp only [Instr.sliceBounds,Sem.run_bind,Sem.run_pure]
  rw [cO _ _ _ _ (by omega)]
  simp only [Result.andThen_ok]
  rw [cO _ _ _ _ (by omega)]
  simp only [Result.andThen_ok]
  rw [cO _ _ _ _ (by omega)];simp
theorem eP (isS:Bool) (len cap:Nat) {lo hi mx:Option Operand} {m h k:Int}
 (hm:(mx=none/\m=cap)\/∃ y kk,mx=some y/\a.eval y = .int kk m) (hh:(hi=none/\h=len)\/∃ y kk,hi=some y/\a.eval y = .int kk h)
 (hl:(lo=none/\k=(0:Nat))\/∃ y kk,lo=some y/\a.eval y = .int kk k) (hx:(mx.isSome&&hi.isNone)=false) (hb:0<=m/\m<=cap/\0<=h/\h<=m/\0<=k/\k<=h) :
 (Instr.sliceBounds isS len cap (lo.map a.eval) (hi.map a.eval) (mx.map a.eval)).run P w = .ok (k.toNat,h.toNat,m.toNat) w:=by
 refine Lt isS len cap ?_ ?_ ?_ (by simpa using hx) hb
 .rcases hm with ⟨rfl,e⟩ | ⟨y,kk,rfl,e⟩
  .exact .inl ⟨rfl,e⟩
  .exact .inr ⟨kk,by rw [gQ,e]⟩
 .rcases hh with ⟨rfl,e⟩ | ⟨y,kk,rfl,e⟩
  .exact .inl ⟨rfl,e⟩
  .exact .inr ⟨kk,by rw [gQ,e]⟩
 .rcases hl with ⟨rfl,e⟩ | ⟨y,kk,rfl,e⟩
  .exact .inl ⟨rfl,e⟩
  .exact .inr ⟨kk,by rw [gQ,e]⟩
theorem Xp (aW:cA P Γ) (ht:cF V g a) (hg:bP Γ V) {T':bB} (aO:∀ l B,T' l=some B->T l=some B) (hT:aD w0 M V T w) {t:TypeId} {x:Operand} {lo hi mx:Option Operand} (bV:o.op = .slice t x lo hi mx)
 (he:Od Γ g T' t x lo hi mx=some e) (ho:∀ q∈e.bO,q) (lab:Nat):kM P w0 M V T lab e o a w:=by
 unfold Od at he
 split at he
 .rename_i l s off ti hx dX
  split at he
  .rename_i n el hd
   split at he
   .rename_i te sm m sh h sl k eD hm hh hl
    split at he
    .cases he
    .rename_i hxx
     simp only [dC] at he
     obtain ⟨ob,rK,rfl⟩:=he
     have hb:=gE rK ho
     have ex:=bH ht hg hx
     simp only [den,dC] at ex
     obtain ⟨⟨b,base⟩,hβ,ex⟩:=ex
     have hu:=(aW t ti dX).1
     rw [hd] at hu
     obtain ⟨_,i,z,fP,cD,_⟩:=aW el te eD
     have hr:=eP (P:=P) (w:=w) (a:=a) false n n (eT ht hg hm) (eT ht hg hh) (eT ht hg hl) hxx hb
     refine bE (x:=.slice (some ⟨b,base+xK lo m k off te.size,none⟩) (h.toNat-k.toNat) (m.toNat-k.toNat)) ?_ (by simp [dQ,den,hβ]) rfl rfl hT
     have sW:(if m.toNat=k.toNat then (⟨b,base+off,none⟩:Addr) else (⟨b,base+off,none⟩:Addr).add (k.toNat*i.size))=⟨b,base+xK lo m k off te.size,none⟩:=by
      unfold xK
      cases lo with
      | none=>
        simp only [yW,aV,Prod.mk.injEq] at hl
        obtain ⟨_,rfl⟩:=hl
        split
        .rfl
        .rw [bJ];simp
      | some y=>
        have e1:(m.toNat=k.toNat)<->m=k:=by omega
        by_cases Fk:m=k
        .simp only [if_pos (e1.2 Fk),if_pos Fk]
        .simp only [if_neg (fun q=>Fk (e1.1 q)),if_neg Fk];rw [bJ,cD,Nat.add_assoc]
     unfold execOp
     simp only [bV,<- ex,Instr.sliceAt,Sem.run_bind,run_underlying hu w,Result.andThen_ok,Instr.sureAddr,Sem.run_pure,hr,run_sizeOf fP,sW]
   .cases he
  .cases he
 .rename_i l s off len cap ti hx dX
  split at he
  .rename_i el hd
   split at he
   .rename_i te sm m sh h sl k eD hm hh hl
    split at he
    .cases he
    .rename_i hxx
     simp only [dC] at he
     obtain ⟨ob,rK,rfl⟩:=he
     have hb:=gE rK ho
     have ex:=bH ht hg hx
     simp only [den,dC] at ex
     obtain ⟨⟨b,base⟩,hβ,ex⟩:=ex
     have hu:=(aW t ti dX).1
     rw [hd] at hu
     obtain ⟨_,i,z,fP,cD,_⟩:=aW el te eD
     have hr:=eP (P:=P) (w:=w) (a:=a) true len cap (eT ht hg hm) (eT ht hg hh) (eT ht hg hl) hxx hb
     refine bE (x:=.slice (some ⟨b,base+xK lo m k off te.size,none⟩) (h.toNat-k.toNat) (m.toNat-k.toNat)) ?_ (by simp [dQ,den,hβ]) rfl rfl hT
     have sW:(if m.toNat=k.toNat then some (⟨b,base+off,none⟩:Addr) else (some (⟨b,base+off,none⟩:Addr)).map (·.add (k.toNat*i.size)))=some ⟨b,base+xK lo m k off te.size,none⟩:=by
      unfold xK
      cases lo with
      | none=>
        simp only [yW,aV,Prod.mk.injEq] at hl
        obtain ⟨_,rfl⟩:=hl
        split
        .rfl
        .rw [gQ,bJ];simp
      | some y=>
        have e1:(m.toNat=k.toNat)<->m=k:=by omega
        by_cases Fk:m=k
        .simp only [if_pos (e1.2 Fk),if_pos Fk]
        .simp only [if_neg (fun q=>Fk (e1.1 q)),if_neg Fk];rw [gQ,bJ,cD,Nat.add_assoc]
     unfold execOp
     simp only [bV,<- ex,Instr.sliceAt,Instr.slice,Sem.run_bind,run_underlying hu w,Result.andThen_ok,Sem.run_pure,hr,run_sizeOf fP,sW]
   .cases he
  .cases he
 .rename_i ti hx dX
  split at he
  .rename_i el hd
   split at he
   .rename_i te sm m sh h sl k eD hm hh hl
    split at he
    .cases he
    .rename_i hxx
     simp only [dC] at he
     obtain ⟨ob,rK,rfl⟩:=he
     have hb:=gE rK ho
     have ex:=bH ht hg hx
     simp only [den,aV] at ex
     have hu:=(aW t ti dX).1
     rw [hd] at hu
     obtain ⟨_,i,z,fP,cD,_⟩:=aW el te eD
     have hr:=eP (P:=P) (w:=w) (a:=a) true 0 0 (eT ht hg hm) (eT ht hg hh) (eT ht hg hl) hxx hb
     have e0:m.toNat=0/\h.toNat=0/\k.toNat=0:=by omega
     refine bE (x:=.slice none 0 0) ?_ rfl rfl rfl hT
     unfold execOp
     simp only [bV,<- ex,Instr.sliceAt,Instr.slice,Sem.run_bind,run_underlying hu w,Result.andThen_ok,Sem.run_pure,hr,run_sizeOf fP,e0.1,e0.2.1,e0.2.2,if_true,Nat.sub_self]
   .cases he
  .cases he
 .rename_i l off len l0 ti hx dX
  split at he
  .rename_i el hd
   split at he
   .rename_i te sz cells ty0 h k eD hB hh hl
    have ex:=bH ht hg hx
    simp only [den,dC,gL] at ex
    obtain ⟨⟨b,base⟩,hβ,c,rM,ex⟩:=ex
    obtain ⟨cs,nU,b',cap,cur,hβ',hσ,_,_,_,⟨n,hn,MV⟩,_⟩:=hT.ok l _ (aO l _ hB)
    rw [hβ] at hβ'
    cases hβ'
    rw [hσ] at rM
    simp only [pM,aV,qZ] at rM
    subst rM
    have hu:=(aW t ti dX).1
    rw [hd] at hu
    obtain ⟨_,i,z,fP,cD,_⟩:=aW el te eD
    have qV:=bG (show aI V cells=some cs from nU)
    have aAm:(Nat.beq te.size sz&&Nat.blt 0 sz&&Nat.beq off (l0*sz)&&Nat.ble (off+len*sz) cells.length)=true->te.size=sz/\0<sz/\off=l0*sz/\l0+len<=cap:=by
     intro hq
     simp only [iG] at hq
     obtain ⟨⟨⟨q1,q2⟩,q3⟩,q4⟩:=hq
     have q1:=cM q1
     have q2:0<sz:=by simpa [Nat.blt_eq] using q2
     have q3:=cM q3
     have q4:=kJ q4
     refine ⟨q1,q2,q3,Nat.le_trans ?_ MV⟩
     rw [<- qV,hn,q3,<- Nat.add_mul] at q4
     exact Nat.le_of_mul_le_mul_right q4 q2
    split at he
    .rename_i hq
     obtain ⟨q1,q2,q3,q4⟩:=aAm hq
     split at he
     .rename_i AJ
      have Cm:=jG AJ
      have hb:0<=k/\k<=h/\h<=((cap-l0:Nat):Int)/\(k<len\/k=0):=by
       refine ⟨Cm.1,Cm.2.1,?_,Cm.2.2.2⟩
       rcases Cm.2.2.1 with h1 | h1
       .omega
       .have h2:l0+h.toNat<=cap:=by
         refine Nat.le_trans ?_ MV
         rw [<- qV,hn,q3,<- Nat.add_mul] at h1
         exact Nat.le_of_mul_le_mul_right h1 q2
        omega
      simp only [aV] at he
      subst he
      have hr:=eP (P:=P) (w:=w) (a:=a) true len (cap-l0) (lo:=lo) (hi:=hi) (mx:=none) (m:=((cap-l0:Nat):Int)) (.inl ⟨rfl,rfl⟩) (eT ht hg hh) (eT ht hg hl) rfl (by omega)
      simp only [qZ] at hr
      have sW:(if cap-l0=k.toNat then some (⟨b,0+off,none⟩:Addr) else (some (⟨b,0+off,none⟩:Addr)).map (·.add (k.toNat*sz)))=some ⟨b,0+(off+k.toNat*sz),none⟩:=by
       by_cases hk:k.toNat=0
       .rw [hk];split
        .simp
        .rw [gQ,bJ];simp
       .rw [if_neg (by omega),gQ,bJ,Nat.add_assoc]
      refine bE (x:=.slice (some ⟨b,0+(off+k.toNat*sz),none⟩) (h.toNat-k.toNat) (cap-(l0+k.toNat))) ?_ (by simp [den,hβ,hσ,pM]) rfl rfl hT
      unfold execOp
      simp only [bV,<- ex,Instr.sliceAt,Instr.slice,Sem.run_bind,run_underlying hu w,Result.andThen_ok,Sem.run_pure,hr,run_sizeOf fP,cD,q1,sW]
      rw [Nat.sub_add_eq]
     .cases he
    .rename_i y hq
     obtain ⟨q1,q2,q3,q4⟩:=aAm hq
     split at he
     .rename_i m hm his
      split at he
      .rename_i AJ
       have hb:=jG AJ
       simp only [aV] at he
       subst he
       have jZ:(some y=none/\m=((cap-l0:Nat):Int))\/∃ y' kk,some y=some y'/\a.eval y' = .int kk m:=by
        rcases eT ht hg hm with ⟨h1,_⟩ | h1
        .cases h1
        .exact .inr h1
       have hr:=eP (P:=P) (w:=w) (a:=a) true len (cap-l0) (lo:=lo) (hi:=hi) (mx:=some y) (m:=m) jZ (eT ht hg hh) (eT ht hg hl) (by simpa using his) (by omega)
       have sW:(if m.toNat=k.toNat then some (⟨b,0+off,none⟩:Addr) else (some (⟨b,0+off,none⟩:Addr)).map (·.add (k.toNat*sz)))=some ⟨b,0+xK lo m k off sz,none⟩:=by
        unfold xK
        cases lo with
        | none=>
          simp only [yW,aV,Prod.mk.injEq] at hl
          obtain ⟨_,rfl⟩:=hl
          split
          .rfl
          .rw [gQ,bJ];simp
        | some y=>
          have e1:(m.toNat=k.toNat)<->m=k:=by omega
          by_cases Fk:m=k
          .simp only [if_pos (e1.2 Fk),if_pos Fk]
          .simp only [if_neg (fun q=>Fk (e1.1 q)),if_neg Fk];rw [gQ,bJ,Nat.add_assoc]
       refine bE (x:=.slice (some ⟨b,0+xK lo m k off sz,none⟩) (h.toNat-k.toNat) (m.toNat-k.toNat)) ?_ (by simp [den,hβ]) rfl rfl hT
       unfold execOp
       simp only [bV,<- ex,Instr.sliceAt,Instr.slice,Sem.run_bind,run_underlying hu w,Result.andThen_ok,Sem.run_pure,hr,run_sizeOf fP,cD,q1,sW]
      .cases he
     .cases he
    .cases he
   .cases he
  .cases he
 .rename_i l ti hx dX
  split at he
  .rename_i el hd
   split at he
   .rename_i te k0 xs ty0 eD hB
    split at he
    .rename_i sh h sl k hh hl fX
     simp only [dQ,aV] at he
     subst he
     have hb:0<=k/\k<=h/\h<=xs.length:=ho _ (by simp)
     have ex:=bH ht hg hx
     obtain ⟨cs,hc,u,hσ,bQ⟩:=hT.ok l _ (aO l _ hB)
     simp only [den,hσ,aV] at ex
     have hu:=(aW t ti dX).1
     rw [hd] at hu
     obtain ⟨_,i,z,fP,cD,_⟩:=aW el te eD
     have aBt:i.size=1:=by rw [cD];exact cM fX
     obtain ⟨A,cap,hA,rM⟩:∃ A cap,u = .slice A xs.length cap/\xs.length<=cap:=by
      rcases bQ.1.2 with ⟨rfl,h0⟩ | ⟨gb,cap,cur,rfl,_,_,hle,_⟩
      .exact ⟨none,0,by rw [h0],by omega⟩
      .exact ⟨_,cap,rfl,hle⟩
     subst hA
     have hr:=eP (P:=P) (w:=w) (a:=a) true xs.length cap (lo:=lo) (hi:=hi) (mx:=none) (m:=cap) (.inl ⟨rfl,rfl⟩) (eT ht hg hh) (eT ht hg hl) rfl (by omega)
     simp only [Option.map_none,qZ] at hr
     refine bE (x:=.slice (if cap=k.toNat then A else A.map (·.add k.toNat)) (h.toNat-k.toNat) (cap-k.toNat)) ?_ (by simp [den,hσ]) rfl rfl hT
     unfold execOp
     simp only [bV,<- ex,Instr.sliceAt,Instr.slice,Sem.run_bind,run_underlying hu w,Result.andThen_ok,Sem.run_pure,hr,run_sizeOf fP,aBt,Nat.mul_one,Option.map_none]
    .cases he
   .cases he
  .cases he
 .cases he
def Hh (Γ:Env) (g:Nat->Option SV) (T:bB) (t:TypeId) (x:Operand) (lo hi mx:Option Operand) (lab:Nat):Option bK:=
 match ev Γ g x,Γ.ty t,mx with
 | some (.iA l n),some ti,none=>match ti.desc with
   | .slice el=>match Γ.ty el,T l,yW Γ g hi false n,yW Γ g lo true 0 with
     | some te,some (.iT k xs),some (_,h),some (_,j)=>match Nat.beq te.size 1 with
       | true=>some { bO:=[0<=j/\j<=h/\h<=n],val:=.iA lab (h.toNat-j.toNat),new:=[.iT k ((xs.drop j.toNat).take (h.toNat-j.toNat))] }
       | false=>none
     | _,_,_,_=>none
   | _=>none
 | _,_,_=>none
theorem Py (aW:cA P Γ) (ht:cF V g a) (hg:bP Γ V) {T':bB} (aO:∀ l B,T' l=some B->T l=some B) (hT:aD w0 M V T w) {t:TypeId} {x:Operand} {lo hi mx:Option Operand} (bV:o.op = .slice t x lo hi mx) {lab:Nat} (hf:V.fresh lab)
 (he:Hh Γ g T' t x lo hi mx lab=some e) (ho:∀ q∈e.bO,q):kM P w0 M V T lab e o a w:=by
 unfold Hh at he
 split at he
 case h_2=>cases he
 rename_i l n ti hx dX
 split at he
 case h_2=>cases he
 rename_i el hd
 split at he
 case h_2=>cases he
 rename_i te k xs sh h sj j eD hB hh hj
 split at he
 case h_2=>cases he
 rename_i iC
 have iC:=cM iC
 simp only [aV] at he
 subst he
 have hb:0<=j/\j<=h/\h<=n:=ho _ (by simp)
 have ex:=bH ht hg hx
 simp only [den,gL] at ex
 obtain ⟨v,hσ,ex⟩:=ex
 obtain ⟨exv,hv⟩:=jR ex
 obtain ⟨cs,hc,v',gD,bQ⟩:=hT.ok l _ (aO l _ hB)
 rw [hσ] at gD
 cases gD
 simp only [SB.cells,aV] at hc
 subst hc
 have hu:=(aW t ti dX).1
 rw [hd] at hu
 obtain ⟨_,i,z,fP,cD,_⟩:=aW el te eD
 obtain ⟨y,gJ,Di,hy3,hy4⟩:∃ y:Value,(execOp a.eval o).run P w = .ok (.value y) w/\nW (h.toNat-j.toNat) y=some y/\(∀ m,gX y=some m->gX v=some m) /\
  ((Vu y/\(xs.drop j.toNat).take (h.toNat-j.toNat)=[])\/∃ b o c,y = .slice (some ⟨b,o,none⟩) ((xs.drop j.toNat).take (h.toNat-j.toNat)).length c/\b<w.heap.size/\((xs.drop j.toNat).take (h.toNat-j.toNat)).length<=c/\∀ (i:Nat) (u:Value),(((xs.drop j.toNat).take (h.toNat-j.toNat)).map (Value.int k))[i]?=some u->w.cell? ⟨b,o+i,none⟩=some u):=by
  rcases bQ with ⟨⟨ad,rfl⟩,rfl⟩ | ⟨b,base,c,rfl,cL,hle,gK⟩
  .have hn:n=0:=by
    rcases hv with ⟨_,h0⟩ | ⟨_,_,_,h0,_⟩
    .exact h0
    .injection h0 with _ h0 _;exact h0.symm
   subst hn
   have hr:=eP (P:=P) (w:=w) (a:=a) true 0 0 (mx:=none) (m:=((0:Nat):Int)) (.inl ⟨rfl,rfl⟩) (eT ht hg hh) (eT ht hg hj) rfl (by omega)
   have e0:h.toNat=0/\j.toNat=0:=by omega
   refine ⟨.slice ad 0 0,?_,by cases ad <;> simp [nW,e0.1,e0.2],fun m hm=>hm,.inl ⟨⟨_,rfl⟩,by simp⟩⟩
   unfold execOp
   simp only [bV,exv,Option.map_none,Instr.sliceAt,Instr.slice,Sem.run_bind,run_underlying hu w,Result.andThen_ok,Sem.run_pure,run_sizeOf fP] at hr |-
   simp only [hr,Result.andThen_ok,e0.1,e0.2,if_true,Nat.sub_self,qZ]
  .have hn:n=xs.length:=by
    rcases hv with ⟨⟨_,h0⟩,h1⟩ | ⟨_,_,_,h0,_⟩
    .injection h0 with _ h0 _;omega
    .injection h0 with _ h0 _;exact h0.symm
   subst hn
   have hr:=eP (P:=P) (w:=w) (a:=a) true xs.length c (lo:=lo) (hi:=hi) (mx:=none) (m:=(c:Int)) (h:=h) (k:=j) (.inl ⟨rfl,rfl⟩) (eT ht hg hh) (eT ht hg hj) rfl ⟨by omega,by omega,by omega,by omega,by omega,by omega⟩
   have hlen:((xs.drop j.toNat).take (h.toNat-j.toNat)).length=h.toNat-j.toNat:=by simp;omega
   refine ⟨.slice (if c=j.toNat then some ⟨b,base,none⟩ else some ⟨b,base+j.toNat,none⟩) (h.toNat-j.toNat) (c-j.toNat),?_,?_,?_,.inr ?_⟩
   .have sW:(if c=j.toNat then some (⟨b,base,none⟩:Addr) else (some (⟨b,base,none⟩:Addr)).map (·.add (j.toNat*te.size)))=(if c=j.toNat then some ⟨b,base,none⟩ else some ⟨b,base+j.toNat,none⟩):=by
     split
     .rfl
     .rw [gQ,bJ,iC,Nat.mul_one]
    unfold execOp
    simp only [bV,exv,Option.map_none,Instr.sliceAt,Instr.slice,Sem.run_bind,run_underlying hu w,Result.andThen_ok,Sem.run_pure,run_sizeOf fP] at hr |-
    simp only [hr,Result.andThen_ok,cD,qZ,sW]
   .by_cases Yt:c=j.toNat
    .rw [if_pos Yt];unfold nW;exact if_pos ⟨rfl,by omega,.inr rfl⟩
    .rw [if_neg Yt];unfold nW;exact if_pos ⟨rfl,by omega,.inr rfl⟩
   .intro m hm
    by_cases Yt:c=j.toNat
    .rw [Yt,Nat.sub_self] at hm;cases hm
    .rw [if_neg Yt] at hm
     obtain ⟨m',rfl⟩:∃ m,c=m+1:=⟨c-1,by omega⟩
     exact eV hm
   .by_cases Yt:c=j.toNat
    .refine ⟨b,base,c-j.toNat,by rw [hlen,if_pos Yt],cL,by omega,fun i u hi=>?_⟩
     have:h.toNat-j.toNat=0:=by omega
     rw [this] at hi
     simp at hi
    .refine ⟨b,base+j.toNat,c-j.toNat,by rw [hlen,if_neg Yt],cL,by omega,fun i u hi=>?_⟩
     rw [Nat.add_assoc]
     apply gK
     simp only [List.map_take,List.map_drop,List.getElem?_take] at hi
     split at hi
     .rwa [List.getElem?_drop] at hi
     .cases hi
 intro K Q hK
 unfold Oper.wp
 rw [gJ,Oper.upon_value]
 refine hK (V.aZ lab y) y w (bA.cC hf lab (dF _) (by omega) y) ?_ ?_
 .simp [den,bA.aZ,Di]
 .refine hT.step (N:=fun m=>if m=lab then some (.iT k ((xs.drop j.toNat).take (h.toNat-j.toNat))) else none) (bA.cC hf lab (dF _) (by omega) y).1 (fun m C hm=>?_) (fun m C hm=>?_) (fun m C q hm hq=>?_) (fun m C m' C' q dJ hm jZ Dl _=>?_) (dF _) (fun _ _ _=>rfl) rfl rfl rfl
  .unfold eQ bK.fA at hm
   simp only [gC,oR,look] at hm
   by_cases e:m=lab
   .subst e
    left
    simpa using hm
   .right
    refine ⟨if_neg e,?_⟩
    have:Nat.beq lab m=false:=by
     cases nC:Nat.beq lab m with
     | false=>rfl
     | true=>exact absurd (cM nC).symm e
    simpa [this] using hm
  .split at hm
   .rename_i e
    subst e
    cases hm
    exact ⟨_,rfl,y,by simp [bA.aZ],hy4⟩
   .cases hm
  .split at hm
   .rename_i e
    subst e
    cases hm
    refine .inr (.inr ⟨rfl,fun l2 B2 hn2 vJ Dl nC=>?_⟩)
    simp only [SB.aT,bA.aZ,if_pos,mZ] at hq
    have YU:=hy3 q hq
    have dJ:l2≠l:=fun e=>by subst e;rw [aO _ _ hB] at vJ;cases vJ;cases Dl
    exact hT.jI l2 B2 l _ q dJ vJ (aO _ _ hB) Dl nC (by simp [SB.aT,hσ,YU])
   .cases hm
  .split at hm
   .cases hm;cases Dl
   .cases hm
def Hi (Γ:Env) (g:Nat->Option SV) (T:bB) (t:TypeId) (x:Operand) (lo hi mx:Option Operand) (lab:Nat):Option bK:=
 match ev Γ g x,Γ.ty t,lo,hi,mx with
 | some (.iS l off),some ti,none,none,none=>match ti.desc with
   | .array n el=>match Γ.ty el,T l,Nat.beq off 0 with
     | some te,some (.iT k xs),true=>match Nat.beq te.size 1,Nat.blt 0 n with
       | true,true=>some { bO:=[n<=xs.length],val:=.iA lab n,new:=[.iT k (xs.take n)] }
       | _,_=>none
     | _,_,_=>none
   | _=>none
 | _,_,_,_,_=>none
theorem Pz (aW:cA P Γ) (ht:cF V g a) (hg:bP Γ V) {T':bB} (aO:∀ l B,T' l=some B->T l=some B) (hT:aD w0 M V T w) {t:TypeId} {x:Operand} {lo hi mx:Option Operand} (bV:o.op = .slice t x lo hi mx) {lab:Nat} (hf:V.fresh lab)
 (he:Hi Γ g T' t x lo hi mx lab=some e) (ho:∀ q∈e.bO,q):kM P w0 M V T lab e o a w:=by
 unfold Hi at he
 split at he
 case h_2=>cases he
 rename_i l off ti hx dX
 split at he
 case h_2=>cases he
 rename_i n el hd
 split at he
 case h_2=>cases he
 rename_i te k xs eD hB sW
 split at he
 case h_2=>cases he
 rename_i iC Md
 have iC:=cM iC
 have sW:=cM sW
 subst sW
 have Md:0<n:=by simpa [Nat.blt_eq] using Md
 simp only [aV] at he
 subst he
 have hb:n<=xs.length:=ho _ (by simp)
 have ex:=bH ht hg hx
 obtain ⟨cs,hc,v,hσ,bQ⟩:=hT.ok l _ (aO l _ hB)
 simp only [SB.cells,aV] at hc
 subst hc
 simp only [den,hσ] at ex
 rcases bQ with ⟨_,rfl⟩ | ⟨b,base,c,rfl,cL,hle,gK⟩
 .simp at hb;omega
 have ex:Value.pointer (some (⟨b,base,none⟩:Addr))=a.eval x:=by
  have e0:(⟨b,base,none⟩:Addr).add 0=⟨b,base,none⟩:=by simp [Addr.add]
  rw [<- e0];simpa using ex
 have hu:=(aW t ti dX).1
 rw [hd] at hu
 obtain ⟨_,i,z,fP,cD,_⟩:=aW el te eD
 have hr:=eP (P:=P) (w:=w) (a:=a) false n n (lo:=none) (hi:=none) (mx:=none) (m:=(n:Int)) (h:=(n:Int)) (k:=((0:Nat):Int)) (.inl ⟨rfl,rfl⟩) (.inl ⟨rfl,rfl⟩) (.inl ⟨rfl,rfl⟩) rfl (by omega)
 have hml:(xs.take n).length=n:=by rw [List.length_take];omega
 intro K Q hK
 unfold Oper.wp
 have gJ:(execOp a.eval o).run P w = .ok (.value (.slice (some ⟨b,base,none⟩) n n)) w:=by
  unfold execOp
  simp only [Option.map_none] at hr
  simp only [bV,<- ex,Option.map_none,Instr.sliceAt,Sem.run_bind,run_underlying hu w,Result.andThen_ok,Instr.sureAddr,Sem.run_pure,hr,run_sizeOf fP,qZ,Nat.sub_zero,Nat.zero_mul]
  have dJ:¬ n=0:=by omega
  simp [dJ,Addr.add]
 rw [gJ,Oper.upon_value]
 refine hK (V.aZ lab (.slice (some ⟨b,base,none⟩) n n)) _ w (bA.cC hf lab (dF _) (by omega) _) ?_ ?_
 .simp only [den,bA.aZ,if_pos,mZ]
  unfold nW
  exact if_pos ⟨rfl,dF n,.inr rfl⟩
 .refine hT.step (N:=fun m=>if m=lab then some (.iT k (xs.take n)) else none) (bA.cC hf lab (dF _) (by omega) _).1 (fun m C hm=>?_) (fun m C hm=>?_) (fun m C q hm hq=>?_) (fun m C m' C' q dJ hm jZ Dl _=>?_) (dF _) (fun _ _ _=>rfl) rfl rfl rfl
  .unfold eQ bK.fA at hm
   simp only [gC,oR,look] at hm
   by_cases e:m=lab
   .subst e
    left
    simpa using hm
   .right
    refine ⟨if_neg e,?_⟩
    have:Nat.beq lab m=false:=by
     cases nC:Nat.beq lab m with
     | false=>rfl
     | true=>exact absurd (cM nC).symm e
    simpa [this] using hm
  .split at hm
   .rename_i e
    subst e
    cases hm
    refine ⟨_,rfl,.slice (some ⟨b,base,none⟩) n n,by simp [bA.aZ],.inr ⟨b,base,n,by rw [hml],cL,by rw [hml];exact dF n,fun i u hi=>?_⟩⟩
    apply gK
    rw [List.map_take,List.getElem?_take] at hi
    split at hi
    .exact hi
    .cases hi
   .cases hm
  .split at hm
   .rename_i e
    subst e
    cases hm
    refine .inr (.inr ⟨rfl,fun l2 B2 hn2 vJ Dl nC=>?_⟩)
    simp only [SB.aT,bA.aZ,if_pos,mZ] at hq
    have YU:=eV hq
    have dJ:l2≠l:=fun e=>by subst e;rw [aO _ _ hB] at vJ;cases vJ;cases Dl
    have hqb:gX (.slice (some ⟨b,base,none⟩) xs.length c)=some q:=by
     obtain ⟨m',rfl⟩:∃ m,c=m+1:=⟨c-1,by omega⟩
     exact YU
    exact hT.jI l2 B2 l _ q dJ vJ (aO _ _ hB) Dl nC (by simp [SB.aT,hσ,hqb])
   .cases hm
  .split at hm
   .cases hm;cases Dl
   .cases hm
end Fm
section Fm
variable {P:Program} {Γ:Env} {V:bA} {w w0:World} {M:Nat->Prop} {T:bB} {g:Nat->Option SV} {a:Act} {o:Oper} {e:bK}
def sI (Γ:Env) (g:Nat->Option SV) (t:TypeId) (x y:Operand) (lab:Nat):Option bK:=
 match ev Γ g x,ev Γ g y,Γ.ty t with
 | some (.int sx _ n),some (.int sy _ c),some ti=>match ti.desc with
   | .slice el=>match Γ.ty el with
     | some te=>match qX (sx&&sy) (0<=n/\n<=c/\(te.bytes:Int)*c<=2^48/\c<2^63) with
       | some ob=>match te.zero,Nat.beq te.size 1 with
         | [.int _ k z],true=>match sx&&sy with
           | true=>some { bO:=ob,val:=.aG lab true 0 n.toNat c.toNat,new:=[.own (List.replicate c.toNat (.int true k z)) el] }
           | false=>some { bO:=ob,val:=.aG lab sx 0 n.toNat c.toNat,new:=[.ints k (List.replicate c.toNat z) el] }
         | _,_=>none
       | none=>none
     | none=>none
   | _=>none
 | _,_,_=>none
theorem qS {n:Int} (h1 : -(2^63)<=n) (h2:n<2^63):IntKind.i64.wrap n=n:=by
 have e:IntKind.i64.wrap n=if (n%2^64:Int)>=2^63 then n%2^64-2^64 else n%2^64:=by
  simp [IntKind.wrap,IntKind.bits,IntKind.signed]
 rw [e]
 split <;> omega
theorem vB {t el:TypeId} {i:TypeInfo} {u:Value} {zv:Value} {kx ky:IntKind} {n c:Int} (hu:P.underlying t=some (.slice el)) (hi:P.info? el=some i) (hz:i.zero=some zv) (Cc:zv.cells = #[u]) (hs:i.size=1)
 (h:0<=n/\n<=c/\(i.bytes:Int)*c<=2^48/\c<2^63) :
 (Instr.makeSlice t (.int kx n) (.int ky c)).run P w = .ok (.slice (some ⟨w.heap.size,0,none⟩) n.toNat c.toNat) (w.alloc (.cells (List.replicate c.toNat (u)).toArray el)):=by
 obtain ⟨h1,h2,h3,h4⟩:=h
 have en:IntKind.i64.wrap n=n:=qS (by omega) (by omega)
 have ec:IntKind.i64.wrap c=c:=qS (by omega) (by omega)
 have dX:(typeInfo el).run P w = .ok i w:=by simp [typeInfo,hi]
 have bY:((Array.range (c.toNat*1)).map fun j=>(#[u]:Array Value)[j%(#[u]:Array Value).size]!)=(List.replicate c.toNat (u)).toArray:=by
  apply Array.ext'
  simp only [Nat.mul_one,Array.toList_map,Array.toList_range]
  apply List.ext_getElem
  .simp
  .intro j h1 h2
   simp [Nat.mod_one]
 have Jy:(c<0||(i.bytes:Int)*c>2^48||n<0||n>c)=false:=by simp;omega
 unfold Instr.makeSlice
 simp only [Sem.run_bind,run_underlying hu w,Result.andThen_ok,asInt,asIntOf,Sem.run_pure,dX,en,ec,Jy,Bool.false_eq_true,if_false,run_askRoom,run_sizeOf hi,hs]
 by_cases yS:c.toNat*1=0
 .have:c.toNat=0:=by omega
  simp [this,newRow,show Array.range 0 = #[] from rfl]
 .simp only [if_neg yS,Sem.run_bind,dV hi hz,Result.andThen_ok,Sem.run_pure,Cc,bY,newRow,run_newObj,World.alloc_eq]
theorem Db (aW:cA P Γ) (ht:cF V g a) (hg:bP Γ V) (hT:aD w0 M V T w) {t:TypeId} {x y:Operand} (bV:o.op = .makeSlice t x y) {lab:Nat} (hf:V.fresh lab) (he:sI Γ g t x y lab=some e) (ho:∀ q∈e.bO,q):kM P w0 M V T lab e o a w:=by
 unfold sI at he
 split at he
 .rename_i sx kx n sy ky c ti hx hy dX
  split at he
  .rename_i el hd
   split at he
   .rename_i te eD
    split at he
    .rename_i ob rK
     have ex:=bH ht hg hx
     have ey:=bH ht hg hy
     simp only [den,aV] at ex ey
     have hu:=(aW t ti dX).1
     rw [hd] at hu
     obtain ⟨_,i,zv,hi,cD,NX,hz,hzero⟩:=aW el te eD
     split at he
     .rename_i sz k z hzz fX
      have iC:i.size=1:=by rw [cD];exact cM fX
      have Cc:zv.cells = #[.int k z]:=by
       have:=hzero V
       rw [hzz] at this
       simp only [aI,den,mZ,gQ,aV] at this
       rw [<- Array.toList_inj,<- this]
      have aTe:∀ q∈ob,q:=by split at he <;> (cases he;exact ho)
      have hb:=gE rK aTe
      rw [<- NX] at hb
      have dY:=vB (P:=P) (w:=w) (kx:=kx) (ky:=ky) hu hi hz Cc iC hb
      have aOn:(execOp a.eval o).run P w = .ok (.value (.slice (some ⟨w.heap.size,0,none⟩) n.toNat c.toNat)) (w.alloc (.cells (List.replicate c.toNat (Value.int k z)).toArray el)):=by
       unfold execOp
       simp only [bV,<- ex,<- ey,Sem.run_bind,dY,Result.andThen_ok,Sem.run_pure]
      intro K Q hK
      unfold Oper.wp
      rw [aOn,Oper.upon_value]
      split at he
      .cases he
       have hc:aI V (List.replicate c.toNat (.int true k z))=some (List.replicate c.toNat (Value.int k z)):=by
        generalize c.toNat=m
        induction m with
        | zero=>simp [aI]
        | succ m ih=>simp [List.replicate_succ,aI,den,ih]
       exact hK _ _ _ (bA.kQ hf lab (dF _) (by omega) _) (by simp [den,bA.put]) (hT.alloc hf (B:=.own _ el) (.inl rfl) hc _ _)
      .cases he
       exact hK _ _ _ (bA.kQ hf lab (dF _) (by omega) _) (by simp [den,bA.put]) (hT.alloc hf (B:=.ints k _ el) (.inr (.inl rfl)) (by simp [SB.cells]) _ _)
     .cases he
    .cases he
   .cases he
  .cases he
 .cases he
theorem Hw (vs:List Value):∀ (cells:Array Value) (off j0:Nat),off+j0+vs.length<=cells.size ->
 ((vs.zipIdx j0).foldl (fun cs (p:Value × Nat)=>cs.setIfInBounds (off+p.2) p.1) cells).toList=cells.toList.take (off+j0)++vs++cells.toList.drop (off+j0+vs.length):=by
 induction vs with
 | nil=>intro cells off j0 _;simp
 | cons v vs ih=>
   intro cells off j0 h
   simp only [List.length_cons] at h
   simp only [List.zipIdx_cons,List.foldl_cons]
   rw [ih (cells.setIfInBounds (off+j0) v) off (j0+1) (by simp;omega)]
   have e:=list_seg_step cells.toList (off+j0) v vs (by simp;omega)
   simpa [Array.toList_setIfInBounds,Nat.add_assoc] using e
def Ad (T:bB) (place:Nat->Option (Nat × Nat)) (cells:List SV):List (Nat × SV)->Option (List SV)
 | []=>some cells
 | (i,v)::rest=>match place i with
   | none=>none
   | some (off,size)=>match Nat.beq (cellsOf v).length size,zV T (cellsOf v),Nat.ble (off+(cellsOf v).length) cells.length with
     | true,true,true=>Ad T place (cells.take off++cellsOf v++cells.drop (off+(cellsOf v).length)) rest
     | _,_,_=>none
theorem uU {T':bB} (aO:∀ l B,T' l=some B->T l=some B) (hT:aD w0 M V T w) {place:Nat->Option (Nat × Nat)}:∀ {parts:List (Nat × SV)} {eI:List (Nat × Value)} {cells:List SV} {cs:List Value} {r:List SV},
 Ad T' place cells parts=some r->aI V cells=some cs->eI.map (·.1)=parts.map (·.1)->aI V (parts.map (·.2))=some (eI.map (·.2)) ->
 ∃ rs,Instr.fill place cs.toArray eI=some rs/\aI V r=some rs.toList
 | [],eI,cells,cs,r,h,hc,h1,_=>by
   simp only [Ad,aV] at h
   subst h
   have:eI=[]:=by simpa using h1
   subst this
   exact ⟨cs.toArray,rfl,by simpa using hc⟩
 | (i,v)::rest,eI,cells,cs,r,h,hc,h1,h2=>by
   obtain ⟨⟨i',x⟩,aWf,rfl⟩:∃ p l,eI=p::l:=by cases eI with | nil=>simp at h1 | cons p l=>exact ⟨p,l,rfl⟩
   simp only [List.map_cons,List.cons.injEq] at h1
   obtain ⟨rfl,h1⟩:=h1
   simp only [List.map_cons,aI,dC,gL] at h2
   obtain ⟨x',hx,ys,hy,h2⟩:=h2
   simp only [List.cons.injEq] at h2
   obtain ⟨rfl,rfl⟩:=h2
   simp only [Ad] at h
   split at h
   .cases h
   .rename_i off size hp
    split at h
    .rename_i fX iV hle
     have aSx:=cM fX
     have PI:=kJ hle
     have bY:=qE aO hT iV hx
     have hlen:=bG bY
     have aWh:=bG hc
     have AG:=cI (cI (dZ off hc) bY) (iM (off+(cellsOf v).length) hc)
     obtain ⟨rs,Un,hd⟩:=uU aO hT h AG h1 hy
     refine ⟨rs,?_,hd⟩
     have nE:x'.cells.size=(cellsOf v).length:=by rw [<- hlen];simp
     have Jy:(x'.cells.size≠size||off+x'.cells.size>cs.toArray.size)=false:=by
      simp [nE,aSx];omega
     have hsp:=Hw x'.cells.toList cs.toArray off 0 (by simp;omega)
     have aWg:(x'.cells.zipIdx.foldl (fun cs (p:Value × Nat)=>cs.setIfInBounds (off+p.2) p.1) cs.toArray)=(cs.take off++x'.cells.toList++cs.drop (off+(cellsOf v).length)).toArray:=by
      apply Array.ext'
      have e:x'.cells.zipIdx.foldl (fun cs (p:Value × Nat)=>cs.setIfInBounds (off+p.2) p.1) cs.toArray=(x'.cells.toList.zipIdx 0).foldl (fun cs (p:Value × Nat)=>cs.setIfInBounds (off+p.2) p.1) cs.toArray:=by
       rw [<- Array.foldl_toList,Array.toList_zipIdx]
      rw [e,hsp]
      simp [nE]
     unfold Instr.fill
     simp only [hp,Jy,Bool.false_eq_true,if_false]
     rw [<- Un]
     congr 1
    .cases h
end Fm
section Fm
variable {P:Program} {Γ:Env} {V:bA} {w w0:World} {M:Nat->Prop} {T:bB} {g:Nat->Option SV} {a:Act} {o:Oper} {e:bK}
def Ux (T:bB) (k:IntKind):SV->Option (List Prop × List Int)
 | .aG l s off len _=>match T l with
   | some (.ints k2 xs _)=>match decide (k=k2) with
     | true=>some ([off+len<=xs.length],(xs.drop off).take len)
     | false=>none
   | some (.nA k2 xs)=>match decide (k=k2) with
     | true=>some ([off+len<=xs.length],(xs.drop off).take len)
     | false=>none
   | some B=>match Qt B s off len with
     | some (ob,r)=>(cR k r).map fun ns=>(ob,ns)
     | none=>none
   | none=>none
 | .buf l=>match T l with
   | some (.dL k2 xs _)=>match decide (k=k2) with
     | true=>some ([],xs)
     | false=>none
   | _=>none
 | .lS l lo hi=>match T l with
   | some (.dL k2 xs _)=>match decide (k=k2) with
     | true=>some ([lo<=hi/\hi<=xs.length],(xs.drop lo).take (hi-lo))
     | false=>none
   | _=>none
 | .raw (.slice none 0 0)=>some ([],[])
 | .iA l _=>match T l with
   | some (.iT k2 xs)=>match decide (k=k2) with
     | true=>some ([],xs)
     | false=>none
   | _=>none
 | _=>none
def Sa (w:World) (x:Value) (cs:List Value):Prop:=
 (x = .slice none 0 0/\cs=[])\/∃ ad c,x = .slice (some ad) cs.length c/\∀ (j:Nat) (u:Value),cs[j]?=some u->w.cell? (ad.add j)=some u
theorem tM {k:IntKind} {v:SV} {x:Value} {ob:List Prop} {ys:List Int} (hT:aD w0 M V T w) (hv:den V v=some x) (h:Ux T k v=some (ob,ys)) (ho:∀ q∈ob,q) :
 Sa w x (ys.map (Value.int k)):=by
 have rd:∀ (l:Nat) (B:SB) (s:Bool) (off len c:Nat) (r:List SV) (p:Nat × Nat),T l=some B->V.β l=some p->Qt B s off len=some (ob,r)->aI V r=some (ys.map (Value.int k)) ->
  Sa w (.slice (some ⟨p.1,p.2+off,none⟩) len c) (ys.map (Value.int k)):=by
  intro l B s off len c r p hB hβ hr hd
  obtain ⟨xs,h1,h2,h3⟩:=oD (hT.ok l B hB) (b:=p.1) (o:=p.2) hβ hr ho
  rw [hd] at h1
  cases h1
  exact .inr ⟨_,c,by rw [h2],fun j u hj=>by rw [bJ];exact h3 j u hj⟩
 have aJr:∀ (l:Nat) (B:SB) (xs:List Int) (off len c:Nat) (p:Nat × Nat),(B = .ints k xs (match B with | .ints _ _ ty=>ty | _=>0)\/B = .nA k xs)->T l=some B->V.β l=some p->off+len<=xs.length->ys=(xs.drop off).take len ->
  Sa w (.slice (some ⟨p.1,p.2+off,none⟩) len c) (ys.map (Value.int k)):=by
  intro l B xs off len c p hBk hB hβ hle pE
  have hr:Qt B false off len=some ([off+len<=xs.length],(List.range len).map fun j=>.int false k (xs.getD (off+j) 0)):=by
   rcases hBk with e | e <;> rw [e] <;> rfl
  obtain ⟨zs,h1,h2,h3⟩:=oD (hT.ok l B hB) (b:=p.1) (o:=p.2) hβ hr (by intro q hq;simp only [List.mem_singleton] at hq;subst hq;exact hle)
  have hd:=fI (V:=V) len (fun j=>.int false k (xs.getD (off+j) 0)) (fun j=>.int k (xs.getD (off+j) 0)) (fun j _=>rfl)
  rw [hd] at h1
  cases h1
  have e:(List.range len).map (fun j=>Value.int k (xs.getD (off+j) 0))=ys.map (Value.int k):=by
   subst pE
   apply List.ext_getElem
   .simp;omega
   .intro j h4 h5
    simp only [List.length_map,List.length_range] at h4
    have h6:off+j<xs.length:=by omega
    simp [gH,h6]
  rw [e] at h3
  have hlen:len=(ys.map (Value.int k)).length:=by rw [<- e];simp
  exact .inr ⟨_,c,by rw [<- hlen],fun j u hj=>by rw [bJ];exact h3 j u hj⟩
 unfold Ux at h
 split at h
 .rename_i l s off len c
  simp only [den,dC] at hv
  obtain ⟨p,hβ,rfl⟩:=hv
  split at h
  .rename_i k2 xs ty hB
   split at h
   .rename_i hd
    have:=jG hd
    subst this
    simp only [aV,Prod.mk.injEq] at h
    obtain ⟨rfl,rfl⟩:=h
    exact aJr l _ xs off len c p (.inl rfl) hB hβ (ho _ (by simp)) rfl
   .cases h
  .rename_i k2 xs hB
   split at h
   .rename_i hd
    have:=jG hd
    subst this
    simp only [aV,Prod.mk.injEq] at h
    obtain ⟨rfl,rfl⟩:=h
    exact aJr l _ xs off len c p (.inr rfl) hB hβ (ho _ (by simp)) rfl
   .cases h
  .rename_i B _ _ hB
   split at h
   .rename_i ob' r hr
    simp only [dC,Prod.mk.injEq] at h
    obtain ⟨ns,YX,rfl,rfl⟩:=h
    exact rd l B s off len c r p hB hβ hr (cQ YX)
   .cases h
  .cases h
 .rename_i l
  split at h
  .rename_i k2 xs ty hB
   split at h
   .rename_i hd
    have:=jG hd
    subst this
    simp only [aV,Prod.mk.injEq] at h
    obtain ⟨rfl,rfl⟩:=h
    obtain ⟨cs,hc,u,hσ,bQ⟩:=hT.ok l _ hB
    simp only [SB.cells,aV] at hc
    subst hc
    simp only [den,hσ,aV] at hv
    subst hv
    rcases bQ.1.2 with ⟨rfl,h0⟩ | ⟨gb,cap,cur,rfl,_,hh,_,_,_,dK⟩
    .have:xs=[]:=List.eq_nil_of_length_eq_zero h0
     subst this
     exact .inl ⟨rfl,rfl⟩
    .refine .inr ⟨⟨gb,0,none⟩,cap,by simp,fun j u hj=>?_⟩
     rw [bJ,cell_of_row w gb _ _ _ _ hh]
     rw [<- dK,List.getElem?_take] at hj
     split at hj
     .simpa using hj
     .cases hj
   .cases h
  .cases h
 .rename_i l lo hi
  split at h
  .rename_i k2 xs ty hB
   split at h
   .rename_i hd
    have:=jG hd
    subst this
    simp only [aV,Prod.mk.injEq] at h
    obtain ⟨rfl,rfl⟩:=h
    have hb:lo<=hi/\hi<=xs.length:=ho _ (by simp)
    obtain ⟨cs,hc,u,hσ,bQ⟩:=hT.ok l _ hB
    simp only [SB.cells,aV] at hc
    subst hc
    simp only [den,hσ] at hv
    rcases bQ.1.2 with ⟨rfl,h0⟩ | ⟨gb,cap,cur,rfl,_,hh,hle,_,_,dK⟩
    .have:xs=[]:=List.eq_nil_of_length_eq_zero h0
     subst this
     simp only [aV] at hv
     have e1:lo=0/\hi=0:=by simp at hb;omega
     obtain ⟨rfl,rfl⟩:=e1
     left
     refine ⟨by rw [<- hv];simp,by simp⟩
    .simp only [aV] at hv
     right
     have hlen:((((xs.drop lo).take (hi-lo)).map (Value.int k)).length)=hi-lo:=by simp;omega
     by_cases qV:cap=lo
     .rw [if_pos qV] at hv
      have h0:hi-lo=0:=by omega
      refine ⟨_,cap-lo,by rw [hlen];exact hv.symm,fun j u hj=>?_⟩
      rw [h0] at hj
      simp at hj
     .rw [if_neg qV] at hv
      refine ⟨_,cap-lo,by rw [hlen];exact hv.symm,fun j u hj=>?_⟩
      show w.cell? (((⟨gb,0,none⟩:Addr).add lo).add j)=some u
      rw [bJ,bJ,cell_of_row w gb _ _ _ _ hh]
      have h5:(xs.map (Value.int k))[lo+j]?=some u:=by
       simp only [List.map_take,List.map_drop,List.getElem?_take] at hj
       split at hj
       .rwa [List.getElem?_drop] at hj
       .cases hj
      rw [<- dK,List.getElem?_take] at h5
      split at h5
      .simpa using h5
      .cases h5
   .cases h
  .cases h
 .simp only [aV,Prod.mk.injEq] at h
  obtain ⟨rfl,rfl⟩:=h
  simp only [den,aV] at hv
  exact .inl ⟨hv.symm,rfl⟩
 .rename_i l n
  split at h
  .rename_i k2 xs hB
   split at h
   .rename_i hd
    have:=jG hd
    subst this
    simp only [aV,Prod.mk.injEq] at h
    obtain ⟨rfl,rfl⟩:=h
    obtain ⟨cs,hc,u,hσ,bQ⟩:=hT.ok l _ hB
    simp only [SB.cells,aV] at hc
    subst hc
    simp only [den,gL] at hv
    obtain ⟨u',gD,hv⟩:=hv
    rw [hσ] at gD
    cases gD
    obtain ⟨rfl,_⟩:=jR hv
    rcases bQ with ⟨⟨ad,rfl⟩,rfl⟩ | ⟨b,o,c,rfl,_,_,hh⟩
    .cases ad with
     | none=>exact .inl ⟨rfl,rfl⟩
     | some ad=>exact .inr ⟨ad,0,rfl,fun j u hj=>by simp at hj⟩
    .exact .inr ⟨⟨b,o,none⟩,c,by simp,fun j u hj=>by rw [bJ];exact hh j u hj⟩
   .cases h
  .cases h
 .cases h
end Fm
section Fm
variable {P:Program} {Γ:Env} {V:bA} {w w0:World} {M:Nat->Prop} {T:bB} {g:Nat->Option SV} {a:Act} {o:Oper} {e:bK}
theorem oN {t ty el:TypeId} {i:TypeInfo} {z:Value} {v v' x:Value} {w':World} {n:Nat} {xs news:List Value} (ht:P.underlying t=some (.slice el)) (hi:P.info? el=some i) (hz:i.zero=some z)
 (fD:w.ownsRow 0 el i.size v n xs) {ad:Addr} {m c:Nat} (hx:x = .slice (some ad) m c) (hl:news.length=m*i.size) (Ab:∀ (j:Nat) (u:Value),news[j]?=some u->w.cell? (ad.add j)=some u)
 (h1:∀ u∈news,u.oneCell'=true) (ZC:n+m<=maxLen) (At:(n+m)*i.bytes<=140737488355328)
 (hr:(Builtin.append_ #[t,t] ty #[v,x]).run P w = .ok v' w'):v'.ownBlock=v.ownBlock\/v'.ownBlock=some w.heap.size:=by
 subst hx
 have Ny:n+m<=9223372036854775807:=by simp only [maxLen] at ZC;omega
 rcases fD.2 with ⟨rfl,rfl⟩ | ⟨gb,cap,cur,rfl,_,hg,MV,NW,nU,dK⟩
 .by_cases hm:m=0
  .subst hm
   have hn:news=[]:=List.eq_nil_of_length_eq_zero (by simpa using hl)
   subst hn
   have:(Builtin.append_ #[t,t] ty #[.slice none 0 0,.slice (some ad) 0 c]).run P w = .ok (.slice none 0 0) w:=by
    simp [Builtin.append_,run_underlying ht,sizeOf,typeInfo,hi,Builtin.lenOf,Builtin.firstCells,loadCells,loadCellsFrom]
   rw [this] at hr
   cases hr
   exact .inl rfl
  .rw [run_append_nil (P:=P) w t ty el i z ht hi hz ad m c news hl Ab (by omega) (by omega) (by simp only [Nat.zero_add] at At;omega)] at hr
   cases hr
   exact .inr rfl
 .by_cases tD:n+m<=cap
  .rw [run_append_room (P:=P) w t ty el i ht hi gb n cap cur hg ad m c news hl Ab h1 tD (by rw [hl,nU,<- Nat.add_mul];exact Nat.mul_le_mul_right _ tD)] at hr
   cases hr
   exact .inl rfl
  .have holds:∀ (j:Nat) (u:Value),xs[j]?=some u->w.cell? ((⟨gb,0,none⟩:Addr).add j)=some u:=fun j u hj=>by
    rw [bJ,cell_of_row w gb _ _ _ _ hg]
    rw [<- dK,List.getElem?_take] at hj
    split at hj
    .simpa using hj
    .cases hj
   rw [run_append_grow (P:=P) w t ty el i z ht hi hz ⟨gb,0,none⟩ n cap xs fD.1 holds ad m c news hl Ab (by omega) (by omega) (growslice_fits (by omega) At)] at hr
   cases hr
   exact .inr rfl
theorem qF {k:IntKind} {z:Int} {m:Nat}:∀ x∈(Builtin.zeroCells #[Value.int k z] m).toList,∃ n,x=Value.int k n:=by
 intro x hx
 simp only [Builtin.zeroCells,Array.toList_map,List.mem_map] at hx
 obtain ⟨j,_,rfl⟩:=hx
 refine ⟨z,?_⟩
 have:j%1=0:=Nat.mod_one j
 simp [this]
theorem Ma {k:IntKind} {t ty el:TypeId} {i:TypeInfo} {z0:Int} {z v v' x:Value} {w':World} {n:Nat} {xs news:List Value} (ht:P.underlying t=some (.slice el)) (hi:P.info? el=some i) (hz:i.zero=some z) (Cc:z.cells = #[Value.int k z0])
 (fD:w.ownsRow 0 el i.size v n xs) {ad:Addr} {m c:Nat} (hx:x = .slice (some ad) m c) (hl:news.length=m*i.size) (Ab:∀ (j:Nat) (u:Value),news[j]?=some u->w.cell? (ad.add j)=some u)
 (h1:∀ u∈news,u.oneCell'=true) (ZC:n+m<=maxLen) (At:(n+m)*i.bytes<=140737488355328) (hI:gO w k v) (hn:∀ u∈news,∃ n,u=Value.int k n)
 (hr:(Builtin.append_ #[t,t] ty #[v,x]).run P w = .ok v' w'):gO w' k v':=by
 subst hx
 have Ny:n+m<=9223372036854775807:=by simp only [maxLen] at ZC;omega
 rcases fD.2 with ⟨rfl,rfl⟩ | ⟨gb,cap,cur,rfl,_,hg,MV,NW,nU,dK⟩
 .by_cases hm:m=0
  .subst hm
   have hn:news=[]:=List.eq_nil_of_length_eq_zero (by simpa using hl)
   subst hn
   have:(Builtin.append_ #[t,t] ty #[.slice none 0 0,.slice (some ad) 0 c]).run P w = .ok (.slice none 0 0) w:=by
    simp [Builtin.append_,run_underlying ht,sizeOf,typeInfo,hi,Builtin.lenOf,Builtin.firstCells,loadCells,loadCellsFrom]
   rw [this] at hr
   cases hr
   exact gO.nil rfl
  .rw [run_append_nil (P:=P) w t ty el i z ht hi hz ad m c news hl Ab (by omega) (by omega) (by simp only [Nat.zero_add] at At;omega)] at hr
   cases hr
   intro b hb
   cases hb
   refine ⟨_,_,_,heap_alloc_new w.drew _,fun q hq=>?_⟩
   simp only [Array.toList_append,List.mem_append] at hq
   rcases hq with hq | hq
   .exact hn q hq
   .rw [Cc] at hq;exact qF q hq
 .obtain ⟨aCm,ty2,p2,wP,kB⟩:=hI gb rfl
  rw [hg] at wP
  cases wP
  by_cases tD:n+m<=cap
  .rw [run_append_room (P:=P) w t ty el i ht hi gb n cap cur hg ad m c news hl Ab h1 tD (by rw [hl,nU,<- Nat.add_mul];exact Nat.mul_le_mul_right _ tD)] at hr
   cases hr
   intro b hb
   cases hb
   refine ⟨_,_,_,setRow_heap w gb cur _ el (0,0) hg,fun q hq=>?_⟩
   simp only [List.mem_append] at hq
   rcases hq with (hq | hq) | hq
   .exact kB q (List.mem_of_mem_take hq)
   .exact hn q hq
   .exact kB q (List.mem_of_mem_drop hq)
  .have holds:∀ (j:Nat) (u:Value),xs[j]?=some u->w.cell? ((⟨gb,0,none⟩:Addr).add j)=some u:=fun j u hj=>by
    rw [bJ,cell_of_row w gb _ _ _ _ hg]
    rw [<- dK,List.getElem?_take] at hj
    split at hj
    .simpa using hj
    .cases hj
   rw [run_append_grow (P:=P) w t ty el i z ht hi hz ⟨gb,0,none⟩ n cap xs fD.1 holds ad m c news hl Ab (by omega) (by omega) (growslice_fits (by omega) At)] at hr
   cases hr
   intro b hb
   cases hb
   refine ⟨_,_,_,heap_alloc_new w.drew _,fun q hq=>?_⟩
   simp only [Array.toList_append,List.mem_append] at hq
   rcases hq with (hq | hq) | hq
   .rw [<- dK] at hq
    exact kB q (List.mem_of_mem_take hq)
   .exact hn q hq
   .rw [Cc] at hq;exact qF q hq
def Ee (T:bB) (k:IntKind) (el:TypeId):SV->Option (Option Nat × List Prop × List Int)
 | .raw (.slice none 0 0)=>some (none,[],[])
 | .buf l=>match T l with
   | some (.dL k2 xs ty)=>match decide (k2=k),Nat.beq ty el with
     | true,true=>some (some l,[],xs)
     | _,_=>none
   | _=>none
 | .aG l s 0 len cap=>match T l with
   | some (.ints k2 xs ty)=>match decide (k2=k),Nat.beq ty el with
     | true,true=>some (some l,[cap=xs.length/\len<=cap/\cap<=9223372036854775807],xs.take len)
     | _,_=>none
   | some (.own cells ty)=>match s,cR k cells,Nat.beq ty el with
     | true,some xs,true=>match Nat.beq cap cells.length,Nat.ble len cap,Nat.ble cap 9223372036854775807 with
       | true,true,true=>some (some l,[],xs.take len)
       | _,_,_=>none
     | _,_,_=>none
   | _=>none
 | _=>none
theorem Lh {k:IntKind} {el:TypeId} {v:SV} {x:Value} {lo:Option Nat} {ob:List Prop} {xs:List Int} (hT:aD w0 M V T w) (hv:den V v=some x) (h:Ee T k el v=some (lo,ob,xs)) (ho:∀ q∈ob,q) :
 w.ownsRow 0 el 1 x xs.length (xs.map (Value.int k))/\(lo=none->x.ownBlock=none)/\∀ l,lo=some l->∃ B,T l=some B/\B.owned=true/\∀ n,x.ownBlock=some n->B.aT V l=some n:=by
 have full:∀ (l:Nat) (B:SB) (ys:List Int) (len cap:Nat),T l=some B->B.owned=true->V.β l≠none->(∃ b,V.β l=some (b,0)/\B.aT V l=some b/\w.heap[b]?=some (.cells (ys.map (Value.int k)).toArray el (0,0)))->cap=ys.length->len<=cap->cap<=9223372036854775807 ->
  den V (.aG l true 0 len cap)=some x->w.ownsRow 0 el 1 x (ys.take len).length ((ys.take len).map (Value.int k))/\∃ B,T l=some B/\B.owned=true/\∀ n,x.ownBlock=some n->B.aT V l=some n:=by
  intro l B ys len cap hB fD _ ⟨b,hβ,eZ,hh⟩ rM hle It hd
  simp only [den,hβ,gQ,aV,Nat.add_zero] at hd
  subst hd
  have hlen:(ys.take len).length=len:=by simp;omega
  refine ⟨⟨by simp,.inr ⟨b,cap,_,by rw [hlen],Nat.zero_le _,hh,by omega,by simp only [maxLen];omega,by simp [rM],by rw [hlen];simp [List.map_take]⟩⟩,B,hB,fD,fun n hn=>?_⟩
  simp only [Value.ownBlock,aV] at hn
  subst hn
  exact eZ
 unfold Ee at h
 split at h
 .simp only [aV,Prod.mk.injEq] at h
  obtain ⟨rfl,rfl,rfl⟩:=h
  simp only [den,aV] at hv
  subst hv
  exact ⟨World.ownsRow_nil w 0 el 1,fun _=>rfl,fun l hl=>(by cases hl)⟩
 .rename_i l
  split at h
  .rename_i k2 ys ty hB
   split at h
   .rename_i h1 h2
    have:=jG h1
    subst this
    have:=cM h2
    subst this
    simp only [aV,Prod.mk.injEq] at h
    obtain ⟨rfl,rfl,rfl⟩:=h
    obtain ⟨cs,hc,u,hσ,bQ⟩:=hT.ok l _ hB
    simp only [SB.cells,aV] at hc
    subst hc
    simp only [den,hσ,aV] at hv
    subst hv
    refine ⟨bQ.1,fun h=>(by cases h),fun l' sP=>?_⟩
    cases sP
    exact ⟨_,hB,rfl,fun n hn=>by simp [SB.aT,hσ,hn]⟩
   .cases h
  .cases h
 .rename_i l s len cap
  have MP:den V (.aG l true 0 len cap)=some x:=hv
  split at h
  .rename_i k2 ys ty hB
   split at h
   .rename_i h1 h2
    have:=jG h1
    subst this
    have:=cM h2
    subst this
    simp only [aV,Prod.mk.injEq] at h
    obtain ⟨rfl,rfl,rfl⟩:=h
    obtain ⟨rM,hle,It⟩:cap=ys.length/\len<=cap/\cap<=9223372036854775807:=ho _ (by simp)
    obtain ⟨cs,hc,b,hβ,hh⟩:=hT.ok l _ hB
    simp only [SB.cells,aV] at hc
    subst hc
    obtain ⟨r1,r2⟩:=full l _ ys len cap hB rfl (by rw [hβ];simp) ⟨b,hβ,by simp [SB.aT,hβ],hh⟩ rM hle It MP
    exact ⟨r1,fun h=>(by cases h),fun l' sP=>(by cases sP;exact r2)⟩
   .cases h
  .rename_i cells ty hB
   split at h
   .rename_i ys pE h2
    have:=cM h2
    subst this
    split at h
    .rename_i h3 h4 h5
     simp only [aV,Prod.mk.injEq] at h
     obtain ⟨rfl,rfl,rfl⟩:=h
     obtain ⟨cs,hc,b,hβ,hh⟩:=hT.ok l _ hB
     have wP:=cQ (V:=V) pE
     rw [show SB.cells V (.own cells ty)=aI V cells from rfl,wP] at hc
     cases hc
     have vJ:=bG wP
     obtain ⟨r1,r2⟩:=full l _ ys len cap hB rfl (by rw [hβ];simp) ⟨b,hβ,by simp [SB.aT,hβ],hh⟩ (by rw [cM h3];simpa using vJ.symm) (kJ h4) (kJ h5) MP
     exact ⟨r1,fun h=>(by cases h),fun l' sP=>(by cases sP;exact r2)⟩
    .cases h
   .cases h
  .cases h
 .cases h
theorem sL {k:IntKind} {el:TypeId} {v:SV} {x:Value} {lo:Option Nat} {ob:List Prop} {xs:List Int} (hT:aD w0 M V T w) (hv:den V v=some x) (h:Ee T k el v=some (lo,ob,xs)):gO w k x:=by
 have full:∀ (l:Nat) (ys:List Int) (s:Bool) (len cap b:Nat),V.β l=some (b,0)->w.heap[b]?=some (.cells (ys.map (Value.int k)).toArray el (0,0))->den V (.aG l s 0 len cap)=some x->gO w k x:=by
  intro l ys s len cap b hβ hh hd
  simp only [den,hβ,gQ,aV,Nat.add_zero] at hd
  subst hd
  intro b' hb
  cases hb
  refine ⟨_,_,_,hh,fun q hq=>?_⟩
  obtain ⟨n,_,rfl⟩:=List.mem_map.1 (by simpa using hq)
  exact ⟨n,rfl⟩
 unfold Ee at h
 split at h
 .simp only [den,aV] at hv
  subst hv
  exact gO.nil rfl
 .rename_i l
  split at h
  .rename_i k2 ys ty hB
   split at h
   .rename_i h1 h2
    have:=jG h1
    subst this
    obtain ⟨cs,hc,u,hσ,bQ⟩:=hT.ok l _ hB
    simp only [den,hσ,aV] at hv
    subst hv
    exact bQ.2
   .cases h
  .cases h
 .rename_i l s len cap
  split at h
  .rename_i k2 ys ty hB
   split at h
   .rename_i h1 h2
    have:=jG h1
    subst this
    have:=cM h2
    subst this
    obtain ⟨cs,hc,b,hβ,hh⟩:=hT.ok l _ hB
    simp only [SB.cells,aV] at hc
    subst hc
    exact full l ys s len cap b hβ hh hv
   .cases h
  .rename_i cells ty hB
   split at h
   .rename_i ys pE h2
    have:=cM h2
    subst this
    obtain ⟨cs,hc,b,hβ,hh⟩:=hT.ok l _ hB
    have wP:=cQ (V:=V) pE
    rw [show SB.cells V (.own cells ty)=aI V cells from rfl,wP] at hc
    cases hc
    exact full l ys _ len cap b hβ hh hv
   .cases h
  .cases h
 .cases h
def gY:Option Nat->List (Nat × SB)
 | some l=>[(l,.gone)]
 | none=>[]
theorem aD.qR (h:aD w0 M V T w) {lab:Nat} (hf:V.fresh lab) {w':World} {v v' u':Value} {lo:Option Nat} {B:SB}
 (mV:okB (V.aZ lab u') w' lab B) (Ie:∀ n,B.aT (V.aZ lab u') lab=some n->v'.ownBlock=some n) (sQ:w.grownBy w' v.ownBlock)
 (eZ:v'.ownBlock=v.ownBlock\/v'.ownBlock=some w.heap.size) (jK:lo=none->v.ownBlock=none)
 (Ii:∀ l,lo=some l->∃ B,T l=some B/\B.owned=true/\∀ n,v.ownBlock=some n->B.aT V l=some n) (rv:SV) (ob:List Prop) :
 aD w0 M (V.aZ lab u') (eQ T lab { bO:=ob,val:=rv,new:=[B],wr:=gY lo }) w':=by
 have bT:=bA.cC hf lab (dF _) (by omega) u'
 have lN:∀ l,lo=some l->l≠lab:=by
  intro l hl e
  subst e
  obtain ⟨B1,h1,h2,_⟩:=Ii l hl
  rcases h.known h1 (by rintro rfl;cases h2) with h3 | h3
  .exact h3 (hf l (dF _) (by omega)).1
  .exact h3 (hf l (dF _) (by omega)).2
 have Jv:∀ n,v.ownBlock=some n->∃ l B0,lo=some l/\T l=some B0/\B0.owned=true/\B0.aT V l=some n:=by
  intro n hn
  cases jH:lo with
  | none=>rw [jK jH] at hn;cases hn
  | some l=>obtain ⟨B1,h1,h2,h3⟩:=Ii l jH;exact ⟨l,B1,rfl,h1,h2,h3 n hn⟩
 refine h.step (N:=fun k=>if k=lab then some B else if lo=some k then some .gone else none) bT.1 (fun k C hk=>?_) (fun k C hk=>?_) (fun k C n hk hb=>?_) (fun k C k' C' n dJ hk iH fD hb=>?_) sQ.size (fun n hn hx=>?_) sQ.os sQ.tape sQ.output
 .have fK:look k (gY lo++[(lab,B)])=some C\/(look k (gY lo++[(lab,B)])=none/\T k=some C):=by
   unfold eQ bK.fA at hk
   simp only [gC] at hk
   split at hk
   .rename_i C' hC;cases hk;exact .inl hC
   .rename_i hC;exact .inr ⟨hC,hk⟩
  rw [cB] at fK
  by_cases e:k=lab
  .subst e
   left
   have h0:look k (gY lo)=none:=by
    cases jH:lo with
    | none=>rfl
    | some l=>simp only [gY];rw [aH (lN l jH)];rfl
   rw [h0] at fK
   simp only [aK] at fK
   rcases fK with fK | ⟨fK,_⟩
   .simpa using fK
   .cases fK
  .have h0:look k [(lab,B)]=none:=by rw [aH (fun x=>e x.symm)];rfl
   rw [h0] at fK
   cases jH:lo with
   | none=>
     rw [jH] at fK
     simp only [gY,look] at fK
     rcases fK with fK | ⟨_,fK⟩
     .cases fK
     .right;exact ⟨by simp [e],fK⟩
   | some l=>
     rw [jH] at fK
     simp only [gY] at fK
     by_cases e2:l=k
     .subst e2
      rw [aK] at fK
      rcases fK with fK | ⟨fK,_⟩
      .left;simp only [aV] at fK;subst fK;simp [e]
      .cases fK
     .rw [aH e2] at fK
      simp only [look] at fK
      rcases fK with fK | ⟨_,fK⟩
      .cases fK
      .right;exact ⟨by simp [e,e2],fK⟩
 .by_cases e:k=lab
  .subst e
   simp only [if_true,aV] at hk
   subst hk
   exact mV
  .simp only [e,if_false] at hk
   split at hk
   .cases hk;exact ⟨[],rfl,trivial⟩
   .cases hk
 .by_cases e:k=lab
  .subst e
   simp only [if_true,aV] at hk
   subst hk
   have iD:v'.ownBlock=some n:=Ie n hb
   rcases eZ with nC | nC
   .rw [nC] at iD
    obtain ⟨l,B0,h0,h1,h2,h3⟩:=Jv n iD
    exact .inr (.inl ⟨l,B0,h1,h2,h3,by simp [lN l h0,h0]⟩)
   .rw [nC] at iD;cases iD;exact .inl (dF _)
  .simp only [e,if_false] at hk
   split at hk
   .cases hk;simp [SB.aT] at hb
   .cases hk
 .by_cases e:k=lab
  .subst e
   have e':k'≠k:=fun x=>dJ x.symm
   simp only [e',if_false] at iH
   split at iH
   .cases iH;simp [SB.aT]
   .cases iH
  .simp only [e,if_false] at hk
   split at hk
   .cases hk;cases fD
   .cases hk
 .refine sQ.block n hn fun e=>?_
  obtain ⟨l,B0,h0,h1,h2,h3⟩:=Jv n e.symm
  exact hx l B0 h1 h2 (by simp [lN l h0,h0]) h3
theorem aD.append (h:aD w0 M V T w) {lab:Nat} (hf:V.fresh lab) {w':World} {v v':Value} {lo:Option Nat} {B:SB} {cs:List Value} {el:TypeId} {sz n:Nat}
 (hB:∃ k xs,B = .dL k xs el/\sz=1/\n=xs.length/\gO w' k v') (hc:B.cells V=some cs) (bQ:w'.ownsRow 0 el sz v' n cs) (sQ:w.grownBy w' v.ownBlock)
 (eZ:v'.ownBlock=v.ownBlock\/v'.ownBlock=some w.heap.size) (jK:lo=none->v.ownBlock=none)
 (Ii:∀ l,lo=some l->∃ B,T l=some B/\B.owned=true/\∀ n,v.ownBlock=some n->B.aT V l=some n) (rv:SV) (ob:List Prop) :
 aD w0 M (V.aZ lab v') (eQ T lab { bO:=ob,val:=rv,new:=[B],wr:=gY lo }) w':=by
 have bT:=bA.cC hf lab (dF _) (by omega) v'
 have zM:(V.aZ lab v').σ lab=some v':=by simp [bA.aZ]
 refine h.qR hf ⟨cs,SB.iF bT.1 hc,?_⟩ (fun n hb=>?_) sQ eZ jK Ii rv ob
 .obtain ⟨kk,xs,rfl,rfl,rfl,hI⟩:=hB
  exact ⟨v',zM,bQ,hI⟩
 .obtain ⟨kk,xs,rfl,_⟩:=hB
  simpa [SB.aT,zM] using hb
theorem aD.Hu (h:aD w0 M V T w) {lab:Nat} (hf:V.fresh lab) {w':World} {v':Value} {own:Option Nat} {lo:Option Nat} {cells:List SV} {cs:List Value} {el:TypeId} {sz nn:Nat}
 (hc:aI V cells=some cs) (bQ:w'.ownsRow 0 el sz v' nn cs) (Ir:v' ≠ .slice none 0 0) (sQ:w.grownBy w' own)
 (eZ:v'.ownBlock=own\/v'.ownBlock=some w.heap.size) (jK:lo=none->own=none)
 (Ii:∀ l,lo=some l->∃ B,T l=some B/\B.owned=true/\∀ n,own=some n->B.aT V l=some n) (rv:SV) (ob:List Prop) :
 ∃ b cap,v' = .slice (some ⟨b,0,none⟩) nn cap/\aD w0 M (V.Ft lab (b,0) (.int .i64 (cap:Nat))) (eQ T lab { bO:=ob,val:=rv,new:=[.row sz cells el],wr:=gY lo }) w':=by
 obtain ⟨b,cap,cur,rfl,_,Ac,aOk,NW,nU,dK⟩:=bQ.2.resolve_left (fun q=>Ir q.1)
 refine ⟨b,cap,rfl,?_⟩
 have bT:=bA.uN hf lab (dF _) (by omega) (b,0) (.int .i64 (cap:Nat))
 have zM:(V.Ft lab (b,0) (.int .i64 (cap:Nat))).β lab=some (b,0):=by simp [bA.Ft,bA.put,bA.aZ]
 have aGh:(V.Ft lab (b,0) (.int .i64 (cap:Nat))).σ lab=some (.int .i64 (cap:Nat)):=by simp [bA.Ft,bA.put,bA.aZ]
 have lN:∀ l,lo=some l->l≠lab:=by
  intro l hl e
  subst e
  obtain ⟨B1,h1,h2,_⟩:=Ii l hl
  rcases h.known h1 (by rintro rfl;cases h2) with h3 | h3
  .exact h3 (hf l (dF _) (by omega)).1
  .exact h3 (hf l (dF _) (by omega)).2
 have Jv:∀ n,own=some n->∃ l B0,lo=some l/\T l=some B0/\B0.owned=true/\B0.aT V l=some n:=by
  intro n hn
  cases jH:lo with
  | none=>rw [jK jH] at hn;cases hn
  | some l=>obtain ⟨B1,h1,h2,h3⟩:=Ii l jH;exact ⟨l,B1,rfl,h1,h2,h3 n hn⟩
 refine h.step (N:=fun k=>if k=lab then some (.row sz cells el) else if lo=some k then some .gone else none) bT.1 (fun k C hk=>?_) (fun k C hk=>?_) (fun k C n hk hb=>?_) (fun k C k' C' n dJ hk iH fD hb=>?_) sQ.size (fun n hn hx=>?_) sQ.os sQ.tape sQ.output
 .have fK:look k (gY lo++[(lab,SB.row sz cells el)])=some C\/(look k (gY lo++[(lab,SB.row sz cells el)])=none/\T k=some C):=by
   unfold eQ bK.fA at hk
   simp only [gC] at hk
   split at hk
   .rename_i C' hC;cases hk;exact .inl hC
   .rename_i hC;exact .inr ⟨hC,hk⟩
  rw [cB] at fK
  by_cases e:k=lab
  .subst e
   left
   have h0:look k (gY lo)=none:=by
    cases jH:lo with
    | none=>rfl
    | some l=>simp only [gY];rw [aH (lN l jH)];rfl
   rw [h0] at fK
   simp only [aK] at fK
   rcases fK with fK | ⟨fK,_⟩
   .simpa using fK
   .cases fK
  .have h0:look k [(lab,SB.row sz cells el)]=none:=by rw [aH (fun x=>e x.symm)];rfl
   rw [h0] at fK
   cases jH:lo with
   | none=>
     rw [jH] at fK
     simp only [gY,look] at fK
     rcases fK with fK | ⟨_,fK⟩
     .cases fK
     .right;exact ⟨by simp [e],fK⟩
   | some l=>
     rw [jH] at fK
     simp only [gY] at fK
     by_cases e2:l=k
     .subst e2
      rw [aK] at fK
      rcases fK with fK | ⟨fK,_⟩
      .left;simp only [aV] at fK;subst fK;simp [e]
      .cases fK
     .rw [aH e2] at fK
      simp only [look] at fK
      rcases fK with fK | ⟨_,fK⟩
      .cases fK
      .right;exact ⟨by simp [e,e2],fK⟩
 .by_cases e:k=lab
  .subst e
   simp only [if_true,aV] at hk
   subst hk
   refine ⟨cs,cS bT.1 hc,b,cap,cur,zM,aGh,Ac,NW,nU,⟨nn,bQ.1,aOk⟩,?_⟩
   rw [bQ.1];exact dK
  .simp only [e,if_false] at hk
   split at hk
   .cases hk;exact ⟨[],rfl,trivial⟩
   .cases hk
 .by_cases e:k=lab
  .subst e
   simp only [if_true,aV] at hk
   subst hk
   have iD:(Value.slice (some ⟨b,0,none⟩) nn cap).ownBlock=some n:=by
    simpa [SB.aT,zM,Value.ownBlock] using hb
   rcases eZ with nC | nC
   .rw [nC] at iD
    obtain ⟨l,B0,h0,h1,h2,h3⟩:=Jv n iD
    exact .inr (.inl ⟨l,B0,h1,h2,h3,by simp [lN l h0,h0]⟩)
   .rw [nC] at iD;cases iD;exact .inl (dF _)
  .simp only [e,if_false] at hk
   split at hk
   .cases hk;simp [SB.aT] at hb
   .cases hk
 .by_cases e:k=lab
  .subst e
   have e':k'≠k:=fun x=>dJ x.symm
   simp only [e',if_false] at iH
   split at iH
   .cases iH;simp [SB.aT]
   .cases iH
  .simp only [e,if_false] at hk
   split at hk
   .cases hk;cases fD
   .cases hk
 .refine sQ.block n hn fun e=>?_
  obtain ⟨l,B0,h0,h1,h2,h3⟩:=Jv n e.symm
  exact hx l B0 h1 h2 (by simp [lN l h0,h0]) h3
end Fm
section Fm
variable {P:Program} {Γ:Env} {V:bA} {w w0:World} {M:Nat->Prop} {T:bB} {g:Nat->Option SV} {a:Act} {o:Oper} {e:bK}
def oB (P:Program) (w0:World) (M:Nat->Prop) (V:bA) (T:bB) (lab:Nat) (e:bK) (s:Sem Value) (w:World):Prop:=
 ∃ V' x w',s.run P w = .ok x w'/\V.ext lab V'/\den V' e.val=some x/\aD w0 M V' (eQ T lab e) w'
theorem nS {lab:Nat} {s:Sem Value} (h:∃ x,s.run P w = .ok x w/\den V e.val=some x/\e.new=[]/\e.wr=[]) (hT:aD w0 M V T w):oB P w0 M V T lab e s w:=by
 obtain ⟨x,h1,h2,h3,h4⟩:=h
 exact ⟨V,x,w,h1,V.cN lab,h2,by rw [jW T lab h3 h4];exact hT⟩
theorem aD.sub {T':bB} (h:aD w0 M V T w) (aO:∀ l B,T' l=some B->T l=some B):aD w0 M V T' w:=
 ⟨fun l B hl=>h.ok l B (aO l B hl),fun l B l' B' n dJ hl sP=>h.jI l B l' B' n dJ (aO l B hl) (aO l' B' sP),fun l B n hl=>h.perm l B n (aO l B hl),h.frame⟩
def Ve:TypeDesc->Option IntKind
 | .int k=>some k
 | _=>none
def zI (te:TI):Bool:=match te.zero,te.desc with
 | [.int _ k _],.int k2=>decide (k=k2)
 | _,_=>false
def DO (T:bB) (te:TI) (el:TypeId) (lab:Nat) (x y:SV):Option bK:=
 match Ve te.desc,Nat.beq te.size 1,Nat.blt 0 te.bytes&&zI te with
 | some k,true,true=>match Ee T k el x,Ux T k y with
   | some (lo,o1,xs),some (o2,ys)=>some { bO:=[(xs.length+ys.length)*te.bytes<=140737488355328]++o1++o2,val:=.buf lab,new:=[.dL k (xs++ys) el],wr:=gY lo }
   | _,_=>none
 | _,_,_=>none
theorem LP (aW:cA P Γ) {T':bB} (aO:∀ l B,T' l=some B->T l=some B) (hT:aD w0 M V T w) {lab:Nat} (hf:V.fresh lab) {t ty el:TypeId} {te:TI} (ht:P.underlying t=some (.slice el)) (eD:Γ.ty el=some te)
 {x y:SV} {u v:Value} (hx:den V x=some u) (hy:den V y=some v) (he:DO T' te el lab x y=some e) (ho:∀ q∈e.bO,q):oB P w0 M V T lab e (Builtin.append_ #[t,t] ty #[u,v]) w:=by
 unfold DO at he
 split at he
 .rename_i k hk fX NX
  split at he
  .rename_i lo o1 xs o2 ys h1 h2
   simp only [aV] at he
   subst he
   obtain ⟨_,i,z,hi,cD,lO,hz,hzero⟩:=aW el te eD
   have iC:i.size=1:=by rw [cD];exact cM fX
   simp only [iG] at NX
   have pB:0<te.bytes:=by simpa [Nat.blt_eq] using NX.1
   have hbound:(xs.length+ys.length)*te.bytes<=140737488355328:=ho _ (by simp)
   have hd:=Lh (hT.sub aO) hx h1 (fun q hq=>ho q (by simp [hq]))
   have hh:=tM (hT.sub aO) hy h2 (fun q hq=>ho q (by simp [hq]))
   obtain ⟨bQ,jK,Ii⟩:=hd
   have jH:∀ l,lo=some l->∃ B,T l=some B/\B.owned=true/\∀ n,u.ownBlock=some n->B.aT V l=some n:=fun l hl=>by
    obtain ⟨B,h1,h2,h3⟩:=Ii l hl;exact ⟨B,aO l B h1,h2,h3⟩
   have AH:xs.length+ys.length<=maxLen:=by
    have:=Nat.le_mul_of_pos_right (xs.length+ys.length) pB
    simp only [maxLen];omega
   obtain ⟨z0,Cc⟩:∃ z0,z.cells = #[Value.int k z0]:=by
    have hq:=NX.2
    unfold zI at hq
    split at hq
    .rename_i s k1 z1 k2 hz1 NU
     have e1:=jG hq
     subst e1
     have yR:k1=k:=by
      unfold Ve at hk
      rw [NU] at hk
      simpa using hk
     subst yR
     have h3:=hzero V
     rw [hz1] at h3
     simp only [aI,den,mZ,gQ,aV] at h3
     exact ⟨z1,by apply Array.ext';rw [<- h3]⟩
    .cases hq
   have rJ:z.cells.size=1:=by rw [Cc];rfl
   rcases hh with ⟨rfl,pE⟩ | ⟨ad,c,rfl,bY⟩
   .have:ys=[]:=by simpa using pE
    subst this
    have hr:=run_append_owned_none (P:=P) (w:=w) 0 t ty el i 1 ht hi u xs.length _ bQ
    refine ⟨V.aZ lab u,u,w,hr,bA.cC hf lab (dF _) (by omega) u,by simp [den,bA.aZ],?_⟩
    exact hT.append hf ⟨k,xs++[],rfl,rfl,rfl,sL (hT.sub aO) hx h1⟩ (show SB.cells V (.dL k (xs++[]) el)=some ((xs++[]).map (Value.int k)) from rfl) (by simpa using bQ) ⟨rfl,rfl,rfl,dF _,fun _ _ _=>rfl⟩ (.inl rfl) jK jH _ _
   .have iV:∀ q∈ys.map (Value.int k),q.oneCell'=true:=by
     intro q hq
     obtain ⟨n,_,rfl⟩:=List.mem_map.1 hq
     rfl
    have hl:(ys.map (Value.int k)).length=(ys.map (Value.int k)).length*i.size:=by rw [iC];simp
    have CR:w.ownsRow 0 el i.size u xs.length (xs.map (Value.int k)):=by rw [iC];exact bQ
    obtain ⟨v',w',hr,rI,sQ,_⟩:=run_append_own (P:=P) w 0 t ty el i z i.size i.bytes ht hi hz rfl rfl (by rw [iC];exact rJ) (by omega) u xs.length (xs.map (Value.int k)) CR ad _ c _ hl bY iV (by simpa using AH) (by rw [lO];simpa using hbound) (Nat.zero_le _)
    have eZ:=oN (P:=P) ht hi hz CR rfl hl bY iV (by simpa using AH) (by rw [lO];simpa using hbound) hr
    refine ⟨V.aZ lab v',v',w',hr,bA.cC hf lab (dF _) (by omega) v',by simp [den,bA.aZ],?_⟩
    rw [iC] at rI
    have hI:=Ma (P:=P) ht hi hz Cc CR rfl hl bY iV (by simpa using AH) (by rw [lO];simpa using hbound) (sL (hT.sub aO) hx h1) (fun u hu=>by obtain ⟨n,_,rfl⟩:=List.mem_map.1 hu;exact ⟨n,rfl⟩) hr
    exact hT.append hf ⟨k,xs++ys,rfl,rfl,rfl,hI⟩ (show SB.cells V (.dL k (xs++ys) el)=some ((xs++ys).map (Value.int k)) from rfl) (by simpa using rI) sQ eZ jK jH _ _
  .cases he
 .cases he
end Fm
section Fm
variable {P:Program} {Γ:Env} {V:bA} {w w0:World} {M:Nat->Prop} {T:bB} {g:Nat->Option SV} {a:Act} {o:Oper} {e:bK}
def GA (w:World) (sz:Nat) (x:Value) (m:Nat) (cs:List Value):Prop:=
 (x = .slice none 0 0/\m=0/\cs=[])\/∃ ad c,x = .slice (some ad) m c/\cs.length=m*sz/\∀ (j:Nat) (u:Value),cs[j]?=some u->w.cell? (ad.add j)=some u
def Cr (T:bB) (sz:Nat):SV->Option (Nat × List SV)
 | .aG l s off len _=>match T l with
   | some B=>match Qt B s off (len*sz) with
     | some ([],r)=>match mL r with
       | true=>some (len,r)
       | false=>none
     | _=>none
   | none=>none
 | .dD l off len _=>match T l with
   | some B=>match Qt B true off (len*sz) with
     | some ([],r)=>match mL r with
       | true=>some (len,r)
       | false=>none
     | _=>none
   | none=>none
 | .raw (.slice none 0 0)=>some (0,[])
 | _=>none
theorem tN {sz:Nat} {v:SV} {x:Value} {m:Nat} {r:List SV} (hT:aD w0 M V T w) (hv:den V v=some x) (h:Cr T sz v=some (m,r)) :
 ∃ cs,aI V r=some cs/\mL r=true/\GA w sz x m cs:=by
 have rd:∀ (l:Nat) (B:SB) (s:Bool) (off len c:Nat) (r:List SV) (p:Nat × Nat),T l=some B->V.β l=some p->Qt B s off (len*sz)=some ([],r) ->
  ∃ cs,aI V r=some cs/\GA w sz (.slice (some ⟨p.1,p.2+off,none⟩) len c) len cs:=by
  intro l B s off len c r p hB hβ hr
  obtain ⟨xs,h1,h2,h3⟩:=oD (hT.ok l B hB) (b:=p.1) (o:=p.2) hβ hr (by simp)
  exact ⟨xs,h1,.inr ⟨_,c,rfl,h2,fun j u hj=>by rw [bJ];exact h3 j u hj⟩⟩
 unfold Cr at h
 split at h
 .rename_i l s off len c
  simp only [den,dC] at hv
  obtain ⟨p,hβ,rfl⟩:=hv
  split at h
  .rename_i B hB
   split at h
   .rename_i r' hr
    split at h
    .rename_i iV
     simp only [aV,Prod.mk.injEq] at h
     obtain ⟨rfl,rfl⟩:=h
     obtain ⟨cs,h1,h2⟩:=rd l B s off len c r' p hB hβ hr
     exact ⟨cs,h1,iV,h2⟩
    .cases h
   .cases h
  .cases h
 .rename_i l off len lo
  simp only [den,dC,gL] at hv
  obtain ⟨p,hβ,c,_,rfl⟩:=hv
  split at h
  .rename_i B hB
   split at h
   .rename_i r' hr
    split at h
    .rename_i iV
     simp only [aV,Prod.mk.injEq] at h
     obtain ⟨rfl,rfl⟩:=h
     obtain ⟨cs,h1,h2⟩:=rd l B true off len (c-lo) r' p hB hβ hr
     exact ⟨cs,h1,iV,h2⟩
    .cases h
   .cases h
  .cases h
 .simp only [aV,Prod.mk.injEq] at h
  obtain ⟨rfl,rfl⟩:=h
  simp only [den,aV] at hv
  exact ⟨[],rfl,rfl,.inl ⟨hv.symm,rfl,rfl⟩⟩
 .cases h
def Kc (T:bB) (el:TypeId) (sz:Nat):SV->Option (Option Nat × Nat × List SV)
 | .raw (.slice none 0 0)=>some (none,0,[])
 | .dD l 0 len 0=>match T l with
   | some (.row sz2 cells ty)=>match Nat.beq sz2 sz,Nat.beq ty el,Nat.ble (len*sz) cells.length&&Nat.blt 0 sz with
     | true,true,true=>some (some l,len,cells.take (len*sz))
     | _,_,_=>none
   | _=>none
 | .aG l true 0 len cap=>match T l with
   | some (.own cells ty)=>match Nat.beq (cap*sz) cells.length,Nat.beq ty el,Nat.ble len cap&&Nat.ble cap 9223372036854775807 with
     | true,true,true=>some (some l,len,cells.take (len*sz))
     | _,_,_=>none
   | _=>none
 | _=>none
theorem Li {el:TypeId} {sz:Nat} {v:SV} {x:Value} {lo:Option Nat} {n:Nat} {r:List SV} (hT:aD w0 M V T w) (hv:den V v=some x) (h:Kc T el sz v=some (lo,n,r)) :
 ∃ cs,aI V r=some cs/\w.ownsRow 0 el sz x n cs/\(lo=none->x = .slice none 0 0)/\(∀ l,lo=some l->x ≠ .slice none 0 0)/\∀ l,lo=some l->∃ B,T l=some B/\B.owned=true/\∀ n,x.ownBlock=some n->B.aT V l=some n:=by
 unfold Kc at h
 split at h
 .simp only [aV,Prod.mk.injEq] at h
  obtain ⟨rfl,rfl,rfl⟩:=h
  simp only [den,aV] at hv
  subst hv
  exact ⟨[],rfl,World.ownsRow_nil w 0 el sz,fun _=>rfl,fun l hl=>(by cases hl),fun l hl=>(by cases hl)⟩
 .rename_i l len
  split at h
  .rename_i sz2 cells ty hB
   split at h
   .rename_i h1 h2 h3
    have:=cM h1
    subst this
    have:=cM h2
    subst this
    simp only [iG] at h3
    have h3a:=kJ h3.1
    have h3b:0<sz2:=by simpa [Nat.blt_eq] using h3.2
    simp only [aV,Prod.mk.injEq] at h
    obtain ⟨rfl,rfl,rfl⟩:=h
    obtain ⟨cs,hc,b,cap,cur,hβ,hσ,hh,NW,nU,⟨n,hn,MV⟩,dK⟩:=hT.ok l _ hB
    have qV:=bG (show aI V cells=some cs from hc)
    simp only [den,hβ,hσ,pM,mZ,gQ,aV,Nat.add_zero,Nat.sub_zero,qZ] at hv
    subst hv
    have hle:len<=n:=by
     rw [<- qV,hn] at h3a
     exact Nat.le_of_mul_le_mul_right h3a h3b
    refine ⟨cs.take (len*sz2),dZ _ hc,⟨by rw [List.length_take,qV];omega,.inr ⟨b,cap,cur,rfl,Nat.zero_le _,hh,by omega,NW,nU,?_⟩⟩,fun h=>(by cases h),fun _ _ h=>(by cases h),fun l' sP=>?_⟩
    .rw [<- dK,List.take_take,Nat.min_eq_left (by rw [qV];exact h3a)]
    .cases sP
     exact ⟨_,hB,rfl,fun n hn=>by simpa [SB.aT,hβ,Value.ownBlock] using hn⟩
   .cases h
  .cases h
 .rename_i l len cap
  split at h
  .rename_i cells ty hB
   split at h
   .rename_i h1 h2 h3
    have h1:=cM h1
    have:=cM h2
    subst this
    simp only [iG] at h3
    have h3a:=kJ h3.1
    have h3b:=kJ h3.2
    simp only [aV,Prod.mk.injEq] at h
    obtain ⟨rfl,rfl,rfl⟩:=h
    obtain ⟨cs,hc,b,hβ,hh⟩:=hT.ok l _ hB
    have qV:=bG (show aI V cells=some cs from hc)
    simp only [den,hβ,gQ,aV,Nat.add_zero] at hv
    subst hv
    have hle:len*sz<=cells.length:=by rw [<- h1];exact Nat.mul_le_mul_right _ h3a
    refine ⟨cs.take (len*sz),dZ _ hc,⟨by rw [List.length_take,qV];omega,.inr ⟨b,cap,cs.toArray,rfl,Nat.zero_le _,hh,h3a,by simp only [maxLen];omega,by simp [qV,h1],rfl⟩⟩,fun h=>(by cases h),fun _ _ h=>(by cases h),fun l' sP=>?_⟩
    cases sP
    exact ⟨_,hB,rfl,fun n hn=>by simpa [SB.aT,hβ,Value.ownBlock] using hn⟩
   .cases h
  .cases h
 .cases h
def Sy:Option Nat->Bool
 | none=>true
 | some _=>false
def DP (T:bB) (te:TI) (el:TypeId) (lab:Nat) (x y:SV):Option bK:=
 match Nat.blt 0 te.size,Nat.beq te.zero.length te.size with
 | true,true=>match Cr T te.size y with
   | some (m,ys)=>match x with
     | .aG _ _ _ 0 0=>match Nat.blt 0 m,Nat.ble (m*te.bytes) 140737488355328&&Nat.ble m 9223372036854775807 with
       | true,true=>some { val:=.dD lab 0 m 0,new:=[.row te.size ys el] }
       | _,_=>none
     | _=>match Kc T el te.size x with
       | some (lo,n,xs)=>match Nat.blt 0 (n+m) || !Sy lo,Nat.ble ((n+m)*te.bytes) 140737488355328&&Nat.ble (n+m) 9223372036854775807 with
         | true,true=>match y with
           | .raw _=>match lo with
             | none=>none
             | some _=>some { val:=x }
           | _=>some { val:=.dD lab 0 (n+m) 0,new:=[.row te.size (xs++ys) el],wr:=gY lo }
         | false,true=>match y with
           | .raw _=>some { val:=x }
           | _=>none
         | _,_=>none
       | none=>none
   | none=>none
 | _,_=>none
theorem LQ (aW:cA P Γ) {T':bB} (aO:∀ l B,T' l=some B->T l=some B) (hT:aD w0 M V T w) {lab:Nat} (hf:V.fresh lab) {t ty el:TypeId} {te:TI} (ht:P.underlying t=some (.slice el)) (eD:Γ.ty el=some te)
 {x y:SV} {u v:Value} (hx:den V x=some u) (hy:den V y=some v) (he:DP T' te el lab x y=some e):oB P w0 M V T lab e (Builtin.append_ #[t,t] ty #[u,v]) w:=by
 unfold DP at he
 split at he
 case h_2=>cases he
 rename_i Dk MN
 have Dk:0<te.size:=by simpa [Nat.blt_eq] using Dk
 have MN:=cM MN
 obtain ⟨_,i,z,hi,cD,lO,hz,hzero⟩:=aW el te eD
 have rJ:z.cells.size=i.size:=by
  have h1:=bG (hzero V)
  rw [cD,<- MN,<- h1];simp
 split at he
 case h_2=>cases he
 rename_i m ys AE
 obtain ⟨cy,NV,iV,hh⟩:=tN (hT.sub aO) hy AE
 have h1:=qK iV NV
 rw [<- cD] at hh Dk
 split at he
 .rename_i l s off
  split at he
  case h_2=>cases he
  rename_i hm hb
  have hm:0<m:=by simpa [Nat.blt_eq] using hm
  simp only [iG] at hb
  have pB:=kJ hb.1
  have nC:=kJ hb.2
  simp only [aV] at he
  subst he
  rcases hh with ⟨_,h0,_⟩ | ⟨ad,c,rfl,hl,bY⟩
  .omega
  simp only [den,dC] at hx
  obtain ⟨p,_,rfl⟩:=hx
  have hr:=run_append_grow (P:=P) w t ty el i z ht hi hz ⟨p.1,p.2+off,none⟩ 0 0 [] (by simp) (by intro j u hj;simp at hj) ad m c cy hl bY (by omega) (by simp only [Nat.zero_add];omega) (growslice_fits (by omega) (by rw [lO];simpa using pB))
  have ZA:=grownCap_ge w (0+m) 0 el
  have YZ:grownCap w (0+m) 0 el<=maxLen:=grownCap_le_maxLen w (0+m) 0 el (by simp only [maxLen];omega)
  have bQ:(w.drew.alloc (.cells ((([]:List Value)).toArray++cy.toArray++Builtin.zeroCells z.cells (grownCap w (0+m) 0 el-(0+m))) el)).ownsRow 0 el i.size (.slice (some ⟨w.heap.size,0,none⟩) (0+m) (grownCap w (0+m) 0 el)) (0+m) cy:=by
   refine ⟨by simpa using hl,.inr ⟨w.heap.size,_,_,rfl,Nat.zero_le _,heap_alloc_new w.drew _,ZA,YZ,?_,?_⟩⟩
   .simp only [Array.size_append,List.size_toArray,size_zeroCells,rJ,hl,List.length_nil,Nat.zero_add,<- Nat.add_mul]
    congr 1
    simp only [Nat.zero_add] at ZA
    omega
   .rw [Nat.zero_add,<- hl];simp
  have sQ:w.grownBy (w.drew.alloc (.cells ((([]:List Value)).toArray++cy.toArray++Builtin.zeroCells z.cells (grownCap w (0+m) 0 el-(0+m))) el)) none:=⟨rfl,rfl,rfl,by simp,fun k hk _=>heap_alloc_old w.drew _ hk⟩
  rw [Nat.zero_add] at hr bQ sQ
  obtain ⟨b,cap,MP,pC⟩:=hT.Hu (lab:=lab) hf (lo:=none) (own:=none) NV bQ (by simp) sQ (.inr rfl) (fun _=>rfl) (fun l hl=>(by cases hl)) (.dD lab 0 m 0) []
  refine ⟨_,_,_,hr,bA.uN hf lab (dF _) (by omega) _ _,?_,by rw [<- cD];exact pC⟩
  simp [den,bA.Ft,bA.put,bA.aZ,pM,MP]
 .split at he
  case h_2=>cases he
  rename_i lo n xs PL
  obtain ⟨cx,hcx,bQ,jK,aOa,Ii⟩:=Li (hT.sub aO) hx PL
  rw [<- cD] at bQ
  have jH:∀ l,lo=some l->∃ B,T l=some B/\B.owned=true/\∀ n,u.ownBlock=some n->B.aT V l=some n:=fun l hl=>by
   obtain ⟨B,h1,h2,h3⟩:=Ii l hl;exact ⟨B,aO l B h1,h2,h3⟩
  have pI:∀ {q:Value},y = .raw q->oB P w0 M V T lab { val:=x } (Builtin.append_ #[t,t] ty #[u,v]) w:=by
   intro q hq
   subst hq
   unfold Cr at AE
   split at AE <;> first | (cases AE;done) | skip
   all_goals first
    | (rename_i heq;cases heq;done)
    | (rename_i heq;cases heq;simp only [den,aV] at hy;subst hy;exact nS ⟨u,run_append_owned_none (P:=P) (w:=w) 0 t ty el i i.size ht hi u n _ bQ,hx,rfl,rfl⟩ hT)
    | (simp only [den,aV] at hy;subst hy;exact nS ⟨u,run_append_owned_none (P:=P) (w:=w) 0 t ty el i i.size ht hi u n _ bQ,hx,rfl,rfl⟩ hT)
  split at he
  .rename_i Vf hb
   simp only [iG] at hb
   have pB:=kJ hb.1
   have nC:=kJ hb.2
   split at he
   .split at he
    .cases he
    .simp only [aV] at he
     subst he
     exact pI rfl
   .rename_i hnr
    simp only [aV] at he
    subst he
    rcases hh with ⟨rfl,rfl,rfl⟩ | ⟨ad,c,rfl,hl,bY⟩
    .exfalso
     have:∀ s:SV,den V s=some (.slice none 0 0)->Cr T' te.size s=some (0,ys)->∃ q,s = .raw q:=by
      intro s iC vI
      unfold Cr at vI
      split at vI
      .simp only [den,dC] at iC
       obtain ⟨p,_,hp⟩:=iC
       cases hp
      .simp only [den,dC,gL] at iC
       obtain ⟨p,_,c,_,hp⟩:=iC
       cases hp
      .exact ⟨_,rfl⟩
      .cases vI
     obtain ⟨q,hq⟩:=this y hy AE
     exact hnr q hq
    .obtain ⟨v',w',hr,rI,sQ,Ir⟩:=run_append_own (P:=P) w 0 t ty el i z i.size i.bytes ht hi hz rfl rfl rJ Dk u n cx bQ ad m c cy hl bY h1 (by simp only [maxLen];omega) (by rw [lO];exact pB) (Nat.zero_le _)
     have eZ:=oN (P:=P) ht hi hz bQ rfl hl bY h1 (by simp only [maxLen];omega) (by rw [lO];exact pB) hr
     have dJ:v' ≠ .slice none 0 0:=by
      intro h
      obtain ⟨h2,h3⟩:=Ir.1 h
      cases aKe:lo with
      | none=>
        simp only [aKe,Sy,Bool.not_true,Bool.or_false] at Vf
        have:0<n+m:=by simpa [Nat.blt_eq] using Vf
        subst h2
        rcases bQ.2 with ⟨_,h4⟩ | ⟨_,_,_,h4,_⟩
        .omega
        .cases h4
      | some l=>exact aOa l aKe h2
     obtain ⟨b,cap,MP,pC⟩:=hT.Hu (lab:=lab) hf (lo:=lo) (own:=u.ownBlock) (cI hcx NV) rI dJ sQ eZ (fun h=>by rw [jK h];rfl) jH (.dD lab 0 (n+m) 0) []
     refine ⟨_,_,_,hr,bA.uN hf lab (dF _) (by omega) _ _,?_,by rw [<- cD];exact pC⟩
     simp [den,bA.Ft,bA.put,bA.aZ,pM,MP]
  .split at he
   .simp only [aV] at he
    subst he
    exact pI rfl
   .cases he
  .cases he
def isX (T:bB):SV->Bool
 | .buf l=>match T l with
   | some (.fM _ _ _)=>true
   | _=>false
 | _=>false
def rdX (T:bB) (sz:Nat):SV->Option Nat
 | .buf l=>match T l with
   | some (.fM Za n _)=>match Nat.beq Za sz with
     | true=>some n
     | false=>none
   | _=>none
 | v=>match Cr T sz v with
   | some (m,_)=>some m
   | none=>none
def dsX (T:bB) (el:TypeId) (sz:Nat):SV->Option (Option Nat × Nat)
 | .buf l=>match T l with
   | some (.fM Za n ty)=>match Nat.beq Za sz&&Nat.beq ty el with
     | true=>some (some l,n)
     | false=>none
   | _=>none
 | v=>match Kc T el sz v with
   | some (lo,n,xs)=>match mL xs with
     | true=>some (lo,n)
     | false=>none
   | none=>none
def DL (T:bB) (te:TI) (el:TypeId) (lab:Nat) (x y:SV):Option bK:=
 match isX T x||(isX T y||Nat.blt 1 te.size),Nat.blt 0 te.size&&Nat.beq te.zero.length te.size,dsX T el te.size x,rdX T te.size y with
 | true,true,some (lo,n),some m=>some { bO:=[(n+m)*te.bytes<=140737488355328/\n+m<=9223372036854775807],val:=.buf lab,new:=[.fM te.size (n+m) el],wr:=gY lo }
 | _,_,_,_=>none
theorem aEw {sz:Nat} {v:SV} {x:Value} {m:Nat} (hT:aD w0 M V T w) (hv:den V v=some x) (h:rdX T sz v=some m) :
 (x = .slice none 0 0/\m=0)\/∃ (ad:Addr) (c:Nat) (cy:List Value),x = .slice (some ad) m c/\cy.length=m*sz/\(∀ (j:Nat) (u:Value),cy[j]?=some u->w.cell? (ad.add j)=some u)/\∀ q∈cy,q.oneCell'=true:=by
 have gen:∀ v:SV,den V v=some x->(match Cr T sz v with | some (m,_)=>some m | none=>none)=some m->(x = .slice none 0 0/\m=0)\/∃ (ad:Addr) (c:Nat) (cy:List Value),x = .slice (some ad) m c/\cy.length=m*sz/\(∀ (j:Nat) (u:Value),cy[j]?=some u->w.cell? (ad.add j)=some u)/\∀ q∈cy,q.oneCell'=true:=by
  intro v hv h
  split at h
  .rename_i m' ys hs
   cases h
   obtain ⟨cy,NV,iV,hh⟩:=tN hT hv hs
   have h1:=qK iV NV
   rcases hh with ⟨rfl,rfl,_⟩ | ⟨ad,c,rfl,hl,bY⟩
   .exact .inl ⟨rfl,rfl⟩
   .exact .inr ⟨ad,c,cy,rfl,hl,bY,h1⟩
  .cases h
 unfold rdX at h
 split at h
 .rename_i l
  split at h
  .rename_i Za n ty hB
   split at h
   case h_2=>cases h
   rename_i fX
   cases h
   have fX:=cM fX
   subst fX
   obtain ⟨cs,hc,u,us,hσ,bQ,hq⟩:=hT.ok l _ hB
   simp only [den,hσ,aV] at hv
   subst hv
   rcases bQ.2 with ⟨rfl,rfl⟩ | ⟨g,cap,cur,rfl,_,hh,hle,_,nU,dK⟩
   .exact .inl ⟨rfl,rfl⟩
   .refine .inr ⟨⟨g,0,none⟩,cap,us,rfl,bQ.1,fun j u hj=>?_,hq⟩
    rw [<- dK,List.getElem?_take] at hj
    split at hj
    .have:w.cell? ⟨g,0+j,none⟩=some u:=by rw [cell_of_row w g _ _ _ _ hh];simpa using hj
     rw [bJ]
     exact this
    .cases hj
  .cases h
 .exact gen _ hv h
theorem aIl {el:TypeId} {sz:Nat} {v:SV} {x:Value} {lo:Option Nat} {n:Nat} (hT:aD w0 M V T w) (hv:den V v=some x) (h:dsX T el sz v=some (lo,n)) :
 ∃ cs:List Value,w.ownsRow 0 el sz x n cs/\(∀ q∈cs,q.oneCell'=true)/\(lo=none->x.ownBlock=none)/\∀ l,lo=some l->∃ B,T l=some B/\B.owned=true/\∀ n,x.ownBlock=some n->B.aT V l=some n:=by
 have gen:∀ v:SV,den V v=some x->(match Kc T el sz v with | some (lo,n,xs)=>(match mL xs with | true=>some (lo,n) | false=>none) | none=>none)=some (lo,n)->∃ cs:List Value,w.ownsRow 0 el sz x n cs/\(∀ q∈cs,q.oneCell'=true)/\(lo=none->x.ownBlock=none)/\∀ l,lo=some l->∃ B,T l=some B/\B.owned=true/\∀ n,x.ownBlock=some n->B.aT V l=some n:=by
  intro v hv h
  split at h
  .rename_i lo' n' xs hd
   split at h
   case h_2=>cases h
   rename_i iV
   cases h
   obtain ⟨cs,nU,bQ,hn,_,hl⟩:=Li hT hv hd
   exact ⟨cs,bQ,qK iV nU,fun e=>by rw [hn e];rfl,hl⟩
  .cases h
 unfold dsX at h
 split at h
 .rename_i l
  split at h
  .rename_i Za n' ty hB
   split at h
   case h_2=>cases h
   rename_i jT
   simp only [iG] at jT
   cases h
   have h1:=cM jT.1
   have h2:=cM jT.2
   subst h1 h2
   obtain ⟨cs,hc,u,us,hσ,bQ,hq⟩:=hT.ok l _ hB
   simp only [den,hσ,aV] at hv
   subst hv
   exact ⟨us,bQ,hq,fun e=>by (cases e),fun l' e=>by cases e;exact ⟨_,hB,rfl,fun n hn=>by simp [SB.aT,hσ,hn]⟩⟩
  .cases h
 .exact gen _ hv h
theorem LM (aW:cA P Γ) {T':bB} (aO:∀ l B,T' l=some B->T l=some B) (hT:aD w0 M V T w) {lab:Nat} (hf:V.fresh lab) {t ty el:TypeId} {te:TI} (ht:P.underlying t=some (.slice el)) (eD:Γ.ty el=some te)
 {x y:SV} {u v:Value} (hx:den V x=some u) (hy:den V y=some v) (he:DL T' te el lab x y=some e) (ho:∀ q∈e.bO,q):oB P w0 M V T lab e (Builtin.append_ #[t,t] ty #[u,v]) w:=by
 unfold DL at he
 split at he
 case h_2=>cases he
 rename_i lo n m _ fX hd hr
 cases he
 simp only [iG] at fX
 have Dk:0<te.size:=by simpa [Nat.blt_eq] using fX.1
 have MN:=cM fX.2
 obtain ⟨_,i,z,hi,cD,lO,hz,hzero⟩:=aW el te eD
 have rJ:z.cells.size=i.size:=by
  have h1:=bG (hzero V)
  rw [cD,<- MN,<- h1];simp
 obtain ⟨pB,nC⟩:=ho _ dB
 obtain ⟨cx,bQ,hox,jK,Ii⟩:=aIl (hT.sub aO) hx hd
 have jH:∀ l,lo=some l->∃ B,T l=some B/\B.owned=true/\∀ n,u.ownBlock=some n->B.aT V l=some n:=fun l hl=>by
  obtain ⟨B,h1,h2,h3⟩:=Ii l hl;exact ⟨B,aO l B h1,h2,h3⟩
 rw [<- cD] at bQ Dk
 have It:n+m<=maxLen:=by simp only [maxLen];omega
 rcases aEw (hT.sub aO) hy hr with ⟨rfl,rfl⟩ | ⟨ad,c,cy,rfl,hl,bY,iV⟩
 .have dY:=run_append_owned_none (P:=P) (w:=w) 0 t ty el i i.size ht hi u n _ bQ
  refine ⟨V.aZ lab u,u,w,dY,bA.cC hf lab (dF _) (by omega) u,by simp [den,bA.aZ],?_⟩
  have mV:okB (V.aZ lab u) w lab (.fM te.size (n+0) el):=⟨[],rfl,u,cx,by simp [bA.aZ],by rw [<- cD];exact bQ,hox⟩
  refine hT.qR hf mV (fun n hb=>by simpa [SB.aT,bA.aZ] using hb) ⟨rfl,rfl,rfl,dF _,fun _ _ _=>rfl⟩ (.inl rfl) jK jH _ _
 .rw [<- cD] at hl
  obtain ⟨v',w',dY,rI,sQ,_⟩:=run_append_own (P:=P) w 0 t ty el i z i.size i.bytes ht hi hz rfl rfl rJ Dk u n cx bQ ad m c cy hl bY iV It (by rw [lO];exact pB) (Nat.zero_le _)
  have eZ:=oN (P:=P) ht hi hz bQ rfl hl bY iV It (by rw [lO];exact pB) dY
  refine ⟨V.aZ lab v',v',w',dY,bA.cC hf lab (dF _) (by omega) v',by simp [den,bA.aZ],?_⟩
  have mV:okB (V.aZ lab v') w' lab (.fM te.size (n+m) el):=⟨[],rfl,v',cx++cy,by simp [bA.aZ],by rw [<- cD];exact rI,fun q hq=>?_⟩
  refine hT.qR hf mV (fun n hb=>by simpa [SB.aT,bA.aZ] using hb) sQ eZ jK jH _ _
  rcases List.mem_append.1 hq with hq | hq
  .exact hox q hq
  .exact iV q hq
end Fm
section Fm
variable {P:Program} {Γ:Env} {V:bA} {w w0:World} {M:Nat->Prop} {T:bB} {g:Nat->Option SV} {a:Act} {o:Oper} {e:bK}
def Jj:SV->Option (Nat × Nat × Nat)
 | .aG l true off len _=>some (l,off,len)
 | .dD l off len _=>some (l,off,len)
 | _=>none
theorem Ay {v:SV} {x:Value} {l off len:Nat} (h:Jj v=some (l,off,len)) (hv:den V v=some x):∃ p c,V.β l=some p/\x = .slice (some ⟨p.1,p.2+off,none⟩) len c:=by
 unfold Jj at h
 split at h
 .simp only [aV,Prod.mk.injEq] at h
  obtain ⟨rfl,rfl,rfl⟩:=h
  simp only [den,dC] at hv
  obtain ⟨p,hβ,rfl⟩:=hv
  exact ⟨p,_,hβ,rfl⟩
 .simp only [aV,Prod.mk.injEq] at h
  obtain ⟨rfl,rfl,rfl⟩:=h
  simp only [den,dC,gL] at hv
  obtain ⟨p,hβ,c,_,rfl⟩:=hv
  exact ⟨p,_,hβ,rfl⟩
 .cases h
def Ol (T:bB) (sz:Nat) (x y:SV):Option bK:=
 match Jj x,Cr T sz y with
 | some (l,off,len),some (m,ys)=>match T l with
   | some B=>match Yz B true off (ys.take (Nat.min m len*sz)) with
     | some ([],B')=>some { val:=.int true .i64 ((Nat.min m len:Nat):Int),wr:=[(l,B')] }
     | _=>none
   | none=>none
 | none,some _=>match x with
   | .raw (.slice none 0 0)=>some { val:=.int true .i64 0 }
   | _=>none
 | _,_=>none
theorem Xw (aW:cA P Γ) {T':bB} (aO:∀ l B,T' l=some B->T l=some B) (hT:aD w0 M V T w) {lab:Nat} {dT sT ty el:TypeId} {te:TI} (ht:P.underlying dT=some (.slice el)) (eD:Γ.ty el=some te)
 {x y:SV} {u v:Value} (hx:den V x=some u) (hy:den V y=some v) (he:Ol T' te.size x y=some e):oB P w0 M V T lab e (Builtin.copy_ #[dT,sT] ty #[u,v]) w:=by
 unfold Ol at he
 split at he
 case h_3=>cases he
 case h_2=>
  rename_i q hs hq
  split at he
  case h_2=>cases he
  cases he
  simp only [den,aV] at hx
  subst hx
  obtain ⟨_,i,z,hi,cD,_⟩:=aW el te eD
  refine ⟨V,.int .i64 0,w,?_,V.cN lab,rfl,by rw [jW T lab rfl rfl];exact hT⟩
  obtain ⟨m,ys⟩:=q
  obtain ⟨cy,NV,iV,hh⟩:=tN (hT.sub aO) hy hq
  rcases hh with ⟨rfl,rfl,rfl⟩ | ⟨ad,c',rfl,hl,bY⟩
  .have hf:=run_firstCells_none (P:=P) (w:=w) te.size 0 0 0
   simp [Builtin.copy_,run_underlying ht,Builtin.lenOf,run_sizeOf hi,cD,hf,goInt]
  .have hf:=run_firstCells_some (P:=P) (w:=w) te.size 0 ad m c' [] (by simp) (fun j q hj=>by simp at hj)
   simp [Builtin.copy_,run_underlying ht,Builtin.lenOf,run_sizeOf hi,cD,hf,goInt]
 rename_i l off len m ys hs hq
 split at he
 case h_2=>cases he
 rename_i B hB
 split at he
 case h_2=>cases he
 rename_i B' hw
 simp only [aV] at he
 subst he
 obtain ⟨_,i,z,hi,cD,_⟩:=aW el te eD
 obtain ⟨p,c,hβ,rfl⟩:=Ay hs hx
 obtain ⟨cy,NV,iV,hh⟩:=tN (hT.sub aO) hy hq
 have h1:=qK iV NV
 have hd:=dZ (Nat.min m len*te.size) NV
 obtain ⟨w',hr,pC⟩:=Gc (P:=P) lab (.int true .i64 ((Nat.min m len:Nat):Int)) hT (aO l B hB) (b:=p.1) (o:=p.2) hβ hw (by simp) hd (fun q hq=>h1 q (List.mem_of_mem_take hq))
 refine ⟨V,_,w',?_,V.cN lab,rfl,pC⟩
 rcases hh with ⟨rfl,rfl,rfl⟩ | ⟨ad,c',rfl,hl,bY⟩
 .have hf:=run_firstCells_none (P:=P) (w:=w) te.size 0 0 0
  simp only [List.take_nil] at hr
  simp [Builtin.copy_,run_underlying ht,Builtin.lenOf,run_sizeOf hi,cD,hf,hr,goInt]
 .have hf:=run_firstCells_some (P:=P) (w:=w) te.size (Nat.min m len) ad m c' (cy.take (Nat.min m len*te.size))
   (by rw [List.length_take,hl];exact Nat.min_eq_left (Nat.mul_le_mul_right _ (Nat.min_le_left _ _)))
   (fun j q hj=>by
    rw [List.getElem?_take] at hj
    split at hj
    .exact bY j q hj
    .cases hj)
  simp [Builtin.copy_,run_underlying ht,Builtin.lenOf,run_sizeOf hi,cD,hf,hr,goInt]
def vQ (zero:List SV) (n:Nat):List SV:=(List.range (n*zero.length)).map fun j=>zero.getD (j%zero.length) (.raw undef)
theorem Ef {zero:List SV} {z:Array Value} (h:aI V zero=some z.toList) (h0:0<zero.length) (n:Nat):aI V (vQ zero n)=some (((Array.range (n*z.size)).map fun j=>z[j%z.size]!).toList):=by
 have hl:z.size=zero.length:=by have:=bG h;simpa using this
 have:=fI (V:=V) (n*zero.length) (fun j=>zero.getD (j%zero.length) (.raw undef)) (fun j=>z[j%zero.length]!) (fun j _=>by
  have cL:j%zero.length<zero.length:=Nat.mod_lt _ h0
  obtain ⟨x,hx,hd⟩:=dO h (j%zero.length) _ (List.getElem?_eq_getElem cL)
  have e1:zero.getD (j%zero.length) (.raw undef)=zero[j%zero.length]:=by simp [gH,cL]
  rw [e1,hd]
  have hz:j%zero.length<z.size:=by omega
  simp only [Array.getElem?_toList,Array.getElem?_eq_getElem hz,aV] at hx
  rw [<- hx]
  simp [getElem!_def,Array.getElem?_eq_getElem hz])
 rw [vQ,this,hl]
 simp [Array.toList_range]
def Hs (T:bB) (te:TI) (x:SV):Option bK:=
 match x with
 | .raw (.slice none _ _)=>some { val:=.eF [] }
 | _=>match Jj x,Nat.blt 0 te.zero.length&&mL te.zero with
   | some (l,off,len),true=>match T l with
     | some B=>match Yz B true off (vQ te.zero len) with
       | some ([],B')=>some { val:=.eF [],wr:=[(l,B')] }
       | _=>none
     | none=>none
   | _,_=>none
theorem Wg {vs:List SV} (h:mL vs=true) {v:SV} (hv:v∈vs):OX v=true:=by
 unfold mL at h
 exact List.all_eq_true.1 h v hv
theorem Lp {zero:List SV} (h:mL zero=true) (h0:0<zero.length) (n:Nat):mL (vQ zero n)=true:=by
 unfold mL vQ
 rw [List.all_eq_true]
 intro v hv
 obtain ⟨j,_,rfl⟩:=List.mem_map.1 hv
 have cL:j%zero.length<zero.length:=Nat.mod_lt _ h0
 simp only [gH,List.getElem?_eq_getElem cL,Option.getD_some]
 exact Wg h (List.getElem_mem cL)
theorem Qj (aW:cA P Γ) {T':bB} (aO:∀ l B,T' l=some B->T l=some B) (hT:aD w0 M V T w) {lab:Nat} {t ty el:TypeId} {te:TI} (ht:P.underlying t=some (.slice el)) (eD:Γ.ty el=some te)
 {x:SV} {u:Value} (hx:den V x=some u) (he:Hs T' te x=some e):oB P w0 M V T lab e (Builtin.clear_ #[t] ty #[u]) w:=by
 unfold Hs at he
 split at he
 .simp only [aV] at he
  subst he
  simp only [den,aV] at hx
  subst hx
  exact nS ⟨.tuple #[],by simp [Builtin.clear_,run_underlying ht],by simp [den,aI],rfl,rfl⟩ hT
 .split at he
  case h_2=>cases he
  rename_i l off len hs hz
  split at he
  case h_2=>cases he
  rename_i B hB
  split at he
  case h_2=>cases he
  rename_i B' hw
  simp only [aV] at he
  subst he
  simp only [iG] at hz
  have h0:0<te.zero.length:=by simpa [Nat.blt_eq] using hz.1
  obtain ⟨_,i,z,hi,cD,_,hzz,hzero⟩:=aW el te eD
  obtain ⟨p,c,hβ,rfl⟩:=Ay hs hx
  have hd:=Ef (V:=V) (hzero V) h0 len
  have h1:=qK (Lp hz.2 h0 len) hd
  obtain ⟨w',hr,pC⟩:=Gc (P:=P) lab (.eF []) hT (aO l B hB) (b:=p.1) (o:=p.2) hβ hw (by simp) hd h1
  cases len with
  | zero=>
    refine ⟨V,.tuple #[],w,?_,V.cN lab,by simp [den,aI],?_⟩
    .simp [Builtin.clear_,run_underlying ht]
    .have:w'=w:=by
      have e0:((Array.range (0*z.cells.size)).map fun j=>z.cells[j%z.cells.size]!).toList=[]:=by simp
      rw [e0] at hr
      simp only [storeCells,Sem.run_pure,Result.ok.injEq,true_and] at hr
      exact hr.symm
     rw [<- this];exact pC
  | succ n=>
    refine ⟨V,.tuple #[],w',?_,V.cN lab,by simp [den,aI],pC⟩
    have Cc:(Builtin.zeroCells z.cells (n+1)).toList=((Array.range ((n+1)*z.cells.size)).map fun j=>z.cells[j%z.cells.size]!).toList:=rfl
    rw [<- Cc] at hr
    simp [Builtin.clear_,run_underlying ht,dV hi hzz,hr]
def evP (Γ:Env) (g:Nat->Option SV):List (Nat × Operand)->Option (List (Nat × SV))
 | []=>some []
 | (i,x)::r=>match ev Γ g x,evP Γ g r with
   | some v,some vs=>some ((i,v)::vs)
   | _,_=>none
theorem Oa (ht:cF V g a) (hg:bP Γ V):∀ {ps:List (Nat × Operand)} {vs:List (Nat × SV)},evP Γ g ps=some vs ->
 (ps.map fun p=>(p.1,a.eval p.2)).map (·.1)=vs.map (·.1)/\aI V (vs.map (·.2))=some ((ps.map fun p=>(p.1,a.eval p.2)).map (·.2))
 | [],vs,h=>by simp only [evP,aV] at h;subst h;simp [aI]
 | (i,x)::r,vs,h=>by
   simp only [evP] at h
   split at h
   .rename_i v us hv Dj
    cases h
    obtain ⟨h1,h2⟩:=Oa ht hg Dj
    refine ⟨by simp only [List.map_cons,h1],?_⟩
    simp only [List.map_cons,aI,bH ht hg hv,mZ,h2,gQ]
   .cases h
def placesOf (Γ:Env):List Field->Option (List (Nat × Nat))
 | []=>some []
 | f::r=>match Γ.ty f.type,placesOf Γ r with
   | some ti,some ps=>some ((f.offset,ti.size)::ps)
   | _,_=>none
theorem wZ (aW:cA P Γ) (w:World):∀ {fs:List Field} {ps:List (Nat × Nat)},placesOf Γ fs=some ps ->
 (fs.mapM (m:=Sem) fun f=>do pure (f.offset,<- sizeOf f.type)).run P w = .ok ps w
 | [],ps,h=>by simp only [placesOf,aV] at h;subst h;simp
 | f::r,ps,h=>by
   simp only [placesOf] at h
   split at h
   .rename_i ti qs dX hqs
    cases h
    obtain ⟨_,i,z,hi,cD,_⟩:=aW _ _ dX
    have ih:=wZ aW w hqs
    simp only [List.mapM_cons,Sem.run_bind,run_sizeOf hi,Result.andThen_ok,Sem.run_pure,ih,cD]
   .cases h
def wW (a b:IntKind):Bool:=decide (a=b)
def cK (k:IntKind) (n:Nat) (xs:List Int):List SV:=(List.range n).map fun j=>.int false k (xs.getD j 0)
theorem uS {V:bA} {k:IntKind} {n:Nat} {xs:List Int} (h:xs.length=n):aI V (cK k n xs)=some (xs.map (Value.int k)):=by
 unfold cK
 rw [fI (V:=V) n (fun j=>.int false k (xs.getD j 0)) (fun j=>.int k (xs.getD j 0)) (fun j _=>rfl)]
 congr 1
 apply List.ext_getElem
 .simp [h]
 .intro i h1 h2
  have h3:i<xs.length:=by simpa using h2
  simp [gH,h3]
def Fw (place:Nat->Option (Nat × Nat)):List (Nat × SV)->List Prop × List (Nat × SV)
 | []=>([],[])
 | (i,v)::r=>match Fw place r with
   | (ob,r')=>match v,place i with
     | .ai k xs,some (_,n)=>((xs.length=n)::ob,(i,.agg (cK k n xs))::r')
     | v,_=>(ob,(i,v)::r')
theorem yG {place:Nat->Option (Nat × Nat)}:∀ {l r:List (Nat × SV)} {ob:List Prop},Fw place l=(ob,r)->(∀ q∈ob,q)->r.map (·.1)=l.map (·.1)/\aI V (r.map (·.2))=aI V (l.map (·.2))
 | [],r,ob,h,ho=>by simp only [Fw,Prod.mk.injEq] at h;obtain ⟨_,rfl⟩:=h;exact ⟨rfl,rfl⟩
 | (i,v)::l,r,ob,h,ho=>by
   simp only [Fw] at h
   obtain ⟨ob1,r1,h1⟩:∃ ob1 r1,Fw place l=(ob1,r1):=⟨_,_,rfl⟩
   rw [h1] at h
   simp only at h
   have plain:(ob1,(i,v)::r1)=(ob,r)->r.map (·.1)=((i,v)::l).map (·.1)/\aI V (r.map (·.2))=aI V (((i,v)::l).map (·.2)):=by
    intro h
    simp only [Prod.mk.injEq] at h
    obtain ⟨rfl,rfl⟩:=h
    obtain ⟨e1,e2⟩:=yG h1 ho
    exact ⟨by simp [e1],by simp only [List.map_cons,aI,e2]⟩
   split at h
   .rename_i k xs _ n _
    simp only [Prod.mk.injEq] at h
    obtain ⟨rfl,rfl⟩:=h
    obtain ⟨e1,e2⟩:=yG h1 (fun q hq=>ho q (eK _ hq))
    have hn:xs.length=n:=ho _ dB
    exact ⟨by simp [e1],by simp only [List.map_cons,aI,den,e2,uS hn,gQ]⟩
   .exact plain h
def Oo (Γ:Env) (g:Nat->Option SV) (T:bB) (t:TypeId) (parts:Array (Nat × Operand)):Option bK:=
 match Γ.ty t,evP Γ g parts.toList with
 | some ti,some vs=>match ti.desc with
   | .struct fs=>match placesOf Γ fs.toList with
     | some ps=>match Fw (fun i=>ps[i]?) vs with
       | (ob,vs)=>(Ad T (fun i=>ps[i]?) ti.zero vs).map fun r=>{ bO:=ob,val:=.agg r }
     | none=>none
   | .array _ el=>match Γ.ty el with
     | some te=>match Fw (fun i=>some (i*te.size,te.size)) vs with
       | (ob,vs)=>(Ad T (fun i=>some (i*te.size,te.size)) ti.zero vs).map fun r=>{ bO:=ob,val:=.agg r }
     | none=>none
   | _=>none
 | _,_=>none
theorem Xz (aW:cA P Γ) (ht:cF V g a) (hg:bP Γ V) {T':bB} (aO:∀ l B,T' l=some B->T l=some B) (hT:aD w0 M V T w) {t:TypeId} {parts:Array (Nat × Operand)} (bV:o.op = .build t parts) (he:Oo Γ g T' t parts=some e) (ho:∀ q∈e.bO,q) (lab:Nat):kM P w0 M V T lab e o a w:=by
 unfold Oo at he
 split at he
 case h_2=>cases he
 rename_i ti vs dX hvs
 obtain ⟨hu,i,z,hi,cD,_,hz,hzero⟩:=aW t ti dX
 obtain ⟨h1,h2⟩:=Oa ht hg hvs
 have Zh:(parts.map fun (p:Nat × Operand)=>(p.1,a.eval p.2)).toList=parts.toList.map fun p=>(p.1,a.eval p.2):=by simp
 split at he
 .rename_i fs hd
  rw [hd] at hu
  split at he
  case h_2=>cases he
  rename_i ps hps
  obtain ⟨ob,Hz,hex⟩:∃ ob Hz,Fw (fun i=>ps[i]?) vs=(ob,Hz):=⟨_,_,rfl⟩
  rw [hex] at he
  simp only [dC] at he
  obtain ⟨r,hr,rfl⟩:=he
  obtain ⟨e1,e2⟩:=yG (V:=V) hex ho
  obtain ⟨rs,Un,hdr⟩:=uU (V:=V) aO hT hr (hzero V) (h1.trans e1.symm) (e2.trans h2)
  refine bE (x:=.agg rs) ?_ (by simp [den,hdr]) rfl rfl hT
  have hm:(fs.mapM (m:=Sem) fun f=>do pure (f.offset,<- sizeOf f.type)).run P w = .ok ps.toArray w:=by
   rw [Array.mapM_eq_mapM_toList]
   simp only [map_eq_pure_bind,Sem.run_bind,wZ aW w hps,Result.andThen_ok,Sem.run_pure]
  have Nb:Instr.fill (fun i=>ps.toArray[i]?) z.cells (parts.toList.map fun p=>(p.1,a.eval p.2))=some rs:=by
   simpa using Un
  unfold execOp
  simp only [bV,Instr.build,Sem.run_bind,dV hi hz,Result.andThen_ok,run_underlying hu w,hm,Zh,Nb,Sem.run_pure]
 .rename_i n el hd
  rw [hd] at hu
  split at he
  case h_2=>cases he
  rename_i te eD
  obtain ⟨_,i2,z2,Qz,aOl,_⟩:=aW el te eD
  obtain ⟨ob,Hz,hex⟩:∃ ob Hz,Fw (fun i=>some (i*te.size,te.size)) vs=(ob,Hz):=⟨_,_,rfl⟩
  rw [hex] at he
  simp only [dC] at he
  obtain ⟨r,hr,rfl⟩:=he
  obtain ⟨e1,e2⟩:=yG (V:=V) hex ho
  obtain ⟨rs,Un,hdr⟩:=uU (V:=V) aO hT hr (hzero V) (h1.trans e1.symm) (e2.trans h2)
  refine bE (x:=.agg rs) ?_ (by simp [den,hdr]) rfl rfl hT
  have Nb:Instr.fill (fun i=>some (i*te.size,te.size)) z.cells (parts.toList.map fun p=>(p.1,a.eval p.2))=some rs:=by
   simpa using Un
  unfold execOp
  simp only [bV,Instr.build,Sem.run_bind,dV hi hz,Result.andThen_ok,run_underlying hu w,run_sizeOf Qz,aOl,Zh,Nb,Sem.run_pure]
 .cases he
def qC (Γ:Env) (g:Nat->Option SV) (T:bB) (t:TypeId) (len:Nat) (parts:Array (Nat × Operand)) (lab:Nat):Option bK:=
 match Γ.ty t,evP Γ g parts.toList with
 | some ti,some vs=>match ti.desc with
   | .slice el=>match Γ.ty el with
     | some te=>match Nat.blt 0 te.size&&Nat.beq te.zero.length te.size&&Nat.ble (len*te.size) 16777216 with
       | true=>(Ad T (fun i=>some (i*te.size,te.size)) (vQ te.zero len) vs).map fun r=>{ val:=.aG lab true 0 len len,new:=[.own r el] }
       | false=>none
     | none=>none
   | _=>none
 | _,_=>none
theorem Ca (aW:cA P Γ) (ht:cF V g a) (hg:bP Γ V) {T':bB} (aO:∀ l B,T' l=some B->T l=some B) (hT:aD w0 M V T w) {t:TypeId} {len:Nat} {parts:Array (Nat × Operand)} (bV:o.op = .buildSlice t len parts) {lab:Nat} (hf:V.fresh lab)
 (he:qC Γ g T' t len parts lab=some e):kM P w0 M V T lab e o a w:=by
 unfold qC at he
 split at he
 case h_2=>cases he
 rename_i ti vs dX hvs
 obtain ⟨hu,_⟩:=aW t ti dX
 obtain ⟨h1,h2⟩:=Oa ht hg hvs
 have Zh:(parts.map fun (p:Nat × Operand)=>(p.1,a.eval p.2)).toList=parts.toList.map fun p=>(p.1,a.eval p.2):=by simp
 split at he
 case h_2=>cases he
 rename_i el hd
 rw [hd] at hu
 split at he
 case h_2=>cases he
 rename_i te eD
 obtain ⟨_,i,z,hi,cD,_,hz,hzero⟩:=aW el te eD
 split at he
 case h_2=>cases he
 rename_i hc
 simp only [iG] at hc
 have Zn:0<te.size:=by simpa [Nat.blt_eq] using hc.1.1
 have wP:=cM hc.1.2
 have hc3:=kJ hc.2
 have rJ:z.cells.size=te.size:=by
  have h1:=bG (hzero V)
  rw [<- wP,<- h1];simp
 simp only [dC] at he
 obtain ⟨r,hr,rfl⟩:=he
 have aSr:=Ef (V:=V) (hzero V) (by omega) len
 obtain ⟨rs,Un,hdr⟩:=uU (V:=V) (T':=T') aO hT hr aSr h1 h2
 intro K Q hK
 unfold Oper.wp
 have Nb:Instr.fill (fun i=>some (i*te.size,te.size)) ((Array.range (len*te.size)).map (z.cells[· % z.cells.size]!)) (parts.toList.map fun p=>(p.1,a.eval p.2))=some rs:=by
  rw [<- Un,rJ]
 have dY:(execOp a.eval o).run P w = .ok (.value (.slice (some ⟨w.heap.size,0,none⟩) len len)) (w.alloc (.cells rs el)):=by
  unfold execOp
  have Cu:¬ (len*te.size>2^24):=by omega
  by_cases h0:len*te.size=0
  .have hlen:len=0:=by
    rcases Nat.mul_eq_zero.1 h0 with h | h
    .exact h
    .omega
   subst hlen
   have hr0:Array.range (0*te.size) = #[]:=by rw [Nat.zero_mul];rfl
   rw [hr0,Array.map_empty] at Nb
   simp only [bV,Instr.buildSlice,Sem.run_bind,run_underlying hu w,Result.andThen_ok,run_sizeOf hi,cD,if_neg Cu,if_pos h0,Sem.run_pure,hr0,Array.map_empty,Zh,Nb]
   simp [newRow]
  .simp only [bV,Instr.buildSlice,Sem.run_bind,run_underlying hu w,Result.andThen_ok,run_sizeOf hi,cD,if_neg Cu,if_neg h0,dV hi hz,Sem.run_pure,Zh,Nb]
   simp [newRow]
 rw [dY,Oper.upon_value]
 have:=hT.alloc hf (B:=.own r el) (cs:=rs.toList) (.inl rfl) hdr (.aG lab true 0 len len) []
 exact hK (V.put lab (w.heap.size,0)) _ _ (bA.kQ hf lab (dF _) (by omega) _) (by simp [den,bA.put]) this
def aCk (Γ:Env) (g:Nat->Option SV) (t:TypeId) (x:Operand):Option bK:=
 match Γ.ty t,ev Γ g x with
 | some ti,some v=>match ti.desc,Jj v with
   | .array n _,some (l,off,len)=>match Nat.ble n len with
     | true=>some { val:=.ptr l true off }
     | false=>none
   | .array n _,none=>match v with
     | .aG l false off len _=>some { bO:=[n<=len],val:=.ptr l false off }
     | .iA l len=>match Nat.blt 0 n with
       | true=>some { bO:=[n<=len],val:=.iS l 0 }
       | false=>none
     | _=>none
   | _,_=>none
 | _,_=>none
theorem XR (aW:cA P Γ) (ht:cF V g a) (hg:bP Γ V) (hT:aD w0 M V T w) {t:TypeId} {x:Operand} (bV:o.op = .sliceToArrayPointer t x) (he:aCk Γ g t x=some e) (ho:∀ q∈e.bO,q) (lab:Nat):kM P w0 M V T lab e o a w:=by
 unfold aCk at he
 split at he
 case h_2=>cases he
 rename_i ti v dX hv
 split at he
 case h_3=>cases he
 case h_2=>
  rename_i n el hd hs
  split at he
  case h_3=>cases he
  case h_2=>
   rename_i l len
   split at he
   case h_2=>cases he
   rename_i Md
   have Md:0<n:=by simpa [Nat.blt_eq] using Md
   simp only [aV] at he
   subst he
   have hle:n<=len:=ho _ dB
   obtain ⟨hu,_⟩:=aW t ti dX
   rw [hd] at hu
   have hx:=bH ht hg hv
   simp only [den,gL] at hx
   obtain ⟨y,hσ,hx⟩:=hx
   obtain ⟨hx,hy⟩:=jR hx
   rcases hy with ⟨_,h0⟩ | ⟨b,base,c,rfl,_⟩
   .omega
   refine bE (x:=.pointer (some ⟨b,base,none⟩)) ?_ (by simp [den,hσ,Addr.add]) rfl rfl hT
   unfold execOp
   have Cu:¬ len<n:=by omega
   simp only [bV,hx,Instr.arrayAt,Sem.run_bind,run_underlying hu w,Result.andThen_ok,if_neg Cu,Sem.run_pure]
  rename_i l off len cap
  simp only [aV] at he
  subst he
  have hle:n<=len:=ho _ dB
  obtain ⟨hu,_⟩:=aW t ti dX
  rw [hd] at hu
  have hx:=bH ht hg hv
  simp only [den,dC] at hx
  obtain ⟨p,hβ,hx⟩:=hx
  refine bE (x:=.pointer (some ⟨p.1,p.2+off,none⟩)) ?_ (by simp [den,hβ]) rfl rfl hT
  unfold execOp
  have Cu:¬ len<n:=by omega
  simp only [bV,<- hx,Instr.arrayAt,Sem.run_bind,run_underlying hu w,Result.andThen_ok,if_neg Cu,Sem.run_pure]
 rename_i n el l off len hd hs
 split at he
 case h_2=>cases he
 rename_i hle
 have hle:=kJ hle
 simp only [aV] at he
 subst he
 obtain ⟨hu,_⟩:=aW t ti dX
 rw [hd] at hu
 obtain ⟨p,c,hβ,hx⟩:=Ay hs (bH ht hg hv)
 refine bE (x:=.pointer (some ⟨p.1,p.2+off,none⟩)) ?_ (by simp [den,hβ]) rfl rfl hT
 unfold execOp
 have Cu:¬ len<n:=by omega
 simp only [bV,hx,Instr.arrayAt,Sem.run_bind,run_underlying hu w,Result.andThen_ok,if_neg Cu,Sem.run_pure]
def zOf:SV->Option (SV × Value)
 | .int _ k z=>some (.int true k z,.int k z)
 | .raw (.slice none 0 0)=>some (.raw (.slice none 0 0),.slice none 0 0)
 | _=>none
theorem aCy {v s:SV} {x:Value} (h:zOf v=some (s,x)) (V:bA):den V v=some x/\den V s=some x/\x.oneCell'=true:=by
 unfold zOf at h
 split at h
 .cases h;exact ⟨rfl,rfl,rfl⟩
 .cases h;exact ⟨rfl,rfl,rfl⟩
 .cases h
def Bn (d:TypeDesc) (te:TI) (el:TypeId) (lab:Nat) (x y:SV):Option bK:=
 match d,x,y with
 | .int _,.raw (.slice none 0 0),.int sn _ n=>match qX sn (0<n/\n*te.bytes<=140737488355328/\n<=9223372036854775807),te.zero,Nat.beq te.size 1 with
   | some ob,[z],true=>match zOf z with
     | some (s,_)=>some { bO:=ob,val:=.dD lab 0 n.toNat 0,new:=[.row 1 (List.replicate n.toNat s) el] }
     | none=>none
   | _,_,_=>none
 | _,_,_=>none
theorem hH (v:Value) (n:Nat):Builtin.zeroCells #[v] n=(List.replicate n v).toArray:=by
 apply Array.ext
 .simp [Builtin.zeroCells]
 .intro i h1 h2
  simp [Builtin.zeroCells,Nat.mod_one]
theorem oW (w:World) {t t2 ty el:TypeId} {ik:IntKind} {i:TypeInfo} {z:Value} (ht:P.underlying t=some (.slice el)) (Mm:P.underlying t2=some (.int ik)) (hi:P.info? el=some i) (hz:i.zero=some z) (fX:i.size=1) (k0:IntKind) (n:Nat)
 (h0:0<n) (ZC:(n:Int)<=9223372036854775807) (hb:n*i.bytes<=140737488355328) :
 (Builtin.append_ #[t,t2] ty #[.slice none 0 0,.int k0 n]).run P w = .ok (.slice (some ⟨w.heap.size,0,none⟩) n (grownCap w n 0 el))
  (w.drew.alloc (.cells (Builtin.zeroCells z.cells n++Builtin.zeroCells z.cells (grownCap w n 0 el-n)) el)):=by
 have hw:IntKind.i64.wrap (n:Int)=n:=IntWalk.i64_in _ (by omega)
 have hn:n≠0:=by omega
 have aBy:¬ (9223372036854775807<(n:Int)):=by omega
 have h1:¬ ((n:Int)<0):=by omega
 have h2:¬ (281474976710656<(n:Int)*(i.bytes:Int)):=by
  have:((n*i.bytes:Nat):Int)<=140737488355328:=by omega
  rw [Int.natCast_mul] at this
  omega
 have aBz:¬ (281474976710656<Builtin.nextslicecap n 0*i.bytes):=by rw [nextslicecap_zero h0];omega
 simp [Builtin.append_,run_underlying ht,run_underlying Mm,sizeOf,typeInfo,zeroValue,hi,hz,fX,asInt,asIntOf,hw,h1,h2,hn,aBy,aBz,Question.forced,newRow,grownCap,Builtin.firstCells]
theorem Ly (aW:cA P Γ) (hT:aD w0 M V T w) {lab:Nat} (hf:V.fresh lab) {t t2 ty el:TypeId} {d:TypeDesc} {te:TI} (ht:P.underlying t=some (.slice el)) (Mm:P.underlying t2=some d) (eD:Γ.ty el=some te)
 {x y:SV} {u v:Value} (hx:den V x=some u) (hy:den V y=some v) (he:Bn d te el lab x y=some e) (ho:∀ q∈e.bO,q):oB P w0 M V T lab e (Builtin.append_ #[t,t2] ty #[u,v]) w:=by
 unfold Bn at he
 split at he
 case h_2=>cases he
 rename_i ik sn kk n
 split at he
 case h_2=>cases he
 rename_i ob z0 hc MN hs
 split at he
 case h_2=>cases he
 rename_i s x0 hzo
 have hs:=cM hs
 simp only [aV] at he
 subst he
 obtain ⟨h1,h2,h3⟩:=gE hc ho
 simp only [den,aV] at hx hy
 subst hx hy
 obtain ⟨_,i,zv,hi,cD,lO,hz,hzero⟩:=aW el te eD
 obtain ⟨m,rfl⟩:=pD (Int.le_of_lt h1)
 have hm:0<m:=by omega
 obtain ⟨zo1,zo2,zo3⟩:=aCy hzo V
 have Cc:zv.cells = #[x0]:=by
  have:=hzero V
  rw [MN] at this
  simp only [aI,zo1,mZ,gQ,aV] at this
  apply Array.ext'
  exact this.symm
 have hb:m*i.bytes<=140737488355328:=by
  rw [lO]
  have:((m*te.bytes:Nat):Int)<=140737488355328:=by rw [Int.natCast_mul];exact h2
  exact Int.ofNat_le.1 this
 have hr:=oW (P:=P) (ty:=ty) w ht Mm hi hz (cD.trans hs) kk m hm h3 hb
 have ZA:=grownCap_ge w m 0 el
 have YZ:grownCap w m 0 el<=maxLen:=grownCap_le_maxLen w m 0 el (by simp only [maxLen];omega)
 have bQ:(w.drew.alloc (.cells (Builtin.zeroCells zv.cells m++Builtin.zeroCells zv.cells (grownCap w m 0 el-m)) el)).ownsRow 0 el 1 (.slice (some ⟨w.heap.size,0,none⟩) m (grownCap w m 0 el)) m (List.replicate m x0):=by
  refine ⟨by simp,.inr ⟨w.heap.size,_,_,rfl,Nat.zero_le _,heap_alloc_new w.drew _,ZA,YZ,?_,?_⟩⟩
  .rw [Cc];simp [hH];omega
  .rw [Cc];simp [hH]
 have sQ:w.grownBy (w.drew.alloc (.cells (Builtin.zeroCells zv.cells m++Builtin.zeroCells zv.cells (grownCap w m 0 el-m)) el)) none:=⟨rfl,rfl,rfl,by simp,fun k hk _=>heap_alloc_old w.drew _ hk⟩
 have Vi:aI V (List.replicate m s)=some (List.replicate m x0):=by
  clear hr ZA YZ bQ sQ hb h1 h2 h3 hm hc ho
  induction m with
  | zero=>rfl
  | succ m ih=>simp [List.replicate_succ,aI,zo2,ih]
 obtain ⟨b,cap,MP,pC⟩:=hT.Hu (lab:=lab) hf (lo:=none) (own:=none) Vi bQ (by simp) sQ (.inr rfl) (fun _=>rfl) (fun l hl=>(by cases hl)) (.dD lab 0 m 0) ob
 refine ⟨_,_,_,hr,bA.uN hf lab (dF _) (by omega) _ _,?_,pC⟩
 simp [den,bA.Ft,bA.put,bA.aZ,pM,MP]
def AV (Γ:Env) (d:TypeDesc):Option IntKind:=match d with
 | .array _ el=>match Γ.ty el with
   | some te=>match te.desc,Nat.beq te.size 1 with
     | .int k,true=>some k
     | _,_=>none
   | none=>none
 | _=>none
def Og (Γ:Env) (g:Nat->Option SV) (T:bB) (t:TypeId) (x:Operand):Option bK:=
 match ev Γ g x,Γ.ty t with
 | some (.ptr l s off),some ti=>match AV Γ ti.desc,T l with
   | some _,some (.ints k xs _)=>match s&&Nat.beq off 0 with
     | true=>some (dQ (.ai k xs) [xs.length=ti.size])
     | false=>some (dQ (.ai k ((xs.drop off).take ti.size)) [off+ti.size<=xs.length])
   | some _,some (.nA k xs)=>some (dQ (.ai k ((xs.drop off).take ti.size)) [off+ti.size<=xs.length])
   | _,_=>none
 | _,_=>none
theorem oV (xs:List Int) (off n:Nat) (h:off+n<=xs.length) (k:IntKind):(List.range n).map (fun j=>Value.int k (xs.getD (off+j) 0))=((xs.drop off).take n).map (Value.int k):=by
 apply List.ext_getElem
 .simp;omega
 .intro i h1 h2
  simp only [List.length_map,List.length_range] at h1
  have h3:off+i<xs.length:=by omega
  simp [gH,h3]
theorem Xs (aW:cA P Γ) (ht:cF V g a) (hg:bP Γ V) {T':bB} (aO:∀ l B,T' l=some B->T l=some B) (hT:aD w0 M V T w) {t:TypeId} {x:Operand} (bV:o.op = .load t x)
 (he:Og Γ g T' t x=some e) (ho:∀ q∈e.bO,q) (lab:Nat):kM P w0 M V T lab e o a w:=by
 unfold Og at he
 split at he
 case h_2=>cases he
 rename_i l s off ti hx dX
 have ex:=bH ht hg hx
 simp only [den,dC] at ex
 obtain ⟨⟨b,base⟩,hβ,ex⟩:=ex
 obtain ⟨hu,i,z,hi,fX,_⟩:=aW t ti dX
 have main:∀ (B:SB) (k:IntKind) (xs ys:List Int),(B = .ints k xs (match B with | .ints _ _ ty=>ty | _=>0)\/B = .nA k xs)->T' l=some B->rP ti.desc=true->off+ti.size<=xs.length->ys=(xs.drop off).take ti.size->e.val = .ai k ys->e.new=[]->e.wr=[]->kM P w0 M V T lab e o a w:=by
  intro B k xs ys hBk hB fZ hle pE h1 h2 h3
  have hr:Qt B false off ti.size=some ([off+ti.size<=xs.length],(List.range ti.size).map fun j=>.int false k (xs.getD (off+j) 0)):=by
   rcases hBk with q | q <;> rw [q] <;> rfl
  obtain ⟨zs,g1,g2,g3⟩:=oD (hT.ok l B (aO l B hB)) hβ hr (by intro q hq;simp only [List.mem_singleton] at hq;subst hq;exact hle)
  rw [fI (V:=V) ti.size (fun j=>.int false k (xs.getD (off+j) 0)) (fun j=>.int k (xs.getD (off+j) 0)) (fun j _=>rfl),oV xs off ti.size hle k] at g1
  cases g1
  have:=(dP hu hi b (base+off) _ (by rw [g2,fX]) g3).1 fZ
  refine bE (x:=.agg (((xs.drop off).take ti.size).map (Value.int k)).toArray) ?_ (by rw [h1,pE];rfl) h2 h3 hT
  unfold execOp
  simp only [bV,<- ex,Instr.loadAt,Instr.sureAddr,Sem.run_bind,Sem.run_pure,Result.andThen_ok,this]
 have fZ:∀ k0,AV Γ ti.desc=some k0->rP ti.desc=true:=by
  intro k0 h
  unfold AV at h
  split at h
  .rename_i hd;rw [hd];rfl
  .cases h
 split at he
 .rename_i k0 k xs ty ha hB
  split at he
  .rename_i hs
   simp only [iG] at hs
   have h0:=cM hs.2
   subst h0
   simp only [dQ,aV] at he
   subst he
   have hl:xs.length=ti.size:=ho _ (by simp)
   exact main (.ints k xs ty) k xs xs (.inl rfl) hB (fZ _ ha) (by omega) (by rw [List.drop_zero,<- hl,List.take_length]) rfl rfl rfl
  .simp only [dQ,aV] at he
   subst he
   exact main (.ints k xs ty) k xs _ (.inl rfl) hB (fZ _ ha) (ho _ (by simp)) rfl rfl rfl rfl
 .rename_i k0 k xs ha hB
  simp only [dQ,aV] at he
  subst he
  exact main (.nA k xs) k xs _ (.inr rfl) hB (fZ _ ha) (ho _ (by simp)) rfl rfl rfl rfl
 .cases he
def wrA (B:SB) (s:Bool) (off n:Nat) (k:IntKind) (xs:List Int):Option (List Prop × SB):=
 match B with
 | .ints k2 ys ty=>match wW k k2,s&&Nat.beq off 0 with
   | true,true=>some ([xs.length=n/\ys.length=n],.ints k xs ty)
   | true,false=>some ([xs.length=n/\off+n<=ys.length],.ints k (ys.take off++xs++ys.drop (off+n)) ty)
   | _,_=>none
 | .own cs ty=>match s&&(Nat.beq off 0&&Nat.beq cs.length n) with
   | true=>some ([xs.length=n],.ints k xs ty)
   | false=>match Yz (.own cs ty) s off (cK k n xs) with
     | some (ob,B')=>some ((xs.length=n)::ob,B')
     | none=>none
 | B=>match Yz B s off (cK k n xs) with
   | some (ob,B')=>some ((xs.length=n)::ob,B')
   | none=>none
def Hg (Γ:Env) (g:Nat->Option SV) (T:bB) (t:TypeId) (x y:Operand):Option bK:=
 match ev Γ g x,ev Γ g y,Γ.ty t with
 | some (.ptr l s off),some (.ai k xs),some ti=>match T l with
   | some B=>match wrA B s off ti.size k xs with
     | some (ob,B')=>some { bO:=ob,val:=.raw undef,wr:=[(l,B')] }
     | none=>none
   | none=>none
 | _,_,_=>none
theorem nR {l:Nat} {ys xs:List Int} {ty:TypeId} {k:IntKind} {off b o:Nat} (lab:Nat) (rv:SV) (ob:List Prop)
 (hT:aD w0 M V T w) (hl:T l=some (.ints k ys ty)) (hβ:V.β l=some (b,o)) (hle:off+xs.length<=ys.length) :
 ∃ w',(storeCells ⟨b,o+off,none⟩ (xs.map (Value.int k))).run P w = .ok () w'/\aD w0 M V (eQ T lab { bO:=ob,val:=rv,wr:=[(l,.ints k (ys.take off++xs++ys.drop (off+xs.length)) ty)] }) w':=by
 obtain ⟨cs,hc,b',hb,hh⟩:=hT.ok l _ hl
 rw [hβ] at hb;cases hb
 simp only [SB.cells,aV] at hc
 subst hc
 refine ⟨_,run_storeCells_at P b (0+off) ty _ 0 _ w hh (by simp;omega) (by intro x hx;simp only [List.mem_map] at hx;obtain ⟨y,_,rfl⟩:=hx;rfl),?_⟩
 have bY:SB.cells V (.ints k (ys.take off++xs++ys.drop (off+xs.length)) ty)=some ((ys.map (Value.int k)).take off++xs.map (Value.int k)++(ys.map (Value.int k)).drop (off+(xs.map (Value.int k)).length)):=by
  simp [SB.cells,List.map_take,List.map_drop]
 have:=hT.write (B0:=.ints k ys ty) (B:=.ints k (ys.take off++xs++ys.drop (off+xs.length)) ty) hl hβ rfl (by simp [SB.aT,hβ]) hh bY (.inr (.inl rfl)) lab rv ob
 simpa using this
theorem aDe {l:Nat} {B B':SB} {s:Bool} {off n:Nat} {k:IntKind} {xs:List Int} {ob:List Prop} {b o:Nat} (lab:Nat) (rv:SV)
 (hT:aD w0 M V T w) (hl:T l=some B) (hβ:V.β l=some (b,o)) (h:wrA B s off n k xs=some (ob,B')) (ho:∀ q∈ob,q) :
 xs.length=n/\∃ w',(storeCells ⟨b,o+off,none⟩ (xs.map (Value.int k))).run P w = .ok () w'/\aD w0 M V (eQ T lab { bO:=ob,val:=rv,wr:=[(l,B')] }) w':=by
 have rest:∀ ob',(match Yz B s off (cK k n xs) with
   | some (ob,B')=>some ((xs.length=n)::ob,B')
   | none=>none)=some (ob',B')->(∀ q∈ob',q)->ob'=ob->xs.length=n/\∃ w',(storeCells ⟨b,o+off,none⟩ (xs.map (Value.int k))).run P w = .ok () w'/\aD w0 M V (eQ T lab { bO:=ob,val:=rv,wr:=[(l,B')] }) w':=by
  intro ob' h jS rK
  split at h
  .rename_i ob2 B2 h2
   cases h
   have hn:xs.length=n:=jS _ dB
   refine ⟨hn,?_⟩
   obtain ⟨w',h3,h4⟩:=Gc (P:=P) lab rv hT hl hβ h2 (fun q hq=>jS q (eK _ hq)) (uS hn) (by intro x hx;simp only [List.mem_map] at hx;obtain ⟨y,_,rfl⟩:=hx;rfl)
   exact ⟨w',h3,h4⟩
  .cases h
 cases B with
 | ints k2 ys ty=>
   simp only [wrA] at h
   split at h
   .rename_i hk hs
    cases h
    have hk:k=k2:=jG hk
    subst hk
    simp only [iG] at hs
    have h0:=cM hs.2
    subst h0
    obtain ⟨h1,h2⟩:xs.length=n/\ys.length=n:=ho _ (by simp)
    refine ⟨h1,?_⟩
    obtain ⟨w',h3,h4⟩:=nR (P:=P) (xs:=xs) (off:=0) lab rv [xs.length=n/\ys.length=n] hT hl hβ (by omega)
    refine ⟨w',h3,?_⟩
    have e:ys.take 0++xs++ys.drop (0+xs.length)=xs:=by
     rw [Nat.zero_add,h1,<- h2,List.drop_length];simp
    rw [e] at h4
    exact h4
   .rename_i hk hs
    cases h
    have hk:k=k2:=jG hk
    subst hk
    obtain ⟨h1,h2⟩:xs.length=n/\off+n<=ys.length:=ho _ (by simp)
    refine ⟨h1,?_⟩
    subst h1
    exact nR (P:=P) lab rv _ hT hl hβ h2
   .cases h
 | own cells ty=>
   simp only [wrA] at h
   split at h
   .rename_i hs
    cases h
    simp only [iG] at hs
    have h0:=cM hs.2.1
    have qV:=cM hs.2.2
    subst h0
    have h1:xs.length=n:=ho _ (by simp)
    refine ⟨h1,?_⟩
    obtain ⟨cs,hc,b',hb,hh⟩:=hT.ok l _ hl
    rw [hβ] at hb;cases hb
    have nU:=bG (show aI V cells=some cs from hc)
    refine ⟨_,run_storeCells_at P b (0+0) ty _ 0 _ w hh (by simp;omega) (by intro x hx;simp only [List.mem_map] at hx;obtain ⟨y,_,rfl⟩:=hx;rfl),?_⟩
    have e:cs.take 0++xs.map (Value.int k)++cs.drop (0+(xs.map (Value.int k)).length)=xs.map (Value.int k):=by
     simp;omega
    have:=hT.write (B0:=.own cells ty) (B:=.ints k xs ty) hl hβ rfl (by simp [SB.aT,hβ]) hh rfl (.inr (.inl rfl)) lab rv [xs.length=n]
    rw [<- e] at this
    simpa using this
   .exact rest ob h ho rfl
 | row sz cells ty=>exact rest ob h ho rfl
 | fL cells=>exact rest ob h ho rfl
 | nA k xs=>exact rest ob h ho rfl
 | dL k xs ty=>exact rest ob h ho rfl
 | fM sz n ty=>exact rest ob h ho rfl
 | eI vs ty=>exact rest ob h ho rfl
 | iT k xs=>exact rest ob h ho rfl
 | eH xs ty=>exact rest ob h ho rfl
 | qG xs=>exact rest ob h ho rfl
 | gone=>exact rest ob h ho rfl
theorem Px (aW:cA P Γ) (ht:cF V g a) (hg:bP Γ V) {T':bB} (aO:∀ l B,T' l=some B->T l=some B) (hT:aD w0 M V T w) {t:TypeId} {x y:Operand} (bV:o.op = .store t x y)
 (he:Hg Γ g T' t x y=some e) (ho:∀ q∈e.bO,q) (lab:Nat):kM P w0 M V T lab e o a w:=by
 unfold Hg at he
 split at he
 case h_2=>cases he
 rename_i l s off k xs ti hx hy dX
 split at he
 case h_2=>cases he
 rename_i B hB
 split at he
 case h_2=>cases he
 rename_i ob B' hw
 simp only [aV] at he
 subst he
 have ex:=bH ht hg hx
 simp only [den,dC] at ex
 obtain ⟨⟨b,base⟩,hβ,ex⟩:=ex
 have ey:=bH ht hg hy
 simp only [den,aV] at ey
 obtain ⟨hu,i,z,hi,fX,_⟩:=aW t ti dX
 obtain ⟨hn,w',h1,h2⟩:=aDe (P:=P) lab (.raw undef) hT (aO l B hB) hβ hw ho
 intro K Q hK
 unfold Oper.wp
 have hl:(a.eval y).cells.size=i.size:=by rw [<- ey,fX,<- hn];simp [Value.cells]
 have qV:(a.eval y).cells.toList=xs.map (Value.int k):=by rw [<- ey];simp [Value.cells]
 have dY:(execOp a.eval o).run P w = .ok .skip w':=by
  unfold execOp
  simp [bV,<- ex,Instr.storeAt,Instr.sureAddr,storeVar,run_sizeOf hi,hl,qV,h1]
 rw [dY,Oper.upon_skip]
 exact hK V undef w' (V.cN lab) rfl h2
def He (Γ:Env) (g:Nat->Option SV) (T:bB) (t:TypeId) (x y:Operand):Option bK:=
 match ev Γ g x,ev Γ g y,Γ.ty t with
 | some (.ptr l true off),some (.buf l2),some ti=>match T l,QA T l2,Nat.beq ti.size 1 with
   | some (.own cs ty),true,true=>match Nat.blt off cs.length with
     | true=>some { val:=.raw undef,wr:=[(l,.own (cs.take off++[.buf l2]++cs.drop (off+1)) ty)] }
     | false=>none
   | _,_,_=>none
 | _,_,_=>none
theorem Pv (aW:cA P Γ) (ht:cF V g a) (hg:bP Γ V) {T':bB} (aO:∀ l B,T' l=some B->T l=some B) (hT:aD w0 M V T w) {t:TypeId} {x y:Operand} (bV:o.op = .store t x y)
 (he:He Γ g T' t x y=some e) (lab:Nat):kM P w0 M V T lab e o a w:=by
 unfold He at he
 split at he
 case h_2=>cases he
 rename_i l off l2 ti hx hy dX
 split at he
 case h_2=>cases he
 rename_i cells ty hB aTn fX
 split at he
 case h_2=>cases he
 rename_i cL
 have cL:off<cells.length:=by simpa [Nat.blt_eq] using cL
 simp only [aV] at he
 subst he
 have ex:=bH ht hg hx
 simp only [den,dC] at ex
 obtain ⟨⟨b,base⟩,hβ,ex⟩:=ex
 have ey:=bH ht hg hy
 obtain ⟨hu,i,z,hi,cD,_⟩:=aW t ti dX
 obtain ⟨h1,h2⟩:=Ua aO hT aTn ey
 obtain ⟨cs,hc,b',hb,hh⟩:=hT.ok l _ (aO l _ hB)
 rw [hβ] at hb;cases hb
 have hlen:=bG (show aI V cells=some cs from hc)
 have bY:aI V (cells.take off++[SV.buf l2]++cells.drop (off+1))=some (cs.take off++[a.eval y]++cs.drop (off+[a.eval y].length)):=
  cI (cI (dZ off hc) (by simp only [aI,ey,mZ,gQ])) (iM _ hc)
 obtain ⟨w',h3,h4⟩:∃ w',(storeCells ⟨b,0+off,none⟩ [a.eval y]).run P w = .ok () w'/\aD w0 M V (eQ T lab { val:=.raw undef,wr:=[(l,.own (cells.take off++[SV.buf l2]++cells.drop (off+1)) ty)] }) w':=by
  refine ⟨_,run_storeCells_at P b (0+off) ty [a.eval y] 0 cs.toArray w hh (by simp;omega) (fun q hq=>by simp only [List.mem_singleton] at hq;subst hq;exact h1),?_⟩
  have:=hT.write (B0:=.own cells ty) (B:=.own (cells.take off++[SV.buf l2]++cells.drop (off+1)) ty) (aO l _ hB) hβ rfl (by simp [SB.aT,hβ]) hh bY (.inl rfl) lab (.raw undef) []
  simpa using this
 intro K Q hK
 unfold Oper.wp
 have aBt:i.size=1:=by rw [cD];exact cM fX
 have dY:(execOp a.eval o).run P w = .ok .skip w':=by
  unfold execOp
  simp only [Nat.zero_add] at h3
  simp [bV,<- ex,Instr.storeAt,Instr.sureAddr,storeVar,run_sizeOf hi,h2,aBt,h3]
 rw [dY,Oper.upon_skip]
 exact hK V undef w' (V.cN lab) rfl h4
def DJ (Γ:Env) (g:Nat->Option SV) (t:TypeId) (x:Operand) (lab:Nat):Option bK:=
 match ev Γ g x with
 | some (.ai k xs)=>some { val:=.ptr lab true 0,new:=[.ints k xs t] }
 | _=>none
theorem LK (ht:cF V g a) (hg:bP Γ V) (hT:aD w0 M V T w) {t:TypeId} {x:Operand} (bV:o.op = .box t x) {lab:Nat} (hf:V.fresh lab) (he:DJ Γ g t x lab=some e):kM P w0 M V T lab e o a w:=by
 unfold DJ at he
 split at he
 case h_2=>cases he
 rename_i k xs hx
 simp only [aV] at he
 subst he
 have ex:=bH ht hg hx
 simp only [den,aV] at ex
 intro K Q hK
 unfold Oper.wp
 have hr:(execOp a.eval o).run P w = .ok (.value (.pointer (some ⟨w.heap.size,0,none⟩))) (w.alloc (.cells (xs.map (Value.int k)).toArray t)):=by
  unfold execOp
  simp [bV,<- ex,Instr.box,newVar,newRow,Value.cells]
 rw [hr,Oper.upon_value]
 have:=hT.alloc hf (B:=.ints k xs t) (.inr (.inl rfl)) rfl (.ptr lab true 0) []
 exact hK _ _ _ (bA.kQ hf lab (dF _) (by omega) _) (by simp [den,bA.put]) this
def Ho (Γ:Env) (g:Nat->Option SV) (t:TypeId) (x y:Operand):Option bK:=
 match ev Γ g x,ev Γ g y,Γ.ty t with
 | some (.ai k xs),some (.int _ _ i),some ti=>match ti.desc with
   | .array len el=>match Γ.ty el with
     | some te=>match Nat.beq te.size 1,rP te.desc with
       | true,false=>some (dQ (.int false k (xs.getD i.toNat 0)) [0<=i/\i<len/\i.toNat<xs.length])
       | _,_=>none
     | none=>none
   | _=>none
 | _,_,_=>none
theorem Qf (aW:cA P Γ) (ht:cF V g a) (hg:bP Γ V) (hT:aD w0 M V T w) {t:TypeId} {x y:Operand} (bV:o.op = .index t x y) (he:Ho Γ g t x y=some e) (ho:∀ q∈e.bO,q) (lab:Nat):kM P w0 M V T lab e o a w:=by
 unfold Ho at he
 split at he
 case h_2=>cases he
 rename_i k xs s2 k2 i ti hx hy dX
 split at he
 case h_2=>cases he
 rename_i len el hd
 split at he
 case h_2=>cases he
 rename_i te eD
 split at he
 case h_2=>cases he
 rename_i iC fZ
 have iC:=cM iC
 simp only [dQ,aV] at he
 subst he
 obtain ⟨h1,h2,h3⟩:0<=i/\i<len/\i.toNat<xs.length:=ho _ (by simp)
 have ex:=bH ht hg hx
 have ey:=bH ht hg hy
 simp only [den,aV] at ex ey
 obtain ⟨Ci,ii,z,hi,cD,_⟩:=aW el te eD
 have hu:=(aW t ti dX).1
 rw [hd] at hu
 refine bE (x:=.int k (xs.getD i.toNat 0)) ?_ rfl rfl rfl hT
 have hy':(xs.map (Value.int k)).toArray[i.toNat*te.size]?=some (.int k (xs.getD i.toNat 0)):=by
  rw [iC,Nat.mul_one];simp [h3,gH]
 unfold execOp
 simp only [bV,<- ex,<- ey,Instr.index,asIntOf,Sem.run_bind,Sem.run_pure,run_underlying hu w,Result.andThen_ok,if_pos (And.intro h1 h2),part,eJ Ci,fZ,Bool.false_eq_true,if_false,run_sizeOf hi,cD,hy']
def tC:List SV->Option (IntKind × List Int)
 | .int s k n::r=>(cR k (.int s k n::r)).map fun ns=>(k,ns)
 | _=>none
theorem Bi {V:bA} {vs:List SV} {k:IntKind} {ns:List Int} (h:tC vs=some (k,ns)):aI V vs=some (ns.map (Value.int k)):=by
 unfold tC at h
 split at h
 .simp only [dC,Prod.mk.injEq] at h
  obtain ⟨ms,hm,rfl,rfl⟩:=h
  exact cQ hm
 .cases h
def cJ:SV->Option (IntKind × List Int)
 | .ai k xs=>some (k,xs)
 | .agg vs=>tC vs
 | _=>none
theorem Et {v:SV} {k:IntKind} {xs:List Int} (h:cJ v=some (k,xs)):den V v=some (.agg (xs.map (Value.int k)).toArray):=by
 unfold cJ at h
 split at h
 .cases h;rfl
 .simp only [den,Bi h,gQ]
 .cases h
end Fm
section aPu
variable {P:Program} {Γ:Env} {V:bA} {w w0:World} {M:Nat->Prop} {T:bB} {g:Nat->Option SV} {a:Act} {o:Oper} {e:bK}
def aFy:List SV->Bool
 | .int .. :: _=>true
 | _=>false
def Hk (Γ:Env) (g:Nat->Option SV) (T:bB) (t:TypeId) (x:Operand) (lo hi mx:Option Operand):Option bK:=
 match hi,lo,mx with
 | some y,none,none=>match ev Γ g y with
   | some (.int true _ h)=>match decide (h=0) with
     | true=>match ev Γ g x,Γ.ty t with
       | some (.dD l 0 _ 0),some ti=>match ti.desc with
         | .slice el=>match Γ.ty el,T l with
           | some _,some (.row sz cs ty)=>match aFy cs with
             | true=>none
             | false=>some { val:=.dD l 0 0 0,wr:=[(l,.row sz [] ty)] }
           | _,_=>none
         | _=>none
       | _,_=>none
     | false=>none
   | _=>none
 | _,_,_=>none
theorem Qb (aW:cA P Γ) (ht:cF V g a) (hg:bP Γ V) {T':bB} (aO:∀ l B,T' l=some B->T l=some B) (hT:aD w0 M V T w) {t:TypeId} {x:Operand} {lo hi mx:Option Operand} (bV:o.op = .slice t x lo hi mx)
 (he:Hk Γ g T' t x lo hi mx=some e) (lab:Nat):kM P w0 M V T lab e o a w:=by
 unfold Hk at he
 split at he
 case h_2=>cases he
 rename_i y
 split at he
 case h_2=>cases he
 rename_i kk h hy
 split at he
 case h_2=>cases he
 rename_i h0
 have h0:=jG h0
 subst h0
 split at he
 case h_2=>cases he
 rename_i l len ti hx dX
 split at he
 case h_2=>cases he
 rename_i el hd
 split at he
 case h_2=>cases he
 rename_i te sz cells ty0 eD hB
 split at he
 case h_1=>cases he
 cases he
 have ex:=bH ht hg hx
 have ey:=bH ht hg hy
 simp only [den,dC,gL,aV,Nat.add_zero,Nat.sub_zero] at ex ey
 obtain ⟨⟨b,base⟩,hβ,c,hc,ex⟩:=ex
 have hu:=(aW t ti dX).1
 rw [hd] at hu
 obtain ⟨_,i,z,fP,cD,_⟩:=aW el te eD
 have hr:=eP (P:=P) (w:=w) (a:=a) true len c (lo:=none) (hi:=some y) (mx:=none) (m:=(c:Int)) (h:=0) (k:=((0:Nat):Int)) (.inl ⟨rfl,rfl⟩) (.inr ⟨y,kk,rfl,ey.symm⟩) (.inl ⟨rfl,rfl⟩) rfl ⟨by omega,by omega,by omega,by omega,by omega,by omega⟩
 simp only [Option.map_none,gQ,qZ,Int.toNat_zero] at hr
 have hB:=aO l _ hB
 obtain ⟨xs,nE,b',cap,cur,r1,r2,r3,r4,r5,r6,r7⟩:=hT.ok l _ hB
 have pC:=hT.change (B:=.row sz [] ty0) (b:=b') hB rfl (by simp [SB.aT,r1]) ⟨[],rfl,b',cap,cur,r1,r2,r3,r4,r5,⟨0,by simp,Nat.zero_le _⟩,rfl⟩ (by simp [SB.aT,r1]) (dF _) (fun _ _ _=>rfl) rfl rfl rfl lab (.dD l 0 0 0) []
 have dY:(execOp a.eval o).run P w = .ok (.value (.slice (some ⟨b,base,none⟩) 0 c)) w:=?_
 .intro K Q hK
  unfold Oper.wp
  rw [dY,Oper.upon_value]
  exact hK V _ w (V.cN lab) (by simp [den,hβ,hc]) pC
 unfold execOp
 simp only [bV,<- ex,Instr.sliceAt,Instr.slice,Sem.run_bind,run_underlying hu w,Result.andThen_ok,Sem.run_pure,hr,run_sizeOf fP,Option.map_none,gQ,Nat.zero_mul,Nat.sub_zero,bJ,Nat.add_zero,ite_self]
end aPu
def Ju:SV->Option Nat
 | .aG l _ _ _ _=>some l
 | .buf l=>some l
 | .lS l _ _=>some l
 | .iA l _=>some l
 | .dD l _ _ _=>some l
 | _=>none
section aPt
variable {P:Program} {Γ:Env} {V:bA} {w w0:World} {M:Nat->Prop} {T:bB} {g:Nat->Option SV} {a:Act} {o:Oper} {e:bK}
def aBf:SB->Option (List (Int × Int))
 | .eH xs _=>some xs
 | .qG xs=>some xs
 | _=>none
def Dp (T:bB):SV->Option (List (Int × Int))
 | .raw (.slice none 0 0)=>some []
 | .buf l=>match T l with
   | some B=>aBf B
   | _=>none
 | .iA l _=>match T l with
   | some (.qG xs)=>some xs
   | _=>none
 | _=>none
theorem Gx {l:Nat} {B:SB} {xs:List (Int × Int)} (mV:okB V w l B) (h:aBf B=some xs):∃ u,V.σ l=some u/\Ji w u xs/\∀ n,gX u=some n->B.aT V l=some n:=by
 obtain ⟨cs,hc,hh⟩:=mV
 cases B with
 | eH ys ty=>
   cases h
   cases hc
   obtain ⟨u,hσ,bQ⟩:=hh
   refine ⟨u,hσ,?_,fun n hn=>by simp [SB.aT,hσ,eV hn]⟩
   rcases bQ.2 with ⟨rfl,h0⟩ | ⟨gb,cap,cur,rfl,_,hh,hle,_,_,dK⟩
   .exact .inl ⟨.nil,List.eq_nil_of_length_eq_zero h0⟩
   .refine .inr ⟨gb,0,cap,rfl,(Array.getElem?_eq_some_iff.1 hh).1,hle,fun j u hj=>?_⟩
    rw [cell_of_row w gb _ _ _ _ hh]
    rw [<- dK,List.getElem?_take] at hj
    split at hj
    .simpa using hj
    .cases hj
 | qG ys=>
   cases h
   obtain ⟨u,hσ,bQ⟩:=hh
   exact ⟨u,hσ,bQ,fun n hn=>by simp [SB.aT,hσ,hn]⟩
 | _=>cases h
theorem Az {v:SV} {x:Value} {ys:List (Int × Int)} (hT:aD w0 M V T w) (hv:den V v=some x) (h:Dp T v=some ys) :
 Ji w x ys/\∀ n,gX x=some n->∃ l B,Ju v=some l/\T l=some B/\B.aT V l=some n:=by
 unfold Dp at h
 split at h
 .cases h
  simp only [den,aV] at hv
  subst hv
  exact ⟨.inl ⟨.nil,rfl⟩,fun n hn=>by cases hn⟩
 .rename_i l
  split at h
  case h_2=>cases h
  rename_i B hB
  obtain ⟨u,hσ,h1,h2⟩:=Gx (hT.ok l _ hB) h
  simp only [den,hσ,aV] at hv
  subst hv
  exact ⟨h1,fun n hn=>⟨l,_,rfl,hB,h2 n hn⟩⟩
 .rename_i l n0
  split at h
  case h_2=>cases h
  rename_i xs hB
  cases h
  obtain ⟨cs,hc,u,hσ,bQ⟩:=hT.ok l _ hB
  simp only [den,gL] at hv
  obtain ⟨u',gD,hv⟩:=hv
  rw [hσ] at gD
  cases gD
  obtain ⟨rfl,_⟩:=jR hv
  exact ⟨bQ,fun n hn=>⟨l,_,rfl,hB,by simp [SB.aT,hσ,hn]⟩⟩
 .cases h
theorem Ji.iA {x:Value} {ys:List (Int × Int)} (h:Ji w x ys):nW ys.length x=some x:=by
 rcases h with ⟨⟨a,rfl⟩,rfl⟩ | ⟨b,o,c,rfl,_,hc,_⟩
 .cases a <;> simp [nW]
 .simp [nW,hc]
def yD:List SV->Option (List (Int × Int))
 | []=>some []
 | .int _ .i64 x :: .int _ .i64 y::r=>(yD r).map ((x,y) :: ·)
 | _=>none
theorem Pl {V:bA}:∀ {cs:List SV} {ps:List (Int × Int)},yD cs=some ps->aI V cs=some (dS ps):=by
 intro cs
 fun_induction yD cs with
 | case1=>intro ps h;cases h;rfl
 | case2 s1 x s2 y r ih=>
   intro ps h
   simp only [dC] at h
   obtain ⟨qs,hq,rfl⟩:=h
   simp [aI,den,ih hq,dS]
 | case3=>intro ps h;cases h
def aBa (T:bB) (y:SV):Option (List (Int × Int)):=match Dp T y with
 | some ys=>some ys
 | none=>match Cr T 2 y with
   | some (m,cs)=>match yD cs with
     | some ys=>match Nat.beq ys.length m with
       | true=>some ys
       | false=>none
     | none=>none
   | none=>none
theorem nT:∀ xs:List (Int × Int),(dS xs).length=xs.length*2
 | []=>rfl
 | p::r=>by
   have:=nT r
   simp only [dS,List.flatMap_cons,List.length_append,List.length_cons,List.length_nil] at this |-
   omega
theorem oO (xs ys:List (Int × Int)):dS (xs++ys)=dS xs++dS ys:=by simp [dS]
theorem Em (xs:List (Int × Int)):∀ q∈dS xs,q.oneCell'=true:=by
 intro q hq
 simp only [dS,List.mem_flatMap] at hq
 obtain ⟨p,_,hq⟩:=hq
 simp only [List.mem_cons,List.not_mem_nil,or_false] at hq
 rcases hq with rfl | rfl <;> rfl
theorem QY {y:SV} {v:Value} {ys:List (Int × Int)} (hT:aD w0 M V T w) (hv:den V y=some v) (h:aBa T y=some ys) :
 (∃ a,v = .slice a 0 0/\ys=[])\/∃ (ad:Addr) (c:Nat),v = .slice (some ad) ys.length c/\∀ (j:Nat) (u:Value),(dS ys)[j]?=some u->w.cell? (ad.add j)=some u:=by
 unfold aBa at h
 split at h
 .rename_i ys' hs
  cases h
  rcases (Az hT hv hs).1 with ⟨⟨a,rfl⟩,rfl⟩ | ⟨b,o,c,rfl,_,_,hc⟩
  .exact .inl ⟨a,rfl,rfl⟩
  .exact .inr ⟨_,c,rfl,fun j u hj=>by rw [bJ];exact hc j u hj⟩
 .split at h
  case h_2=>cases h
  rename_i m cs hs
  split at h
  case h_2=>cases h
  rename_i ys' hp
  split at h
  case h_2=>cases h
  rename_i hl
  have hl:=cM hl
  cases h
  obtain ⟨xs,h1,_,h3⟩:=tN hT hv hs
  have e:=h1.symm.trans (Pl hp)
  cases e
  rcases h3 with ⟨rfl,rfl,h0⟩ | ⟨ad,c,rfl,_,hc⟩
  .exact .inl ⟨_,rfl,List.eq_nil_of_length_eq_zero hl⟩
  .exact .inr ⟨ad,c,by rw [hl],hc⟩
def aCl (T:bB) (el:TypeId):SV->Option (Option Nat × List (Int × Int))
 | .raw (.slice none 0 0)=>some (none,[])
 | .buf l=>match T l with
   | some (.eH xs ty)=>match Nat.beq ty el with
     | true=>some (some l,xs)
     | false=>none
   | _=>none
 | _=>none
theorem XT {el:TypeId} {v:SV} {x:Value} {lo:Option Nat} {xs:List (Int × Int)} (hT:aD w0 M V T w) (hv:den V v=some x) (h:aCl T el v=some (lo,xs)) :
 w.ownsRow 0 el 2 x xs.length (dS xs)/\(lo=none->x.ownBlock=none)/\∀ l,lo=some l->∃ B,T l=some B/\B.owned=true/\∀ n,x.ownBlock=some n->B.aT V l=some n:=by
 unfold aCl at h
 split at h
 .cases h
  simp only [den,aV] at hv
  subst hv
  exact ⟨World.ownsRow_nil w 0 el 2,fun _=>rfl,fun l hl=>(by cases hl)⟩
 .rename_i l
  split at h
  case h_2=>cases h
  rename_i ys ty hB
  split at h
  case h_2=>cases h
  rename_i aW
  have:=cM aW
  subst this
  cases h
  obtain ⟨cs,hc,u,hσ,bQ⟩:=hT.ok l _ hB
  cases hc
  simp only [den,hσ,aV] at hv
  subst hv
  exact ⟨bQ,fun h=>(by cases h),fun l' sP=>by cases sP;exact ⟨_,hB,rfl,fun n hn=>by simp [SB.aT,hσ,hn]⟩⟩
 .cases h
def DM (T:bB) (te:TI) (el:TypeId) (lab:Nat) (x y:SV):Option bK:=
 match Nat.beq te.size 2&&Nat.beq te.zero.length 2,aCl T el x with
 | true,some (lo,xs)=>match aBa T y with
   | some ys=>some { bO:=[(xs.length+ys.length)*te.bytes<=140737488355328/\xs.length+ys.length<=9223372036854775807],val:=.buf lab,new:=[.eH (xs++ys) el],wr:=gY lo }
   | none=>none
 | _,_=>none
theorem LN (aW:cA P Γ) {T':bB} (aO:∀ l B,T' l=some B->T l=some B) (hT:aD w0 M V T w) {lab:Nat} (hf:V.fresh lab) {t ty el:TypeId} {te:TI} (ht:P.underlying t=some (.slice el)) (eD:Γ.ty el=some te)
 {x y:SV} {u v:Value} (hx:den V x=some u) (hy:den V y=some v) (he:DM T' te el lab x y=some e) (ho:∀ q∈e.bO,q):oB P w0 M V T lab e (Builtin.append_ #[t,t] ty #[u,v]) w:=by
 unfold DM at he
 split at he
 case h_2=>cases he
 rename_i lo xs fX hd
 split at he
 case h_2=>cases he
 rename_i ys hr
 cases he
 simp only [iG] at fX
 have vI:=cM fX.1
 have hz2:=cM fX.2
 obtain ⟨_,i,z,hi,cD,lO,hz,hzero⟩:=aW el te eD
 have Qz:i.size=2:=cD.trans vI
 have rJ:z.cells.size=i.size:=by
  have h1:=bG (hzero V)
  rw [Qz,<- hz2,<- h1];simp
 obtain ⟨pB,nC⟩:=ho _ dB
 obtain ⟨bQ,jK,Ii⟩:=XT (hT.sub aO) hx hd
 have jH:∀ l,lo=some l->∃ B,T l=some B/\B.owned=true/\∀ n,u.ownBlock=some n->B.aT V l=some n:=fun l hl=>by
  obtain ⟨B,h1,h2,h3⟩:=Ii l hl;exact ⟨B,aO l B h1,h2,h3⟩
 rw [<- Qz] at bQ
 have It:xs.length+ys.length<=maxLen:=by simp only [maxLen];omega
 have go:∀ (ad:Addr) (c:Nat),v = .slice (some ad) ys.length c->(∀ (j:Nat) (u:Value),(dS ys)[j]?=some u->w.cell? (ad.add j)=some u)->oB P w0 M V T lab { bO:=[(xs.length+ys.length)*te.bytes<=140737488355328/\xs.length+ys.length<=9223372036854775807],val:=.buf lab,new:=[.eH (xs++ys) el],wr:=gY lo } (Builtin.append_ #[t,t] ty #[u,v]) w:=by
  rintro ad c rfl bY
  have hl:(dS ys).length=ys.length*i.size:=by rw [Qz];exact nT ys
  obtain ⟨v',w',dY,rI,sQ,_⟩:=run_append_own (P:=P) w 0 t ty el i z i.size i.bytes ht hi hz rfl rfl rJ (by omega) u xs.length (dS xs) bQ ad ys.length c (dS ys) hl bY (Em ys) It (by rw [lO];exact pB) (Nat.zero_le _)
  have eZ:=oN (P:=P) ht hi hz bQ rfl hl bY (Em ys) It (by rw [lO];exact pB) dY
  refine ⟨V.aZ lab v',v',w',dY,bA.cC hf lab (dF _) (by omega) v',by simp [den,bA.aZ],?_⟩
  have mV:okB (V.aZ lab v') w' lab (.eH (xs++ys) el):=⟨dS (xs++ys),rfl,v',by simp [bA.aZ],by rw [List.length_append,oO,<- Qz];exact rI⟩
  exact hT.qR hf mV (fun n hb=>by simpa [SB.aT,bA.aZ] using hb) sQ eZ jK jH _ _
 rcases QY (hT.sub aO) hy hr with ⟨ad,rfl,rfl⟩ | ⟨ad,c,hv,bY⟩
 .cases ad with
  | some ad=>exact go ad 0 rfl (fun j u hj=>by simp [dS] at hj)
  | none=>
    have dY:=run_append_owned_none (P:=P) (w:=w) 0 t ty el i i.size ht hi u xs.length _ bQ
    refine ⟨V.aZ lab u,u,w,dY,bA.cC hf lab (dF _) (by omega) u,by simp [den,bA.aZ],?_⟩
    have mV:okB (V.aZ lab u) w lab (.eH (xs++[]) el):=⟨dS (xs++[]),rfl,u,by simp [bA.aZ],by rw [List.append_nil,<- Qz];exact bQ⟩
    exact hT.qR hf mV (fun n hb=>by simpa [SB.aT,bA.aZ] using hb) ⟨rfl,rfl,rfl,dF _,fun _ _ _=>rfl⟩ (.inl rfl) jK jH _ _
 .exact go ad c hv bY
def Hm (Γ:Env) (g:Nat->Option SV) (t:TypeId) (x y:Operand):Option bK:=
 match ev Γ g x,ev Γ g y,Γ.ty t with
 | some (.iA l n),some (.int _ _ k),some ti=>match ti.desc with
   | .slice el=>match Γ.ty el with
     | some te=>match Nat.beq te.size 2 with
       | true=>some { bO:=[0<=k/\k<n],val:=.iS l (2*k.toNat) }
       | false=>none
     | none=>none
   | _=>none
 | _,_,_=>none
theorem Qd (aW:cA P Γ) (ht:cF V g a) (hg:bP Γ V) (hT:aD w0 M V T w) {t:TypeId} {x y:Operand} (bV:o.op = .indexAddr t x y)
 (he:Hm Γ g t x y=some e) (ho:∀ q∈e.bO,q) (lab:Nat):kM P w0 M V T lab e o a w:=by
 unfold Hm at he
 split at he
 case h_2=>cases he
 rename_i l n sk kk k ti hx hy dX
 split at he
 case h_2=>cases he
 rename_i el hd
 split at he
 case h_2=>cases he
 rename_i te eD
 split at he
 case h_2=>cases he
 rename_i vI
 have vI:=cM vI
 simp only [aV] at he
 subst he
 have hb:0<=k/\k<n:=ho _ (by simp)
 have ex:=bH ht hg hx
 have ey:=bH ht hg hy
 simp only [den,aV] at ey
 simp only [den,gL] at ex
 obtain ⟨u,hσ,hv⟩:=ex
 obtain ⟨e1,hv⟩:=jR hv
 subst e1
 rcases hv with ⟨_,rfl⟩ | ⟨b,o0,c,hv,_⟩
 .omega
 obtain ⟨_,i,z,hi,cD,_⟩:=aW el te eD
 have hu:=(aW t ti dX).1
 rw [hd] at hu
 refine bE (x:=.pointer (some ⟨b,o0+k.toNat*te.size,none⟩)) ?_ (by simp [den,hσ,hv,bJ,vI,Nat.mul_comm]) rfl rfl hT
 unfold execOp
 simp only [bV,hv,<- ey,Instr.indexAt,asIntOf,Sem.run_bind,Sem.run_pure,run_underlying hu w,Result.andThen_ok,if_pos hb,run_sizeOf hi,cD,bJ]
def Of (Γ:Env) (g:Nat->Option SV) (T:bB) (t:TypeId) (x:Operand):Option bK:=
 match ev Γ g x,Γ.ty t with
 | some (.iS l off),some ti=>match (T l).bind aBf,rP ti.desc&&Nat.beq ti.size 2 with
   | some xs,true=>some { bO:=[off=2*(off/2)/\off/2<xs.length],val:=.agg [.int false .i64 (xs.getD (off/2) (0,0)).1,.int false .i64 (xs.getD (off/2) (0,0)).2] }
   | _,_=>none
 | _,_=>none
theorem GR {xs:List (Int × Int)} {i:Nat} (h:i<xs.length):(dS xs)[2*i]?=some (.int .i64 (xs.getD i (0,0)).1)/\(dS xs)[2*i+1]?=some (.int .i64 (xs.getD i (0,0)).2):=by
 induction xs generalizing i with
 | nil=>simp at h
 | cons p r ih=>
   have e:dS (p::r)=Value.int .i64 p.1::Value.int .i64 p.2::dS r:=rfl
   cases i with
   | zero=>rw [e];exact ⟨rfl,rfl⟩
   | succ i=>
     have:=ih (i:=i) (by simpa using h)
     rw [e,show 2*(i+1)=2*i+1+1 by omega]
     simpa using this
theorem Xr (aW:cA P Γ) (ht:cF V g a) (hg:bP Γ V) {T':bB} (aO:∀ l B,T' l=some B->T l=some B) (hT:aD w0 M V T w) {t:TypeId} {x:Operand} (bV:o.op = .load t x)
 (he:Of Γ g T' t x=some e) (ho:∀ q∈e.bO,q) (lab:Nat):kM P w0 M V T lab e o a w:=by
 unfold Of at he
 split at he
 case h_2=>cases he
 rename_i l off ti hx dX
 split at he
 case h_2=>cases he
 rename_i xs hB jT
 simp only [gL] at hB
 obtain ⟨B,hB,hp⟩:=hB
 simp only [iG] at jT
 have vI:=cM jT.2
 simp only [aV] at he
 subst he
 obtain ⟨h1,h2⟩:=ho _ dB
 have ex:=bH ht hg hx
 obtain ⟨u,hσ,hrp,_⟩:=Gx (hT.ok l _ (aO l _ hB)) hp
 obtain ⟨hu,i,z,hi,fX,_⟩:=aW t ti dX
 rcases hrp with ⟨_,rfl⟩ | ⟨b,base,c,rfl,_,_,gK⟩
 .simp at h2
 simp only [den,hσ,bJ,aV] at ex
 obtain ⟨g1,g2⟩:=GR h2
 rw [<- h1] at g1 g2
 have dY:=(dP (P:=P) hu hi b (base+off) [.int .i64 (xs.getD (off/2) (0,0)).1,.int .i64 (xs.getD (off/2) (0,0)).2] (by rw [fX,vI];rfl) (fun j v hj=>by
  match j,hj with
  | 0,hj=>simp only [List.getElem?_cons_zero,aV] at hj;subst hj;exact gK _ _ g1
  | 1,hj=>simp only [List.getElem?_cons_succ,List.getElem?_cons_zero,aV] at hj;subst hj;rw [Nat.add_assoc];exact gK _ _ g2
  | j+2,hj=>simp at hj)).1 jT.1
 refine bE (x:=.agg #[.int .i64 (xs.getD (off/2) (0,0)).1,.int .i64 (xs.getD (off/2) (0,0)).2]) ?_ (by simp [den,aI]) rfl rfl hT
 unfold execOp
 simp only [bV,<- ex,Instr.loadAt,Instr.sureAddr,Sem.run_bind,Sem.run_pure,Result.andThen_ok,dY]
def mK (j h:Nat):Value->Value
 | .slice ad _ c=>.slice (if c=j then ad else ad.map (·.add (j*2))) (h-j) (c-j)
 | v=>v
theorem Ji.part {u:Value} {xs:List (Int × Int)} {j h:Nat} (hF:Ji w u xs) (hj:j<=h) (hh:h<=xs.length):Ji w (mK j h u) ((xs.drop j).take (h-j))/\∀ n,gX (mK j h u)=some n->gX u=some n:=by
 have hlen:((xs.drop j).take (h-j)).length=h-j:=by simp;omega
 rcases hF with ⟨⟨ad,rfl⟩,rfl⟩ | ⟨b,base,c,rfl,cL,hle,gK⟩
 .have:j=0/\h=0:=by simp at hh;omega
  obtain ⟨rfl,rfl⟩:=this
  exact ⟨.inl ⟨⟨ad,by simp [mK]⟩,by simp⟩,fun n hn=>by simp [mK,gX] at hn⟩
 .by_cases Yt:c=j
  .subst Yt
   have h0:h-c=0:=by omega
   refine ⟨.inr ⟨b,base,0,by simp [mK,h0],cL,by rw [hlen];omega,fun q v hq=>?_⟩,fun n hn=>?_⟩
   .rw [h0] at hq;simp [dS] at hq
   .simp [mK,gX] at hn
  .refine ⟨.inr ⟨b,base+j*2,c-j,by simp [mK,Yt,hlen,bJ],cL,by rw [hlen];omega,fun q v hq=>?_⟩,fun n hn=>?_⟩
   .rw [Nat.add_assoc]
    apply gK
    have Qw:(dS ((xs.drop j).take (h-j)))[q]?=(dS xs)[j*2+q]?:=by
     have vJ:q<(dS ((xs.drop j).take (h-j))).length:=by
      rcases Nat.lt_or_ge q (dS ((xs.drop j).take (h-j))).length with h1 | h1
      .exact h1
      .rw [List.getElem?_eq_none h1] at hq;cases hq
     rw [nT,hlen] at vJ
     have e:xs=xs.take j++((xs.drop j).take (h-j)++(xs.drop j).drop (h-j)):=by rw [List.take_append_drop,List.take_append_drop]
     have e2:dS xs=dS (xs.take j)++(dS ((xs.drop j).take (h-j))++dS ((xs.drop j).drop (h-j))):=by
      rw [<- oO,<- oO,<- e]
     have l1:(dS (xs.take j)).length=j*2:=by rw [nT];simp;omega
     rw [e2,List.getElem?_append_right (by omega),l1,Nat.add_sub_cancel_left,List.getElem?_append_left (by rw [nT,hlen];exact vJ)]
    rw [<- Qw];exact hq
   .simp only [mK,if_neg Yt] at hn
    have:=eV hn
    obtain ⟨c',rfl⟩:∃ c',c=c'+1:=⟨c-1,by omega⟩
    simpa [gX,Value.ownBlock,bJ] using this
def Hj (Γ:Env) (g:Nat->Option SV) (T:bB) (t:TypeId) (x:Operand) (lo hi mx:Option Operand) (lab:Nat):Option bK:=
 match ev Γ g x,Γ.ty t,mx with
 | some (.iA l n),some ti,none=>match ti.desc with
   | .slice el=>match Γ.ty el,T l,yW Γ g hi false n,yW Γ g lo true 0 with
     | some te,some (.qG xs),some (_,h),some (_,j)=>match Nat.beq te.size 2 with
       | true=>some { bO:=[0<=j/\j<=h/\h<=n],val:=.iA lab (h.toNat-j.toNat),new:=[.qG ((xs.drop j.toNat).take (h.toNat-j.toNat))] }
       | false=>none
     | _,_,_,_=>none
   | _=>none
 | _,_,_=>none
theorem Qa (aW:cA P Γ) (ht:cF V g a) (hg:bP Γ V) {T':bB} (aO:∀ l B,T' l=some B->T l=some B) (hT:aD w0 M V T w) {t:TypeId} {x:Operand} {lo hi mx:Option Operand} (bV:o.op = .slice t x lo hi mx) {lab:Nat} (hf:V.fresh lab)
 (he:Hj Γ g T' t x lo hi mx lab=some e) (ho:∀ q∈e.bO,q):kM P w0 M V T lab e o a w:=by
 unfold Hj at he
 split at he
 case h_2=>cases he
 rename_i l n ti hx dX
 split at he
 case h_2=>cases he
 rename_i el hd
 split at he
 case h_2=>cases he
 rename_i te xs sh h sj j eD hB hh hj
 split at he
 case h_2=>cases he
 rename_i vI
 have vI:=cM vI
 simp only [aV] at he
 subst he
 have hb:0<=j/\j<=h/\h<=n:=ho _ (by simp)
 have ex:=bH ht hg hx
 have hTB:=aO l _ hB
 obtain ⟨u,hσ,hF,eZ⟩:=Gx (hT.ok l _ hTB) rfl
 simp only [den,hσ,mZ] at ex
 obtain ⟨exv,hv⟩:=jR ex
 obtain ⟨ad,c,Ci,hc,hn⟩:∃ ad c,u = .slice ad xs.length c/\xs.length<=c/\n=xs.length:=by
  rcases hF with ⟨⟨ad,rfl⟩,h0⟩ | ⟨b,base,c,rfl,_,hc,_⟩
  .rcases hv with ⟨_,h1⟩ | ⟨b,o,c,h1,h2⟩
   .exact ⟨ad,0,by rw [h0];rfl,by simp [h0],by rw [h1,h0];rfl⟩
   .cases h1;exact ⟨_,0,by rw [h0];rfl,by simp [h0],by rw [h0];rfl⟩
  .rcases hv with ⟨⟨_,h1⟩,h2⟩ | ⟨b,o,c,h1,h2⟩
   .injection h1 with _ h3 _;exact ⟨_,c,rfl,hc,by omega⟩
   .injection h1 with _ h3 _;exact ⟨_,_,rfl,hc,h3.symm⟩
 subst hn
 have hu:=(aW t ti dX).1
 rw [hd] at hu
 obtain ⟨_,i,z,fP,cD,_⟩:=aW el te eD
 have hr:=eP (P:=P) (w:=w) (a:=a) true xs.length c (lo:=lo) (hi:=hi) (mx:=none) (m:=(c:Int)) (h:=h) (k:=j) (.inl ⟨rfl,rfl⟩) (eT ht hg hh) (eT ht hg hj) rfl ⟨by omega,by omega,by omega,by omega,by omega,by omega⟩
 obtain ⟨hFp,hbp⟩:=hF.part (j:=j.toNat) (h:=h.toNat) (by omega) (by omega)
 have hlen:((xs.drop j.toNat).take (h.toNat-j.toNat)).length=h.toNat-j.toNat:=by simp;omega
 have dY:(execOp a.eval o).run P w = .ok (.value (mK j.toNat h.toNat u)) w:=by
  unfold execOp
  simp only [bV,exv,Ci,Option.map_none,Instr.sliceAt,Instr.slice,Sem.run_bind,run_underlying hu w,Result.andThen_ok,Sem.run_pure,run_sizeOf fP] at hr |-
  simp only [hr,Result.andThen_ok,cD,vI,qZ,mK]
 intro K Q hK
 unfold Oper.wp
 rw [dY,Oper.upon_value]
 have bT:=bA.cC hf lab (dF _) (by omega) (mK j.toNat h.toNat u)
 have hse:(V.aZ lab (mK j.toNat h.toNat u)).σ lab=some (mK j.toNat h.toNat u):=by simp [bA.aZ]
 refine hK (V.aZ lab (mK j.toNat h.toNat u)) _ w bT ?_ ?_
 .simp only [den,hse,mZ]
  rcases hFp with ⟨⟨ad',h1⟩,h2⟩ | ⟨b,o',c',h1,_,h2,_⟩
  .rw [h1]
   have:h.toNat-j.toNat=0:=by rw [<- hlen,h2];rfl
   rw [this]
   cases ad' <;> simp [nW]
  .rw [h1,hlen]
   rw [hlen] at h2
   simp [nW,h2]
 .refine hT.step (N:=fun m=>if m=lab then some (.qG ((xs.drop j.toNat).take (h.toNat-j.toNat))) else none) bT.1 (fun m C hm=>?_) (fun m C hm=>?_) (fun m C q hm hq=>?_) (fun m C m' C' q dJ hm jZ Dl _=>?_) (dF _) (fun _ _ _=>rfl) rfl rfl rfl
  .unfold eQ bK.fA at hm
   simp only [gC,oR] at hm
   by_cases e:m=lab
   .subst e
    left
    rw [aK] at hm
    rw [if_pos rfl];exact hm
   .right
    rw [aH (fun q=>e q.symm)] at hm
    exact ⟨by rw [if_neg e],hm⟩
  .split at hm
   .rename_i e;subst e;cases hm;exact ⟨_,rfl,_,hse,hFp⟩
   .cases hm
  .right;right
   split at hm
   .rename_i e
    subst e
    cases hm
    refine ⟨rfl,fun l2 B2 hn h2 h3 h4=>?_⟩
    simp only [SB.aT,hse,mZ] at hq
    by_cases e2:l2=l
    .subst e2;rw [hTB] at h2;cases h2;cases h3
    .exact hT.jI l2 B2 l _ q e2 h2 hTB h3 h4 (eZ q (hbp q hq))
   .cases hm
  .split at hm
   .cases hm;cases Dl
   .cases hm
end aPt
end Go.Proofs.YtnodfocobmghiaaGreatDoor.Sx
