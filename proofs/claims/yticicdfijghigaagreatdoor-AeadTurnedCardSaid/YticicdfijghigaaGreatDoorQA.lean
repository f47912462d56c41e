/- The symbolic executor, first text: symbolic values and blocks, what they denote, effects. No program in sight. -/
import Derived.WalkKit
import Derived.Orders
import Derived.Laws.AppendOwnNone
import Derived.Deep.AppendSrc
open Go
set_option maxRecDepth 100000
namespace Go.Proofs.YticicdfijghigaaGreatDoor.Sx
theorem zzI.{u} {α:Type u} (a b:α):(some a=some b)=(a=b):=Option.some.injEq a b
theorem zzN {n m:Nat} (h:Nat.beq n m=true):n=m:=Nat.eq_of_beq_eq_true h
theorem zzC.{u} {α:Type u} {a:α} {l:List α}:a∈a::l:=List.mem_cons_self
theorem zzM.{u,v} {α:Type u} {β:Type v} {x:Option α} {f:α->β} {b:β}:x.map f=some b<->∃ a,x=some a/\f a=b:=Option.map_eq_some_iff
theorem zzB.{u,v} {α:Type u} {β:Type v} {x:Option α} {f:α->Option β} {b:β}:x.bind f=some b<->∃ a,x=some a/\f a=some b:=Option.bind_eq_some_iff
theorem zzO.{u} {α:Type u} {a:α} {l:List α} (y:α) (h:a∈l):a∈y::l:=List.mem_cons_of_mem y h
theorem zzG.{u} {α:Type u} {l:List α} {i:Nat} {a:α}:l.getD i a=l[i]?.getD a:=List.getD_eq_getElem?_getD
theorem zzL {n m:Nat} (h:Nat.ble n m=true):n<=m:=Nat.le_of_ble_eq_true h
theorem zzD {p:Prop} [inst:Decidable p] (h:decide p=true):p:=of_decide_eq_true h
theorem zzF {p:Prop} [inst:Decidable p] (h:¬ p):decide p=false:=decide_eq_false h
theorem zzT {a:Int} (h:0<=a):∃ n:Nat,a=n:=Int.eq_ofNat_of_zero_le h
theorem zza.{u,v} {α:Type u} {β:Type v} (a:α) (f:α->Option β):(some a).bind f=f a:=rfl
theorem zzm.{u,v} {α:Type u} {β:Type v} (a:α) (f:α->β):(some a).map f=some (f a):=rfl
theorem zzn (a b:Bool):((a&&b)=true)=(a=true/\b=true):=Bool.and_eq_true a b
theorem zzr (n:Nat):n<=n:=Nat.le_refl n
theorem zzt (n:Nat):(n:Int).toNat=n:=Int.toNat_natCast n
theorem zzv.{u} {α:Type u} (l:List α):[]++l=l:=rfl
abbrev sh {α β:Type} (x:α) (f:α->β):β:=f x
inductive SV where
 | int (s:Bool) (k:IntKind) (n:Int)
 | bool (s:Bool) (b:Bool)
 | ptr (l:Nat) (s:Bool) (off:Nat)
 | aJ (l:Nat) (s:Bool) (off len cap:Nat)
 | agg (vs:List SV)
 | eP (vs:List SV)
 | fn (f:Fn) (first Ki:List SV)
 | rG (t:TypeId) (v:SV)
 | raw (v:Value)
 | buf (l:Nat)
 | jQ (l:Nat) (off:Nat)
 | nH (l:Nat) (lo hi:Nat)
 | cQ (l:Nat) (off len lo:Nat)
 | eH (l n:Nat)
 | ai (k:IntKind) (xs:List Int)
 | Wn (l n cap sz j le:Nat)
 | tZ (l n:Nat)
 | xZ (l i n:Nat)
 | EP (l i:Nat)
structure aZ where
 β:Nat->Option (Nat × Nat)
 σ:Nat->Option Value
def oD:Option Value->Option Nat
 | some (.int _ c)=>some c.toNat
 | _=>none
def iP (n:Nat):Value->Option Value
 | .slice none m c=>if m=0/\n=0/\c=0 then some (.slice none 0 0) else none
 | .slice (some a) m c=>if m=n/\n<=c/\(c=0\/a.spot=none) then some (.slice (some a) m c) else none
 | _=>none
def Nv (v:Value):Prop:=∃ a,v = .slice a 0 0
theorem Nv.nil:Nv (.slice none 0 0):=⟨none,rfl⟩
theorem dB {n:Nat} {v x:Value} (h:iP n v=some x):x=v/\((Nv v/\n=0)\/∃ b o c,v = .slice (some ⟨b,o,none⟩) n c/\n<=c):=by
 unfold iP at h
 split at h
 .split at h
  .rename_i hc;obtain ⟨rfl,rfl,rfl⟩:=hc;cases h;exact ⟨rfl,.inl ⟨.nil,rfl⟩⟩
  .cases h
 .rename_i a m c
  split at h
  .rename_i hc;obtain ⟨rfl,hn,hs⟩:=hc;cases h
   obtain ⟨b,o,s⟩:=a
   rcases hs with rfl | hs
   .have:m=0:=by omega
    subst this
    exact ⟨rfl,.inl ⟨⟨_,rfl⟩,rfl⟩⟩
   simp only at hs
   subst hs
   exact ⟨rfl,.inr ⟨b,o,c,rfl,hn⟩⟩
  .cases h
 .cases h
def eV:Value->Option Nat
 | .slice _ _ 0=>none
 | v=>v.ownBlock
theorem eC {v:Value} {n:Nat} (h:eV v=some n):v.ownBlock=some n:=by
 unfold eV at h
 split at h
 .cases h
 .exact h
def Ao (n:Nat):Value->Option Value
 | .tuple xs=>xs.toList.head?.bind (iP n)
 | _=>none
def My (i n:Nat):Value->Option Value
 | .tuple xs=>(xs.toList[i+1]?).bind (iP n)
 | _=>none
def aIl (i:Nat):Value->Option Value
 | .tuple xs=>xs.toList.head?.bind fun v=>match v with
   | .slice (some a) _ _=>some (.pointer (some (a.add i)))
   | _=>none
 | _=>none
def uI:Value->Option Nat
 | .tuple xs=>xs.toList.head?.bind Value.ownBlock
 | _=>none
mutual
def den (V:aZ):SV->Option Value
 | .int _ k n=>some (.int k n)
 | .bool _ b=>some (.bool b)
 | .ptr l _ off=>(V.β l).map fun p=>.pointer (some ⟨p.1,p.2+off,none⟩)
 | .aJ l _ off len cap=>(V.β l).map fun p=>.slice (some ⟨p.1,p.2+off,none⟩) len cap
 | .agg vs=>(aG V vs).map fun xs=>.agg xs.toArray
 | .eP vs=>(aG V vs).map fun xs=>.tuple xs.toArray
 | .fn f fs cs=>(aG V fs).bind fun x=>(aG V cs).map fun y=>.func f x.toArray y.toArray
 | .rG t v=>(den V v).map fun x=>.iface t x
 | .raw v=>some v
 | .buf l=>V.σ l
 | .jQ l off=>match V.σ l with
   | some (.slice (some a) _ _)=>some (.pointer (some (a.add off)))
   | _=>none
 | .nH l lo hi=>match V.σ l with
   | some (.slice a _ cap)=>some (.slice (if cap=lo then a else a.map (·.add lo)) (hi-lo) (cap-lo))
   | _=>none
 | .cQ l off len lo=>(V.β l).bind fun p=>(oD (V.σ l)).map fun c=>.slice (some ⟨p.1,p.2+off,none⟩) len (c-lo)
 | .eH l n=>(V.σ l).bind (iP n)
 | .ai k xs=>some (.agg (xs.map (Value.int k)).toArray)
 | .Wn l n cap sz j le=>(V.β l).bind fun p=>(V.β le).bind fun q=>match decide (q=(p.1,p.2+j*sz)) with
   | true=>some (.slice (some ⟨p.1,p.2,none⟩) n cap)
   | false=>none
 | .tZ l n=>(V.σ l).bind (Ao n)
 | .xZ l i n=>(V.σ l).bind (My i n)
 | .EP l i=>(V.σ l).bind (aIl i)
def aG (V:aZ):List SV->Option (List Value)
 | []=>some []
 | v::vs=>(den V v).bind fun x=>(aG V vs).map fun xs=>x::xs
end
def aZ.le (V V':aZ):Prop:=(∀ l p,V.β l=some p->V'.β l=some p)/\(∀ l v,V.σ l=some v->V'.σ l=some v)
theorem aZ.le_refl (V:aZ):V.le V:=⟨fun _ _ h=>h,fun _ _ h=>h⟩
theorem aZ.le_trans {U V W:aZ} (h:U.le V) (k:V.le W):U.le W:=⟨fun l p e=>k.1 l p (h.1 l p e),fun l v e=>k.2 l v (h.2 l v e)⟩
mutual
theorem pL {V V':aZ} (h:V.le V'):∀ {v:SV} {x:Value},den V v=some x->den V' v=some x
 | .int ..,_,e=>by simpa [den] using e
 | .bool ..,_,e=>by simpa [den] using e
 | .ptr l s off,x,e=>by
   simp only [den,zzM] at e |-
   obtain ⟨p,hp,rfl⟩:=e
   exact ⟨p,h.1 l p hp,rfl⟩
 | .aJ l s off len cap,x,e=>by
   simp only [den,zzM] at e |-
   obtain ⟨p,hp,rfl⟩:=e
   exact ⟨p,h.1 l p hp,rfl⟩
 | .agg vs,x,e=>by
   simp only [den,zzM] at e |-
   obtain ⟨p,hp,rfl⟩:=e
   exact ⟨p,dC h hp,rfl⟩
 | .eP vs,x,e=>by
   simp only [den,zzM] at e |-
   obtain ⟨p,hp,rfl⟩:=e
   exact ⟨p,dC h hp,rfl⟩
 | .fn f fs cs,x,e=>by
   simp only [den,zzM,zzB] at e |-
   obtain ⟨p,hp,q,hq,rfl⟩:=e
   exact ⟨p,dC h hp,q,dC h hq,rfl⟩
 | .rG t v,x,e=>by
   simp only [den,zzM] at e |-
   obtain ⟨p,hp,rfl⟩:=e
   exact ⟨p,pL h hp,rfl⟩
 | .raw v,x,e=>by simpa [den] using e
 | .buf l,x,e=>by simp only [den] at e |-;exact h.2 l x e
 | .jQ l off,x,e=>by
   simp only [den] at e |-
   split at e
   .rename_i hs;rw [h.2 l _ hs];exact e
   .cases e
 | .nH l lo hi,x,e=>by
   simp only [den] at e |-
   split at e
   .rename_i hs;rw [h.2 l _ hs];exact e
   .cases e
 | .cQ l off len lo,x,e=>by
   simp only [den,zzM,zzB] at e |-
   obtain ⟨p,hp,c,hc,rfl⟩:=e
   refine ⟨p,h.1 l _ hp,c,?_,rfl⟩
   cases hs:V.σ l with
   | none=>rw [hs] at hc;cases hc
   | some v=>rw [h.2 l v hs,<- hs];exact hc
 | .eH l n,x,e=>by
   simp only [den,zzB] at e |-
   obtain ⟨v,hv,hx⟩:=e
   exact ⟨v,h.2 l v hv,hx⟩
 | .ai k xs,x,e=>by simpa [den] using e
 | .Wn l n cap sz j le,x,e=>by
   simp only [den,zzB] at e |-
   obtain ⟨p,hp,q,hq,e⟩:=e
   exact ⟨p,h.1 l p hp,q,h.1 le q hq,e⟩
 | .tZ l n,x,e=>by
   simp only [den,zzB] at e |-
   obtain ⟨v,hv,hx⟩:=e
   exact ⟨v,h.2 l v hv,hx⟩
 | .xZ l i n,x,e=>by
   simp only [den,zzB] at e |-
   obtain ⟨v,hv,hx⟩:=e
   exact ⟨v,h.2 l v hv,hx⟩
 | .EP l i,x,e=>by
   simp only [den,zzB] at e |-
   obtain ⟨v,hv,hx⟩:=e
   exact ⟨v,h.2 l v hv,hx⟩
theorem dC {V V':aZ} (h:V.le V'):∀ {vs:List SV} {xs:List Value},aG V vs=some xs->aG V' vs=some xs
 | [],_,e=>by simpa [aG] using e
 | v::vs,xs,e=>by
   simp only [aG,zzM,zzB] at e |-
   obtain ⟨x,hx,ys,hy,rfl⟩:=e
   exact ⟨x,pL h hx,ys,dC h hy,rfl⟩
end
theorem bC {V:aZ}:∀ {vs:List SV} {xs:List Value},aG V vs=some xs->xs.length=vs.length
 | [],_,e=>by simp only [aG,zzI] at e;subst e;rfl
 | v::vs,xs,e=>by
   simp only [aG,zzM,zzB] at e
   obtain ⟨x,hx,ys,hy,rfl⟩:=e
   simp [bC hy]
theorem dZ {V:aZ}:∀ {vs:List SV} {xs:List Value},aG V vs=some xs->∀ (i:Nat) (v:SV),vs[i]?=some v->∃ x,xs[i]?=some x/\den V v=some x
 | [],_,_,i,v,hi=>by simp at hi
 | v::vs,xs,e,i,u,hi=>by
   simp only [aG,zzM,zzB] at e
   obtain ⟨x,hx,ys,hy,rfl⟩:=e
   cases i with
   | zero=>simp only [List.getElem?_cons_zero,zzI] at hi;subst hi;exact ⟨x,rfl,hx⟩
   | succ i=>simp only [List.getElem?_cons_succ] at hi |-;exact dZ hy i u hi
theorem cH {V:aZ}:∀ {vs us:List SV} {xs ys:List Value},aG V vs=some xs->aG V us=some ys->aG V (vs++us)=some (xs++ys)
 | [],us,xs,ys,e,f=>by simp only [aG,zzI] at e;subst e;simpa using f
 | v::vs,us,xs,ys,e,f=>by
   simp only [aG,zzM,zzB,List.cons_append] at e |-
   obtain ⟨x,hx,zs,hz,rfl⟩:=e
   exact ⟨x,hx,zs++ys,cH hz f,rfl⟩
theorem eO {V:aZ}:∀ (n:Nat) {vs:List SV} {xs:List Value},aG V vs=some xs->aG V (vs.take n)=some (xs.take n)
 | 0,vs,xs,_=>by simp [aG]
 | n+1,[],xs,e=>by simp only [aG,zzI] at e;subst e;simp [aG]
 | n+1,v::vs,xs,e=>by
   simp only [aG,zzM,zzB,List.take_succ_cons] at e |-
   obtain ⟨x,hx,zs,hz,rfl⟩:=e
   exact ⟨x,hx,zs.take n,eO n hz,rfl⟩
theorem jL {V:aZ}:∀ (n:Nat) {vs:List SV} {xs:List Value},aG V vs=some xs->aG V (vs.drop n)=some (xs.drop n)
 | 0,vs,xs,e=>by simpa using e
 | n+1,[],xs,e=>by simp only [aG,zzI] at e;subst e;simp [aG]
 | n+1,v::vs,xs,e=>by
   simp only [aG,zzM,zzB] at e
   obtain ⟨x,hx,zs,hz,rfl⟩:=e
   simpa using jL n hz
def Gf (l:Nat):Nat->List (List Int)->List SV
 | _,[]=>[]
 | i,d::r=>.xZ l i d.length::Gf l (i+1) r
def eF (xs:List (Int × Int)):List Value:=xs.flatMap fun p=>[.int .i64 p.1,.int .i64 p.2]
inductive SB where
 | own (cells:List SV) (ty:TypeId)
 | ints (k:IntKind) (xs:List Int) (ty:TypeId)
 | fS (cells:List SV)
 | nZ (k:IntKind) (xs:List Int)
 | cS (k:IntKind) (xs:List Int) (ty:TypeId)
 | row (sz:Nat) (cells:List SV) (ty:TypeId)
 | eK (vs:List Value) (ty:TypeId)
 | gL (k:IntKind) (xs:List Int)
 | fX (sz n:Nat) (ty:TypeId)
 | jB (pre:List SV) (l:Nat) (ds:List (List Int)) (ty:TypeId)
 | mI (ds:List (List Int))
 | nU (d:List Int)
 | fM (ds:List (List Int)) (ty:TypeId)
 | eQ (xs:List (Int × Int)) (ty:TypeId)
 | rI (xs:List (Int × Int))
 | gU (ds:List (List Int)) (z:Nat)
 | gone
def SB.cells (V:aZ):SB->Option (List Value)
 | .own cs _=>aG V cs
 | .ints k xs _=>some (xs.map (Value.int k))
 | .fS cs=>aG V cs
 | .nZ k xs=>some (xs.map (Value.int k))
 | .cS k xs _=>some (xs.map (Value.int k))
 | .row _ cs _=>aG V cs
 | .eK vs _=>some vs
 | .gL k xs=>some (xs.map (Value.int k))
 | .fX _ _ _=>some []
 | .jB pre l ds _=>aG V (pre++Gf l 0 ds)
 | .mI _=>some []
 | .nU _=>some []
 | .fM _ _=>some []
 | .eQ xs _=>some (eF xs)
 | .rI xs=>some (eF xs)
 | .gU _ _=>some []
 | .gone=>some []
def SB.owned:SB->Bool
 | .fS _ | .nZ _ _ | .gL _ _ | .mI _ | .nU _ | .rI _ | .gU _ _ | .gone=>false
 | _=>true
def SB.aN (V:aZ) (l:Nat):SB->Option Nat
 | .cS .. => (V.σ l).bind Value.ownBlock
 | .gL .. => (V.σ l).bind eV
 | .fX .. => (V.σ l).bind Value.ownBlock
 | .fM .. => (V.σ l).bind uI
 | .eQ .. => (V.σ l).bind Value.ownBlock
 | .rI .. => (V.σ l).bind eV
 | .mI .. => none
 | .nU .. => none
 | .gU .. => none
 | .gone=>none
 | _=>(V.β l).map (·.1)
theorem SB.jF {V V':aZ} (h:V.le V') {B:SB} {cs:List Value} (e:B.cells V=some cs):B.cells V'=some cs:=by
 cases B <;> simp only [SB.cells] at e |- <;> first | exact dC h e | exact e
def vS (w:World) (b:Nat):Prop:=∃ c t,w.heap[b]?=some (.cells c t (0,0))
theorem vS.lt {w:World} {b:Nat} (h:vS w b):b<w.heap.size:=by obtain ⟨c,t,h⟩:=h;exact (Array.getElem?_eq_some_iff.1 h).1
theorem vS.gO {w w':World} {b:Nat} (h:vS w b) (e:w'.heap[b]?=w.heap[b]?):vS w' b:=by obtain ⟨c,t,h⟩:=h;exact ⟨c,t,e.trans h⟩
def Mz (w:World) (b:Nat) (cs:List Value):Prop:=b<w.heap.size/\∀ s,cs[0]?=some (.string s)->vS w b
theorem Mz.lt {w:World} {b:Nat} {cs:List Value} (h:Mz w b cs):b<w.heap.size:=h.1
theorem Mz.of {w:World} {b:Nat} {cs:List Value} {c:Array Value} {t:TypeId} (h:w.heap[b]?=some (.cells c t (0,0))):Mz w b cs:=⟨(Array.getElem?_eq_some_iff.1 h).1,fun _ _=>⟨c,t,h⟩⟩
theorem Mz.gO {w w':World} {b:Nat} {cs:List Value} (h:Mz w b cs) (e:w'.heap[b]?=w.heap[b]?):Mz w' b cs:=
 ⟨Nat.lt_of_not_le fun q=>(by rw [Array.getElem?_eq_none q,Array.getElem?_eq_getElem h.1] at e;cases e),fun s hs=>(h.2 s hs).gO e⟩
def nI (w:World) (k:IntKind) (x:Value) (ys:List Int):Prop:=
 (Nv x/\ys=[])\/∃ b o c,x = .slice (some ⟨b,o,none⟩) ys.length c/\b<w.heap.size/\ys.length<=c/\∀ (j:Nat) (u:Value),(ys.map (Value.int k))[j]?=some u->w.cell? ⟨b,o+j,none⟩=some u
def Nt (w:World) (x:Value) (ys:List (Int × Int)):Prop:=
 (Nv x/\ys=[])\/∃ b o c,x = .slice (some ⟨b,o,none⟩) ys.length c/\b<w.heap.size/\ys.length<=c/\∀ (j:Nat) (u:Value),(eF ys)[j]?=some u->w.cell? ⟨b,o+j,none⟩=some u
def iS (w:World) (k:IntKind) (v:Value):Prop:=∀ b,v.ownBlock=some b->∃ cur ty p,w.heap[b]?=some (.cells cur ty p)/\∀ x∈cur.toList,∃ n,x=Value.int k n
theorem iS.nil {w:World} {k:IntKind} {v:Value} (h:v.ownBlock=none):iS w k v:=fun b hb=>by rw [h] at hb;cases hb
def okB (V:aZ) (w:World) (l:Nat) (B:SB):Prop:=
 ∃ cs,B.cells V=some cs /\
 match B with
 | .own _ ty | .ints _ _ ty | .eK _ ty=>∃ b,V.β l=some (b,0)/\w.heap[b]?=some (.cells cs.toArray ty (0,0))
 | .fS _ | .nZ _ _=>∃ b o,V.β l=some (b,o)/\Mz w b cs/\∀ (j:Nat) (v:Value),cs[j]?=some v->w.cell? ⟨b,o+j,none⟩=some v
 | .cS k xs ty=>∃ v,V.σ l=some v/\w.ownsRow 0 ty 1 v xs.length cs/\iS w k v
 | .fX sz n ty=>∃ v us,V.σ l=some v/\w.ownsRow 0 ty sz v n us/\∀ q∈us,q.oneCell'=true
 | .row sz _ ty=>∃ b cap cur,V.β l=some (b,0)/\V.σ l=some (.int .i64 (cap:Nat))/\w.heap[b]?=some (.cells cur ty (0,0))/\cap<=maxLen/\cur.size=cap*sz/\(∃ n,cs.length=n*sz/\n<=cap)/\cur.toList.take cs.length=cs
 | .gL k xs=>∃ v,V.σ l=some v/\nI w k v xs
 | .jB _ _ _ ty=>∃ b cap cur,V.β l=some (b,0)/\V.σ l=some (.int .i64 (cap:Nat))/\w.heap[b]?=some (.cells cur ty (0,0))/\cap<=maxLen/\cur.size=cap*1/\(∃ n,cs.length=n*1/\n<=cap)/\cur.toList.take cs.length=cs
 | .fM _ ty=>∃ v us,V.σ l=some (.tuple (v::us).toArray)/\w.ownsRow 0 ty 1 v us.length us
 | .eQ xs ty=>∃ v,V.σ l=some v/\w.ownsRow 0 ty 2 v xs.length cs
 | .rI xs=>∃ v,V.σ l=some v/\Nt w v xs
 | .mI _=>True
 | .nU _=>True
 | .gU _ _=>True
 | .gone=>True
structure fO (w0:World) (M:Nat->Prop) (w:World):Prop where
 os:w.os=w0.os
 tape:w.tape=w0.tape
 output:w.output=w0.output
 size:w0.heap.size<=w.heap.size
 block:∀ k,k<w0.heap.size->¬ M k->w.heap[k]?=w0.heap[k]?
theorem fO.refl (w:World) (M:Nat->Prop):fO w M w:=⟨rfl,rfl,rfl,zzr _,fun _ _ _=>rfl⟩
theorem fO.trans {a b c:World} {M N:Nat->Prop} (h:fO a M b) (k:fO b N c) (hN:∀ n,n<a.heap.size->N n->M n):fO a M c:=
 ⟨k.os.trans h.os,k.tape.trans h.tape,k.output.trans h.output,Nat.le_trans h.size k.size,
  fun i hi hM=>(k.block i (Nat.lt_of_lt_of_le hi h.size) (fun e=>hM (hN i hi e))).trans (h.block i hi hM)⟩
theorem fO.mono {w0 w:World} {M N:Nat->Prop} (h:fO w0 M w) (hN:∀ n,n<w0.heap.size->M n->N n):fO w0 N w:=
 ⟨h.os,h.tape,h.output,h.size,fun k hk hn=>h.block k hk (fun e=>hn (hN k hk e))⟩
abbrev bA:=Nat->Option SB
def dM (w0:World) (M:Nat->Prop) (u:Value) (d:List Int):Prop:=nI w0 .u8 u d/\∀ n,eV u=some n->n<w0.heap.size/\¬ M n
def tE (w0:World) (M:Nat->Prop) (v:Value) (us:List Value):Prop:=
 ((Nv v/\us=[])\/∃ b o c,v = .slice (some ⟨b,o,none⟩) us.length c/\b<w0.heap.size/\us.length<=c/\∀ (j:Nat) (u:Value),us[j]?=some u->w0.cell? ⟨b,o+j,none⟩=some u)/\∀ n,eV v=some n->n<w0.heap.size/\¬ M n
def lG (w0:World) (M:Nat->Prop) (V:aZ) (l:Nat):SB->Prop
 | .mI ds=>∃ v us,V.σ l=some (.tuple (v::us).toArray)/\tE w0 M v us/\us.length=ds.length/\∀ (i:Nat) (u:Value) (d:List Int),us[i]?=some u->ds[i]?=some d->dM w0 M u d
 | .nU d=>∃ u,V.σ l=some u/\dM w0 M u d
 | .gU ds z=>∃ v us,V.σ l=some (.tuple (v::us).toArray)/\tE w0 M v us/\us.length=ds.length+z/\(∀ (i:Nat) (u:Value) (d:List Int),us[i]?=some u->ds[i]?=some d->dM w0 M u d)/\∀ (i:Nat) (u:Value),us[i]?=some u->ds.length<=i->u = .slice none 0 0
 | .fM ds _=>∃ v us,V.σ l=some (.tuple (v::us).toArray)/\us.length=ds.length/\∀ (i:Nat) (u:Value) (d:List Int),us[i]?=some u->ds[i]?=some d->dM w0 M u d
 | _=>True
def SB.plain:SB->Bool
 | .mI _ | .fM _ _ | .nU _ | .gU _ _=>false
 | _=>true
theorem cY {w0:World} {M:Nat->Prop} {V:aZ} {l:Nat} {B:SB} (h:B.plain=true):lG w0 M V l B:=by
 cases B <;> first | trivial | cases h
structure aC (w0:World) (M:Nat->Prop) (V:aZ) (T:bA) (w:World):Prop where
 ok:∀ l B,T l=some B->okB V w l B
 jX:∀ l B l' B' n,l≠l'->T l=some B->T l'=some B'->B.owned=true->B.aN V l=some n->B'.aN V l'≠some n
 perm:∀ l B n,T l=some B->B.owned=true->B.aN V l=some n->w0.heap.size<=n\/M n
 frame:fO w0 M w
 tV:∀ l B,T l=some B->lG w0 M V l B
structure bL where
 bK:List Prop:=[]
 val:SV
 new:List SB:=[]
 wr:List (Nat × SB):=[]
def look {α:Type} (l:Nat):List (Nat × α)->Option α
 | []=>none
 | (k,v)::r=>match Nat.beq k l with
   | true=>some v
   | false=>look l r
def fT {α:Type} (lab:Nat):List α->List (Nat × α)
 | []=>[]
 | v::r=>(lab,v)::fT (lab+1) r
def bL.eI (lab:Nat) (e:bL):List (Nat × SB):=e.wr++fT lab e.new
def eG (T:bA) (lab:Nat) (e:bL):bA:=fun l=>match look l (e.eI lab) with
 | some B=>some B
 | none=>T l
theorem cD {α:Type} (l:Nat):∀ (a b:List (Nat × α)),look l (a++b)=match look l a with | some v=>some v | none=>look l b
 | [],b=>rfl
 | (k,v)::a,b=>by
   simp only [List.cons_append,look]
   cases h:Nat.beq k l with
   | true=>rfl
   | false=>exact cD l a b
theorem aH {α:Type} (l:Nat) (v:α) (r:List (Nat × α)):look l ((l,v)::r)=some v:=by simp [look,Nat.beq_refl]
theorem aD {α:Type} {l k:Nat} (h:k≠l) (v:α) (r:List (Nat × α)):look l ((k,v)::r)=look l r:=by
 have:Nat.beq k l=false:=by rw [<- Bool.not_eq_true,Nat.beq_eq];exact h
 simp [look,this]
theorem gC {α:Type} {l:Nat} {v:α}:∀ {r:List (Nat × α)},look l r=some v->(l,v)∈r
 | [],h=>by simp [look] at h
 | (k,u)::r,h=>by
   by_cases e:k=l
   .subst e;rw [aH] at h;cases h;exact zzC
   .rw [aD e] at h;exact zzO _ (gC h)
theorem fL {α:Type}:∀ (lab:Nat) (l:List α) (k:Nat),look k (fT lab l)=if lab<=k then l[k-lab]? else none
 | lab,[],k=>by simp [fT,look]
 | lab,v::r,k=>by
   by_cases e:lab=k
   .subst e;simp [fT,aH]
   .rw [fT,aD e,fL (lab+1) r k]
    by_cases h:lab<=k
    .rw [if_pos (by omega),if_pos h]
     obtain ⟨d,rfl⟩:∃ d,k=lab+1+d:=⟨k-(lab+1),by omega⟩
     rw [show lab+1+d-lab=d+1 from by omega,show lab+1+d-(lab+1)=d from by omega]
     simp
    .rw [if_neg (by omega),if_neg h]
def aZ.ext (V:aZ) (lab:Nat) (V':aZ):Prop:=V.le V'/\∀ l,(l<lab\/lab+8<=l)->V'.β l=V.β l/\V'.σ l=V.σ l
theorem aZ.cP (V:aZ) (lab:Nat):V.ext lab V:=⟨V.le_refl,fun _ _=>⟨rfl,rfl⟩⟩
def aZ.fresh (V:aZ) (lab:Nat):Prop:=∀ l,lab<=l->l<lab+8->V.β l=none/\V.σ l=none
def aZ.put (V:aZ) (l:Nat) (p:Nat × Nat):aZ:={ V with β:=fun k=>if k=l then some p else V.β k }
def aZ.aX (V:aZ) (l:Nat) (v:Value):aZ:={ V with σ:=fun k=>if k=l then some v else V.σ k }
theorem aZ.kG {V:aZ} {lab:Nat} (hf:V.fresh lab) (l:Nat) (h1:lab<=l) (h2:l<lab+8) (p:Nat × Nat):V.ext lab (V.put l p):=by
 refine ⟨⟨fun k q hk=>?_,fun _ _ h=>h⟩,fun k hk=>⟨?_,rfl⟩⟩
 .show (if k=l then some p else V.β k)=some q
  by_cases e:k=l
  .subst e;rw [(hf k h1 h2).1] at hk;cases hk
  .rw [if_neg e];exact hk
 .show (if k=l then some p else V.β k)=V.β k
  rw [if_neg (by omega)]
def aZ.Gp (V:aZ) (l:Nat) (p:Nat × Nat) (v:Value):aZ:=(V.put l p).aX l v
theorem aZ.bX {V:aZ} {lab:Nat} (hf:V.fresh lab) (l:Nat) (h1:lab<=l) (h2:l<lab+8) (v:Value):V.ext lab (V.aX l v):=by
 refine ⟨⟨fun _ _ h=>h,fun k q hk=>?_⟩,fun k hk=>⟨rfl,?_⟩⟩
 .show (if k=l then some v else V.σ k)=some q
  by_cases e:k=l
  .subst e;rw [(hf k h1 h2).2] at hk;cases hk
  .rw [if_neg e];exact hk
 .show (if k=l then some v else V.σ k)=V.σ k
  rw [if_neg (by omega)]
theorem aZ.rZ {V:aZ} {lab:Nat} (hf:V.fresh lab) (l:Nat) (h1:lab<=l) (h2:l<lab+8) (p:Nat × Nat) (v:Value):V.ext lab (V.Gp l p v):=by
 refine ⟨⟨fun k q hk=>?_,fun k q hk=>?_⟩,fun k hk=>⟨?_,?_⟩⟩
 .show (if k=l then some p else V.β k)=some q
  by_cases e:k=l
  .subst e;rw [(hf k h1 h2).1] at hk;cases hk
  .rw [if_neg e];exact hk
 .show (if k=l then some v else V.σ k)=some q
  by_cases e:k=l
  .subst e;rw [(hf k h1 h2).2] at hk;cases hk
  .rw [if_neg e];exact hk
 .show (if k=l then some p else V.β k)=V.β k
  rw [if_neg (by omega)]
 .show (if k=l then some v else V.σ k)=V.σ k
  rw [if_neg (by omega)]
structure TI where
 desc:TypeDesc
 size:Nat
 bytes:Nat
 zero:List SV
abbrev Sum:=List SV->bA->Nat->Nat->Option bL
structure Env where
 ty:Nat->Option TI
 aT:List (Nat × Nat)
 sum:Nat->Option Sum
 XX:Nat->Option Sum
 cmp:List Nat:=[]
def cC (P:Program) (Γ:Env):Prop:=∀ t ti,Γ.ty t=some ti->P.underlying t=some ti.desc /\
 ∃ i z,P.info? t=some i/\i.size=ti.size/\i.bytes=ti.bytes/\i.zero=some z/\∀ V,aG V ti.zero=some z.cells.toList
def uL:Value->SV
 | .int k n=>.int true k n
 | .bool b=>.bool true b
 | v=>.raw v
def IP:Value->SV
 | .agg cs=>.agg (cs.toList.map uL)
 | v=>uL v
theorem Wg (V:aZ) (v:Value):den V (uL v)=some v:=by cases v <;> simp [uL,den]
theorem sL (V:aZ):∀ l:List Value,aG V (l.map uL)=some l
 | []=>by simp [aG]
 | v::l=>by simp [aG,Wg,sL V l]
theorem EH (V:aZ) (v:Value):den V (IP v)=some v:=by
 cases v <;> simp [IP,uL,den,sL]
def tiP (P:Program) (t:Nat):Option TI:=match P.info? t with
 | some i=>match P.underlying t,i.zero with
   | some d,some z=>some { desc:=d,size:=i.size,bytes:=i.bytes,zero:=z.cells.toList.map uL }
   | _,_=>none
 | none=>none
theorem cC.prog {P:Program} {Γ:Env} (h:Γ.ty=tiP P):cC P Γ:=by
 intro t ti ht
 rw [h] at ht
 unfold tiP at ht
 split at ht
 case h_2=>cases ht
 rename_i i hi
 split at ht
 case h_2=>cases ht
 rename_i d z hd hz
 cases ht
 exact ⟨hd,i,z,hi,rfl,rfl,hz,fun V=>sL V _⟩
def ev (Γ:Env) (g:Nat->Option SV):Operand->Option SV
 | .tmp t=>g t
 | .const v=>some (IP v)
 | .global n=>(look n Γ.aT).map fun l=>.ptr l true 0
 | .func f=>some (.fn (.func f) [] [])
def cG (V:aZ) (g:Nat->Option SV) (a:Act):Prop:=∀ t v,g t=some v->den V v=some (a.eval (.tmp t))
def bO (Γ:Env) (V:aZ):Prop:=∀ n l,look n Γ.aT=some l->V.β l=some (n,0)
theorem bG {Γ:Env} {V:aZ} {g:Nat->Option SV} {a:Act} (ht:cG V g a) (hg:bO Γ V):∀ {x:Operand} {v:SV},ev Γ g x=some v->den V v=some (a.eval x)
 | .tmp t,v,h=>ht t v h
 | .const c,v,h=>by simp only [ev,zzI] at h;subst h;exact EH V c
 | .global n,v,h=>by
   simp only [ev,zzM] at h
   obtain ⟨l,hl,rfl⟩:=h
   simp [den,hg n l hl,Act.eval]
 | .func f,v,h=>by simp only [ev,zzI] at h;subst h;simp [den,aG,Act.eval]
def VP (Γ:Env) (g:Nat->Option SV):List Operand->Option (List SV)
 | []=>some []
 | x::r=>match ev Γ g x,VP Γ g r with
   | some v,some vs=>some (v::vs)
   | _,_=>none
theorem Kr {Γ:Env} {V:aZ} {g:Nat->Option SV} {a:Act} (ht:cG V g a) (hg:bO Γ V):∀ {xs:List Operand} {vs:List SV},VP Γ g xs=some vs->aG V vs=some (xs.map a.eval)
 | [],vs,h=>by simp only [VP,zzI] at h;subst h;simp [aG]
 | x::r,vs,h=>by
   simp only [VP] at h
   split at h
   .rename_i v us hv pU
    cases h
    simp [aG,bG ht hg hv,Kr ht hg pU]
   .cases h
def tM (s:Bool) (p:Prop) [Decidable p]:Option (List Prop):=match s with
 | true=>match decide p with
   | true=>some []
   | false=>none
 | false=>some [p]
theorem iG {s:Bool} {p:Prop} [Decidable p] {l:List Prop} (h:tM s p=some l) (ho:∀ q∈l,q):p:=by
 cases s with
 | true=>
   simp only [tM] at h
   split at h
   .rename_i hd;exact zzD hd
   .cases h
 | false=>simp only [tM,zzI] at h;subst h;exact ho p (by simp)
def AG (h:Option Bool) (s:Bool) (b:Bool):bL:=match s with
 | true=>{ val:=.bool true b }
 | false=>match h with
   | some c=>{ bK:=[b=c],val:=.bool true c }
   | none=>{ val:=.bool false b }
theorem MD (V:aZ) {h:Option Bool} {s b:Bool} (ho:∀ q∈(AG h s b).bK,q):den V (AG h s b).val=some (.bool b)/\(AG h s b).new=[]/\(AG h s b).wr=[]:=by
 unfold AG at *
 split
 .simp [den]
 .split
  .rename_i c
   have hb:b=c:=ho (b=c) (by simp)
   subst hb
   simp [den]
  .simp [den]
theorem kI (T:bA) (lab:Nat) {e:bL} (hn:e.new=[]) (hw:e.wr=[]):eG T lab e=T:=by
 funext l;simp [eG,bL.eI,hn,hw,fT,look]
def kR (P:Program) (w0:World) (M:Nat->Prop) (V:aZ) (T:bA) (lab:Nat) (e:bL) (o:Oper) (a:Act) (w:World):Prop:=
 ∀ K Q,(∀ V' x w',V.ext lab V'->den V' e.val=some x->aC w0 M V' (eG T lab e) w'->K (a.put o.dst x) w')->o.wp P a w K Q
theorem bD {P:Program} {w0:World} {M:Nat->Prop} {V:aZ} {T:bA} {lab:Nat} {e:bL} {o:Oper} {a:Act} {w:World} {x:Value}
 (hr:(execOp a.eval o).run P w = .ok (.value x) w) (hx:den V e.val=some x) (hn:e.new=[]) (hw:e.wr=[]) (hT:aC w0 M V T w):kR P w0 M V T lab e o a w:=by
 intro K Q hK
 unfold Oper.wp
 rw [hr,Oper.upon_value]
 exact hK V x w (V.cP lab) hx (by rw [kI T lab hn hw];exact hT)
section Tables
variable {w0 w w':World} {M:Nat->Prop} {V V':aZ} {T:bA} {lab:Nat}
theorem aC.known (h:aC w0 M V T w) {l:Nat} {B:SB} (hl:T l=some B) (hg:B ≠ .gone):V.β l≠none\/V.σ l≠none:=by
 obtain ⟨cs,_,h2⟩:=h.ok l B hl
 cases B with
 | own cells ty=>obtain ⟨b,hb,_⟩:=h2;left;rw [hb];simp
 | ints k xs ty=>obtain ⟨b,hb,_⟩:=h2;left;rw [hb];simp
 | eK vs ty=>obtain ⟨b,hb,_⟩:=h2;left;rw [hb];simp
 | fS cells=>obtain ⟨b,o,hb,_⟩:=h2;left;rw [hb];simp
 | nZ k xs=>obtain ⟨b,o,hb,_⟩:=h2;left;rw [hb];simp
 | cS k xs ty=>obtain ⟨v,hv,_⟩:=h2;right;rw [hv];simp
 | fX sz n ty=>obtain ⟨v,us,hv,_⟩:=h2;right;rw [hv];simp
 | row sz cells ty=>obtain ⟨b,_,_,hb,_⟩:=h2;left;rw [hb];simp
 | gL k xs=>obtain ⟨v,hv,_⟩:=h2;right;rw [hv];simp
 | jB pre k ds ty=>obtain ⟨b,_,_,hb,_⟩:=h2;left;rw [hb];simp
 | mI ds=>obtain ⟨v,us,hv,_⟩:=h.tV l _ hl;right;rw [hv];simp
 | nU d=>obtain ⟨u,hv,_⟩:=h.tV l _ hl;right;rw [hv];simp
 | fM ds ty=>obtain ⟨v,us,hv,_⟩:=h2;right;rw [hv];simp
 | eQ xs ty=>obtain ⟨v,hv,_⟩:=h2;right;rw [hv];simp
 | rI xs=>obtain ⟨v,hv,_⟩:=h2;right;rw [hv];simp
 | gU ds z=>obtain ⟨v,us,hv,_⟩:=h.tV l _ hl;right;rw [hv];simp
 | gone=>exact absurd rfl hg
theorem lO {ty:TypeId} {sz n:Nat} {v:Value} {cs:List Value} (h:w.ownsRow 0 ty sz v n cs) {k:Nat} (hk:v.ownBlock=some k):k<w.heap.size:=(h.lt k hk).2
theorem okB.lt {l:Nat} {B:SB} (h:okB V w l B) {n:Nat} (hn:B.aN V l=some n):n<w.heap.size:=by
 obtain ⟨cs,_,h2⟩:=h
 cases B with
 | own cells ty=>obtain ⟨b,hb,hh⟩:=h2;simp [SB.aN,hb] at hn;subst hn;exact (Array.getElem?_eq_some_iff.1 hh).1
 | ints k xs ty=>obtain ⟨b,hb,hh⟩:=h2;simp [SB.aN,hb] at hn;subst hn;exact (Array.getElem?_eq_some_iff.1 hh).1
 | eK vs ty=>obtain ⟨b,hb,hh⟩:=h2;simp [SB.aN,hb] at hn;subst hn;exact (Array.getElem?_eq_some_iff.1 hh).1
 | fS cells=>obtain ⟨b,o,hb,cM,_⟩:=h2;simp [SB.aN,hb] at hn;subst hn;exact cM.lt
 | nZ k xs=>obtain ⟨b,o,hb,cM,_⟩:=h2;simp [SB.aN,hb] at hn;subst hn;exact cM.lt
 | cS k xs ty=>obtain ⟨v,hv,ho⟩:=h2;simp [SB.aN,hv] at hn;exact lO ho.1 hn
 | fX sz n ty=>obtain ⟨v,us,hv,ho,_⟩:=h2;simp [SB.aN,hv] at hn;exact lO ho hn
 | row sz cells ty=>obtain ⟨b,_,_,hb,_,hh,_⟩:=h2;simp [SB.aN,hb] at hn;subst hn;exact (Array.getElem?_eq_some_iff.1 hh).1
 | gL k xs=>
   obtain ⟨v,hv,ho⟩:=h2
   simp only [SB.aN,hv,zza] at hn
   rcases ho with ⟨⟨a,rfl⟩,_⟩ | ⟨b,o,c,rfl,cM,_⟩
   .cases hn
   .cases eC hn;exact cM
 | fM ds ty=>obtain ⟨v,us,hv,ho⟩:=h2;simp [SB.aN,hv,uI] at hn;exact lO ho hn
 | jB pre k ds ty=>obtain ⟨b,_,_,hb,_,hh,_⟩:=h2;simp [SB.aN,hb] at hn;subst hn;exact (Array.getElem?_eq_some_iff.1 hh).1
 | eQ xs ty=>obtain ⟨v,hv,ho⟩:=h2;simp [SB.aN,hv] at hn;exact lO ho hn
 | rI xs=>
   obtain ⟨v,hv,ho⟩:=h2
   simp only [SB.aN,hv,zza] at hn
   rcases ho with ⟨⟨a,rfl⟩,_⟩ | ⟨b,o,c,rfl,cM,_⟩
   .cases hn
   .cases eC hn;exact cM
 | mI ds=>simp [SB.aN] at hn
 | nU d=>simp [SB.aN] at hn
 | gU ds z=>simp [SB.aN] at hn
 | gone=>simp [SB.aN] at hn
theorem Qz {w w':World} {k:IntKind} {v:Value} (h:iS w k v) (hb:∀ n,v.ownBlock=some n->w'.heap[n]?=w.heap[n]?):iS w' k v:=fun b hv=>by
 obtain ⟨cur,ty,p,h1,h2⟩:=h b hv
 exact ⟨cur,ty,p,by rw [hb b hv];exact h1,h2⟩
theorem mH {ty:TypeId} {sz n:Nat} {v:Value} {cs:List Value} (h:w.ownsRow 0 ty sz v n cs) (hb:∀ k,v.ownBlock=some k->w'.heap[k]?=w.heap[k]?):w'.ownsRow 0 ty sz v n cs:=by
 refine ⟨h.1,?_⟩
 rcases h.2 with hn | ⟨g,cap,cur,rfl,uC,hh,r⟩
 .exact .inl hn
 .exact .inr ⟨g,cap,cur,rfl,uC,by rw [hb g rfl];exact hh,r⟩
theorem okB.gO {l:Nat} {B:SB} (h:okB V w l B) (hV:V.le V') (hs:w.heap.size<=w'.heap.size) (hb:∀ n,B.aN V l=some n->w'.heap[n]?=w.heap[n]?):okB V' w' l B:=by
 obtain ⟨cs,hc,h2⟩:=h
 refine ⟨cs,SB.jF hV hc,?_⟩
 cases B with
 | own cells ty=>obtain ⟨b,hβ,hh⟩:=h2;exact ⟨b,hV.1 _ _ hβ,by rw [hb b (by simp [SB.aN,hβ])];exact hh⟩
 | ints k xs ty=>obtain ⟨b,hβ,hh⟩:=h2;exact ⟨b,hV.1 _ _ hβ,by rw [hb b (by simp [SB.aN,hβ])];exact hh⟩
 | eK vs ty=>obtain ⟨b,hβ,hh⟩:=h2;exact ⟨b,hV.1 _ _ hβ,by rw [hb b (by simp [SB.aN,hβ])];exact hh⟩
 | fS cells=>
   obtain ⟨b,o,hβ,cM,hh⟩:=h2
   refine ⟨b,o,hV.1 _ _ hβ,cM.gO (hb b (by simp [SB.aN,hβ])),fun j v hj=>?_⟩
   rw [<- hh j v hj]
   exact World.cell?_of_block (w:=w) (hb b (by simp [SB.aN,hβ]))
 | nZ k xs=>
   obtain ⟨b,o,hβ,cM,hh⟩:=h2
   refine ⟨b,o,hV.1 _ _ hβ,cM.gO (hb b (by simp [SB.aN,hβ])),fun j v hj=>?_⟩
   rw [<- hh j v hj]
   exact World.cell?_of_block (w:=w) (hb b (by simp [SB.aN,hβ]))
 | cS k xs ty=>obtain ⟨v,hσ,ho,hi⟩:=h2;exact ⟨v,hV.2 _ _ hσ,mH ho (fun k hk=>hb k (by simp [SB.aN,hσ,hk])),Qz hi (fun k hk=>hb k (by simp [SB.aN,hσ,hk]))⟩
 | fX sz n ty=>obtain ⟨v,us,hσ,ho,hq⟩:=h2;exact ⟨v,us,hV.2 _ _ hσ,mH ho (fun k hk=>hb k (by simp [SB.aN,hσ,hk])),hq⟩
 | row sz cells ty=>obtain ⟨b,cap,cur,hβ,hσ,hh,r⟩:=h2;exact ⟨b,cap,cur,hV.1 _ _ hβ,hV.2 _ _ hσ,by rw [hb b (by simp [SB.aN,hβ])];exact hh,r⟩
 | gL k xs=>
   obtain ⟨v,hσ,ho⟩:=h2
   refine ⟨v,hV.2 _ _ hσ,?_⟩
   rcases ho with ho | ⟨b,o,c,rfl,cM,hc,hh⟩
   .exact .inl ho
   .refine .inr ⟨b,o,c,rfl,Nat.lt_of_lt_of_le cM hs,hc,fun j v hj=>?_⟩
    rw [<- hh j v hj]
    have uD:j<xs.length:=by simpa using (List.getElem?_eq_some_iff.1 hj).1
    obtain ⟨m,rfl⟩:∃ m,c=m+1:=⟨c-1,by omega⟩
    exact World.cell?_of_block (w:=w) (hb b (by simp [SB.aN,hσ,eV,Value.ownBlock]))
 | fM ds ty=>obtain ⟨v,us,hσ,ho⟩:=h2;exact ⟨v,us,hV.2 _ _ hσ,mH ho (fun k hk=>hb k (by simp [SB.aN,hσ,uI,hk]))⟩
 | jB pre k ds ty=>obtain ⟨b,cap,cur,hβ,hσ,hh,r⟩:=h2;exact ⟨b,cap,cur,hV.1 _ _ hβ,hV.2 _ _ hσ,by rw [hb b (by simp [SB.aN,hβ])];exact hh,r⟩
 | eQ xs ty=>obtain ⟨v,hσ,ho⟩:=h2;exact ⟨v,hV.2 _ _ hσ,mH ho (fun k hk=>hb k (by simp [SB.aN,hσ,hk]))⟩
 | rI xs=>
   obtain ⟨v,hσ,ho⟩:=h2
   refine ⟨v,hV.2 _ _ hσ,?_⟩
   rcases ho with ho | ⟨b,o,c,rfl,cM,hc,hh⟩
   .exact .inl ho
   .refine .inr ⟨b,o,c,rfl,Nat.lt_of_lt_of_le cM hs,hc,fun j v hj=>?_⟩
    rw [<- hh j v hj]
    have uD:0<xs.length:=by
     cases xs with
     | nil=>simp [eF] at hj
     | cons a r=>simp
    obtain ⟨m,rfl⟩:∃ m,c=m+1:=⟨c-1,by omega⟩
    exact World.cell?_of_block (w:=w) (hb b (by simp [SB.aN,hσ,eV,Value.ownBlock]))
 | mI ds=>trivial
 | nU d=>trivial
 | gU ds z=>trivial
 | gone=>trivial
theorem lG.le {l:Nat} {B:SB} (h:lG w0 M V l B) (hV:V.le V'):lG w0 M V' l B:=by
 cases B with
 | mI ds=>obtain ⟨v,us,hσ,r⟩:=h;exact ⟨v,us,hV.2 _ _ hσ,r⟩
 | nU d=>obtain ⟨u,hσ,r⟩:=h;exact ⟨u,hV.2 _ _ hσ,r⟩
 | gU ds z=>obtain ⟨v,us,hσ,r⟩:=h;exact ⟨v,us,hV.2 _ _ hσ,r⟩
 | fM ds ty=>obtain ⟨v,us,hσ,r⟩:=h;exact ⟨v,us,hV.2 _ _ hσ,r⟩
 | _=>trivial
theorem SB.aQp (hV:V.le V') {l:Nat} {B:SB} {n:Nat} (h:B.aN V l=some n):B.aN V' l=some n:=by
 cases B <;> simp only [SB.aN,zzM,zzB] at h |-
 case gone=>cases h
 case cS=>obtain ⟨v,hv,e⟩:=h;exact ⟨v,hV.2 _ _ hv,e⟩
 case fX=>obtain ⟨v,hv,e⟩:=h;exact ⟨v,hV.2 _ _ hv,e⟩
 case gL=>obtain ⟨v,hv,e⟩:=h;exact ⟨v,hV.2 _ _ hv,e⟩
 case fM=>obtain ⟨v,hv,e⟩:=h;exact ⟨v,hV.2 _ _ hv,e⟩
 case eQ=>obtain ⟨v,hv,e⟩:=h;exact ⟨v,hV.2 _ _ hv,e⟩
 case rI=>obtain ⟨v,hv,e⟩:=h;exact ⟨v,hV.2 _ _ hv,e⟩
 case mI=>cases h
 case nU=>cases h
 case gU=>cases h
 all_goals (obtain ⟨p,hp,e⟩:=h;exact ⟨p,hV.1 _ _ hp,e⟩)
theorem okB.uS {l:Nat} {B:SB} (h:okB V w l B) (hV:V.le V'):B.aN V' l=B.aN V l:=by
 obtain ⟨cs,_,h2⟩:=h
 cases B with
 | own cells ty=>obtain ⟨b,hb,_⟩:=h2;simp [SB.aN,hb,hV.1 _ _ hb]
 | ints k xs ty=>obtain ⟨b,hb,_⟩:=h2;simp [SB.aN,hb,hV.1 _ _ hb]
 | eK vs ty=>obtain ⟨b,hb,_⟩:=h2;simp [SB.aN,hb,hV.1 _ _ hb]
 | fS cells=>obtain ⟨b,o,hb,_⟩:=h2;simp [SB.aN,hb,hV.1 _ _ hb]
 | nZ k xs=>obtain ⟨b,o,hb,_⟩:=h2;simp [SB.aN,hb,hV.1 _ _ hb]
 | cS k xs ty=>obtain ⟨v,hv,_⟩:=h2;simp [SB.aN,hv,hV.2 _ _ hv]
 | fX sz n ty=>obtain ⟨v,us,hv,_⟩:=h2;simp [SB.aN,hv,hV.2 _ _ hv]
 | row sz cells ty=>obtain ⟨b,_,_,hb,_⟩:=h2;simp [SB.aN,hb,hV.1 _ _ hb]
 | gL k xs=>obtain ⟨v,hv,_⟩:=h2;simp [SB.aN,hv,hV.2 _ _ hv]
 | fM ds ty=>obtain ⟨v,us,hv,_⟩:=h2;simp [SB.aN,hv,hV.2 _ _ hv]
 | jB pre k ds ty=>obtain ⟨b,_,_,hb,_⟩:=h2;simp [SB.aN,hb,hV.1 _ _ hb]
 | eQ xs ty=>obtain ⟨v,hv,_⟩:=h2;simp [SB.aN,hv,hV.2 _ _ hv]
 | rI xs=>obtain ⟨v,hv,_⟩:=h2;simp [SB.aN,hv,hV.2 _ _ hv]
 | mI ds=>simp [SB.aN]
 | nU d=>simp [SB.aN]
 | gU ds z=>simp [SB.aN]
 | gone=>simp [SB.aN]
theorem aC.step (h:aC w0 M V T w) (hV:V.le V') {N T':bA}
 (hT:∀ l B,T' l=some B->N l=some B\/(N l=none/\T l=some B))
 (hN:∀ l B,N l=some B->okB V' w' l B)
 (fE:∀ l B n,N l=some B->B.aN V' l=some n->w.heap.size<=n\/(∃ l0 B0,T l0=some B0/\B0.owned=true/\B0.aN V l0=some n/\N l0≠none)\/B.owned=false/\∀ l2 B2,N l2=none->T l2=some B2->B2.owned=true->B2.aN V l2≠some n)
 (aXa:∀ l B l' B' n,l≠l'->N l=some B->N l'=some B'->B.owned=true->B.aN V' l=some n->B'.aN V' l'≠some n)
 (Xk:w.heap.size<=w'.heap.size)
 (Xl:∀ n,n<w.heap.size->(∀ l B0,T l=some B0->B0.owned=true->N l≠none->B0.aN V l≠some n)->w'.heap[n]?=w.heap[n]?)
 (hos:w'.os=w.os) (Oi:w'.tape=w.tape) (GP:w'.output=w.output)
 (bDj:∀ l B,N l=some B->lG w0 M V' l B:=by intro l B h;(repeat' split at h) <;> first | (cases h;done) | (cases h;trivial)):aC w0 M V' T' w' where
 tV:=fun l B hl=>by
  rcases hT l B hl with hn | ⟨_,ho⟩
  .exact bDj l B hn
  .exact (h.tV l B ho).le hV
 ok:=fun l B hl=>by
  rcases hT l B hl with hn | ⟨hn,ho⟩
  .exact hN l B hn
  .refine (h.ok l B ho).gO hV Xk (fun n hb=>Xl n ((h.ok l B ho).lt hb) fun l1 B1 h1 h2 h3 h4=>?_)
   by_cases e:l1=l
   .subst e;exact h3 hn
   .exact h.jX l1 B1 l B n e h1 ho h2 h4 hb
 jX:=fun l B l' B' n dG hl sP fN hb=>by
  rcases hT l B hl with hn | ⟨hn,ho⟩ <;> rcases hT l' B' sP with Rc | ⟨Rc,lF⟩
  .exact aXa l B l' B' n dG hn Rc fN hb
  .rw [(h.ok l' B' lF).uS hV]
   intro iO
   rcases fE l B n hn hb with UI | ⟨l0,B0,h0,h1,h2,h3⟩ | ⟨hf,_⟩
   .have:=(h.ok l' B' lF).lt iO;omega
   .exact h.jX l0 B0 l' B' n (fun e=>h3 (e ▸ Rc)) h0 lF h1 h2 iO
   .rw [hf] at fN;cases fN
  .rw [(h.ok l B ho).uS hV] at hb
   intro iO
   rcases fE l' B' n Rc iO with UI | ⟨l0,B0,h0,h1,h2,h3⟩ | ⟨_,hf⟩
   .have:=(h.ok l B ho).lt hb;omega
   .exact h.jX l B l0 B0 n (fun e=>h3 (e ▸ hn)) ho h0 fN hb h2
   .exact hf l B hn ho fN hb
  .rw [(h.ok l B ho).uS hV] at hb
   rw [(h.ok l' B' lF).uS hV]
   exact h.jX l B l' B' n dG ho lF fN hb
 perm:=fun l B n hl fN hb=>by
  rcases hT l B hl with hn | ⟨hn,ho⟩
  .rcases fE l B n hn hb with UI | ⟨l0,B0,h0,h1,h2,_⟩ | ⟨hf,_⟩
   .left;have:=h.frame.size;omega
   .exact h.perm l0 B0 n h0 h1 h2
   .rw [hf] at fN;cases fN
  .rw [(h.ok l B ho).uS hV] at hb
   exact h.perm l B n ho fN hb
 frame:=by
  refine ⟨hos.trans h.frame.os,Oi.trans h.frame.tape,GP.trans h.frame.output,Nat.le_trans h.frame.size Xk,fun k hk hM=>?_⟩
  rw [<- h.frame.block k hk hM]
  refine Xl k (Nat.lt_of_lt_of_le hk h.frame.size) fun l B0 h1 h2 _ h4=>?_
  rcases h.perm l B0 k h1 h2 h4 with UI | hm
  .omega
  .exact hM hm
theorem aC.alloc (h:aC w0 M V T w) (hf:V.fresh lab) {B:SB} {cs:List Value} {ty:TypeId} (hB:B = .own (match B with | .own c _=>c | _=>[]) ty\/B = .ints (match B with | .ints k _ _=>k | _=>.i8) (match B with | .ints _ xs _=>xs | _=>[]) ty\/B = .eK (match B with | .eK vs _=>vs | _=>[]) ty) (hc:B.cells V=some cs) (v:SV) (l:List Prop) :
 aC w0 M (V.put lab (w.heap.size,0)) (eG T lab { bK:=l,val:=v,new:=[B] }) (w.alloc (.cells cs.toArray ty)):=by
 have bQ:=aZ.kG hf lab (zzr _) (by omega) (w.heap.size,0)
 have Da:(V.put lab (w.heap.size,0)).β lab=some (w.heap.size,0):=by simp [aZ.put]
 refine h.step (N:=fun k=>if k=lab then some B else none) bQ.1 (fun k C hk=>?_) (fun k C hk=>?_) (fun k C n hk hb=>?_) (fun k C k' C' n dG hk iA=>?_) (by simp) (fun n hn _=>heap_alloc_old w _ hn) rfl rfl rfl (fun k C hk=>cY ?_)
 .simp only [eG,bL.eI,fT,zzv] at hk
  by_cases e:lab=k
  .subst e;rw [aH] at hk;left;simpa using hk
  .rw [aD e] at hk;right;simp only [look] at hk;exact ⟨if_neg (fun x=>e x.symm),hk⟩
 .by_cases e:k=lab
  .subst e
   simp only [if_true,zzI] at hk
   subst hk
   refine ⟨cs,SB.jF bQ.1 hc,?_⟩
   rcases hB with hB | hB | hB <;> rw [hB] <;> exact ⟨w.heap.size,Da,heap_alloc_new w _⟩
  .simp [e] at hk
 .by_cases e:k=lab
  .subst e
   simp only [if_true,zzI] at hk
   subst hk
   left
   rcases hB with hB | hB | hB <;> (rw [hB] at hb;simp [SB.aN,Da] at hb;omega)
  .simp [e] at hk
 .by_cases e:k=lab
  .by_cases e':k'=lab
   .omega
   .simp [e'] at iA
  .simp [e] at hk
 .split at hk
  .cases hk;rcases hB with e | e | e <;> (rw [e];rfl)
  .cases hk
theorem aC.write (h:aC w0 M V T w) {l:Nat} {B0 B:SB} {b:Nat} {zM cs:List Value} {ty:TypeId} (hl:T l=some B0) (hβ:V.β l=some (b,0)) (fN:B0.owned=true) (h0:B0.aN V l=some b)
 (Dt:w.heap[b]?=some (.cells zM.toArray ty (0,0))) (hc:B.cells V=some cs)
 (hB:B = .own (match B with | .own c _=>c | _=>[]) ty\/B = .ints (match B with | .ints k _ _=>k | _=>.i8) (match B with | .ints _ xs _=>xs | _=>[]) ty\/B = .eK (match B with | .eK vs _=>vs | _=>[]) ty) (lab:Nat) (v:SV) (ob:List Prop) :
 aC w0 M V (eG T lab { bK:=ob,val:=v,wr:=[(l,B)] }) (w.setRow b cs.toArray):=by
 have aXc:B.aN V l=some b:=by rcases hB with hB | hB | hB <;> (rw [hB];simp [SB.aN,hβ])
 refine h.step (N:=fun k=>if k=l then some B else none) (aZ.le_refl V) (fun k C hk=>?_) (fun k C hk=>?_) (fun k C n hk hb=>?_) (fun k C k' C' n dG hk iA=>?_) (by simp) (fun n hn hx=>?_) rfl rfl rfl (fun k C hk=>cY ?_)
 .simp only [eG,bL.eI,fT,List.append_nil] at hk
  by_cases e:l=k
  .subst e;rw [aH] at hk;left;simpa using hk
  .rw [aD e] at hk;right;simp only [look] at hk;exact ⟨if_neg (fun x=>e x.symm),hk⟩
 .by_cases e:k=l
  .subst e
   simp only [if_true,zzI] at hk
   subst hk
   refine ⟨cs,hc,?_⟩
   have:=setRow_heap w b zM.toArray cs.toArray ty (0,0) Dt
   rcases hB with hB | hB | hB <;> rw [hB] <;> exact ⟨b,hβ,this⟩
  .simp [e] at hk
 .by_cases e:k=l
  .subst e
   simp only [if_true,zzI] at hk
   subst hk
   right;left
   rw [aXc] at hb
   cases hb
   exact ⟨k,B0,hl,fN,h0,by simp⟩
  .simp [e] at hk
 .by_cases e:k=l
  .by_cases e':k'=l
   .omega
   .simp [e'] at iA
  .simp [e] at hk
 .refine setRow_other w b n _ fun e=>?_
  subst e
  exact hx l B0 hl fN (by simp) h0
 .split at hk
  .cases hk;rcases hB with e | e | e <;> (rw [e];rfl)
  .cases hk
theorem aC.aXu (h:aC w0 M V T w) (hh:w'.heap=w.heap) (hos:w'.os=w.os) (Oi:w'.tape=w.tape) (GP:w'.output=w.output):aC w0 M V T w':=
 h.step (N:=fun _=>none) (aZ.le_refl V) (fun l B hl=>.inr ⟨rfl,hl⟩) (fun _ _ hk=>by cases hk) (fun _ _ _ hk=>by cases hk) (fun _ _ _ _ _ _ hk=>by cases hk) (by rw [hh];exact zzr _) (fun n _ _=>by rw [hh]) hos Oi GP
theorem nI.gO {w w':World} {k:IntKind} {x:Value} {ys:List Int} (h:nI w k x ys) (hs:w.heap.size<=w'.heap.size) (hb:∀ n,eV x=some n->w'.heap[n]?=w.heap[n]?):nI w' k x ys:=by
 rcases h with ho | ⟨b,o,c,rfl,cM,hc,hh⟩
 .exact .inl ho
 .refine .inr ⟨b,o,c,rfl,Nat.lt_of_lt_of_le cM hs,hc,fun j v hj=>?_⟩
  rw [<- hh j v hj]
  have uD:j<ys.length:=by simpa using (List.getElem?_eq_some_iff.1 hj).1
  obtain ⟨m,rfl⟩:∃ m,c=m+1:=⟨c-1,by omega⟩
  exact World.cell?_of_block (w:=w) (hb b (by simp [eV,Value.ownBlock]))
theorem dM.gO {w0 w:World} {M M':Nat->Prop} {u:Value} {d:List Int} (h:dM w0 M u d) (hf:fO w0 M w) (hM:∀ n,M' n->w0.heap.size<=n\/M n):dM w M' u d:=by
 refine ⟨h.1.gO hf.size fun n hn=>hf.block n (h.2 n hn).1 (h.2 n hn).2,fun n hn=>⟨Nat.lt_of_lt_of_le (h.2 n hn).1 hf.size,fun hm=>?_⟩⟩
 rcases hM n hm with q | q
 .have:=(h.2 n hn).1;omega
 .exact (h.2 n hn).2 q
theorem tE.gO {w0 w:World} {M M':Nat->Prop} {v:Value} {us:List Value} (h:tE w0 M v us) (hf:fO w0 M w) (hM:∀ n,M' n->w0.heap.size<=n\/M n):tE w M' v us:=by
 refine ⟨?_,fun n hn=>⟨Nat.lt_of_lt_of_le (h.2 n hn).1 hf.size,fun hm=>?_⟩⟩
 .rcases h.1 with ho | ⟨b,o,c,rfl,cM,hc,hh⟩
  .exact .inl ho
  .refine .inr ⟨b,o,c,rfl,Nat.lt_of_lt_of_le cM hf.size,hc,fun j u hj=>?_⟩
   rw [<- hh j u hj]
   have uD:j<us.length:=(List.getElem?_eq_some_iff.1 hj).1
   obtain ⟨m,rfl⟩:∃ m,c=m+1:=⟨c-1,by omega⟩
   have hb:=h.2 b (by simp [eV,Value.ownBlock])
   exact World.cell?_of_block (w:=w0) (hf.block b hb.1 hb.2)
 .rcases hM n hm with q | q
  .have:=(h.2 n hn).1;omega
  .exact (h.2 n hn).2 q
theorem lG.gO {w0 w:World} {M M':Nat->Prop} {V:aZ} {l:Nat} {B:SB} (h:lG w0 M V l B) (hf:fO w0 M w) (hM:∀ n,M' n->w0.heap.size<=n\/M n):lG w M' V l B:=by
 cases B with
 | nU d=>obtain ⟨u,h1,h2⟩:=h;exact ⟨u,h1,h2.gO hf hM⟩
 | mI ds=>obtain ⟨v,us,h1,h2,h3,h4⟩:=h;exact ⟨v,us,h1,h2.gO hf hM,h3,fun i u d hu hd=>(h4 i u d hu hd).gO hf hM⟩
 | fM ds ty=>obtain ⟨v,us,h1,h3,h4⟩:=h;exact ⟨v,us,h1,h3,fun i u d hu hd=>(h4 i u d hu hd).gO hf hM⟩
 | gU ds z=>obtain ⟨v,us,h1,h2,h3,h4,h5⟩:=h;exact ⟨v,us,h1,h2.gO hf hM,h3,fun i u d hu hd=>(h4 i u d hu hd).gO hf hM,h5⟩
 | _=>trivial
theorem nI.eH {k:IntKind} {x:Value} {ys:List Int} (h:nI w k x ys):iP ys.length x=some x:=by
 rcases h with ⟨⟨a,rfl⟩,rfl⟩ | ⟨b,o,c,rfl,_,hc,_⟩
 .cases a <;> simp [iP]
 .unfold iP;exact if_pos ⟨rfl,hc,.inr rfl⟩
theorem aC.swap {l0:Nat} {B C:SB} (hT:aC w0 M V T w) (hl:T l0=some B) (lQ:okB V w l0 B->okB V w l0 C) (fE:C.aN V l0=B.aN V l0) (fN:C.owned=B.owned) (Rq:C.plain=true):aC w0 M V (fun l=>if l=l0 then some C else T l) w:=by
 have src:∀ l D,(if l=l0 then some C else T l)=some D->∃ E,T l=some E/\D.aN V l=E.aN V l/\D.owned=E.owned:=by
  intro l D h
  by_cases e:l=l0
  .subst e;rw [if_pos rfl] at h;cases h;exact ⟨B,hl,fE,fN⟩
  .rw [if_neg e] at h;exact ⟨D,h,rfl,rfl⟩
 refine ⟨fun l D h=>?_,fun l D l' D' n dG h h' ho hb=>?_,fun l D n h ho hb=>?_,hT.frame,fun l D h=>?_⟩
 .by_cases e:l=l0
  .subst e;simp only [if_true,zzI] at h;subst h;exact lQ (hT.ok l B hl)
  .simp only [if_neg e] at h;exact hT.ok l D h
 .obtain ⟨E,h1,h2,h3⟩:=src l D h
  obtain ⟨E',Gk,EY,_⟩:=src l' D' h'
  rw [EY]
  exact hT.jX l E l' E' n dG h1 Gk (h3 ▸ ho) (h2 ▸ hb)
 .obtain ⟨E,h1,h2,h3⟩:=src l D h
  exact hT.perm l E n h1 (h3 ▸ ho) (h2 ▸ hb)
 .by_cases e:l=l0
  .subst e;simp only [if_true,zzI] at h;subst h;exact cY Rq
  .simp only [if_neg e] at h;exact hT.tV l D h
end Tables
def bW (k:IntKind) (x y:Int):Int:=k.wrap ((BitVec.ofInt k.bits x &&& BitVec.ofInt k.bits y).toNat:Int)
def lD (k:IntKind) (x y:Int):Int:=k.wrap ((BitVec.ofInt k.bits x ||| BitVec.ofInt k.bits y).toNat:Int)
def eZ (k:IntKind) (x y:Int):Int:=k.wrap ((BitVec.ofInt k.bits x ^^^ BitVec.ofInt k.bits y).toNat:Int)
def bFo (k:IntKind) (x y:Int):Int:=k.wrap ((BitVec.ofInt k.bits x &&& ~~~(BitVec.ofInt k.bits y)).toNat:Int)
def dK (k:IntKind) (x y:Int):Int:=k.wrap (x*2^(min y.toNat k.bits))
def cB (k:IntKind) (x y:Int):Int:=x.fdiv (2^(min y.toNat k.bits))
def lit (v:SV):Option bL:=some { val:=v }
def dY (v:SV) (l:List Prop):bL:={ bK:=l,val:=v }
def BL (h:Option Bool) (op:BinOp) (k:IntKind) (a:Int) (k2:IntKind) (b:Int) (sa sb:Bool):Option bL:=
 match op with
 | .shl=>(tM sb (0<=b)).map (dY (.int (sa&&sb) k (dK k a b)))
 | .shr=>(tM sb (0<=b)).map (dY (.int (sa&&sb) k (cB k a b)))
 | _=>match decide (k=k2) with
   | false=>none
   | true=>match op with
     | .add=>lit (.int (sa&&sb) k (k.wrap (a+b)))
     | .sub=>lit (.int (sa&&sb) k (k.wrap (a-b)))
     | .mul=>lit (.int (sa&&sb) k (k.wrap (a*b)))
     | .quo=>(tM sb (b≠0)).map (dY (.int (sa&&sb) k (k.wrap (a.tdiv b))))
     | .rem=>(tM sb (b≠0)).map (dY (.int (sa&&sb) k (a.tmod b)))
     | .and=>lit (.int (sa&&sb) k (bW k a b))
     | .or=>lit (.int (sa&&sb) k (lD k a b))
     | .xor=>lit (.int (sa&&sb) k (eZ k a b))
     | .andNot=>lit (.int (sa&&sb) k (bFo k a b))
     | .eql=>some (AG h (sa&&sb) (a==b))
     | .neq=>some (AG h (sa&&sb) (a != b))
     | .lss=>some (AG h (sa&&sb) (decide (a<b)))
     | .leq=>some (AG h (sa&&sb) (decide (a<=b)))
     | .gtr=>some (AG h (sa&&sb) (decide (a>b)))
     | .geq=>some (AG h (sa&&sb) (decide (a>=b)))
     | _=>none
theorem aFi {P:Program} (V:aZ) (w:World) {h:Option Bool} {op:BinOp} {k:IntKind} {a:Int} {k2:IntKind} {b:Int} {sa sb:Bool} {e:bL} (t:TypeId)
 (he:BL h op k a k2 b sa sb=some e) (ho:∀ q∈e.bK,q) :
 ∃ x,(binOp op t (.int k a) (.int k2 b)).run P w = .ok x w/\den V e.val=some x/\e.new=[]/\e.wr=[]:=by
 have hk:op ≠ .shl->op ≠ .shr->k=k2:=by
  intro h1 h2
  cases op <;> simp only [BL] at he <;> first | (split at he <;> first | (cases he;done) | (rename_i hd;exact zzD hd)) | exact absurd rfl h1 | exact absurd rfl h2
 cases op
 case shl=>
  simp only [BL,zzM] at he
  obtain ⟨l,hl,rfl⟩:=he
  have hb:=iG hl ho
  exact ⟨_,by simp only [binOp,Op.shift];rw [if_neg (by omega)];rfl,rfl,rfl,rfl⟩
 case shr=>
  simp only [BL,zzM] at he
  obtain ⟨l,hl,rfl⟩:=he
  have hb:=iG hl ho
  exact ⟨_,by simp only [binOp,Op.shift];rw [if_neg (by omega)];rfl,rfl,rfl,rfl⟩
 all_goals
  have iA:=hk (by simp) (by simp)
  subst iA
  simp only [BL,decide_true] at he
 case quo=>
  simp only [zzM] at he
  obtain ⟨l,hl,rfl⟩:=he
  have hb:=iG hl ho
  exact ⟨_,by simp only [binOp];rw [if_neg (by simp)];simp only [Op.intDiv];rw [if_neg hb];rfl,rfl,rfl,rfl⟩
 case rem=>
  simp only [zzM] at he
  obtain ⟨l,hl,rfl⟩:=he
  have hb:=iG hl ho
  exact ⟨_,by simp only [binOp];rw [if_neg (by simp)];simp only [Op.intDiv];rw [if_neg hb];rfl,rfl,rfl,rfl⟩
 all_goals first
  | (simp only [lit,zzI] at he;subst he;exact ⟨_,by simp only [binOp];rw [if_neg (by simp)];rfl,rfl,rfl,rfl⟩)
  | (simp only [zzI] at he;subst he;obtain ⟨h1,h2,h3⟩:=MD V ho;exact ⟨_,by simp only [binOp];rw [if_neg (by simp)];rfl,h1,h2,h3⟩)
  | (cases he;done)
def WV:SV->Option Bool
 | .raw (.pointer none)=>some true
 | .ptr .. => some false
 | _=>none
def WU:SV->Option Bool
 | .raw (.slice none _ _)=>some true
 | .aJ .. => some false
 | .cQ .. => some false
 | _=>none
def WW:SV->Option Bool
 | .raw .nilIface=>some true
 | .rG .. => some false
 | _=>none
def vN (op:BinOp) (b:Bool):Option bL:=match op with
 | .eql=>lit (.bool true b)
 | .neq=>lit (.bool true (!b))
 | _=>none
def eEq (h:Option Bool) (op:BinOp) (d:TypeDesc) (cc:Bool) (x y:SV):Option bL:=
 match d with
 | .pointer _=>match WV x,WV y with
   | some a,some b=>match a||b with
     | true=>vN op (a&&b)
     | false=>none
   | _,_=>none
 | .slice _=>match WU x,WU y with
   | some a,some b=>match a||b with
     | true=>vN op (a&&b)
     | false=>none
   | _,_=>none
 | .interface _=>match WW x,WW y with
   | some true,some true=>match cc with
     | true=>vN op true
     | false=>none
   | some true,some false=>vN op false
   | some false,some true=>vN op false
   | _,_=>none
 | .bool=>match x,y with
   | .bool sa a,.bool sb b=>match op with
     | .eql=>some (AG h (sa&&sb) (a==b))
     | .neq=>some (AG h (sa&&sb) (!(a==b)))
     | _=>none
   | _,_=>none
 | _=>none
def HE (Γ:Env) (g:Nat->Option SV) (h:Option Bool) (op:BinOp) (t:TypeId) (x y:Operand):Option bL:=
 match ev Γ g x,ev Γ g y with
 | some (.int sa k a),some (.int sb k2 b)=>BL h op k a k2 b sa sb
 | some u,some v=>match Γ.ty t with
   | some ti=>eEq h op ti.desc ((x matches .const _)||(y matches .const _)) u v
   | none=>none
 | _,_=>none
theorem cO {P:Program} (w:World) (op:BinOp) (t:TypeId) (x y:Operand) (a b:Value) (h1:¬ (a = .nilIface/\b = .nilIface)) (h2:∀ cs,a ≠ .agg cs) :
 (eqGuard op t x y a b).run P w = .ok () w:=by
 unfold eqGuard
 cases op <;> try rfl
 all_goals
  cases a <;> cases b <;> first | rfl | exact absurd rfl (h2 _) | exact absurd ⟨rfl,rfl⟩ h1
theorem Bc {P:Program} (w:World) (op:BinOp) (t:TypeId) (x y:Operand) (h:((x matches .const _)||(y matches .const _))=true) :
 (eqGuard op t x y .nilIface .nilIface).run P w = .ok () w:=by
 unfold eqGuard
 cases op <;> try rfl
 all_goals (cases x <;> cases y <;> first | rfl | (simp at h;done))
theorem Az (n0:Nat) {P:Program} (w:World) {t E:TypeId} (hu:P.underlying t=some (.pointer E)) (a b:Option Addr) (h:a=none\/b=none) :
 (Op.equalIn (n0+1) t (.pointer a) (.pointer b)).run P w = .ok (a.isNone&&b.isNone) w:=by
 simp only [Op.equalIn,Sem.run_bind,run_underlying hu w,Result.andThen_ok]
 rcases h with rfl | rfl
 .simp
 .cases a <;> simp
theorem Hg {P:Program} (w:World) {t E:TypeId} (hu:P.underlying t=some (.pointer E)) (a b:Option Addr) (h:a=none\/b=none) :
 (Op.equal t (.pointer a) (.pointer b)).run P w = .ok (a.isNone&&b.isNone) w:=Az 9999 w hu a b h
theorem xV (n0:Nat) {P:Program} (w:World) {t E:TypeId} (hu:P.underlying t=some (.slice E)) (a b:Option Addr) (n c m d:Nat) (h:a=none\/b=none) :
 (Op.equalIn (n0+1) t (.slice a n c) (.slice b m d)).run P w = .ok (a.isNone&&b.isNone) w:=by
 simp only [Op.equalIn,Sem.run_bind,run_underlying hu w,Result.andThen_ok]
 rcases h with rfl | rfl
 .simp
 .cases a <;> simp
theorem qW {P:Program} (w:World) {t E:TypeId} (hu:P.underlying t=some (.slice E)) (a b:Option Addr) (n c m d:Nat) (h:a=none\/b=none) :
 (Op.equal t (.slice a n c) (.slice b m d)).run P w = .ok (a.isNone&&b.isNone) w:=xV 9999 w hu a b n c m d h
theorem xW (n0:Nat) {P:Program} (w:World) {t:TypeId} {ms:Array (String × TypeId)} (hu:P.underlying t=some (.interface ms)) (a b:Value) (h:(a = .nilIface/\(b = .nilIface\/∃ u x,b = .iface u x))\/(∃ u x,a = .iface u x)/\b = .nilIface) :
 (Op.equalIn (n0+1) t a b).run P w = .ok ((a matches .nilIface)&&(b matches .nilIface)) w:=by
 simp only [Op.equalIn,Sem.run_bind,run_underlying hu w,Result.andThen_ok]
 rcases h with ⟨rfl,rfl | ⟨u,x,rfl⟩⟩ | ⟨⟨u,x,rfl⟩,rfl⟩ <;> simp
theorem lZ {P:Program} (w:World) {t:TypeId} {ms:Array (String × TypeId)} (hu:P.underlying t=some (.interface ms)) (a b:Value) (h:(a = .nilIface/\(b = .nilIface\/∃ u x,b = .iface u x))\/(∃ u x,a = .iface u x)/\b = .nilIface) :
 (Op.equal t a b).run P w = .ok ((a matches .nilIface)&&(b matches .nilIface)) w:=xW 9999 w hu a b h
theorem zJ (n0:Nat) {P:Program} (w:World) {t:TypeId} (hu:P.underlying t=some .bool) (a b:Bool) :
 (Op.equalIn (n0+1) t (.bool a) (.bool b)).run P w = .ok (a==b) w:=by
 simp only [Op.equalIn,Sem.run_bind,run_underlying hu w,Result.andThen_ok]
 rfl
theorem run_equal_bool {P:Program} (w:World) {t:TypeId} (hu:P.underlying t=some .bool) (a b:Bool) :
 (Op.equal t (.bool a) (.bool b)).run P w = .ok (a==b) w:=zJ 9999 w hu a b
theorem Zb {V:aZ} {x:SV} {v:Value} {b:Bool} (h:WV x=some b) (hv:den V x=some v):∃ a,v = .pointer a/\a.isNone=b:=by
 unfold WV at h
 split at h
 .cases h;simp only [den,zzI] at hv;subst hv;exact ⟨none,rfl,rfl⟩
 .cases h;simp only [den,zzM] at hv;obtain ⟨p,_,rfl⟩:=hv;exact ⟨_,rfl,rfl⟩
 .cases h
theorem Za {V:aZ} {x:SV} {v:Value} {b:Bool} (h:WU x=some b) (hv:den V x=some v):∃ a n c,v = .slice a n c/\a.isNone=b:=by
 unfold WU at h
 split at h
 .cases h;simp only [den,zzI] at hv;subst hv;exact ⟨none,_,_,rfl,rfl⟩
 .cases h;simp only [den,zzM] at hv;obtain ⟨p,_,rfl⟩:=hv;exact ⟨_,_,_,rfl,rfl⟩
 .cases h
  simp only [den,zzM,zzB] at hv
  obtain ⟨p,_,c,_,rfl⟩:=hv
  exact ⟨_,_,_,rfl,rfl⟩
 .cases h
theorem tB {V:aZ} {x:SV} {v:Value} {b:Bool} (h:WW x=some b) (hv:den V x=some v):(b=true/\v = .nilIface)\/(b=false/\∃ u y,v = .iface u y):=by
 unfold WW at h
 split at h
 .cases h;simp only [den,zzI] at hv;subst hv;exact .inl ⟨rfl,rfl⟩
 .cases h;simp only [den,zzM] at hv;obtain ⟨p,_,rfl⟩:=hv;exact .inr ⟨rfl,_,_,rfl⟩
 .cases h
theorem wH {P:Program} (V:aZ) {w:World} {op:BinOp} {b:Bool} {e:bL} (h:vN op b=some e) {t:TypeId} {x y:Value}
 (hr:(Op.equal t x y).run P w = .ok b w) (hd:binOp op t x y=(match op with | .eql=>(do pure (.bool (<- Op.equal t x y))) | _=>(do pure (.bool (!(<- Op.equal t x y)))))) :
 ∃ z,(binOp op t x y).run P w = .ok z w/\den V e.val=some z/\e.new=[]/\e.wr=[]:=by
 rw [hd]
 cases op <;> simp only [vN,lit] at h <;> first | (cases h;done) | skip
 all_goals
  cases h
  exact ⟨_,by simp only [Sem.run_bind,hr,Result.andThen_ok,Sem.run_pure],rfl,rfl,rfl⟩
theorem aPp {P:Program} (V:aZ) (w:World) {h:Option Bool} {op:BinOp} {d:TypeDesc} {X Y:Operand} {x y:SV} {t:TypeId} {e:bL} {u v:Value}
 (he:eEq h op d ((X matches .const _)||(Y matches .const _)) x y=some e) (ho:∀ q∈e.bK,q) (hu:P.underlying t=some d) (hx:den V x=some u) (hy:den V y=some v) :
 ∃ z,((do eqGuard op t X Y u v;binOp op t u v):Sem Value).run P w = .ok z w/\den V e.val=some z/\e.new=[]/\e.wr=[]:=by
 unfold eEq at he
 split at he
 case h_1 E=>
  split at he
  .rename_i a b ha hb
   split at he
   .rename_i hab
    obtain ⟨p,rfl,rfl⟩:=Zb ha hx
    obtain ⟨q,rfl,rfl⟩:=Zb hb hy
    have hr:=Hg (P:=P) w hu p q (by cases p <;> cases q <;> simp at hab |-)
    obtain ⟨z,h1,h2⟩:=wH V he hr (by cases op <;> first | rfl | (cases he;done))
    refine ⟨z,?_,h2⟩
    rw [Sem.run_bind,cO w op t X Y _ _ (by simp) (by simp),Result.andThen_ok]
    exact h1
   .cases he
  .cases he
 case h_2 E=>
  split at he
  .rename_i a b ha hb
   split at he
   .rename_i hab
    obtain ⟨p,n,c,rfl,rfl⟩:=Za ha hx
    obtain ⟨q,m,k,rfl,rfl⟩:=Za hb hy
    have hr:=qW (P:=P) w hu p q n c m k (by cases p <;> cases q <;> simp at hab |-)
    obtain ⟨z,h1,h2⟩:=wH V he hr (by cases op <;> first | rfl | (cases he;done))
    refine ⟨z,?_,h2⟩
    rw [Sem.run_bind,cO w op t X Y _ _ (by simp) (by simp),Result.andThen_ok]
    exact h1
   .cases he
  .cases he
 case h_3 ms=>
  split at he
  .rename_i ha hb
   split at he
   .rename_i Aj
    obtain ⟨_,rfl⟩ | ⟨hf,_⟩:=tB ha hx
    obtain ⟨_,rfl⟩ | ⟨hf,_⟩:=tB hb hy
    .have hr:=lZ (P:=P) w hu .nilIface .nilIface (.inl ⟨rfl,.inl rfl⟩)
     obtain ⟨z,h1,h2⟩:=wH V he hr (by cases op <;> first | rfl | (cases he;done))
     refine ⟨z,?_,h2⟩
     rw [Sem.run_bind,Bc w op t X Y Aj,Result.andThen_ok]
     exact h1
    .cases hf
    .cases hf
   .cases he
  .rename_i ha hb
   obtain ⟨_,rfl⟩ | ⟨hf,_⟩:=tB ha hx
   obtain ⟨hf,_⟩ | ⟨_,U,z,rfl⟩:=tB hb hy
   .cases hf
   .have hr:=lZ (P:=P) w hu .nilIface (.iface U z) (.inl ⟨rfl,.inr ⟨_,_,rfl⟩⟩)
    obtain ⟨z,h1,h2⟩:=wH V he hr (by cases op <;> first | rfl | (cases he;done))
    refine ⟨z,?_,h2⟩
    rw [Sem.run_bind,cO w op t X Y _ _ (by simp) (by simp),Result.andThen_ok]
    exact h1
   .cases hf
  .rename_i ha hb
   obtain ⟨hf,_⟩ | ⟨_,U,z,rfl⟩:=tB ha hx
   .cases hf
   obtain ⟨_,rfl⟩ | ⟨hf,_⟩:=tB hb hy
   .have hr:=lZ (P:=P) w hu (.iface U z) .nilIface (.inr ⟨⟨_,_,rfl⟩,rfl⟩)
    obtain ⟨z,h1,h2⟩:=wH V he hr (by cases op <;> first | rfl | (cases he;done))
    refine ⟨z,?_,h2⟩
    rw [Sem.run_bind,cO w op t X Y _ _ (by simp) (by simp),Result.andThen_ok]
    exact h1
   .cases hf
  .cases he
 case h_4=>
  split at he
  .rename_i sa a sb b
   simp only [den,zzI] at hx hy
   subst hx;subst hy
   have hr:=run_equal_bool (P:=P) w hu a b
   have hg:=cO (P:=P) w op t X Y (.bool a) (.bool b) (by simp) (by simp)
   cases op <;> simp only at he <;> first | (cases he;done) | skip
   all_goals
    cases he
    obtain ⟨h1,h2,h3⟩:=MD V ho
    exact ⟨_,by rw [Sem.run_bind,hg,Result.andThen_ok];simp only [binOp,Sem.run_bind,hr,Result.andThen_ok,Sem.run_pure],h1,h2,h3⟩
  .cases he
 case h_5=>cases he
theorem Mh {P:Program} {Γ:Env} {V:aZ} {w w0:World} {M:Nat->Prop} {T:bA} {g:Nat->Option SV} {a:Act} (aR:cC P Γ) (ht:cG V g a) (hg:bO Γ V) (hT:aC w0 M V T w)
 {h:Option Bool} {op:BinOp} {t t2:TypeId} {x y:Operand} {o:Oper} (bY:o.op = .binOp op t x y t2) {e:bL} (he:HE Γ g h op t x y=some e) (ho:∀ q∈e.bK,q) (lab:Nat) :
 kR P w0 M V T lab e o a w:=by
 unfold HE at he
 split at he
 .rename_i sa k A sb k2 B hx hy
  have ex:=bG ht hg hx
  have ey:=bG ht hg hy
  simp only [den,zzI] at ex ey
  obtain ⟨z,h1,h2,h3,h4⟩:=aFi (P:=P) V w t he ho
  refine bD (x:=z) ?_ h2 h3 h4 hT
  unfold execOp
  simp only [bY,<- ex,<- ey,Sem.run_bind,cO w op t x y (.int k A) (.int k2 B) (by simp) (by simp),Result.andThen_ok,h1,Sem.run_pure]
 .rename_i u v _ hx hy
  split at he
  .rename_i ti dX
   obtain ⟨z,h1,h2,h3,h4⟩:=aPp (P:=P) V w he ho (aR t ti dX).1 (bG ht hg hx) (bG ht hg hy)
   refine bD (x:=z) ?_ h2 h3 h4 hT
   unfold execOp
   simp only [bY]
   rw [Sem.run_bind,h1]
   rfl
  .cases he
 .cases he
def eUn (Γ:Env) (g:Nat->Option SV) (op:UnOp) (x:Operand):Option bL:=
 match op,ev Γ g x with
 | .neg,some (.int s k n)=>lit (.int s k (k.wrap (0-n)))
 | .xor,some (.int s k n)=>lit (.int s k (eZ k (if k.signed then -1 else k.max) n))
 | .not,some (.bool s b)=>lit (.bool s (!b))
 | _,_=>none
theorem aPo {P:Program} {Γ:Env} {V:aZ} {w w0:World} {M:Nat->Prop} {T:bA} {g:Nat->Option SV} {a:Act} (ht:cG V g a) (hg:bO Γ V) (hT:aC w0 M V T w)
 {op:UnOp} {t:TypeId} {x:Operand} {o:Oper} (bY:o.op = .unOp op t x) {e:bL} (he:eUn Γ g op x=some e) (lab:Nat):kR P w0 M V T lab e o a w:=by
 unfold eUn at he
 split at he <;> first | (cases he;done) | skip
 all_goals
  rename_i hx
  have ex:=bG ht hg hx
  simp only [den,zzI] at ex
  simp only [lit,zzI] at he
  subst he
  refine bD (by unfold execOp;simp only [bY,<- ex];rfl) rfl rfl rfl hT
def JX (Γ:Env) (g:Nat->Option SV) (src dst:TypeId) (x:Operand):Option bL:=
 match ev Γ g x,Γ.ty src,Γ.ty dst with
 | some (.int s _ n),some _,some td=>match td.desc with
   | .int k=>lit (.int s k (k.wrap n))
   | _=>none
 | _,_,_=>none
theorem SK {P:Program} {Γ:Env} {V:aZ} {w w0:World} {M:Nat->Prop} {T:bA} {g:Nat->Option SV} {a:Act} (aR:cC P Γ) (ht:cG V g a) (hg:bO Γ V) (hT:aC w0 M V T w)
 {src dst:TypeId} {x:Operand} {o:Oper} (bY:o.op = .convert src dst x) {e:bL} (he:JX Γ g src dst x=some e) (lab:Nat):kR P w0 M V T lab e o a w:=by
 unfold JX at he
 split at he
 .rename_i s k0 n ts td hx h1 h2
  split at he
  .rename_i k hk
   have ex:=bG ht hg hx
   simp only [den,zzI] at ex
   simp only [lit,zzI] at he
   subst he
   refine bD (x:=.int k (k.wrap n)) ?_ rfl rfl rfl hT
   unfold execOp
   simp only [bY,<- ex,convert,Sem.run_bind,run_underlying (aR src ts h1).1 w,run_underlying (aR dst td h2).1 w,Result.andThen_ok,hk]
   rfl
  .cases he
 .cases he
def tN:TypeDesc->Bool
 | .struct _ | .array _ _=>true
 | _=>false
theorem bH (b o j:Nat):(⟨b,o,none⟩:Addr).add j=⟨b,o+j,none⟩:=by
 unfold Addr.add;split <;> simp_all
section Run
variable {P:Program} {w:World} {t:TypeId} {d:TypeDesc} {i:TypeInfo}
theorem fA (hu:P.underlying t=some d):(isAgg t).run P w = .ok (tN d) w:=by
 unfold isAgg
 rw [Sem.run_bind,run_underlying hu w]
 cases d <;> rfl
theorem run_sizeOf (hi:P.info? t=some i):(sizeOf t).run P w = .ok i.size w:=by
 simp [sizeOf,typeInfo,hi]
theorem eJ {z:Value} (hi:P.info? t=some i) (hz:i.zero=some z):(zeroValue t).run P w = .ok z w:=by
 simp [zeroValue,typeInfo,hi,hz]
theorem dL (hu:P.underlying t=some d) (hi:P.info? t=some i) (b o:Nat) (xs:List Value) (hx:xs.length=i.size)
 (hc:∀ (j:Nat) (v:Value),xs[j]?=some v->w.cell? ⟨b,o+j,none⟩=some v) :
 (tN d=true->(loadVar t ⟨b,o,none⟩).run P w = .ok (.agg xs.toArray) w) /\
 (tN d=false->∀ x,xs=[x]->(loadVar t ⟨b,o,none⟩).run P w = .ok x w):=by
 refine ⟨fun h=>?_,fun h x gM=>?_⟩
 .have hl:=run_loadCells_list (P:=P) w ⟨b,o,none⟩ xs (fun j v hj=>by rw [bH];exact hc j v hj)
  rw [hx] at hl
  simp [loadVar,fA hu,h,run_sizeOf hi,hl]
 .subst gM
  have:=hc 0 x rfl
  simp only [Nat.add_zero] at this
  simp [loadVar,fA hu,h,this]
theorem Qs (v:Value) (h:v.oneCell'=true):v.cells = #[v]:=by cases v <;> first | rfl | (cases h;done)
end Run
def cellsOf:SV->List SV
 | .agg vs=>vs
 | v=>[v]
def WT:SV->Bool
 | .int .. | .bool .. | .ptr .. | .aJ .. | .fn .. | .rG .. | .jQ .. | .nH .. | .cQ .. | .eH .. | .xZ .. | .tZ .. => true
 | .raw v=>v.oneCell'
 | _=>false
theorem Yv {V:aZ}:∀ {v:SV} {x:Value},WT v=true->den V v=some x->x.oneCell'=true
 | .int ..,x,_,h=>by simp only [den,zzI] at h;subst h;rfl
 | .bool ..,x,_,h=>by simp only [den,zzI] at h;subst h;rfl
 | .ptr ..,x,_,h=>by simp only [den,zzM] at h;obtain ⟨p,_,rfl⟩:=h;rfl
 | .aJ ..,x,_,h=>by simp only [den,zzM] at h;obtain ⟨p,_,rfl⟩:=h;rfl
 | .fn ..,x,_,h=>by simp only [den,zzM,zzB] at h;obtain ⟨p,_,q,_,rfl⟩:=h;rfl
 | .rG ..,x,_,h=>by simp only [den,zzM] at h;obtain ⟨p,_,rfl⟩:=h;rfl
 | .jQ ..,x,_,h=>by
   simp only [den] at h
   split at h
   .cases h;rfl
   .cases h
 | .nH ..,x,_,h=>by
   simp only [den] at h
   split at h
   .cases h;rfl
   .cases h
 | .raw v,x,h1,h=>by simp only [den,zzI] at h;subst h;exact h1
 | .agg ..,_,h,_=>by cases h
 | .ai ..,_,h,_=>by cases h
 | .eP ..,_,h,_=>by cases h
 | .buf ..,_,h,_=>by cases h
 | .cQ ..,x,_,h=>by
   simp only [den,zzM,zzB] at h
   obtain ⟨p,_,c,_,rfl⟩:=h
   rfl
 | .eH ..,x,_,h=>by
   simp only [den,zzB] at h
   obtain ⟨v,_,h⟩:=h
   rcases dB h with ⟨rfl,⟨⟨_,rfl⟩,_⟩ | ⟨b,o,c,rfl,_⟩⟩ <;> rfl
 | .tZ ..,x,_,h=>by
   simp only [den,zzB] at h
   obtain ⟨v,_,h⟩:=h
   unfold Ao at h
   split at h
   .simp only [zzB] at h
    obtain ⟨u,_,h⟩:=h
    rcases dB h with ⟨rfl,⟨⟨_,rfl⟩,_⟩ | ⟨b,o,c,rfl,_⟩⟩ <;> rfl
   .cases h
 | .xZ ..,x,_,h=>by
   simp only [den,zzB] at h
   obtain ⟨v,_,h⟩:=h
   unfold My at h
   split at h
   .simp only [zzB] at h
    obtain ⟨u,_,h⟩:=h
    rcases dB h with ⟨rfl,⟨⟨_,rfl⟩,_⟩ | ⟨b,o,c,rfl,_⟩⟩ <;> rfl
   .cases h
def mC (vs:List SV):Bool:=vs.all WT
theorem oF {V:aZ}:∀ {vs:List SV} {xs:List Value},mC vs=true->aG V vs=some xs->∀ x∈xs,x.oneCell'=true
 | [],xs,_,h=>by simp only [aG,zzI] at h;subst h;simp
 | v::vs,xs,h1,h=>by
   simp only [aG,zzM,zzB] at h
   obtain ⟨x,hx,ys,hy,rfl⟩:=h
   simp only [mC,List.all_cons,zzn] at h1
   intro z hz
   rcases List.mem_cons.1 hz with rfl | hz
   .exact Yv h1.1 hx
   .exact oF (by simpa [mC] using h1.2) hy z hz
def rdL (cs:List SV) (s:Bool) (off n:Nat):Option (List Prop × List SV):=match s with
 | true=>match Nat.beq ((cs.drop off).take n).length n with
   | true=>some ([],(cs.drop off).take n)
   | false=>none
 | false=>none
def Wo (B:SB) (s:Bool) (off n:Nat):Option (List Prop × List SV):=
 match B with
 | .own cs _=>rdL cs s off n
 | .row _ cs _=>rdL cs s off n
 | .fS cs=>rdL cs s off n
 | .ints k xs _=>some ([off+n<=xs.length],(List.range n).map fun j=>.int false k (xs.getD (off+j) 0))
 | .nZ k xs=>some ([off+n<=xs.length],(List.range n).map fun j=>.int false k (xs.getD (off+j) 0))
 | .eK vs _=>some ([off+n<=vs.length],(List.range n).map fun j=>.raw (vs.getD (off+j) undef))
 | _=>none
theorem gD {V:aZ} (n:Nat) (f:Nat->SV) (g:Nat->Value) (h:∀ j,j<n->den V (f j)=some (g j)):aG V ((List.range n).map f)=some ((List.range n).map g):=by
 induction n with
 | zero=>simp [aG]
 | succ n ih=>
   rw [List.range_succ,List.map_append,List.map_append]
   exact cH (ih fun j hj=>h j (by omega)) (by simp [aG,h n (by omega)])
theorem qB {V:aZ} {w:World} {l:Nat} {B:SB} {s:Bool} {off n:Nat} {ob:List Prop} {r:List SV} {b o:Nat} (hB:okB V w l B) (hβ:V.β l=some (b,o))
 (h:Wo B s off n=some (ob,r)) (ho:∀ q∈ob,q) :
 ∃ xs:List Value,aG V r=some xs/\xs.length=n/\∀ (j:Nat) (v:Value),xs[j]?=some v->w.cell? ⟨b,o+off+j,none⟩=some v:=by
 obtain ⟨cs,hc,h2⟩:=hB
 have key:(∀ (j:Nat) (v:Value),cs[j]?=some v->w.cell? ⟨b,o+j,none⟩=some v)\/(∀ b o,V.β l=some (b,o)->False)\/(∃ k xs ty,B = .cS k xs ty)\/B = .gone:=by
  cases B with
  | own cells ty=>obtain ⟨b',hb,hh⟩:=h2;rw [hβ] at hb;cases hb;left;intro j v hj;rw [cell_of_row w b (0+j) _ _ _ hh];simpa using hj
  | ints k xs ty=>obtain ⟨b',hb,hh⟩:=h2;rw [hβ] at hb;cases hb;left;intro j v hj;rw [cell_of_row w b (0+j) _ _ _ hh];simpa using hj
  | eK vs ty=>obtain ⟨b',hb,hh⟩:=h2;rw [hβ] at hb;cases hb;left;intro j v hj;rw [cell_of_row w b (0+j) _ _ _ hh];simpa using hj
  | fS cells=>obtain ⟨b',o',hb,_,hh⟩:=h2;rw [hβ] at hb;cases hb;exact .inl hh
  | nZ k xs=>obtain ⟨b',o',hb,_,hh⟩:=h2;rw [hβ] at hb;cases hb;exact .inl hh
  | cS k xs ty=>exact .inr (.inr (.inl ⟨_,_,_,rfl⟩))
  | fX=>cases h
  | row sz cells ty=>
    obtain ⟨b',cap,cur,hb,_,hh,_,_,_,cT⟩:=h2
    rw [hβ] at hb;cases hb
    left
    intro j v hj
    rw [cell_of_row w b (0+j) _ _ _ hh]
    rw [<- cT,List.getElem?_take] at hj
    split at hj
    .simpa using hj
    .cases hj
  | jB=>cases h
  | gL=>cases h
  | mI=>cases h
  | nU=>cases h
  | fM=>cases h
  | eQ=>cases h
  | rI=>cases h
  | gU=>cases h
  | gone=>exact .inr (.inr (.inr rfl))
 have Mq:∀ cells:List SV,rdL cells s off n=some (ob,r) ->
  aG V cells=some cs->∃ xs:List Value,aG V r=some xs/\xs.length=n/\∀ (j:Nat) (v:Value),xs[j]?=some v->cs[off+j]?=some v:=by
  intro cells h hc
  unfold rdL at h
  split at h
  .split at h
   .rename_i hlen
    simp only [zzI,Prod.mk.injEq] at h
    obtain ⟨rfl,rfl⟩:=h
    have hd:=eO n (jL off hc)
    refine ⟨_,hd,by rw [bC hd];exact zzN hlen,fun j v hj=>?_⟩
    rw [List.getElem?_take] at hj
    split at hj
    .rwa [List.getElem?_drop] at hj
    .cases hj
   .cases h
  .cases h
 have rng:∀ (f:Nat->SV) (gv:Nat->Value),(∀ j,off+j<cs.length->den V (f j)=some (gv j)/\cs[off+j]?=some (gv j))->off+n<=cs.length->r=(List.range n).map f ->
  ∃ xs:List Value,aG V r=some xs/\xs.length=n/\∀ (j:Nat) (v:Value),xs[j]?=some v->cs[off+j]?=some v:=by
  intro f gv hf hn hr
  subst hr
  refine ⟨_,gD n f gv (fun j hj=>(hf j (by omega)).1),by simp,fun j v hj=>?_⟩
  by_cases cM:j<n
  .simp only [List.getElem?_map,List.getElem?_range cM,zzm,zzI] at hj
   subst hj
   exact (hf j (by omega)).2
  .rw [List.getElem?_eq_none (by simp;omega)] at hj;cases hj
 have fin:∀ xs:List Value,(∀ (j:Nat) (v:Value),xs[j]?=some v->cs[off+j]?=some v)->(∀ (j:Nat) (v:Value),cs[j]?=some v->w.cell? ⟨b,o+j,none⟩=some v) ->
  ∀ (j:Nat) (v:Value),xs[j]?=some v->w.cell? ⟨b,o+off+j,none⟩=some v:=fun xs h1 h2 j v hj=>by
  rw [Nat.add_assoc];exact h2 _ _ (h1 j v hj)
 rcases key with key | key | ⟨k,xs,ty,rfl⟩ | rfl
 .cases B with
  | own cells ty=>obtain ⟨xs,h1,h2,h3⟩:=Mq cells h hc;exact ⟨xs,h1,h2,fin xs h3 key⟩
  | fS cells=>obtain ⟨xs,h1,h2,h3⟩:=Mq cells h hc;exact ⟨xs,h1,h2,fin xs h3 key⟩
  | row sz cells ty=>obtain ⟨xs,h1,h2,h3⟩:=Mq cells h hc;exact ⟨xs,h1,h2,fin xs h3 key⟩
  | ints k ys ty=>
    simp only [Wo,zzI,Prod.mk.injEq] at h
    obtain ⟨rfl,rfl⟩:=h
    simp only [SB.cells,zzI] at hc
    subst hc
    have hn:off+n<=ys.length:=ho _ (by simp)
    obtain ⟨xs,h1,h2,h3⟩:=rng _ (fun j=>.int k (ys.getD (off+j) 0)) (fun j hj=>⟨rfl,by
     have hj':off+j<ys.length:=by simpa using hj
     simp [hj',zzG]⟩) (by simpa using hn) rfl
    exact ⟨xs,h1,h2,fin xs h3 key⟩
  | nZ k ys=>
    simp only [Wo,zzI,Prod.mk.injEq] at h
    obtain ⟨rfl,rfl⟩:=h
    simp only [SB.cells,zzI] at hc
    subst hc
    have hn:off+n<=ys.length:=ho _ (by simp)
    obtain ⟨xs,h1,h2,h3⟩:=rng _ (fun j=>.int k (ys.getD (off+j) 0)) (fun j hj=>⟨rfl,by
     have hj':off+j<ys.length:=by simpa using hj
     simp [hj',zzG]⟩) (by simpa using hn) rfl
    exact ⟨xs,h1,h2,fin xs h3 key⟩
  | eK ys ty=>
    simp only [Wo,zzI,Prod.mk.injEq] at h
    obtain ⟨rfl,rfl⟩:=h
    simp only [SB.cells,zzI] at hc
    subst hc
    have hn:off+n<=ys.length:=ho _ (by simp)
    obtain ⟨xs,h1,h2,h3⟩:=rng _ (fun j=>ys.getD (off+j) undef) (fun j hj=>⟨rfl,by
     have hj':off+j<ys.length:=by simpa using hj
     simp [hj',zzG]⟩) (by simpa using hn) rfl
    exact ⟨xs,h1,h2,fin xs h3 key⟩
  | cS=>cases h
  | gL=>cases h
  | fX=>cases h
  | jB=>cases h
  | mI=>cases h
  | nU=>cases h
  | fM=>cases h
  | eQ=>cases h
  | rI=>cases h
  | gU=>cases h
  | gone=>cases h
 .exact (key b o hβ).elim
 .cases h
 .cases h
def dA (k:IntKind):List SV->Option (List Int)
 | []=>some []
 | .int _ k2 n::r=>match decide (k=k2) with
   | true=>(dA k r).map (n :: ·)
   | false=>none
 | _=>none
theorem cX {V:aZ} {k:IntKind}:∀ {vs:List SV} {ns:List Int},dA k vs=some ns->aG V vs=some (ns.map (Value.int k))
 | [],ns,h=>by simp only [dA,zzI] at h;subst h;simp [aG]
 | .int s k2 n::r,ns,h=>by
   simp only [dA] at h
   split at h
   .rename_i hd
    have:=zzD hd
    subst this
    simp only [zzM] at h
    obtain ⟨ms,hm,rfl⟩:=h
    simp [aG,den,cX hm]
   .cases h
 | .bool .. :: r,_,h=>by cases h
 | .ptr .. :: r,_,h=>by cases h
 | .aJ .. :: r,_,h=>by cases h
 | .agg .. :: r,_,h=>by cases h
 | .eP .. :: r,_,h=>by cases h
 | .fn .. :: r,_,h=>by cases h
 | .rG .. :: r,_,h=>by cases h
 | .raw .. :: r,_,h=>by cases h
 | .buf .. :: r,_,h=>by cases h
 | .jQ .. :: r,_,h=>by cases h
 | .nH .. :: r,_,h=>by cases h
 | .eH .. :: r,_,h=>by cases h
 | .ai .. :: r,_,h=>by cases h
theorem aC.change {w0 w w':World} {M:Nat->Prop} {V:aZ} {T:bA} (h:aC w0 M V T w) {l:Nat} {B0 B:SB} {b:Nat} (hl:T l=some B0) (fN:B0.owned=true) (h0:B0.aN V l=some b)
 (lQ:okB V w' l B) (hb:B.aN V l=some b) (Xk:w.heap.size<=w'.heap.size) (Xl:∀ n,n<w.heap.size->n≠b->w'.heap[n]?=w.heap[n]?)
 (hos:w'.os=w.os) (Oi:w'.tape=w.tape) (GP:w'.output=w.output) (lab:Nat) (v:SV) (ob:List Prop) (Rq:B.plain=true:=by rfl) :
 aC w0 M V (eG T lab { bK:=ob,val:=v,wr:=[(l,B)] }) w':=by
 refine h.step (N:=fun k=>if k=l then some B else none) (aZ.le_refl V) (fun k C hk=>?_) (fun k C hk=>?_) (fun k C n hk iO=>?_) (fun k C k' C' n dG hk iA=>?_) Xk (fun n hn hx=>?_) hos Oi GP (fun k C hk=>cY ?_)
 .simp only [eG,bL.eI,fT,List.append_nil] at hk
  by_cases e:l=k
  .subst e;rw [aH] at hk;left;simpa using hk
  .rw [aD e] at hk;right;simp only [look] at hk;exact ⟨if_neg (fun x=>e x.symm),hk⟩
 .by_cases e:k=l
  .subst e
   simp only [if_true,zzI] at hk
   subst hk
   exact lQ
  .simp [e] at hk
 .by_cases e:k=l
  .subst e
   simp only [if_true,zzI] at hk
   subst hk
   right;left
   rw [hb] at iO
   cases iO
   exact ⟨k,B0,hl,fN,h0,by simp⟩
  .simp [e] at hk
 .by_cases e:k=l
  .by_cases e':k'=l
   .omega
   .simp [e'] at iA
  .simp [e] at hk
 .refine Xl n hn fun e=>?_
  subst e
  exact hx l B0 hl fN (by simp) h0
 .split at hk
  .cases hk;exact Rq
  .cases hk
theorem Qn {α:Type} (cur cs xs:List α) (off:Nat) (h:cur.take cs.length=cs) (hle:off+xs.length<=cs.length) :
 (cur.take off++xs++cur.drop (off+xs.length)).take cs.length=cs.take off++xs++cs.drop (off+xs.length):=by
 have hl:cs.length<=cur.length:=by
  have:=congrArg List.length h
  rw [List.length_take] at this
  omega
 apply List.ext_getElem?
 intro j
 have hj:∀ i,i<cs.length->cur[i]?=cs[i]?:=fun i hi=>by
  have:=congrArg (fun z=>z[i]?) h
  simpa [List.getElem?_take,hi] using this
 rw [List.getElem?_take]
 have e1:(cur.take off).length=off:=by simp;omega
 have e2:(cs.take off).length=off:=by simp;omega
 split
 .rename_i cM
  simp only [List.getElem?_append,List.length_append,e1,e2,List.getElem?_take,List.getElem?_drop]
  split
  .split
   .rename_i h3;exact hj j cM
   .rfl
  .rw [hj _ (by omega)]
 .rename_i UI
  symm
  apply List.getElem?_eq_none
  simp
  omega
def FC (B:SB) (s:Bool) (off:Nat) (vs:List SV):Option (List Prop × SB):=
 match B with
 | .own cs ty=>match s with
   | true=>match Nat.ble (off+vs.length) cs.length with
     | true=>some ([],.own (cs.take off++vs++cs.drop (off+vs.length)) ty)
     | false=>none
   | false=>match vs with
     | [.int _ k n]=>match dA k cs with
       | some ys=>some ([off<ys.length],.ints k (ys.set off n) ty)
       | none=>none
     | _=>none
 | .row sz cs ty=>match s with
   | true=>match Nat.ble (off+vs.length) cs.length with
     | true=>some ([],.row sz (cs.take off++vs++cs.drop (off+vs.length)) ty)
     | false=>none
   | false=>none
 | .ints k xs ty=>match vs with
   | [.int _ k2 n]=>match decide (k=k2) with
     | true=>some ([off<xs.length],.ints k (xs.set off n) ty)
     | false=>none
   | _=>match dA k vs with
     | some ns=>some ([off+ns.length<=xs.length],.ints k (xs.take off++ns++xs.drop (off+ns.length)) ty)
     | none=>none
 | .eK us ty=>match vs with
   | [.raw u]=>some ([off<us.length],.eK (us.set off u) ty)
   | _=>none
 | _=>none
theorem uV {α:Type} (l:List α) (i:Nat) (x:α) (h:i<l.length):l.set i x=l.take i++[x]++l.drop (i+1):=by
 rw [List.set_eq_take_append_cons_drop,if_pos h];simp
theorem Kl {V:aZ} {w w0:World} {M:Nat->Prop} {T:bA} {l:Nat} {B B':SB} {s:Bool} {off:Nat} {vs:List SV} {ob:List Prop} {b o:Nat} {P:Program} {xs:List Value} (lab:Nat) (rv:SV)
 (hT:aC w0 M V T w) (hl:T l=some B) (hβ:V.β l=some (b,o)) (h:FC B s off vs=some (ob,B')) (ho:∀ q∈ob,q) (hx:aG V vs=some xs) (h1:∀ x∈xs,x.oneCell'=true) :
 ∃ w',(storeCells ⟨b,o+off,none⟩ xs).run P w = .ok () w'/\aC w0 M V (eG T lab { bK:=ob,val:=rv,wr:=[(l,B')] }) w':=by
 have lQ:=hT.ok l B hl
 obtain ⟨cs,hc,h2⟩:=lQ
 cases B with
 | own cells ty=>
   obtain ⟨b',hb,hh⟩:=h2
   rw [hβ] at hb;cases hb
   simp only [FC] at h
   split at h
   .split at h
    .rename_i hle
     simp only [zzI,Prod.mk.injEq] at h
     obtain ⟨rfl,rfl⟩:=h
     have XI:=zzL hle
     have hlen:=bC (show aG V cells=some cs from hc)
     have Ho:=bC hx
     refine ⟨_,run_storeCells_at P b (0+off) ty xs 0 cs.toArray w hh (by simp;omega) h1,?_⟩
     have bZ:aG V (cells.take off++vs++cells.drop (off+vs.length))=some (cs.take off++xs++cs.drop (off+xs.length)):=by
      rw [Ho]
      exact cH (cH (eO off hc) hx) (jL _ hc)
     have:=hT.write (B0:=.own cells ty) (B:=.own (cells.take off++vs++cells.drop (off+vs.length)) ty) hl hβ rfl (by simp [SB.aN,hβ]) hh bZ (.inl rfl) lab rv []
     simpa using this
    .cases h
   .split at h
    case h_2=>cases h
    rename_i s2 k n
    split at h
    case h_2=>cases h
    rename_i ys rK
    simp only [zzI,Prod.mk.injEq] at h
    obtain ⟨rfl,rfl⟩:=h
    have cM:off<ys.length:=ho _ (by simp)
    have mK:=cX (V:=V) rK
    rw [show aG V cells=some cs from hc] at mK
    cases mK
    simp only [aG,den,zza,zzm,zzI] at hx
    subst hx
    refine ⟨_,run_storeCells_at P b (0+off) ty _ 0 _ w hh (by simp;omega) h1,?_⟩
    have bZ:SB.cells V (.ints k (ys.set off n) ty)=some ((ys.map (Value.int k)).take off++[Value.int k n]++(ys.map (Value.int k)).drop (off+1)):=by
     rw [uV ys off n cM]
     simp [SB.cells,List.map_take,List.map_drop]
    have:=hT.write (B0:=.own cells ty) (B:=.ints k (ys.set off n) ty) hl hβ rfl (by simp [SB.aN,hβ]) hh bZ (.inr (.inl rfl)) lab rv [off<ys.length]
    simpa using this
 | row sz cells ty=>
   obtain ⟨b',cap,cur,hb,hσ,hh,FV,mK,⟨n,hn,UF⟩,cT⟩:=h2
   rw [hβ] at hb;cases hb
   simp only [FC] at h
   split at h
   .split at h
    .rename_i hle
     simp only [zzI,Prod.mk.injEq] at h
     obtain ⟨rfl,rfl⟩:=h
     have XI:=zzL hle
     have hlen:=bC (show aG V cells=some cs from hc)
     have Ho:=bC hx
     have qS:cs.length<=cur.size:=by rw [hn,mK];exact Nat.mul_le_mul_right _ UF
     have bZ:aG V (cells.take off++vs++cells.drop (off+vs.length))=some (cs.take off++xs++cs.drop (off+xs.length)):=by
      rw [Ho]
      exact cH (cH (eO off hc) hx) (jL _ hc)
     have UH:(cs.take off++xs++cs.drop (off+xs.length)).length=cs.length:=by simp;omega
     refine ⟨_,run_storeCells_at P b (0+off) ty xs 0 cur w hh (by simp;omega) h1,?_⟩
     have Dt:=setRow_heap w b cur (cur.toList.take (0+off+0)++xs++cur.toList.drop (0+off+0+xs.length)).toArray ty (0,0) hh
     have bDa:okB V (w.setRow b (cur.toList.take (0+off+0)++xs++cur.toList.drop (0+off+0+xs.length)).toArray) l (.row sz (cells.take off++vs++cells.drop (off+vs.length)) ty):=by
      refine ⟨_,bZ,b,cap,_,hβ,hσ,Dt,FV,?_,⟨n,by rw [UH,hn],UF⟩,?_⟩
      .simp [<- mK];omega
      .rw [UH]
       simpa using Qn cur.toList cs xs off cT (by omega)
     exact hT.change (B0:=.row sz cells ty) (b:=b) hl rfl (by simp [SB.aN,hβ]) bDa (by simp [SB.aN,hβ]) (by simp) (fun n _ dG=>setRow_other w b n _ dG) rfl rfl rfl lab rv []
    .cases h
   .cases h
 | ints k ys ty=>
   obtain ⟨b',hb,hh⟩:=h2
   rw [hβ] at hb;cases hb
   simp only [SB.cells,zzI] at hc
   subst hc
   have gen:∀ ns:List Int,aG V vs=some (ns.map (Value.int k))->off+ns.length<=ys.length->∀ ob,
    ∃ w',(storeCells ⟨b,0+off,none⟩ xs).run P w = .ok () w'/\aC w0 M V (eG T lab { bK:=ob,val:=rv,wr:=[(l,.ints k (ys.take off++ns++ys.drop (off+ns.length)) ty)] }) w':=by
    intro ns hns hle ob
    rw [hx] at hns
    cases hns
    refine ⟨_,run_storeCells_at P b (0+off) ty _ 0 _ w hh (by simp;omega) h1,?_⟩
    have bZ:SB.cells V (.ints k (ys.take off++ns++ys.drop (off+ns.length)) ty)=some ((ys.map (Value.int k)).take off++ns.map (Value.int k)++(ys.map (Value.int k)).drop (off+(ns.map (Value.int k)).length)):=by
     simp [SB.cells,List.map_take,List.map_drop]
    have:=hT.write (B0:=.ints k ys ty) (B:=.ints k (ys.take off++ns++ys.drop (off+ns.length)) ty) hl hβ rfl (by simp [SB.aN,hβ]) hh bZ (.inr (.inl rfl)) lab rv ob
    simpa using this
   simp only [FC] at h
   split at h
   .rename_i s2 k2 n
    split at h
    .rename_i hd
     have:=zzD hd
     subst this
     simp only [zzI,Prod.mk.injEq] at h
     obtain ⟨rfl,rfl⟩:=h
     have cM:off<ys.length:=ho _ (by simp)
     obtain ⟨w',hr,oZ⟩:=gen [n] (by simp [aG,den]) (by simp only [List.length_singleton];omega) [off<ys.length]
     rw [uV ys off n cM]
     exact ⟨w',hr,oZ⟩
    .cases h
   .split at h
    .rename_i ns hns
     simp only [zzI,Prod.mk.injEq] at h
     obtain ⟨rfl,rfl⟩:=h
     have hle:off+ns.length<=ys.length:=ho _ (by simp)
     exact gen ns (cX hns) hle _
    .cases h
 | eK us ty=>
   obtain ⟨b',hb,hh⟩:=h2
   rw [hβ] at hb;cases hb
   simp only [SB.cells,zzI] at hc
   subst hc
   simp only [FC] at h
   split at h
   case h_2=>cases h
   rename_i u
   simp only [zzI,Prod.mk.injEq] at h
   obtain ⟨rfl,rfl⟩:=h
   have cM:off<us.length:=ho _ (by simp)
   simp only [aG,den,zza,zzm,zzI] at hx
   subst hx
   refine ⟨_,run_storeCells_at P b (0+off) ty _ 0 _ w hh (by simp;omega) h1,?_⟩
   have:=hT.write (B0:=.eK us ty) (B:=.eK (us.set off u) ty) hl hβ rfl (by simp [SB.aN,hβ]) hh (cs:=us.take off++[u]++us.drop (off+[u].length)) (by rw [SB.cells,uV us off u cM];rfl) (.inr (.inr rfl)) lab rv [off<us.length]
   simpa using this
 | _=>cases h
section Ju
variable {P:Program} {Γ:Env} {V:aZ} {w w0:World} {M:Nat->Prop} {T:bA} {g:Nat->Option SV} {a:Act} {o:Oper} {e:bL}
def JW (Γ:Env) (g:Nat->Option SV) (T:bA) (t:TypeId) (x:Operand):Option bL:=
 match ev Γ g x,Γ.ty t with
 | some (.ptr l s off),some ti=>match T l with
   | some B=>match Wo B s off ti.size with
     | some (ob,r)=>match tN ti.desc with
       | true=>some (dY (.agg r) ob)
       | false=>match r with
         | [v]=>some (dY v ob)
         | _=>none
     | none=>none
   | none=>none
 | some (.jQ l off),some ti=>match T l,tN ti.desc with
   | some (.cS k xs _),false=>some (dY (.int false k (xs.getD off 0)) [off<xs.length])
   | some (.gL k xs),false=>some (dY (.int false k (xs.getD off 0)) [off<xs.length])
   | _,_=>none
 | _,_=>none
theorem SJ (aR:cC P Γ) (ht:cG V g a) (hg:bO Γ V) {T':bA} (aK:∀ l B,T' l=some B->T l=some B) (hT:aC w0 M V T w) {t:TypeId} {x:Operand} (bY:o.op = .load t x)
 (he:JW Γ g T' t x=some e) (ho:∀ q∈e.bK,q) (lab:Nat):kR P w0 M V T lab e o a w:=by
 unfold JW at he
 split at he
 .rename_i l s off ti hx dX
  have ex:=bG ht hg hx
  simp only [den,zzM] at ex
  obtain ⟨⟨b,base⟩,hβ,ex⟩:=ex
  obtain ⟨hu,i,z,hi,gR,_⟩:=aR t ti dX
  split at he
  .rename_i B hB
   have lQ:=hT.ok l B (aK l B hB)
   split at he
   .rename_i ob r hr
    split at he
    .rename_i gX
     simp only [dY,zzI] at he
     subst he
     obtain ⟨xs,h1,h2,h3⟩:=qB lQ hβ hr ho
     have:=(dL hu hi b (base+off) xs (by rw [h2,gR]) h3).1 gX
     refine bD (x:=.agg xs.toArray) ?_ (by simp [den,h1]) rfl rfl hT
     unfold execOp
     simp only [bY,<- ex,Instr.loadAt,Instr.sureAddr,Sem.run_bind,Sem.run_pure,Result.andThen_ok,this]
    .rename_i gX
     split at he
     .rename_i v
      simp only [dY,zzI] at he
      subst he
      obtain ⟨xs,h1,h2,h3⟩:=qB lQ hβ hr ho
      simp only [aG,zzM,zzB] at h1
      obtain ⟨y,hy,ys,rK,rfl⟩:=h1
      simp only [zzI] at rK
      subst rK
      have:=(dL hu hi b (base+off) [y] (by rw [h2,gR]) h3).2 gX y rfl
      refine bD (x:=y) ?_ hy rfl rfl hT
      unfold execOp
      simp only [bY,<- ex,Instr.loadAt,Instr.sureAddr,Sem.run_bind,Sem.run_pure,Result.andThen_ok,this]
     .cases he
   .cases he
  .cases he
 .rename_i l off ti hx dX
  have ex:=bG ht hg hx
  obtain ⟨hu,i,z,hi,gR,_⟩:=aR t ti dX
  split at he
  .rename_i k xs ty hB gX
   simp only [dY,zzI] at he
   subst he
   have cM:off<xs.length:=ho _ (by simp)
   obtain ⟨cs,hc,v,hσ,bN⟩:=hT.ok l _ (aK l _ hB)
   simp only [SB.cells,zzI] at hc
   subst hc
   simp only [den,hσ] at ex
   obtain ⟨⟨_,bN⟩,_⟩:=bN
   rcases bN with ⟨_,h0⟩ | ⟨gb,cap,cur,rfl,_,hh,_,_,_,cT⟩
   .rw [h0] at cM;omega
   .simp only [zzI] at ex
    have fI:w.cell? ⟨gb,0+off,none⟩=some (.int k (xs.getD off 0)):=by
     rw [cell_of_row w gb _ _ _ _ hh]
     have h5:(cur.toList.take (xs.length*1))[off]?=some (.int k (xs.getD off 0)):=by
      rw [cT];simp [cM,zzG]
     rw [List.getElem?_take] at h5
     split at h5
     .simpa using h5
     .cases h5
    refine bD (x:=.int k (xs.getD off 0)) ?_ rfl rfl rfl hT
    unfold execOp
    rw [bH] at ex
    simp only [Nat.zero_add] at ex fI
    simp only [bY,<- ex,Instr.loadAt,Instr.sureAddr,loadVar,Sem.run_bind,Sem.run_pure,Result.andThen_ok,fA hu,gX,Bool.false_eq_true,if_false,run_load,fI]
  .rename_i k xs hB gX
   simp only [dY,zzI] at he
   subst he
   have cM:off<xs.length:=ho _ (by simp)
   obtain ⟨cs,hc,v,hσ,bN⟩:=hT.ok l _ (aK l _ hB)
   simp only [SB.cells,zzI] at hc
   subst hc
   simp only [den,hσ] at ex
   rcases bN with ⟨_,h0⟩ | ⟨gb,go,cap,rfl,_,_,hh⟩
   .rw [h0] at cM;simp at cM
   .simp only [zzI] at ex
    have fI:w.cell? ⟨gb,go+off,none⟩=some (.int k (xs.getD off 0)):=hh off _ (by simp [cM,zzG])
    refine bD (x:=.int k (xs.getD off 0)) ?_ rfl rfl rfl hT
    unfold execOp
    rw [bH] at ex
    simp only [bY,<- ex,Instr.loadAt,Instr.sureAddr,loadVar,Sem.run_bind,Sem.run_pure,Result.andThen_ok,fA hu,gX,Bool.false_eq_true,if_false,run_load,fI]
  .cases he
 .cases he
def YA (T:bA) (l:Nat):Bool:=match T l with
 | some (.cS ..)=>true
 | some (.fX ..)=>true
 | some (.eQ ..)=>true
 | _=>false
theorem Zw {T':bA} (aK:∀ l B,T' l=some B->T l=some B) {l:Nat} {x:Value} (hT:aC w0 M V T w) (h:YA T' l=true) (hx:den V (.buf l)=some x):x.oneCell'=true/\x.cells = #[x]:=by
 unfold YA at h
 split at h
 .rename_i hB
  obtain ⟨_,_,u,hσ,bN,_⟩:=hT.ok l _ (aK l _ hB)
  simp only [den] at hx
  rw [hσ] at hx;cases hx
  rcases bN.2 with ⟨rfl,_⟩ | ⟨_,_,_,rfl,_⟩ <;> exact ⟨rfl,rfl⟩
 .rename_i hB
  obtain ⟨_,_,lQ⟩:=hT.ok l _ (aK l _ hB)
  obtain ⟨cs,u,hσ,bN,_⟩:=lQ
  simp only [den] at hx
  rw [hσ] at hx;cases hx
  rcases bN.2 with ⟨rfl,_⟩ | ⟨_,_,_,rfl,_⟩ <;> exact ⟨rfl,rfl⟩
 .rename_i hB
  obtain ⟨_,_,u,hσ,bN⟩:=hT.ok l _ (aK l _ hB)
  simp only [den] at hx
  rw [hσ] at hx;cases hx
  rcases bN.2 with ⟨rfl,_⟩ | ⟨_,_,_,rfl,_⟩ <;> exact ⟨rfl,rfl⟩
 .cases h
def Dj (T:bA) (vs:List SV):Bool:=vs.all fun v=>match v with
 | .buf l=>YA T l
 | v=>WT v
theorem Eu {T':bA} (aK:∀ l B,T' l=some B->T l=some B) (hT:aC w0 M V T w):∀ {vs:List SV} {xs:List Value},Dj T' vs=true->aG V vs=some xs->∀ x∈xs,x.oneCell'=true
 | [],xs,_,h=>by simp only [aG,zzI] at h;subst h;simp
 | v::vs,xs,h1,h=>by
   simp only [aG,zzM,zzB] at h
   obtain ⟨x,hx,ys,hy,rfl⟩:=h
   simp only [Dj,List.all_cons,zzn] at h1
   intro z hz
   rcases List.mem_cons.1 hz with rfl | hz
   .have h1:=h1.1
    split at h1
    .exact (Zw aK hT h1 hx).1
    .exact Yv h1 hx
   .exact Eu aK hT (by simpa [Dj] using h1.2) hy z hz
theorem sM {T':bA} (aK:∀ l B,T' l=some B->T l=some B) (hT:aC w0 M V T w) {v:SV} {x:Value} (h1:Dj T' (cellsOf v)=true) (h:den V v=some x):aG V (cellsOf v)=some x.cells.toList:=by
 cases v with
 | agg vs=>
   simp only [den,zzM] at h
   obtain ⟨xs,hx,rfl⟩:=h
   simpa [cellsOf,Value.cells] using hx
 | _=>
   have jC:x.oneCell'=true:=Eu aK hT (vs:=[_]) (xs:=[x]) (by simpa [cellsOf] using h1) (by simp [aG,h]) x (by simp)
   rw [Qs x jC]
   simp [cellsOf,aG,h]
def Tw (Γ:Env) (g:Nat->Option SV) (T:bA) (t:TypeId) (x y:Operand):Option bL:=
 match ev Γ g x,ev Γ g y,Γ.ty t with
 | some (.ptr l s off),some v,some ti=>match T l,Nat.beq (cellsOf v).length ti.size,Dj T (cellsOf v) with
   | some B,true,true=>match FC B s off (cellsOf v) with
     | some (ob,B')=>some { bK:=ob,val:=.raw undef,wr:=[(l,B')] }
     | none=>none
   | _,_,_=>none
 | _,_,_=>none
theorem DO (aR:cC P Γ) (ht:cG V g a) (hg:bO Γ V) {T':bA} (aK:∀ l B,T' l=some B->T l=some B) (hT:aC w0 M V T w) {t:TypeId} {x y:Operand} (bY:o.op = .store t x y)
 (he:Tw Γ g T' t x y=some e) (ho:∀ q∈e.bK,q) (lab:Nat):kR P w0 M V T lab e o a w:=by
 unfold Tw at he
 split at he
 .rename_i l s off v ti hx hy dX
  have ex:=bG ht hg hx
  simp only [den,zzM] at ex
  obtain ⟨⟨b,base⟩,hβ,ex⟩:=ex
  have ey:=bG ht hg hy
  obtain ⟨hu,i,z,hi,gR,_⟩:=aR t ti dX
  split at he
  .rename_i B hB hlen jC
   split at he
   .rename_i ob B' hw
    simp only [zzI] at he
    subst he
    have bZ:=sM aK hT jC ey
    have aWt:=Eu aK hT jC bZ
    obtain ⟨w',h1,h2⟩:=Kl (P:=P) lab (.raw undef) hT (aK l B hB) hβ hw ho bZ aWt
    intro K Q hK
    have hl:(a.eval y).cells.size=i.size:=by
     have:=bC bZ
     rw [gR,<- zzN hlen,<- this];simp
    unfold Oper.wp
    have dS:(execOp a.eval o).run P w = .ok .skip w':=by
     unfold execOp
     simp [bY,<- ex,Instr.storeAt,Instr.sureAddr,storeVar,run_sizeOf hi,hl,h1]
    rw [dS,Oper.upon_skip]
    exact hK V undef w' (V.cP lab) rfl h2
   .cases he
  .cases he
 .cases he
theorem Yj (hT:aC w0 M V T w) {lab:Nat} (hf:V.fresh lab) {cells:List SV} {cs:List Value} {ty:TypeId} (hc:aG V cells=some cs)
 (hr:(execOp a.eval o).run P w = .ok (.value (.pointer (some ⟨w.heap.size,0,none⟩))) (w.alloc (.cells cs.toArray ty))) :
 kR P w0 M V T lab { val:=.ptr lab true 0,new:=[.own cells ty] } o a w:=by
 intro K Q hK
 unfold Oper.wp
 rw [hr,Oper.upon_value]
 have:=hT.alloc hf (B:=.own cells ty) (.inl rfl) hc (.ptr lab true 0) []
 exact hK _ _ _ (aZ.kG hf lab (zzr _) (by omega) _) (by simp [den,aZ.put]) this
def Uk (Γ:Env) (t:TypeId) (lab:Nat):Option bL:=
 match Γ.ty t with
 | some ti=>some { val:=.ptr lab true 0,new:=[.own ti.zero t] }
 | none=>none
theorem EC (aR:cC P Γ) (hT:aC w0 M V T w) {t:TypeId} (bY:o.op = .alloc t) {lab:Nat} (hf:V.fresh lab) (he:Uk Γ t lab=some e):kR P w0 M V T lab e o a w:=by
 unfold Uk at he
 split at he
 .rename_i ti dX
  simp only [zzI] at he
  subst he
  obtain ⟨hu,i,z,hi,gR,_,hz,hzero⟩:=aR t ti dX
  refine Yj hT hf (hzero V) ?_
  unfold execOp
  simp [bY,Instr.alloc,eJ hi hz,newVar,newRow]
 .cases he
def aJv (Γ:Env) (g:Nat->Option SV) (T:bA) (t:TypeId) (x:Operand) (lab:Nat):Option bL:=
 match ev Γ g x with
 | some v=>match Dj T (cellsOf v) with
   | true=>some { val:=.ptr lab true 0,new:=[.own (cellsOf v) t] }
   | false=>none
 | none=>none
theorem aFk (ht:cG V g a) (hg:bO Γ V) {T':bA} (aK:∀ l B,T' l=some B->T l=some B) (hT:aC w0 M V T w) {t:TypeId} {x:Operand} (bY:o.op = .box t x) {lab:Nat} (hf:V.fresh lab) (he:aJv Γ g T' t x lab=some e):kR P w0 M V T lab e o a w:=by
 unfold aJv at he
 split at he
 .rename_i v hx
  split at he
  .rename_i jC
   simp only [zzI] at he
   subst he
   have ex:=bG ht hg hx
   refine Yj hT hf (sM aK hT jC ex) ?_
   unfold execOp
   simp [bY,Instr.box,newVar,newRow]
  .cases he
 .cases he
end Ju
section Ju
variable {P:Program} {Γ:Env} {V:aZ} {w w0:World} {M:Nat->Prop} {T:bA} {g:Nat->Option SV} {a:Act} {o:Oper} {e:bL}
def Xp (Γ:Env) (g:Nat->Option SV) (x:Operand):Option bL:=(ev Γ g x).bind lit
theorem Qb (ht:cG V g a) (hg:bO Γ V) (hT:aC w0 M V T w) {x:Operand} (bY:o.op = .move x\/o.op = .assign x) (he:Xp Γ g x=some e) (lab:Nat):kR P w0 M V T lab e o a w:=by
 simp only [Xp,zzB,lit,zzI] at he
 obtain ⟨v,hv,rfl⟩:=he
 refine bD (x:=a.eval x) ?_ (bG ht hg hv) rfl rfl hT
 unfold execOp
 rcases bY with h | h <;> simp only [h] <;> rfl
def JV (Γ:Env) (g:Nat->Option SV) (c x y:Operand):Option bL:=
 match ev Γ g c with
 | some (.bool true b)=>match b with
   | true=>(ev Γ g x).bind lit
   | false=>(ev Γ g y).bind lit
 | _=>none
theorem SI (ht:cG V g a) (hg:bO Γ V) (hT:aC w0 M V T w) {c x y:Operand} (bY:o.op = .pick c x y) (he:JV Γ g c x y=some e) (lab:Nat):kR P w0 M V T lab e o a w:=by
 unfold JV at he
 split at he
 .rename_i b hc
  have ec:=bG ht hg hc
  simp only [den,zzI] at ec
  split at he
  .simp only [zzB,lit,zzI] at he
   obtain ⟨v,hv,rfl⟩:=he
   refine bD (x:=a.eval x) ?_ (bG ht hg hv) rfl rfl hT
   unfold execOp
   simp only [bY,<- ec]
   rfl
  .simp only [zzB,lit,zzI] at he
   obtain ⟨v,hv,rfl⟩:=he
   refine bD (x:=a.eval y) ?_ (bG ht hg hv) rfl rfl hT
   unfold execOp
   simp only [bY,<- ec]
   rfl
 .cases he
def aJs (Γ:Env) (g:Nat->Option SV) (x:Operand):Option bL:=
 match ev Γ g x with
 | some (.ptr l s off)=>lit (.ptr l s off)
 | some (.jQ l off)=>lit (.jQ l off)
 | some (.rG t v)=>lit (.rG t v)
 | some (.fn (.func f) xs cs)=>lit (.fn (.func f) xs cs)
 | _=>none
theorem aFg (ht:cG V g a) (hg:bO Γ V) (hT:aC w0 M V T w) {x:Operand} (bY:o.op = .nilCheck x) (he:aJs Γ g x=some e) (lab:Nat):kR P w0 M V T lab e o a w:=by
 unfold aJs at he
 split at he <;> first | (cases he;done) | skip
 all_goals
  rename_i hx
  simp only [lit,zzI] at he
  subst he
  have ex:=bG ht hg hx
  refine bD (x:=a.eval x) ?_ ex rfl rfl hT
  simp only [den,zzM,zzB] at ex
 .obtain ⟨p,_,ex⟩:=ex;unfold execOp;simp only [bY,<- ex];rfl
 .split at ex
  .simp only [zzI] at ex;unfold execOp;simp only [bY,<- ex];rfl
  .cases ex
 .obtain ⟨p,_,ex⟩:=ex;unfold execOp;simp only [bY,<- ex];rfl
 .obtain ⟨p,_,q,_,ex⟩:=ex;unfold execOp;simp only [bY,<- ex];rfl
def Fc (Γ:Env) (g:Nat->Option SV) (x:Operand) (i:Nat):Option bL:=
 match ev Γ g x with
 | some (.eP vs)=>(vs[i]?).bind lit
 | _=>none
theorem Qu (ht:cG V g a) (hg:bO Γ V) (hT:aC w0 M V T w) {x:Operand} {i:Nat} (bY:o.op = .extract x i) (he:Fc Γ g x i=some e) (lab:Nat):kR P w0 M V T lab e o a w:=by
 unfold Fc at he
 split at he
 .rename_i vs hx
  simp only [zzB,lit,zzI] at he
  obtain ⟨v,hv,rfl⟩:=he
  have ex:=bG ht hg hx
  simp only [den,zzM] at ex
  obtain ⟨xs,mJ,ex⟩:=ex
  obtain ⟨y,hy,hd⟩:=dZ mJ i v hv
  refine bD (x:=y) ?_ hd rfl rfl hT
  unfold execOp
  simp [bY,<- ex,Instr.extract,hy]
 .cases he
def zE (Γ:Env) (g:Nat->Option SV) (f:Fn) (xs cs:Array Operand):Option bL:=
 match VP Γ g xs.toList,VP Γ g cs.toList with
 | some us,some vs=>lit (.fn f us vs)
 | _,_=>none
theorem Mk (ht:cG V g a) (hg:bO Γ V) (hT:aC w0 M V T w) {f:Fn} {xs cs:Array Operand} (bY:o.op = .makeFunc f xs cs) (he:zE Γ g f xs cs=some e) (lab:Nat):kR P w0 M V T lab e o a w:=by
 unfold zE at he
 split at he
 .rename_i us vs h1 h2
  simp only [lit,zzI] at he
  subst he
  refine bD (x:=.func f (xs.map a.eval) (cs.map a.eval)) ?_ ?_ rfl rfl hT
  .unfold execOp;simp only [bY];rfl
  .simp only [den,Kr ht hg h1,Kr ht hg h2,zza,zzm]
   congr 2 <;> (rw [<- Array.toList_inj];simp)
 .cases he
def aXw:TypeDesc->Bool
 | .interface _=>false
 | _=>true
def vB (Γ:Env) (g:Nat->Option SV) (t:TypeId) (x:Operand):Option bL:=
 match ev Γ g x,Γ.ty t with
 | some v,some ti=>match aXw ti.desc with
   | true=>lit (.rG t v)
   | false=>none
 | _,_=>none
theorem Hi (aR:cC P Γ) (ht:cG V g a) (hg:bO Γ V) (hT:aC w0 M V T w) {t:TypeId} {x:Operand} (bY:o.op = .makeInterface t x) (he:vB Γ g t x=some e) (lab:Nat):kR P w0 M V T lab e o a w:=by
 unfold vB at he
 split at he
 .rename_i v ti hv dX
  split at he
  .rename_i hc
   simp only [lit,zzI] at he
   subst he
   refine bD (x:=.iface t (a.eval x)) ?_ (by simp [den,bG ht hg hv]) rfl rfl hT
   unfold execOp
   simp only [bY,Instr.makeInterface,Sem.run_bind,run_underlying (aR t ti dX).1 w,Result.andThen_ok]
   cases hd:ti.desc <;> first | rfl | (rw [hd] at hc;cases hc)
  .cases he
 .cases he
def Ud (Γ:Env) (g:Nat->Option SV) (t:TypeId) (x:Operand) (n:Nat):Option bL:=
 match ev Γ g x,Γ.ty t with
 | some (.ptr l s off),some ti=>match ti.desc with
   | .struct fs=>match fs.toList[n]? with
     | some f=>match Γ.ty f.type with
       | some tf=>match Nat.beq tf.size 0 with
         | true=>none
         | false=>lit (.ptr l s (off+f.offset))
       | none=>none
     | none=>none
   | _=>none
 | _,_=>none
theorem DV (aR:cC P Γ) (ht:cG V g a) (hg:bO Γ V) (hT:aC w0 M V T w) {t:TypeId} {x:Operand} {n:Nat} (bY:o.op = .fieldAddr t x n) (he:Ud Γ g t x n=some e) (lab:Nat):kR P w0 M V T lab e o a w:=by
 unfold Ud at he
 split at he
 .rename_i l s off ti hx dX
  split at he
  .rename_i fs hfs
   split at he
   .rename_i f hf
    split at he
    .rename_i tf htf
     split at he
     .cases he
     .rename_i gR
      simp only [lit,zzI] at he
      subst he
      have ex:=bG ht hg hx
      simp only [den,zzM] at ex
      obtain ⟨⟨b,base⟩,hβ,ex⟩:=ex
      obtain ⟨_,i,z,hi,cF,_⟩:=aR f.type tf htf
      have dG:¬ i.size=0:=by
       rw [cF];intro h0;rw [h0] at gR;cases gR
      refine bD (x:=.pointer (some ⟨b,base+(off+f.offset),none⟩)) ?_ (by simp [den,hβ]) rfl rfl hT
      have hu:=(aR t ti dX).1
      rw [hfs] at hu
      have hf':fs[n]?=some f:=by rw [<- Array.getElem?_toList];exact hf
      unfold execOp
      simp only [bY,<- ex,Instr.fieldAt,Sem.run_bind,run_underlying hu w,Result.andThen_ok,hf',Instr.sureAddr,Sem.run_pure,fieldPlace,run_sizeOf hi,if_neg dG,bH,Nat.add_assoc]
    .cases he
   .cases he
  .cases he
 .cases he
def vC (Γ:Env) (g:Nat->Option SV) (t:TypeId) (x y:Operand):Option bL:=
 match ev Γ g x,ev Γ g y,Γ.ty t with
 | some (.ptr l s off),some (.int sk _ k),some ti=>match ti.desc with
   | .array len el=>match Γ.ty el with
     | some te=>match tM sk (0<=k/\k<len) with
       | some ob=>some (dY (.ptr l (s&&sk) (off+k.toNat*te.size)) ob)
       | none=>none
     | none=>none
   | _=>none
 | some (.aJ l s off len _),some (.int sk _ k),some ti=>match ti.desc with
   | .slice el=>match Γ.ty el with
     | some te=>match tM (s&&sk) (0<=k/\k<len) with
       | some ob=>some (dY (.ptr l (s&&sk) (off+k.toNat*te.size)) ob)
       | none=>none
     | none=>none
   | _=>none
 | some (.cQ l off len _),some (.int sk _ k),some ti=>match ti.desc with
   | .slice el=>match Γ.ty el with
     | some te=>match tM sk (0<=k/\k<len) with
       | some ob=>some (dY (.ptr l sk (off+k.toNat*te.size)) ob)
       | none=>none
     | none=>none
   | _=>none
 | some (.Wn _ n _ sz j le),some (.int _ _ k),some ti=>match ti.desc with
   | .slice el=>match Γ.ty el with
     | some te=>match Nat.beq te.size sz with
       | true=>some (dY (.ptr le true 0) [0<=k/\k<n/\k.toNat=j])
       | false=>none
     | none=>none
   | _=>none
 | some (.eH l n),some (.int _ _ k),some ti=>match ti.desc with
   | .slice el=>match Γ.ty el with
     | some te=>match Nat.beq te.size 1 with
       | true=>some (dY (.jQ l k.toNat) [0<=k/\k<n])
       | false=>none
     | none=>none
   | _=>none
 | _,_,_=>none
theorem Hj (aR:cC P Γ) (ht:cG V g a) (hg:bO Γ V) (hT:aC w0 M V T w) {t:TypeId} {x y:Operand} (bY:o.op = .indexAddr t x y) (he:vC Γ g t x y=some e) (ho:∀ q∈e.bK,q) (lab:Nat):kR P w0 M V T lab e o a w:=by
 unfold vC at he
 split at he
 .rename_i l s off sk kk k ti hx hy dX
  split at he
  .rename_i len el hd
   split at he
   .rename_i te eE
    split at he
    .rename_i ob uA
     simp only [dY,zzI] at he
     subst he
     have hb:=iG uA ho
     have ex:=bG ht hg hx
     have ey:=bG ht hg hy
     simp only [den,zzM,zzI] at ex ey
     obtain ⟨⟨b,base⟩,hβ,ex⟩:=ex
     obtain ⟨_,i,z,hi,cF,_⟩:=aR el te eE
     have hu:=(aR t ti dX).1
     rw [hd] at hu
     refine bD (x:=.pointer (some ⟨b,base+(off+k.toNat*te.size),none⟩)) ?_ (by simp [den,hβ]) rfl rfl hT
     unfold execOp
     simp only [bY,<- ex,<- ey,Instr.indexAt,asIntOf,Sem.run_bind,Sem.run_pure,run_underlying hu w,Result.andThen_ok,Instr.sureAddr,if_pos hb,run_sizeOf hi,cF,bH,Nat.add_assoc]
    .cases he
   .cases he
  .cases he
 .rename_i l s off len cap sk kk k ti hx hy dX
  split at he
  .rename_i el hd
   split at he
   .rename_i te eE
    split at he
    .rename_i ob uA
     simp only [dY,zzI] at he
     subst he
     have hb:=iG uA ho
     have ex:=bG ht hg hx
     have ey:=bG ht hg hy
     simp only [den,zzM,zzI] at ex ey
     obtain ⟨⟨b,base⟩,hβ,ex⟩:=ex
     obtain ⟨_,i,z,hi,cF,_⟩:=aR el te eE
     have hu:=(aR t ti dX).1
     rw [hd] at hu
     refine bD (x:=.pointer (some ⟨b,base+(off+k.toNat*te.size),none⟩)) ?_ (by simp [den,hβ]) rfl rfl hT
     unfold execOp
     simp only [bY,<- ex,<- ey,Instr.indexAt,asIntOf,Sem.run_bind,Sem.run_pure,run_underlying hu w,Result.andThen_ok,if_pos hb,run_sizeOf hi,cF,bH,Nat.add_assoc]
    .cases he
   .cases he
  .cases he
 .rename_i l off len lo sk kk k ti hx hy dX
  split at he
  .rename_i el hd
   split at he
   .rename_i te eE
    split at he
    .rename_i ob uA
     simp only [dY,zzI] at he
     subst he
     have hb:=iG uA ho
     have ex:=bG ht hg hx
     have ey:=bG ht hg hy
     simp only [den,zzM,zzB,zzI] at ex ey
     obtain ⟨⟨b,base⟩,hβ,c,_,ex⟩:=ex
     obtain ⟨_,i,z,hi,cF,_⟩:=aR el te eE
     have hu:=(aR t ti dX).1
     rw [hd] at hu
     refine bD (x:=.pointer (some ⟨b,base+(off+k.toNat*te.size),none⟩)) ?_ (by simp [den,hβ]) rfl rfl hT
     unfold execOp
     simp only [bY,<- ex,<- ey,Instr.indexAt,asIntOf,Sem.run_bind,Sem.run_pure,run_underlying hu w,Result.andThen_ok,if_pos hb,run_sizeOf hi,cF,bH,Nat.add_assoc]
    .cases he
   .cases he
  .cases he
 .rename_i l n bHq sz j le kk0 kk k ti hx hy dX
  split at he
  .rename_i el hd
   split at he
   .rename_i te eE
    split at he
    .rename_i fU
     have fU:=zzN fU
     simp only [dY,zzI] at he
     subst he
     obtain ⟨rH,lR,UL⟩:0<=k/\k<n/\k.toNat=j:=ho _ (by simp)
     have ex:=bG ht hg hx
     have ey:=bG ht hg hy
     simp only [den,zzB,zzI] at ex ey
     obtain ⟨⟨b,base⟩,hβ,q,hq,ex⟩:=ex
     split at ex
     case h_2=>cases ex
     rename_i hdq
     have hdq:=zzD hdq
     simp only [zzI] at ex
     subst hdq
     obtain ⟨_,i,z,hi,cF,_⟩:=aR el te eE
     have hu:=(aR t ti dX).1
     rw [hd] at hu
     refine bD (x:=.pointer (some ⟨b,base+(k.toNat*te.size),none⟩)) ?_ (by simp [den,hq,UL,fU]) rfl rfl hT
     unfold execOp
     simp only [bY,<- ex,<- ey,Instr.indexAt,asIntOf,Sem.run_bind,Sem.run_pure,run_underlying hu w,Result.andThen_ok,if_pos (show 0<=k/\k<(n:Int) from ⟨rH,lR⟩),run_sizeOf hi,cF,bH]
    .cases he
   .cases he
  .cases he
 .rename_i l n kk0 kk k ti hx hy dX
  split at he
  .rename_i el hd
   split at he
   .rename_i te eE
    split at he
    .rename_i fU
     have fU:=zzN fU
     simp only [dY,zzI] at he
     subst he
     have hb:0<=k/\k<n:=ho _ (by simp)
     have ex:=bG ht hg hx
     have ey:=bG ht hg hy
     simp only [den,zzB,zzI] at ex ey
     obtain ⟨v,hσ,ex⟩:=ex
     obtain ⟨EZ,hv⟩:=dB ex
     rcases hv with ⟨_,h0⟩ | ⟨b,base,c,rfl,_⟩
     .omega
     obtain ⟨_,i,z,hi,cF,_⟩:=aR el te eE
     have hu:=(aR t ti dX).1
     rw [hd] at hu
     refine bD (x:=.pointer (some ⟨b,base+k.toNat*te.size,none⟩)) ?_ (by simp [den,hσ,bH,fU]) rfl rfl hT
     unfold execOp
     simp only [bY,EZ,<- ey,Instr.indexAt,asIntOf,Sem.run_bind,Sem.run_pure,run_underlying hu w,Result.andThen_ok,if_pos hb,run_sizeOf hi,cF,bH]
    .cases he
   .cases he
  .cases he
 .cases he
def Md (Γ:Env) (g:Nat->Option SV) (t:TypeId) (x:Operand) (n:Nat):Option bL:=
 match ev Γ g x,Γ.ty t with
 | some (.agg cs),some ti=>match ti.desc with
   | .struct fs=>match fs.toList[n]? with
     | some f=>match Γ.ty f.type with
       | some tf=>match tN tf.desc with
         | true=>lit (.agg ((cs.drop f.offset).take tf.size))
         | false=>(cs[f.offset]?).bind lit
       | none=>none
     | none=>none
   | _=>none
 | _,_=>none
theorem xR {α:Type} (l:List α) (i j:Nat):l.toArray.extract i (i+j)=((l.drop i).take j).toArray:=by
 apply Array.ext'
 simp [List.extract_eq_take_drop]
theorem Wc (aR:cC P Γ) (ht:cG V g a) (hg:bO Γ V) (hT:aC w0 M V T w) {t:TypeId} {x:Operand} {n:Nat} (bY:o.op = .field t x n) (he:Md Γ g t x n=some e) (lab:Nat):kR P w0 M V T lab e o a w:=by
 unfold Md at he
 split at he
 .rename_i cs ti hx dX
  split at he
  .rename_i fs hfs
   split at he
   .rename_i f hf
    split at he
    .rename_i tf htf
     have ex:=bG ht hg hx
     simp only [den,zzM] at ex
     obtain ⟨xs,mJ,ex⟩:=ex
     obtain ⟨huf,i,z,hi,cF,_⟩:=aR f.type tf htf
     have hu:=(aR t ti dX).1
     rw [hfs] at hu
     have hf':fs[n]?=some f:=by rw [<- Array.getElem?_toList];exact hf
     split at he
     .rename_i gX
      simp only [lit,zzI] at he
      subst he
      refine bD (x:=.agg ((xs.drop f.offset).take tf.size).toArray) ?_ (by simp [den,eO _ (jL _ mJ)]) rfl rfl hT
      unfold execOp
      simp only [bY,<- ex,Instr.field,Sem.run_bind,run_underlying hu w,Result.andThen_ok,hf',asAgg,Sem.run_pure,part,fA huf,gX,if_true,run_sizeOf hi,cF,xR]
     .rename_i gX
      simp only [zzB,lit,zzI] at he
      obtain ⟨v,hv,rfl⟩:=he
      obtain ⟨y,hy,hdy⟩:=dZ mJ _ v hv
      refine bD (x:=y) ?_ hdy rfl rfl hT
      have hy':xs.toArray[f.offset]?=some y:=by simpa using hy
      unfold execOp
      simp only [bY,<- ex,Instr.field,Sem.run_bind,run_underlying hu w,Result.andThen_ok,hf',asAgg,Sem.run_pure,part,fA huf,gX,Bool.false_eq_true,if_false,hy']
    .cases he
   .cases he
  .cases he
 .cases he
def Ly (Γ:Env) (g:Nat->Option SV) (t:TypeId) (x y:Operand):Option bL:=
 match ev Γ g x,ev Γ g y,Γ.ty t with
 | some (.agg cs),some (.int true _ k),some ti=>match ti.desc with
   | .array len el=>match Γ.ty el with
     | some te=>match decide (0<=k/\k<len),tN te.desc with
       | true,true=>lit (.agg ((cs.drop (k.toNat*te.size)).take te.size))
       | true,false=>(cs[k.toNat*te.size]?).bind lit
       | _,_=>none
     | none=>none
   | _=>none
 | some (.raw (.string s)),some (.int true _ k),some ti=>match ti.desc,decide (0<=k),s[k.toNat]? with
   | .string,true,some b=>lit (.int true .u8 b.toNat)
   | _,_,_=>none
 | _,_,_=>none
theorem Vx (aR:cC P Γ) (ht:cG V g a) (hg:bO Γ V) (hT:aC w0 M V T w) {t:TypeId} {x y:Operand} (bY:o.op = .index t x y) (he:Ly Γ g t x y=some e) (lab:Nat):kR P w0 M V T lab e o a w:=by
 unfold Ly at he
 split at he
 .rename_i cs kk k ti hx hy dX
  split at he
  .rename_i len el hd
   split at he
   .rename_i te eE
    have ex:=bG ht hg hx
    have ey:=bG ht hg hy
    simp only [den,zzM,zzI] at ex ey
    obtain ⟨xs,mJ,ex⟩:=ex
    obtain ⟨Gi,i,z,hi,cF,_⟩:=aR el te eE
    have hu:=(aR t ti dX).1
    rw [hd] at hu
    split at he
    .rename_i hb gX
     have iO:=zzD hb
     simp only [lit,zzI] at he
     subst he
     refine bD (x:=.agg ((xs.drop (k.toNat*te.size)).take te.size).toArray) ?_ (by simp [den,eO _ (jL _ mJ)]) rfl rfl hT
     unfold execOp
     simp only [bY,<- ex,<- ey,Instr.index,asIntOf,Sem.run_bind,Sem.run_pure,run_underlying hu w,Result.andThen_ok,if_pos iO,part,fA Gi,gX,if_true,run_sizeOf hi,cF,xR]
    .rename_i hb gX
     have iO:=zzD hb
     simp only [zzB,lit,zzI] at he
     obtain ⟨v,hv,rfl⟩:=he
     obtain ⟨u,hu',hdu⟩:=dZ mJ _ v hv
     refine bD (x:=u) ?_ hdu rfl rfl hT
     have hy':xs.toArray[k.toNat*te.size]?=some u:=by simpa using hu'
     unfold execOp
     simp only [bY,<- ex,<- ey,Instr.index,asIntOf,Sem.run_bind,Sem.run_pure,run_underlying hu w,Result.andThen_ok,if_pos iO,part,fA Gi,gX,Bool.false_eq_true,if_false,run_sizeOf hi,cF,hy']
    .cases he
   .cases he
  .cases he
 .rename_i s kk k ti hx hy dX
  split at he
  .rename_i b hd hk hb
   have iA:=zzD hk
   have ex:=bG ht hg hx
   have ey:=bG ht hg hy
   simp only [den,zzI] at ex ey
   have hu:=(aR t ti dX).1
   rw [hd] at hu
   simp only [lit,zzI] at he
   subst he
   refine bD (x:=.int .u8 b.toNat) ?_ rfl rfl rfl hT
   unfold execOp
   simp only [bY,<- ex,<- ey,Instr.index,asIntOf,Sem.run_bind,Sem.run_pure,run_underlying hu w,Result.andThen_ok,if_pos iA,hb]
  .cases he
 .cases he
def aJt (Γ:Env) (T:bA) (d:TypeDesc) (v:SV):Option bL:=
 match d,v with
 | .slice _,.aJ _ s _ len _=>lit (.int s .i64 len)
 | .slice _,.raw (.slice _ n _)=>lit (.int true .i64 n)
 | .slice _,.cQ _ _ len _=>lit (.int true .i64 len)
 | .slice _,.buf l=>match T l with
   | some (.cS _ xs _)=>lit (.int false .i64 xs.length)
   | some (.fX _ n _)=>lit (.int false .i64 n)
   | some (.eQ xs _)=>lit (.int false .i64 xs.length)
   | some (.rI xs)=>lit (.int false .i64 xs.length)
   | _=>none
 | .slice _,.nH _ lo hi=>lit (.int false .i64 ((hi-lo:Nat):Int))
 | .slice _,.eH _ n=>lit (.int false .i64 n)
 | .slice _,.tZ _ n=>lit (.int false .i64 n)
 | .slice _,.xZ _ _ n=>lit (.int false .i64 n)
 | .slice _,.Wn _ n _ _ _ _=>lit (.int false .i64 n)
 | .array n _,_=>lit (.int true .i64 n)
 | .pointer el,_=>match Γ.ty el with
   | some te=>match te.desc with
     | .array n _=>lit (.int true .i64 n)
     | _=>none
   | none=>none
 | .string,.raw (.string s)=>lit (.int true .i64 s.size)
 | _,_=>none
theorem Ad {ty:TypeId} {sz n:Nat} {v:Value} {cs:List Value} (h:w.ownsRow 0 ty sz v n cs):∃ b c,v = .slice b n c:=by
 rcases h.2 with ⟨rfl,rfl⟩ | ⟨gb,cap,cur,rfl,_⟩
 .exact ⟨_,_,rfl⟩
 .exact ⟨_,_,rfl⟩
theorem aFh (aR:cC P Γ) {T':bA} (aK:∀ l B,T' l=some B->T l=some B) (hT:aC w0 M V T w) {Gl:Array TypeId} {t ty:TypeId} {d:TypeDesc} {v:SV} {x:Value} (yC:Gl[0]?=some t) (hu:P.underlying t=some d)
 (hv:den V v=some x) (he:aJt Γ T' d v=some e):∃ y,(Builtin.len_ Gl ty #[x]).run P w = .ok y w/\den V e.val=some y/\e.new=[]/\e.wr=[]:=by
 unfold aJt at he
 split at he
 .simp only [lit,zzI] at he
  subst he
  simp only [den,zzM] at hv
  obtain ⟨p,_,rfl⟩:=hv
  exact ⟨_,by simp [Builtin.len_,yC,run_underlying hu w];rfl,rfl,rfl,rfl⟩
 .simp only [lit,zzI] at he
  subst he
  simp only [den,zzI] at hv
  subst hv
  exact ⟨_,by simp [Builtin.len_,yC,run_underlying hu w];rfl,rfl,rfl,rfl⟩
 .simp only [lit,zzI] at he
  subst he
  simp only [den,zzM,zzB] at hv
  obtain ⟨p,_,c,_,rfl⟩:=hv
  exact ⟨_,by simp [Builtin.len_,yC,run_underlying hu w];rfl,rfl,rfl,rfl⟩
 .split at he
  .rename_i l _ k xs ty hB
   simp only [lit,zzI] at he
   subst he
   obtain ⟨cs,hc,u,hσ,bN⟩:=hT.ok l _ (aK l _ hB)
   simp only [den,hσ,zzI] at hv
   subst hv
   obtain ⟨b,c,rfl⟩:=Ad bN.1
   exact ⟨_,by simp [Builtin.len_,yC,run_underlying hu w];rfl,rfl,rfl,rfl⟩
  .rename_i l _ sz n ty hB
   simp only [lit,zzI] at he
   subst he
   obtain ⟨cs,hc,u,us,hσ,bN,_⟩:=hT.ok l _ (aK l _ hB)
   simp only [den,hσ,zzI] at hv
   subst hv
   rcases bN.2 with ⟨rfl,rfl⟩ | ⟨g,cap,cur,rfl,_⟩
   .exact ⟨_,by simp [Builtin.len_,yC,run_underlying hu w];rfl,rfl,rfl,rfl⟩
   .exact ⟨_,by simp [Builtin.len_,yC,run_underlying hu w];rfl,rfl,rfl,rfl⟩
  .rename_i l _ xs ty hB
   simp only [lit,zzI] at he
   subst he
   obtain ⟨cs,hc,u,hσ,bN⟩:=hT.ok l _ (aK l _ hB)
   simp only [den,hσ,zzI] at hv
   subst hv
   obtain ⟨b,c,rfl⟩:=Ad bN
   exact ⟨_,by simp [Builtin.len_,yC,run_underlying hu w];rfl,rfl,rfl,rfl⟩
  .rename_i l _ xs hB
   simp only [lit,zzI] at he
   subst he
   obtain ⟨cs,hc,u,hσ,bN⟩:=hT.ok l _ (aK l _ hB)
   simp only [den,hσ,zzI] at hv
   subst hv
   rcases bN with ⟨⟨ad,rfl⟩,rfl⟩ | ⟨b,o,c,rfl,_⟩
   .exact ⟨_,by simp [Builtin.len_,yC,run_underlying hu w];rfl,rfl,rfl,rfl⟩
   .exact ⟨_,by simp [Builtin.len_,yC,run_underlying hu w];rfl,rfl,rfl,rfl⟩
  .cases he
 .simp only [lit,zzI] at he
  subst he
  simp only [den] at hv
  split at hv
  .cases hv
   exact ⟨_,by simp [Builtin.len_,yC,run_underlying hu w];rfl,rfl,rfl,rfl⟩
  .cases hv
 .simp only [lit,zzI] at he
  subst he
  simp only [den,zzB] at hv
  obtain ⟨v,_,hv⟩:=hv
  obtain ⟨rfl,⟨⟨_,rfl⟩,rfl⟩ | ⟨b,o,c,rfl,_⟩⟩:=dB hv
  .exact ⟨_,by simp [Builtin.len_,yC,run_underlying hu w];rfl,rfl,rfl,rfl⟩
  .exact ⟨_,by simp [Builtin.len_,yC,run_underlying hu w];rfl,rfl,rfl,rfl⟩
 .simp only [lit,zzI] at he
  subst he
  simp only [den,zzB] at hv
  obtain ⟨v,_,hv⟩:=hv
  unfold Ao at hv
  split at hv
  case h_2=>cases hv
  simp only [zzB] at hv
  obtain ⟨u,_,hv⟩:=hv
  obtain ⟨rfl,⟨⟨_,rfl⟩,rfl⟩ | ⟨b,o,c,rfl,_⟩⟩:=dB hv
  .exact ⟨_,by simp [Builtin.len_,yC,run_underlying hu w];rfl,rfl,rfl,rfl⟩
  .exact ⟨_,by simp [Builtin.len_,yC,run_underlying hu w];rfl,rfl,rfl,rfl⟩
 .simp only [lit,zzI] at he
  subst he
  simp only [den,zzB] at hv
  obtain ⟨v,_,hv⟩:=hv
  unfold My at hv
  split at hv
  case h_2=>cases hv
  simp only [zzB] at hv
  obtain ⟨u,_,hv⟩:=hv
  obtain ⟨rfl,⟨⟨_,rfl⟩,rfl⟩ | ⟨b,o,c,rfl,_⟩⟩:=dB hv
  .exact ⟨_,by simp [Builtin.len_,yC,run_underlying hu w];rfl,rfl,rfl,rfl⟩
  .exact ⟨_,by simp [Builtin.len_,yC,run_underlying hu w];rfl,rfl,rfl,rfl⟩
 .simp only [lit,zzI] at he
  subst he
  simp only [den,zzB] at hv
  obtain ⟨p,_,q,_,hv⟩:=hv
  split at hv
  case h_2=>cases hv
  cases hv
  exact ⟨_,by simp [Builtin.len_,yC,run_underlying hu w];rfl,rfl,rfl,rfl⟩
 .simp only [lit,zzI] at he
  subst he
  exact ⟨_,by simp [Builtin.len_,yC,run_underlying hu w];rfl,rfl,rfl,rfl⟩
 .split at he
  .rename_i el _ te eE
   split at he
   .rename_i n el' hd
    simp only [lit,zzI] at he
    subst he
    have VE:=(aR el te eE).1
    rw [hd] at VE
    exact ⟨_,by simp [Builtin.len_,yC,run_underlying hu w,run_underlying VE w];rfl,rfl,rfl,rfl⟩
   .cases he
  .cases he
 .simp only [lit,zzI] at he
  subst he
  simp only [den,zzI] at hv
  subst hv
  exact ⟨_,by simp [Builtin.len_,yC,run_underlying hu w];rfl,rfl,rfl,rfl⟩
 .cases he
def aJu (v:SV):Option bL:=
 match v with
 | .aJ _ s _ _ cap=>lit (.int s .i64 cap)
 | .raw (.slice _ _ n)=>lit (.int true .i64 n)
 | _=>none
theorem aFj {Gl:Array TypeId} {t ty el:TypeId} {v:SV} {x:Value} (yC:Gl[0]?=some t) (hu:P.underlying t=some (.slice el)) (hv:den V v=some x) (he:aJu v=some e) :
 ∃ y,(Builtin.cap_ Gl ty #[x]).run P w = .ok y w/\den V e.val=some y/\e.new=[]/\e.wr=[]:=by
 unfold aJu at he
 split at he
 .simp only [lit,zzI] at he
  subst he
  simp only [den,zzM] at hv
  obtain ⟨p,_,rfl⟩:=hv
  exact ⟨_,by simp [Builtin.cap_,yC,run_underlying hu w];rfl,rfl,rfl,rfl⟩
 .simp only [lit,zzI] at he
  subst he
  simp only [den,zzI] at hv
  subst hv
  exact ⟨_,by simp [Builtin.cap_,yC,run_underlying hu w];rfl,rfl,rfl,rfl⟩
 .cases he
end Ju
section Ju
variable {P:Program} {Γ:Env} {V:aZ} {w w0:World} {M:Nat->Prop} {T:bA} {g:Nat->Option SV} {a:Act} {o:Oper} {e:bL}
def yE (Γ:Env) (g:Nat->Option SV) (x:Option Operand) (s:Bool) (bFb:Nat):Option (Bool × Int):=
 match x with
 | none=>some (s,bFb)
 | some x=>match ev Γ g x with
   | some (.int s _ k)=>some (s,k)
   | _=>none
def Aq (lo:Option Operand) (m l:Int) (off size:Nat):Nat:=match lo with
 | none=>off
 | some _=>if m=l then off else off+l.toNat*size
def Tx (Γ:Env) (g:Nat->Option SV) (T:bA) (t:TypeId) (x:Operand) (lo hi mx:Option Operand):Option bL:=
 match ev Γ g x,Γ.ty t with
 | some (.ptr l s off),some ti=>match ti.desc with
   | .array n el=>match Γ.ty el,yE Γ g mx true n,yE Γ g hi true n,yE Γ g lo true 0 with
     | some te,some (sm,m),some (sh,h),some (sl,k)=>match mx.isSome&&hi.isNone with
       | true=>none
       | false=>(tM (s&&sm&&sh&&sl) (0<=m/\m<=n/\0<=h/\h<=m/\0<=k/\k<=h)).map
         (dY (.aJ l (s&&sm&&sh&&sl) (Aq lo m k off te.size) (h.toNat-k.toNat) (m.toNat-k.toNat)))
     | _,_,_,_=>none
   | _=>none
 | some (.aJ l s off len cap),some ti=>match ti.desc with
   | .slice el=>match Γ.ty el,yE Γ g mx s cap,yE Γ g hi s len,yE Γ g lo true 0 with
     | some te,some (sm,m),some (sh,h),some (sl,k)=>match mx.isSome&&hi.isNone with
       | true=>none
       | false=>(tM (s&&sm&&sh&&sl) (0<=m/\m<=cap/\0<=h/\h<=m/\0<=k/\k<=h)).map
         (dY (.aJ l (s&&sm&&sh&&sl) (Aq lo m k off te.size) (h.toNat-k.toNat) (m.toNat-k.toNat)))
     | _,_,_,_=>none
   | _=>none
 | some (.raw (.slice none 0 0)),some ti=>match ti.desc with
   | .slice el=>match Γ.ty el,yE Γ g mx true 0,yE Γ g hi true 0,yE Γ g lo true 0 with
     | some _,some (sm,m),some (sh,h),some (sl,k)=>match mx.isSome&&hi.isNone with
       | true=>none
       | false=>(tM (sm&&sh&&sl) (0<=m/\m<=(0:Nat)/\0<=h/\h<=m/\0<=k/\k<=h)).map (dY (.raw (.slice none 0 0)))
     | _,_,_,_=>none
   | _=>none
 | some (.cQ l off len l0),some ti=>match ti.desc with
   | .slice el=>match Γ.ty el,T l,yE Γ g hi true len,yE Γ g lo true 0 with
     | some te,some (.row sz cells _),some (true,h),some (true,k)=>match Nat.beq te.size sz&&Nat.blt 0 sz&&Nat.beq off (l0*sz)&&Nat.ble (off+len*sz) cells.length,mx with
       | true,none=>match decide (0<=k/\k<=h/\(h<=len\/off+h.toNat*sz<=cells.length)/\(k<len\/k=0)) with
         | true=>some { val:=.cQ l (off+k.toNat*sz) (h.toNat-k.toNat) (l0+k.toNat) }
         | false=>none
       | true,some y=>match yE Γ g (some y) true 0,hi.isSome with
         | some (true,m),true=>match decide (0<=k/\k<=h/\h<=m/\m<=len) with
           | true=>some { val:=.aJ l true (Aq lo m k off sz) (h.toNat-k.toNat) (m.toNat-k.toNat) }
           | false=>none
         | _,_=>none
       | _,_=>none
     | _,_,_,_=>none
   | _=>none
 | some (.buf l),some ti=>match ti.desc,mx with
   | .slice el,none=>match Γ.ty el,T l with
     | some te,some (.cS _ xs _)=>match yE Γ g hi false xs.length,yE Γ g lo true 0,Nat.beq te.size 1 with
       | some (_,h),some (_,k),true=>some (dY (.nH l k.toNat h.toNat) [0<=k/\k<=h/\h<=xs.length])
       | _,_,_=>none
     | _,_=>none
   | _,_=>none
 | _,_=>none
theorem cU (k:IntKind) (i:Int) (y:Nat) (code:BoundsCode) (h:0<=i/\i<=y):(Instr.sliceBound (.int k i) y code).run P w = .ok i.toNat w:=by
 simp [Instr.sliceBound,asIntOf,h]
theorem eM (ht:cG V g a) (hg:bO Γ V) {x:Option Operand} {s sb:Bool} {d:Nat} {n:Int} (h:yE Γ g x s d=some (sb,n)) :
 (x=none/\n=d)\/∃ y k,x=some y/\a.eval y = .int k n:=by
 unfold yE at h
 split at h
 .simp only [zzI,Prod.mk.injEq] at h;exact .inl ⟨rfl,h.2.symm⟩
 .rename_i y
  split at h
  .rename_i s' k n' hy
   simp only [zzI,Prod.mk.injEq] at h
   obtain ⟨rfl,rfl⟩:=h
   have:=bG ht hg hy
   simp only [den,zzI] at this
   exact .inr ⟨y,k,rfl,this.symm⟩
  .cases h
theorem Qr (isS:Bool) (len cap:Nat) {lo hi mx:Option Value} {m h k:Int}
 (hm:(mx=none/\m=cap)\/∃ kk,mx=some (.int kk m)) (hh:(hi=none/\h=len)\/∃ kk,hi=some (.int kk h))
 (hl:(lo=none/\k=(0:Nat))\/∃ kk,lo=some (.int kk k)) (hx:(mx.isSome&&hi.isNone)=false) (hb:0<=m/\m<=cap/\0<=h/\h<=m/\0<=k/\k<=h) :
 (Instr.sliceBounds isS len cap lo hi mx).run P w = .ok (k.toNat,h.toNat,m.toNat) w:=by
 obtain ⟨h1,h2,h3,h4,h5,h6⟩:=hb
 rcases hm with ⟨rfl,rfl⟩ | ⟨km,rfl⟩ <;> rcases hh with ⟨rfl,rfl⟩ | ⟨kh,rfl⟩ <;> rcases hl with ⟨rfl,rfl⟩ | ⟨kl,rfl⟩
 .simp [Instr.sliceBounds]
 .simp only [Instr.sliceBounds,Sem.run_bind,Sem.run_pure,Result.andThen_ok]
  rw [cU _ _ _ _ (by omega)];simp
 .simp only [Instr.sliceBounds,Sem.run_bind,Sem.run_pure,Result.andThen_ok]
  rw [cU _ _ _ _ (by omega)];simp
 .simp only [Instr.sliceBounds,Sem.run_bind,Sem.run_pure,Result.andThen_ok]
  rw [cU _ _ _ _ (by omega)]
  simp only [Result.andThen_ok]
  rw [cU _ _ _ _ (by omega)];simp
 .simp at hx
 .simp at hx
 .simp only [Instr.sliceBounds,Sem.run_bind,Sem.run_pure,Result.andThen_ok]
  rw [cU _ _ _ _ (by omega)]
  simp only [Result.andThen_ok]
  rw [cU _ _ _ _ (by omega)];simp
 .simp only [Instr.sliceBounds,Sem.run_bind,Sem.run_pure]
  rw [cU _ _ _ _ (by omega)]
  simp only [Result.andThen_ok]
  rw [cU _ _ _ _ (by omega)]
  simp only [Result.andThen_ok]
  rw [cU _ _ _ _ (by omega)];simp
theorem eA (isS:Bool) (len cap:Nat) {lo hi mx:Option Operand} {m h k:Int}
 (hm:(mx=none/\m=cap)\/∃ y kk,mx=some y/\a.eval y = .int kk m) (hh:(hi=none/\h=len)\/∃ y kk,hi=some y/\a.eval y = .int kk h)
 (hl:(lo=none/\k=(0:Nat))\/∃ y kk,lo=some y/\a.eval y = .int kk k) (hx:(mx.isSome&&hi.isNone)=false) (hb:0<=m/\m<=cap/\0<=h/\h<=m/\0<=k/\k<=h) :
 (Instr.sliceBounds isS len cap (lo.map a.eval) (hi.map a.eval) (mx.map a.eval)).run P w = .ok (k.toNat,h.toNat,m.toNat) w:=by
 refine Qr isS len cap ?_ ?_ ?_ (by simpa using hx) hb
 .rcases hm with ⟨rfl,e⟩ | ⟨y,kk,rfl,e⟩
  .exact .inl ⟨rfl,e⟩
  .exact .inr ⟨kk,by rw [zzm,e]⟩
 .rcases hh with ⟨rfl,e⟩ | ⟨y,kk,rfl,e⟩
  .exact .inl ⟨rfl,e⟩
  .exact .inr ⟨kk,by rw [zzm,e]⟩
 .rcases hl with ⟨rfl,e⟩ | ⟨y,kk,rfl,e⟩
  .exact .inl ⟨rfl,e⟩
  .exact .inr ⟨kk,by rw [zzm,e]⟩
theorem DP (aR:cC P Γ) (ht:cG V g a) (hg:bO Γ V) {T':bA} (aK:∀ l B,T' l=some B->T l=some B) (hT:aC w0 M V T w) {t:TypeId} {x:Operand} {lo hi mx:Option Operand} (bY:o.op = .slice t x lo hi mx)
 (he:Tx Γ g T' t x lo hi mx=some e) (ho:∀ q∈e.bK,q) (lab:Nat):kR P w0 M V T lab e o a w:=by
 unfold Tx at he
 split at he
 .rename_i l s off ti hx dX
  split at he
  .rename_i n el hd
   split at he
   .rename_i te sm m sh h sl k eE hm hh hl
    split at he
    .cases he
    .rename_i hxx
     simp only [zzM] at he
     obtain ⟨ob,uA,rfl⟩:=he
     have hb:=iG uA ho
     have ex:=bG ht hg hx
     simp only [den,zzM] at ex
     obtain ⟨⟨b,base⟩,hβ,ex⟩:=ex
     have hu:=(aR t ti dX).1
     rw [hd] at hu
     obtain ⟨_,i,z,fW,cF,_⟩:=aR el te eE
     have hr:=eA (P:=P) (w:=w) (a:=a) false n n (eM ht hg hm) (eM ht hg hh) (eM ht hg hl) hxx hb
     refine bD (x:=.slice (some ⟨b,base+Aq lo m k off te.size,none⟩) (h.toNat-k.toNat) (m.toNat-k.toNat)) ?_ (by simp [dY,den,hβ]) rfl rfl hT
     have vM:(if m.toNat=k.toNat then (⟨b,base+off,none⟩:Addr) else (⟨b,base+off,none⟩:Addr).add (k.toNat*i.size))=⟨b,base+Aq lo m k off te.size,none⟩:=by
      unfold Aq
      cases lo with
      | none=>
        simp only [yE,zzI,Prod.mk.injEq] at hl
        obtain ⟨_,rfl⟩:=hl
        split
        .rfl
        .rw [bH];simp
      | some y=>
        have e1:(m.toNat=k.toNat)<->m=k:=by omega
        by_cases Ch:m=k
        .simp only [if_pos (e1.2 Ch),if_pos Ch]
        .simp only [if_neg (fun q=>Ch (e1.1 q)),if_neg Ch];rw [bH,cF,Nat.add_assoc]
     unfold execOp
     simp only [bY,<- ex,Instr.sliceAt,Sem.run_bind,run_underlying hu w,Result.andThen_ok,Instr.sureAddr,Sem.run_pure,hr,run_sizeOf fW,vM]
   .cases he
  .cases he
 .rename_i l s off len cap ti hx dX
  split at he
  .rename_i el hd
   split at he
   .rename_i te sm m sh h sl k eE hm hh hl
    split at he
    .cases he
    .rename_i hxx
     simp only [zzM] at he
     obtain ⟨ob,uA,rfl⟩:=he
     have hb:=iG uA ho
     have ex:=bG ht hg hx
     simp only [den,zzM] at ex
     obtain ⟨⟨b,base⟩,hβ,ex⟩:=ex
     have hu:=(aR t ti dX).1
     rw [hd] at hu
     obtain ⟨_,i,z,fW,cF,_⟩:=aR el te eE
     have hr:=eA (P:=P) (w:=w) (a:=a) true len cap (eM ht hg hm) (eM ht hg hh) (eM ht hg hl) hxx hb
     refine bD (x:=.slice (some ⟨b,base+Aq lo m k off te.size,none⟩) (h.toNat-k.toNat) (m.toNat-k.toNat)) ?_ (by simp [dY,den,hβ]) rfl rfl hT
     have vM:(if m.toNat=k.toNat then some (⟨b,base+off,none⟩:Addr) else (some (⟨b,base+off,none⟩:Addr)).map (·.add (k.toNat*i.size)))=some ⟨b,base+Aq lo m k off te.size,none⟩:=by
      unfold Aq
      cases lo with
      | none=>
        simp only [yE,zzI,Prod.mk.injEq] at hl
        obtain ⟨_,rfl⟩:=hl
        split
        .rfl
        .rw [zzm,bH];simp
      | some y=>
        have e1:(m.toNat=k.toNat)<->m=k:=by omega
        by_cases Ch:m=k
        .simp only [if_pos (e1.2 Ch),if_pos Ch]
        .simp only [if_neg (fun q=>Ch (e1.1 q)),if_neg Ch];rw [zzm,bH,cF,Nat.add_assoc]
     unfold execOp
     simp only [bY,<- ex,Instr.sliceAt,Instr.slice,Sem.run_bind,run_underlying hu w,Result.andThen_ok,Sem.run_pure,hr,run_sizeOf fW,vM]
   .cases he
  .cases he
 .rename_i ti hx dX
  split at he
  .rename_i el hd
   split at he
   .rename_i te sm m sh h sl k eE hm hh hl
    split at he
    .cases he
    .rename_i hxx
     simp only [zzM] at he
     obtain ⟨ob,uA,rfl⟩:=he
     have hb:=iG uA ho
     have ex:=bG ht hg hx
     simp only [den,zzI] at ex
     have hu:=(aR t ti dX).1
     rw [hd] at hu
     obtain ⟨_,i,z,fW,cF,_⟩:=aR el te eE
     have hr:=eA (P:=P) (w:=w) (a:=a) true 0 0 (eM ht hg hm) (eM ht hg hh) (eM ht hg hl) hxx hb
     have e0:m.toNat=0/\h.toNat=0/\k.toNat=0:=by omega
     refine bD (x:=.slice none 0 0) ?_ rfl rfl rfl hT
     unfold execOp
     simp only [bY,<- ex,Instr.sliceAt,Instr.slice,Sem.run_bind,run_underlying hu w,Result.andThen_ok,Sem.run_pure,hr,run_sizeOf fW,e0.1,e0.2.1,e0.2.2,if_true,Nat.sub_self]
   .cases he
  .cases he
 .rename_i l off len l0 ti hx dX
  split at he
  .rename_i el hd
   split at he
   .rename_i te sz cells ty0 h k eE hB hh hl
    have ex:=bG ht hg hx
    simp only [den,zzM,zzB] at ex
    obtain ⟨⟨b,base⟩,hβ,c,rC,ex⟩:=ex
    obtain ⟨cs,mK,b',cap,cur,hβ',hσ,_,_,_,⟨n,hn,UF⟩,_⟩:=hT.ok l _ (aK l _ hB)
    rw [hβ] at hβ'
    cases hβ'
    rw [hσ] at rC
    simp only [oD,zzI,zzt] at rC
    subst rC
    have hu:=(aR t ti dX).1
    rw [hd] at hu
    obtain ⟨_,i,z,fW,cF,_⟩:=aR el te eE
    have qS:=bC (show aG V cells=some cs from mK)
    have aHs:(Nat.beq te.size sz&&Nat.blt 0 sz&&Nat.beq off (l0*sz)&&Nat.ble (off+len*sz) cells.length)=true->te.size=sz/\0<sz/\off=l0*sz/\l0+len<=cap:=by
     intro hq
     simp only [zzn] at hq
     obtain ⟨⟨⟨q1,q2⟩,q3⟩,q4⟩:=hq
     have q1:=zzN q1
     have q2:0<sz:=by simpa [Nat.blt_eq] using q2
     have q3:=zzN q3
     have q4:=zzL q4
     refine ⟨q1,q2,q3,Nat.le_trans ?_ UF⟩
     rw [<- qS,hn,q3,<- Nat.add_mul] at q4
     exact Nat.le_of_mul_le_mul_right q4 q2
    split at he
    .rename_i hq
     obtain ⟨q1,q2,q3,q4⟩:=aHs hq
     split at he
     .rename_i GU
      have uC:=zzD GU
      have hb:0<=k/\k<=h/\h<=((cap-l0:Nat):Int)/\(k<len\/k=0):=by
       refine ⟨uC.1,uC.2.1,?_,uC.2.2.2⟩
       rcases uC.2.2.1 with h1 | h1
       .omega
       .have h2:l0+h.toNat<=cap:=by
         refine Nat.le_trans ?_ UF
         rw [<- qS,hn,q3,<- Nat.add_mul] at h1
         exact Nat.le_of_mul_le_mul_right h1 q2
        omega
      simp only [zzI] at he
      subst he
      have hr:=eA (P:=P) (w:=w) (a:=a) true len (cap-l0) (lo:=lo) (hi:=hi) (mx:=none) (m:=((cap-l0:Nat):Int)) (.inl ⟨rfl,rfl⟩) (eM ht hg hh) (eM ht hg hl) rfl (by omega)
      simp only [zzt] at hr
      have vM:(if cap-l0=k.toNat then some (⟨b,0+off,none⟩:Addr) else (some (⟨b,0+off,none⟩:Addr)).map (·.add (k.toNat*sz)))=some ⟨b,0+(off+k.toNat*sz),none⟩:=by
       by_cases hk:k.toNat=0
       .rw [hk];split
        .simp
        .rw [zzm,bH];simp
       .rw [if_neg (by omega),zzm,bH,Nat.add_assoc]
      refine bD (x:=.slice (some ⟨b,0+(off+k.toNat*sz),none⟩) (h.toNat-k.toNat) (cap-(l0+k.toNat))) ?_ (by simp [den,hβ,hσ,oD]) rfl rfl hT
      unfold execOp
      simp only [bY,<- ex,Instr.sliceAt,Instr.slice,Sem.run_bind,run_underlying hu w,Result.andThen_ok,Sem.run_pure,hr,run_sizeOf fW,cF,q1,vM]
      rw [Nat.sub_add_eq]
     .cases he
    .rename_i y hq
     obtain ⟨q1,q2,q3,q4⟩:=aHs hq
     split at he
     .rename_i m hm his
      split at he
      .rename_i GU
       have hb:=zzD GU
       simp only [zzI] at he
       subst he
       have kL:(some y=none/\m=((cap-l0:Nat):Int))\/∃ y' kk,some y=some y'/\a.eval y' = .int kk m:=by
        rcases eM ht hg hm with ⟨h1,_⟩ | h1
        .cases h1
        .exact .inr h1
       have hr:=eA (P:=P) (w:=w) (a:=a) true len (cap-l0) (lo:=lo) (hi:=hi) (mx:=some y) (m:=m) kL (eM ht hg hh) (eM ht hg hl) (by simpa using his) (by omega)
       have vM:(if m.toNat=k.toNat then some (⟨b,0+off,none⟩:Addr) else (some (⟨b,0+off,none⟩:Addr)).map (·.add (k.toNat*sz)))=some ⟨b,0+Aq lo m k off sz,none⟩:=by
        unfold Aq
        cases lo with
        | none=>
          simp only [yE,zzI,Prod.mk.injEq] at hl
          obtain ⟨_,rfl⟩:=hl
          split
          .rfl
          .rw [zzm,bH];simp
        | some y=>
          have e1:(m.toNat=k.toNat)<->m=k:=by omega
          by_cases Ch:m=k
          .simp only [if_pos (e1.2 Ch),if_pos Ch]
          .simp only [if_neg (fun q=>Ch (e1.1 q)),if_neg Ch];rw [zzm,bH,Nat.add_assoc]
       refine bD (x:=.slice (some ⟨b,0+Aq lo m k off sz,none⟩) (h.toNat-k.toNat) (m.toNat-k.toNat)) ?_ (by simp [den,hβ]) rfl rfl hT
       unfold execOp
       simp only [bY,<- ex,Instr.sliceAt,Instr.slice,Sem.run_bind,run_underlying hu w,Result.andThen_ok,Sem.run_pure,hr,run_sizeOf fW,cF,q1,vM]
      .cases he
     .cases he
    .cases he
   .cases he
  .cases he
 .rename_i l ti hx dX
  split at he
  .rename_i el hd
   split at he
   .rename_i te k0 xs ty0 eE hB
    split at he
    .rename_i sh h sl k hh hl gR
     simp only [dY,zzI] at he
     subst he
     have hb:0<=k/\k<=h/\h<=xs.length:=ho _ (by simp)
     have ex:=bG ht hg hx
     obtain ⟨cs,hc,u,hσ,bN⟩:=hT.ok l _ (aK l _ hB)
     simp only [den,hσ,zzI] at ex
     have hu:=(aR t ti dX).1
     rw [hd] at hu
     obtain ⟨_,i,z,fW,cF,_⟩:=aR el te eE
     have aJc:i.size=1:=by rw [cF];exact zzN gR
     obtain ⟨A,cap,hA,rC⟩:∃ A cap,u = .slice A xs.length cap/\xs.length<=cap:=by
      rcases bN.1.2 with ⟨rfl,h0⟩ | ⟨gb,cap,cur,rfl,_,_,hle,_⟩
      .exact ⟨none,0,by rw [h0],by omega⟩
      .exact ⟨_,cap,rfl,hle⟩
     subst hA
     have hr:=eA (P:=P) (w:=w) (a:=a) true xs.length cap (lo:=lo) (hi:=hi) (mx:=none) (m:=cap) (.inl ⟨rfl,rfl⟩) (eM ht hg hh) (eM ht hg hl) rfl (by omega)
     simp only [Option.map_none,zzt] at hr
     refine bD (x:=.slice (if cap=k.toNat then A else A.map (·.add k.toNat)) (h.toNat-k.toNat) (cap-k.toNat)) ?_ (by simp [den,hσ]) rfl rfl hT
     unfold execOp
     simp only [bY,<- ex,Instr.sliceAt,Instr.slice,Sem.run_bind,run_underlying hu w,Result.andThen_ok,Sem.run_pure,hr,run_sizeOf fW,aJc,Nat.mul_one,Option.map_none]
    .cases he
   .cases he
  .cases he
 .cases he
def Lt (Γ:Env) (g:Nat->Option SV) (T:bA) (t:TypeId) (x:Operand) (lo hi mx:Option Operand) (lab:Nat):Option bL:=
 match ev Γ g x,Γ.ty t,mx with
 | some (.eH l n),some ti,none=>match ti.desc with
   | .slice el=>match Γ.ty el,T l,yE Γ g hi false n,yE Γ g lo true 0 with
     | some te,some (.gL k xs),some (_,h),some (_,j)=>match Nat.beq te.size 1 with
       | true=>some { bK:=[0<=j/\j<=h/\h<=n],val:=.eH lab (h.toNat-j.toNat),new:=[.gL k ((xs.drop j.toNat).take (h.toNat-j.toNat))] }
       | false=>none
     | _,_,_,_=>none
   | _=>none
 | _,_,_=>none
theorem Vq (aR:cC P Γ) (ht:cG V g a) (hg:bO Γ V) {T':bA} (aK:∀ l B,T' l=some B->T l=some B) (hT:aC w0 M V T w) {t:TypeId} {x:Operand} {lo hi mx:Option Operand} (bY:o.op = .slice t x lo hi mx) {lab:Nat} (hf:V.fresh lab)
 (he:Lt Γ g T' t x lo hi mx lab=some e) (ho:∀ q∈e.bK,q):kR P w0 M V T lab e o a w:=by
 unfold Lt at he
 split at he
 case h_2=>cases he
 rename_i l n ti hx dX
 split at he
 case h_2=>cases he
 rename_i el hd
 split at he
 case h_2=>cases he
 rename_i te k xs sh h sj j eE hB hh hj
 split at he
 case h_2=>cases he
 rename_i fU
 have fU:=zzN fU
 simp only [zzI] at he
 subst he
 have hb:0<=j/\j<=h/\h<=n:=ho _ (by simp)
 have ex:=bG ht hg hx
 simp only [den,zzB] at ex
 obtain ⟨v,hσ,ex⟩:=ex
 obtain ⟨EZ,hv⟩:=dB ex
 obtain ⟨cs,hc,v',fY,bN⟩:=hT.ok l _ (aK l _ hB)
 rw [hσ] at fY
 cases fY
 simp only [SB.cells,zzI] at hc
 subst hc
 have hu:=(aR t ti dX).1
 rw [hd] at hu
 obtain ⟨_,i,z,fW,cF,_⟩:=aR el te eE
 obtain ⟨y,iL,Hn,hy3,hy4⟩:∃ y:Value,(execOp a.eval o).run P w = .ok (.value y) w/\iP (h.toNat-j.toNat) y=some y/\(∀ m,eV y=some m->eV v=some m) /\
  ((Nv y/\(xs.drop j.toNat).take (h.toNat-j.toNat)=[])\/∃ b o c,y = .slice (some ⟨b,o,none⟩) ((xs.drop j.toNat).take (h.toNat-j.toNat)).length c/\b<w.heap.size/\((xs.drop j.toNat).take (h.toNat-j.toNat)).length<=c/\∀ (i:Nat) (u:Value),(((xs.drop j.toNat).take (h.toNat-j.toNat)).map (Value.int k))[i]?=some u->w.cell? ⟨b,o+i,none⟩=some u):=by
  rcases bN with ⟨⟨ad,rfl⟩,rfl⟩ | ⟨b,base,c,rfl,cM,hle,fI⟩
  .have hn:n=0:=by
    rcases hv with ⟨_,h0⟩ | ⟨_,_,_,h0,_⟩
    .exact h0
    .injection h0 with _ h0 _;exact h0.symm
   subst hn
   have hr:=eA (P:=P) (w:=w) (a:=a) true 0 0 (mx:=none) (m:=((0:Nat):Int)) (.inl ⟨rfl,rfl⟩) (eM ht hg hh) (eM ht hg hj) rfl (by omega)
   have e0:h.toNat=0/\j.toNat=0:=by omega
   refine ⟨.slice ad 0 0,?_,by cases ad <;> simp [iP,e0.1,e0.2],fun m hm=>hm,.inl ⟨⟨_,rfl⟩,by simp⟩⟩
   unfold execOp
   simp only [bY,EZ,Option.map_none,Instr.sliceAt,Instr.slice,Sem.run_bind,run_underlying hu w,Result.andThen_ok,Sem.run_pure,run_sizeOf fW] at hr |-
   simp only [hr,Result.andThen_ok,e0.1,e0.2,if_true,Nat.sub_self,zzt]
  .have hn:n=xs.length:=by
    rcases hv with ⟨⟨_,h0⟩,h1⟩ | ⟨_,_,_,h0,_⟩
    .injection h0 with _ h0 _;omega
    .injection h0 with _ h0 _;exact h0.symm
   subst hn
   have hr:=eA (P:=P) (w:=w) (a:=a) true xs.length c (lo:=lo) (hi:=hi) (mx:=none) (m:=(c:Int)) (h:=h) (k:=j) (.inl ⟨rfl,rfl⟩) (eM ht hg hh) (eM ht hg hj) rfl ⟨by omega,by omega,by omega,by omega,by omega,by omega⟩
   have hlen:((xs.drop j.toNat).take (h.toNat-j.toNat)).length=h.toNat-j.toNat:=by simp;omega
   refine ⟨.slice (if c=j.toNat then some ⟨b,base,none⟩ else some ⟨b,base+j.toNat,none⟩) (h.toNat-j.toNat) (c-j.toNat),?_,?_,?_,.inr ?_⟩
   .have vM:(if c=j.toNat then some (⟨b,base,none⟩:Addr) else (some (⟨b,base,none⟩:Addr)).map (·.add (j.toNat*te.size)))=(if c=j.toNat then some ⟨b,base,none⟩ else some ⟨b,base+j.toNat,none⟩):=by
     split
     .rfl
     .rw [zzm,bH,fU,Nat.mul_one]
    unfold execOp
    simp only [bY,EZ,Option.map_none,Instr.sliceAt,Instr.slice,Sem.run_bind,run_underlying hu w,Result.andThen_ok,Sem.run_pure,run_sizeOf fW] at hr |-
    simp only [hr,Result.andThen_ok,cF,zzt,vM]
   .by_cases Re:c=j.toNat
    .rw [if_pos Re];unfold iP;exact if_pos ⟨rfl,by omega,.inr rfl⟩
    .rw [if_neg Re];unfold iP;exact if_pos ⟨rfl,by omega,.inr rfl⟩
   .intro m hm
    by_cases Re:c=j.toNat
    .rw [Re,Nat.sub_self] at hm;cases hm
    .rw [if_neg Re] at hm
     obtain ⟨m',rfl⟩:∃ m,c=m+1:=⟨c-1,by omega⟩
     exact eC hm
   .by_cases Re:c=j.toNat
    .refine ⟨b,base,c-j.toNat,by rw [hlen,if_pos Re],cM,by omega,fun i u hi=>?_⟩
     have:h.toNat-j.toNat=0:=by omega
     rw [this] at hi
     simp at hi
    .refine ⟨b,base+j.toNat,c-j.toNat,by rw [hlen,if_neg Re],cM,by omega,fun i u hi=>?_⟩
     rw [Nat.add_assoc]
     apply fI
     simp only [List.map_take,List.map_drop,List.getElem?_take] at hi
     split at hi
     .rwa [List.getElem?_drop] at hi
     .cases hi
 intro K Q hK
 unfold Oper.wp
 rw [iL,Oper.upon_value]
 refine hK (V.aX lab y) y w (aZ.bX hf lab (zzr _) (by omega) y) ?_ ?_
 .simp [den,aZ.aX,Hn]
 .refine hT.step (N:=fun m=>if m=lab then some (.gL k ((xs.drop j.toNat).take (h.toNat-j.toNat))) else none) (aZ.bX hf lab (zzr _) (by omega) y).1 (fun m C hm=>?_) (fun m C hm=>?_) (fun m C q hm hq=>?_) (fun m C m' C' q dG hm kL uB _=>?_) (zzr _) (fun _ _ _=>rfl) rfl rfl rfl
  .unfold eG bL.eI at hm
   simp only [fT,zzv,look] at hm
   by_cases e:m=lab
   .subst e
    left
    simpa using hm
   .right
    refine ⟨if_neg e,?_⟩
    have:Nat.beq lab m=false:=by
     cases lR:Nat.beq lab m with
     | false=>rfl
     | true=>exact absurd (zzN lR).symm e
    simpa [this] using hm
  .split at hm
   .rename_i e
    subst e
    cases hm
    exact ⟨_,rfl,y,by simp [aZ.aX],hy4⟩
   .cases hm
  .split at hm
   .rename_i e
    subst e
    cases hm
    refine .inr (.inr ⟨rfl,fun l2 B2 UG tQ uB lR=>?_⟩)
    simp only [SB.aN,aZ.aX,if_pos,zza] at hq
    have hq':=hy3 q hq
    have dG:l2≠l:=fun e=>by subst e;rw [aK _ _ hB] at tQ;cases tQ;cases uB
    exact hT.jX l2 B2 l _ q dG tQ (aK _ _ hB) uB lR (by simp [SB.aN,hσ,hq'])
   .cases hm
  .split at hm
   .cases hm;cases uB
   .cases hm
def Lu (Γ:Env) (g:Nat->Option SV) (T:bA) (t:TypeId) (x:Operand) (lo hi mx:Option Operand) (lab:Nat):Option bL:=
 match ev Γ g x,Γ.ty t,lo,hi,mx with
 | some (.jQ l off),some ti,none,none,none=>match ti.desc with
   | .array n el=>match Γ.ty el,T l,Nat.beq off 0 with
     | some te,some (.gL k xs),true=>match Nat.beq te.size 1,Nat.blt 0 n with
       | true,true=>some { bK:=[n<=xs.length],val:=.eH lab n,new:=[.gL k (xs.take n)] }
       | _,_=>none
     | _,_,_=>none
   | _=>none
 | _,_,_,_,_=>none
theorem Vr (aR:cC P Γ) (ht:cG V g a) (hg:bO Γ V) {T':bA} (aK:∀ l B,T' l=some B->T l=some B) (hT:aC w0 M V T w) {t:TypeId} {x:Operand} {lo hi mx:Option Operand} (bY:o.op = .slice t x lo hi mx) {lab:Nat} (hf:V.fresh lab)
 (he:Lu Γ g T' t x lo hi mx lab=some e) (ho:∀ q∈e.bK,q):kR P w0 M V T lab e o a w:=by
 unfold Lu at he
 split at he
 case h_2=>cases he
 rename_i l off ti hx dX
 split at he
 case h_2=>cases he
 rename_i n el hd
 split at he
 case h_2=>cases he
 rename_i te k xs eE hB vM
 split at he
 case h_2=>cases he
 rename_i fU Gd
 have fU:=zzN fU
 have vM:=zzN vM
 subst vM
 have Gd:0<n:=by simpa [Nat.blt_eq] using Gd
 simp only [zzI] at he
 subst he
 have hb:n<=xs.length:=ho _ (by simp)
 have ex:=bG ht hg hx
 obtain ⟨cs,hc,v,hσ,bN⟩:=hT.ok l _ (aK l _ hB)
 simp only [SB.cells,zzI] at hc
 subst hc
 simp only [den,hσ] at ex
 rcases bN with ⟨_,rfl⟩ | ⟨b,base,c,rfl,cM,hle,fI⟩
 .simp at hb;omega
 have ex:Value.pointer (some (⟨b,base,none⟩:Addr))=a.eval x:=by
  have e0:(⟨b,base,none⟩:Addr).add 0=⟨b,base,none⟩:=by simp [Addr.add]
  rw [<- e0];simpa using ex
 have hu:=(aR t ti dX).1
 rw [hd] at hu
 obtain ⟨_,i,z,fW,cF,_⟩:=aR el te eE
 have hr:=eA (P:=P) (w:=w) (a:=a) false n n (lo:=none) (hi:=none) (mx:=none) (m:=(n:Int)) (h:=(n:Int)) (k:=((0:Nat):Int)) (.inl ⟨rfl,rfl⟩) (.inl ⟨rfl,rfl⟩) (.inl ⟨rfl,rfl⟩) rfl (by omega)
 have hml:(xs.take n).length=n:=by rw [List.length_take];omega
 intro K Q hK
 unfold Oper.wp
 have iL:(execOp a.eval o).run P w = .ok (.value (.slice (some ⟨b,base,none⟩) n n)) w:=by
  unfold execOp
  simp only [Option.map_none] at hr
  simp only [bY,<- ex,Option.map_none,Instr.sliceAt,Sem.run_bind,run_underlying hu w,Result.andThen_ok,Instr.sureAddr,Sem.run_pure,hr,run_sizeOf fW,zzt,Nat.sub_zero,Nat.zero_mul]
  have dG:¬ n=0:=by omega
  simp [dG,Addr.add]
 rw [iL,Oper.upon_value]
 refine hK (V.aX lab (.slice (some ⟨b,base,none⟩) n n)) _ w (aZ.bX hf lab (zzr _) (by omega) _) ?_ ?_
 .simp only [den,aZ.aX,if_pos,zza]
  unfold iP
  exact if_pos ⟨rfl,zzr n,.inr rfl⟩
 .refine hT.step (N:=fun m=>if m=lab then some (.gL k (xs.take n)) else none) (aZ.bX hf lab (zzr _) (by omega) _).1 (fun m C hm=>?_) (fun m C hm=>?_) (fun m C q hm hq=>?_) (fun m C m' C' q dG hm kL uB _=>?_) (zzr _) (fun _ _ _=>rfl) rfl rfl rfl
  .unfold eG bL.eI at hm
   simp only [fT,zzv,look] at hm
   by_cases e:m=lab
   .subst e
    left
    simpa using hm
   .right
    refine ⟨if_neg e,?_⟩
    have:Nat.beq lab m=false:=by
     cases lR:Nat.beq lab m with
     | false=>rfl
     | true=>exact absurd (zzN lR).symm e
    simpa [this] using hm
  .split at hm
   .rename_i e
    subst e
    cases hm
    refine ⟨_,rfl,.slice (some ⟨b,base,none⟩) n n,by simp [aZ.aX],.inr ⟨b,base,n,by rw [hml],cM,by rw [hml];exact zzr n,fun i u hi=>?_⟩⟩
    apply fI
    rw [List.map_take,List.getElem?_take] at hi
    split at hi
    .exact hi
    .cases hi
   .cases hm
  .split at hm
   .rename_i e
    subst e
    cases hm
    refine .inr (.inr ⟨rfl,fun l2 B2 UG tQ uB lR=>?_⟩)
    simp only [SB.aN,aZ.aX,if_pos,zza] at hq
    have hq':=eC hq
    have dG:l2≠l:=fun e=>by subst e;rw [aK _ _ hB] at tQ;cases tQ;cases uB
    have hqb:eV (.slice (some ⟨b,base,none⟩) xs.length c)=some q:=by
     obtain ⟨m',rfl⟩:∃ m,c=m+1:=⟨c-1,by omega⟩
     exact hq'
    exact hT.jX l2 B2 l _ q dG tQ (aK _ _ hB) uB lR (by simp [SB.aN,hσ,hqb])
   .cases hm
  .split at hm
   .cases hm;cases uB
   .cases hm
end Ju
section Ju
variable {P:Program} {Γ:Env} {V:aZ} {w w0:World} {M:Nat->Prop} {T:bA} {g:Nat->Option SV} {a:Act} {o:Oper} {e:bL}
def vA (Γ:Env) (g:Nat->Option SV) (t:TypeId) (x y:Operand) (lab:Nat):Option bL:=
 match ev Γ g x,ev Γ g y,Γ.ty t with
 | some (.int sx _ n),some (.int sy _ c),some ti=>match ti.desc with
   | .slice el=>match Γ.ty el with
     | some te=>match tM (sx&&sy) (0<=n/\n<=c/\(te.bytes:Int)*c<=2^48/\c<2^63) with
       | some ob=>match te.zero,Nat.beq te.size 1 with
         | [.int _ k z],true=>match sx&&sy with
           | true=>some { bK:=ob,val:=.aJ lab true 0 n.toNat c.toNat,new:=[.own (List.replicate c.toNat (.int true k z)) el] }
           | false=>some { bK:=ob,val:=.aJ lab sx 0 n.toNat c.toNat,new:=[.ints k (List.replicate c.toNat z) el] }
         | _,_=>none
       | none=>none
     | none=>none
   | _=>none
 | _,_,_=>none
theorem tF {n:Int} (h1 : -(2^63)<=n) (h2:n<2^63):IntKind.i64.wrap n=n:=by
 have e:IntKind.i64.wrap n=if (n%2^64:Int)>=2^63 then n%2^64-2^64 else n%2^64:=by
  simp [IntKind.wrap,IntKind.bits,IntKind.signed]
 rw [e]
 split <;> omega
theorem oL {t el:TypeId} {i:TypeInfo} {u:Value} {zv:Value} {kx ky:IntKind} {n c:Int} (hu:P.underlying t=some (.slice el)) (hi:P.info? el=some i) (hz:i.zero=some zv) (Be:zv.cells = #[u]) (hs:i.size=1)
 (h:0<=n/\n<=c/\(i.bytes:Int)*c<=2^48/\c<2^63) :
 (Instr.makeSlice t (.int kx n) (.int ky c)).run P w = .ok (.slice (some ⟨w.heap.size,0,none⟩) n.toNat c.toNat) (w.alloc (.cells (List.replicate c.toNat (u)).toArray el)):=by
 obtain ⟨h1,h2,h3,h4⟩:=h
 have en:IntKind.i64.wrap n=n:=tF (by omega) (by omega)
 have ec:IntKind.i64.wrap c=c:=tF (by omega) (by omega)
 have dX:(typeInfo el).run P w = .ok i w:=by simp [typeInfo,hi]
 have bZ:((Array.range (c.toNat*1)).map fun j=>(#[u]:Array Value)[j%(#[u]:Array Value).size]!)=(List.replicate c.toNat (u)).toArray:=by
  apply Array.ext'
  simp only [Nat.mul_one,Array.toList_map,Array.toList_range]
  apply List.ext_getElem
  .simp
  .intro j h1 h2
   simp [Nat.mod_one]
 have Om:(c<0||(i.bytes:Int)*c>2^48||n<0||n>c)=false:=by simp;omega
 unfold Instr.makeSlice
 simp only [Sem.run_bind,run_underlying hu w,Result.andThen_ok,asInt,asIntOf,Sem.run_pure,dX,en,ec,Om,Bool.false_eq_true,if_false,run_askRoom,run_sizeOf hi,hs]
 by_cases Ck:c.toNat*1=0
 .have:c.toNat=0:=by omega
  simp [this,newRow,show Array.range 0 = #[] from rfl]
 .simp only [if_neg Ck,Sem.run_bind,eJ hi hz,Result.andThen_ok,Sem.run_pure,Be,bZ,newRow,run_newObj,World.alloc_eq]
theorem Hh (aR:cC P Γ) (ht:cG V g a) (hg:bO Γ V) (hT:aC w0 M V T w) {t:TypeId} {x y:Operand} (bY:o.op = .makeSlice t x y) {lab:Nat} (hf:V.fresh lab) (he:vA Γ g t x y lab=some e) (ho:∀ q∈e.bK,q):kR P w0 M V T lab e o a w:=by
 unfold vA at he
 split at he
 .rename_i sx kx n sy ky c ti hx hy dX
  split at he
  .rename_i el hd
   split at he
   .rename_i te eE
    split at he
    .rename_i ob uA
     have ex:=bG ht hg hx
     have ey:=bG ht hg hy
     simp only [den,zzI] at ex ey
     have hu:=(aR t ti dX).1
     rw [hd] at hu
     obtain ⟨_,i,zv,hi,cF,FX,hz,hzero⟩:=aR el te eE
     split at he
     .rename_i sz k z FL gR
      have fU:i.size=1:=by rw [cF];exact zzN gR
      have Be:zv.cells = #[.int k z]:=by
       have:=hzero V
       rw [FL] at this
       simp only [aG,den,zza,zzm,zzI] at this
       rw [<- Array.toList_inj,<- this]
      have bDe:∀ q∈ob,q:=by split at he <;> (cases he;exact ho)
      have hb:=iG uA bDe
      rw [<- FX] at hb
      have dS:=oL (P:=P) (w:=w) (kx:=kx) (ky:=ky) hu hi hz Be fU hb
      have JN:(execOp a.eval o).run P w = .ok (.value (.slice (some ⟨w.heap.size,0,none⟩) n.toNat c.toNat)) (w.alloc (.cells (List.replicate c.toNat (Value.int k z)).toArray el)):=by
       unfold execOp
       simp only [bY,<- ex,<- ey,Sem.run_bind,dS,Result.andThen_ok,Sem.run_pure]
      intro K Q hK
      unfold Oper.wp
      rw [JN,Oper.upon_value]
      split at he
      .cases he
       have hc:aG V (List.replicate c.toNat (.int true k z))=some (List.replicate c.toNat (Value.int k z)):=by
        generalize c.toNat=m
        induction m with
        | zero=>simp [aG]
        | succ m ih=>simp [List.replicate_succ,aG,den,ih]
       exact hK _ _ _ (aZ.kG hf lab (zzr _) (by omega) _) (by simp [den,aZ.put]) (hT.alloc hf (B:=.own _ el) (.inl rfl) hc _ _)
      .cases he
       exact hK _ _ _ (aZ.kG hf lab (zzr _) (by omega) _) (by simp [den,aZ.put]) (hT.alloc hf (B:=.ints k _ el) (.inr (.inl rfl)) (by simp [SB.cells]) _ _)
     .cases he
    .cases he
   .cases he
  .cases he
 .cases he
theorem Mj (vs:List Value):∀ (cells:Array Value) (off j0:Nat),off+j0+vs.length<=cells.size ->
 ((vs.zipIdx j0).foldl (fun cs (p:Value × Nat)=>cs.setIfInBounds (off+p.2) p.1) cells).toList=cells.toList.take (off+j0)++vs++cells.toList.drop (off+j0+vs.length):=by
 induction vs with
 | nil=>intro cells off j0 _;simp
 | cons v vs ih=>
   intro cells off j0 h
   simp only [List.length_cons] at h
   simp only [List.zipIdx_cons,List.foldl_cons]
   rw [ih (cells.setIfInBounds (off+j0) v) off (j0+1) (by simp;omega)]
   have e:=list_seg_step cells.toList (off+j0) v vs (by simp;omega)
   simpa [Array.toList_setIfInBounds,Nat.add_assoc] using e
def Du (T:bA) (place:Nat->Option (Nat × Nat)) (cells:List SV):List (Nat × SV)->Option (List SV)
 | []=>some cells
 | (i,v)::rest=>match place i with
   | none=>none
   | some (off,size)=>match Nat.beq (cellsOf v).length size,Dj T (cellsOf v),Nat.ble (off+(cellsOf v).length) cells.length with
     | true,true,true=>Du T place (cells.take off++cellsOf v++cells.drop (off+(cellsOf v).length)) rest
     | _,_,_=>none
theorem xM {T':bA} (aK:∀ l B,T' l=some B->T l=some B) (hT:aC w0 M V T w) {place:Nat->Option (Nat × Nat)}:∀ {parts:List (Nat × SV)} {eK:List (Nat × Value)} {cells:List SV} {cs:List Value} {r:List SV},
 Du T' place cells parts=some r->aG V cells=some cs->eK.map (·.1)=parts.map (·.1)->aG V (parts.map (·.2))=some (eK.map (·.2)) ->
 ∃ rs,Instr.fill place cs.toArray eK=some rs/\aG V r=some rs.toList
 | [],eK,cells,cs,r,h,hc,h1,_=>by
   simp only [Du,zzI] at h
   subst h
   have:eK=[]:=by simpa using h1
   subst this
   exact ⟨cs.toArray,rfl,by simpa using hc⟩
 | (i,v)::rest,eK,cells,cs,r,h,hc,h1,h2=>by
   obtain ⟨⟨i',x⟩,bHc,rfl⟩:∃ p l,eK=p::l:=by cases eK with | nil=>simp at h1 | cons p l=>exact ⟨p,l,rfl⟩
   simp only [List.map_cons,List.cons.injEq] at h1
   obtain ⟨rfl,h1⟩:=h1
   simp only [List.map_cons,aG,zzM,zzB] at h2
   obtain ⟨x',hx,ys,hy,h2⟩:=h2
   simp only [List.cons.injEq] at h2
   obtain ⟨rfl,rfl⟩:=h2
   simp only [Du] at h
   split at h
   .cases h
   .rename_i off size hp
    split at h
    .rename_i gR jC hle
     have bCw:=zzN gR
     have XI:=zzL hle
     have bZ:=sM aK hT jC hx
     have hlen:=bC bZ
     have bHe:=bC hc
     have GQ:=cH (cH (eO off hc) bZ) (jL (off+(cellsOf v).length) hc)
     obtain ⟨rs,AM,hd⟩:=xM aK hT h GQ h1 hy
     refine ⟨rs,?_,hd⟩
     have mJ:x'.cells.size=(cellsOf v).length:=by rw [<- hlen];simp
     have Om:(x'.cells.size≠size||off+x'.cells.size>cs.toArray.size)=false:=by
      simp [mJ,bCw];omega
     have AK:=Mj x'.cells.toList cs.toArray off 0 (by simp;omega)
     have bHd:(x'.cells.zipIdx.foldl (fun cs (p:Value × Nat)=>cs.setIfInBounds (off+p.2) p.1) cs.toArray)=(cs.take off++x'.cells.toList++cs.drop (off+(cellsOf v).length)).toArray:=by
      apply Array.ext'
      have e:x'.cells.zipIdx.foldl (fun cs (p:Value × Nat)=>cs.setIfInBounds (off+p.2) p.1) cs.toArray=(x'.cells.toList.zipIdx 0).foldl (fun cs (p:Value × Nat)=>cs.setIfInBounds (off+p.2) p.1) cs.toArray:=by
       rw [<- Array.foldl_toList,Array.toList_zipIdx]
      rw [e,AK]
      simp [mJ]
     unfold Instr.fill
     simp only [hp,Om,Bool.false_eq_true,if_false]
     rw [<- AM]
     congr 1
    .cases h
end Ju
section Ju
variable {P:Program} {Γ:Env} {V:aZ} {w w0:World} {M:Nat->Prop} {T:bA} {g:Nat->Option SV} {a:Act} {o:Oper} {e:bL}
def AV (T:bA) (k:IntKind):SV->Option (List Prop × List Int)
 | .aJ l s off len _=>match T l with
   | some (.ints k2 xs _)=>match decide (k=k2) with
     | true=>some ([off+len<=xs.length],(xs.drop off).take len)
     | false=>none
   | some (.nZ k2 xs)=>match decide (k=k2) with
     | true=>some ([off+len<=xs.length],(xs.drop off).take len)
     | false=>none
   | some B=>match Wo B s off len with
     | some (ob,r)=>(dA k r).map fun ns=>(ob,ns)
     | none=>none
   | none=>none
 | .buf l=>match T l with
   | some (.cS k2 xs _)=>match decide (k=k2) with
     | true=>some ([],xs)
     | false=>none
   | _=>none
 | .nH l lo hi=>match T l with
   | some (.cS k2 xs _)=>match decide (k=k2) with
     | true=>some ([lo<=hi/\hi<=xs.length],(xs.drop lo).take (hi-lo))
     | false=>none
   | _=>none
 | .raw (.slice none 0 0)=>some ([],[])
 | .eH l _=>match T l with
   | some (.gL k2 xs)=>match decide (k=k2) with
     | true=>some ([],xs)
     | false=>none
   | some (.nU xs)=>match decide (k = .u8) with
     | true=>some ([],xs)
     | false=>none
   | _=>none
 | .xZ l i _=>match T l with
   | some (.mI ds)=>match decide (k = .u8) with
     | true=>some ([],ds.getD i [])
     | false=>none
   | _=>none
 | _=>none
def Ox (w:World) (x:Value) (cs:List Value):Prop:=
 (x = .slice none 0 0/\cs=[])\/∃ ad c,x = .slice (some ad) cs.length c/\∀ (j:Nat) (u:Value),cs[j]?=some u->w.cell? (ad.add j)=some u
theorem dM.holds {w0 w:World} {M:Nat->Prop} {x:Value} {d:List Int} (h:dM w0 M x d) (hf:fO w0 M w):Ox w x (d.map (Value.int .u8)):=by
 have hk:=h.gO (M':=fun _=>False) hf (fun _ q=>q.elim)
 rcases hk.1 with ⟨⟨a,rfl⟩,rfl⟩ | ⟨b,o,c,rfl,_,_,hh⟩
 .cases a with
  | none=>exact .inl ⟨rfl,rfl⟩
  | some ad=>exact .inr ⟨ad,0,by simp,fun j u hj=>by simp at hj⟩
 .exact .inr ⟨⟨b,o,none⟩,c,by simp,fun j u hj=>by rw [bH];exact hh j u hj⟩
theorem wD {k:IntKind} {v:SV} {x:Value} {ob:List Prop} {ys:List Int} (hT:aC w0 M V T w) (hv:den V v=some x) (h:AV T k v=some (ob,ys)) (ho:∀ q∈ob,q) :
 Ox w x (ys.map (Value.int k)):=by
 have rd:∀ (l:Nat) (B:SB) (s:Bool) (off len c:Nat) (r:List SV) (p:Nat × Nat),T l=some B->V.β l=some p->Wo B s off len=some (ob,r)->aG V r=some (ys.map (Value.int k)) ->
  Ox w (.slice (some ⟨p.1,p.2+off,none⟩) len c) (ys.map (Value.int k)):=by
  intro l B s off len c r p hB hβ hr hd
  obtain ⟨xs,h1,h2,h3⟩:=qB (hT.ok l B hB) (b:=p.1) (o:=p.2) hβ hr ho
  rw [hd] at h1
  cases h1
  exact .inr ⟨_,c,by rw [h2],fun j u hj=>by rw [bH];exact h3 j u hj⟩
 have aRp:∀ (l:Nat) (B:SB) (xs:List Int) (off len c:Nat) (p:Nat × Nat),(B = .ints k xs (match B with | .ints _ _ ty=>ty | _=>0)\/B = .nZ k xs)->T l=some B->V.β l=some p->off+len<=xs.length->ys=(xs.drop off).take len ->
  Ox w (.slice (some ⟨p.1,p.2+off,none⟩) len c) (ys.map (Value.int k)):=by
  intro l B xs off len c p hBk hB hβ hle rK
  have hr:Wo B false off len=some ([off+len<=xs.length],(List.range len).map fun j=>.int false k (xs.getD (off+j) 0)):=by
   rcases hBk with e | e <;> rw [e] <;> rfl
  obtain ⟨zs,h1,h2,h3⟩:=qB (hT.ok l B hB) (b:=p.1) (o:=p.2) hβ hr (by intro q hq;simp only [List.mem_singleton] at hq;subst hq;exact hle)
  have hd:=gD (V:=V) len (fun j=>.int false k (xs.getD (off+j) 0)) (fun j=>.int k (xs.getD (off+j) 0)) (fun j _=>rfl)
  rw [hd] at h1
  cases h1
  have e:(List.range len).map (fun j=>Value.int k (xs.getD (off+j) 0))=ys.map (Value.int k):=by
   subst rK
   apply List.ext_getElem
   .simp;omega
   .intro j h4 h5
    simp only [List.length_map,List.length_range] at h4
    have h6:off+j<xs.length:=by omega
    simp [zzG,h6]
  rw [e] at h3
  have hlen:len=(ys.map (Value.int k)).length:=by rw [<- e];simp
  exact .inr ⟨_,c,by rw [<- hlen],fun j u hj=>by rw [bH];exact h3 j u hj⟩
 unfold AV at h
 split at h
 .rename_i l s off len c
  simp only [den,zzM] at hv
  obtain ⟨p,hβ,rfl⟩:=hv
  split at h
  .rename_i k2 xs ty hB
   split at h
   .rename_i hd
    have:=zzD hd
    subst this
    simp only [zzI,Prod.mk.injEq] at h
    obtain ⟨rfl,rfl⟩:=h
    exact aRp l _ xs off len c p (.inl rfl) hB hβ (ho _ (by simp)) rfl
   .cases h
  .rename_i k2 xs hB
   split at h
   .rename_i hd
    have:=zzD hd
    subst this
    simp only [zzI,Prod.mk.injEq] at h
    obtain ⟨rfl,rfl⟩:=h
    exact aRp l _ xs off len c p (.inr rfl) hB hβ (ho _ (by simp)) rfl
   .cases h
  .rename_i B _ _ hB
   split at h
   .rename_i ob' r hr
    simp only [zzM,Prod.mk.injEq] at h
    obtain ⟨ns,hns,rfl,rfl⟩:=h
    exact rd l B s off len c r p hB hβ hr (cX hns)
   .cases h
  .cases h
 .rename_i l
  split at h
  .rename_i k2 xs ty hB
   split at h
   .rename_i hd
    have:=zzD hd
    subst this
    simp only [zzI,Prod.mk.injEq] at h
    obtain ⟨rfl,rfl⟩:=h
    obtain ⟨cs,hc,u,hσ,bN⟩:=hT.ok l _ hB
    simp only [SB.cells,zzI] at hc
    subst hc
    simp only [den,hσ,zzI] at hv
    subst hv
    rcases bN.1.2 with ⟨rfl,h0⟩ | ⟨gb,cap,cur,rfl,_,hh,_,_,_,cT⟩
    .have:xs=[]:=List.eq_nil_of_length_eq_zero h0
     subst this
     exact .inl ⟨rfl,rfl⟩
    .refine .inr ⟨⟨gb,0,none⟩,cap,by simp,fun j u hj=>?_⟩
     rw [bH,cell_of_row w gb _ _ _ _ hh]
     rw [<- cT,List.getElem?_take] at hj
     split at hj
     .simpa using hj
     .cases hj
   .cases h
  .cases h
 .rename_i l lo hi
  split at h
  .rename_i k2 xs ty hB
   split at h
   .rename_i hd
    have:=zzD hd
    subst this
    simp only [zzI,Prod.mk.injEq] at h
    obtain ⟨rfl,rfl⟩:=h
    have hb:lo<=hi/\hi<=xs.length:=ho _ (by simp)
    obtain ⟨cs,hc,u,hσ,bN⟩:=hT.ok l _ hB
    simp only [SB.cells,zzI] at hc
    subst hc
    simp only [den,hσ] at hv
    rcases bN.1.2 with ⟨rfl,h0⟩ | ⟨gb,cap,cur,rfl,_,hh,hle,_,_,cT⟩
    .have:xs=[]:=List.eq_nil_of_length_eq_zero h0
     subst this
     simp only [zzI] at hv
     have e1:lo=0/\hi=0:=by simp at hb;omega
     obtain ⟨rfl,rfl⟩:=e1
     left
     refine ⟨by rw [<- hv];simp,by simp⟩
    .simp only [zzI] at hv
     right
     have hlen:((((xs.drop lo).take (hi-lo)).map (Value.int k)).length)=hi-lo:=by simp;omega
     by_cases qS:cap=lo
     .rw [if_pos qS] at hv
      have h0:hi-lo=0:=by omega
      refine ⟨_,cap-lo,by rw [hlen];exact hv.symm,fun j u hj=>?_⟩
      rw [h0] at hj
      simp at hj
     .rw [if_neg qS] at hv
      refine ⟨_,cap-lo,by rw [hlen];exact hv.symm,fun j u hj=>?_⟩
      show w.cell? (((⟨gb,0,none⟩:Addr).add lo).add j)=some u
      rw [bH,bH,cell_of_row w gb _ _ _ _ hh]
      have h5:(xs.map (Value.int k))[lo+j]?=some u:=by
       simp only [List.map_take,List.map_drop,List.getElem?_take] at hj
       split at hj
       .rwa [List.getElem?_drop] at hj
       .cases hj
      rw [<- cT,List.getElem?_take] at h5
      split at h5
      .simpa using h5
      .cases h5
   .cases h
  .cases h
 .simp only [zzI,Prod.mk.injEq] at h
  obtain ⟨rfl,rfl⟩:=h
  simp only [den,zzI] at hv
  exact .inl ⟨hv.symm,rfl⟩
 .rename_i l n
  split at h
  .rename_i k2 xs hB
   split at h
   .rename_i hd
    have:=zzD hd
    subst this
    simp only [zzI,Prod.mk.injEq] at h
    obtain ⟨rfl,rfl⟩:=h
    obtain ⟨cs,hc,u,hσ,bN⟩:=hT.ok l _ hB
    simp only [SB.cells,zzI] at hc
    subst hc
    simp only [den,zzB] at hv
    obtain ⟨u',fY,hv⟩:=hv
    rw [hσ] at fY
    cases fY
    obtain ⟨rfl,_⟩:=dB hv
    rcases bN with ⟨⟨ad,rfl⟩,rfl⟩ | ⟨b,o,c,rfl,_,_,hh⟩
    .cases ad with
     | none=>exact .inl ⟨rfl,rfl⟩
     | some ad=>exact .inr ⟨ad,0,rfl,fun j u hj=>by simp at hj⟩
    .exact .inr ⟨⟨b,o,none⟩,c,by simp,fun j u hj=>by rw [bH];exact hh j u hj⟩
   .cases h
  .rename_i xs hB
   split at h
   .rename_i hd
    have:=zzD hd
    subst this
    simp only [zzI,Prod.mk.injEq] at h
    obtain ⟨rfl,rfl⟩:=h
    obtain ⟨u,hσ,hF⟩:=hT.tV l _ hB
    simp only [den,hσ,zza] at hv
    rw [(dB hv).1]
    exact hF.holds hT.frame
   .cases h
  .cases h
 .rename_i l i n
  split at h
  .rename_i ds hB
   split at h
   .rename_i hd
    have:=zzD hd
    subst this
    simp only [zzI,Prod.mk.injEq] at h
    obtain ⟨rfl,rfl⟩:=h
    obtain ⟨v,us,hσ,_,UC,hF⟩:=hT.tV l _ hB
    simp only [den,hσ,zza,My,List.getElem?_cons_succ,zzB] at hv
    obtain ⟨u,hu,hr⟩:=hv
    rw [(dB hr).1]
    have hi:i<ds.length:=by rw [<- UC];exact (List.getElem?_eq_some_iff.1 hu).1
    rw [zzG,List.getElem?_eq_getElem hi]
    exact (hF i u _ hu (List.getElem?_eq_getElem hi)).holds hT.frame
   .cases h
  .cases h
 .cases h
end Ju
section Ju
variable {P:Program} {Γ:Env} {V:aZ} {w w0:World} {M:Nat->Prop} {T:bA} {g:Nat->Option SV} {a:Act} {o:Oper} {e:bL}
theorem lB {t ty el:TypeId} {i:TypeInfo} {z:Value} {v v' x:Value} {w':World} {n:Nat} {xs news:List Value} (ht:P.underlying t=some (.slice el)) (hi:P.info? el=some i) (hz:i.zero=some z)
 (fN:w.ownsRow 0 el i.size v n xs) {ad:Addr} {m c:Nat} (hx:x = .slice (some ad) m c) (hl:news.length=m*i.size) (Dr:∀ (j:Nat) (u:Value),news[j]?=some u->w.cell? (ad.add j)=some u)
 (h1:∀ u∈news,u.oneCell'=true) (h63:n+m<=maxLen) (Eh:(n+m)*i.bytes<=140737488355328)
 (hr:(Builtin.append_ #[t,t] ty #[v,x]).run P w = .ok v' w'):v'.ownBlock=v.ownBlock\/v'.ownBlock=some w.heap.size:=by
 subst hx
 have Ts:n+m<=9223372036854775807:=by simp only [maxLen] at h63;omega
 rcases fN.2 with ⟨rfl,rfl⟩ | ⟨gb,cap,cur,rfl,_,hg,UF,FV,mK,cT⟩
 .by_cases hm:m=0
  .subst hm
   have hn:news=[]:=List.eq_nil_of_length_eq_zero (by simpa using hl)
   subst hn
   have:(Builtin.append_ #[t,t] ty #[.slice none 0 0,.slice (some ad) 0 c]).run P w = .ok (.slice none 0 0) w:=by
    simp [Builtin.append_,run_underlying ht,sizeOf,typeInfo,hi,Builtin.lenOf,Builtin.firstCells,loadCells,loadCellsFrom]
   rw [this] at hr
   cases hr
   exact .inl rfl
  .rw [run_append_nil (P:=P) w t ty el i z ht hi hz ad m c news hl Dr (by omega) (by omega) (by simp only [Nat.zero_add] at Eh;omega)] at hr
   cases hr
   exact .inr rfl
 .by_cases vR:n+m<=cap
  .rw [run_append_room (P:=P) w t ty el i ht hi gb n cap cur hg ad m c news hl Dr h1 vR (by rw [hl,mK,<- Nat.add_mul];exact Nat.mul_le_mul_right _ vR)] at hr
   cases hr
   exact .inl rfl
  .have holds:∀ (j:Nat) (u:Value),xs[j]?=some u->w.cell? ((⟨gb,0,none⟩:Addr).add j)=some u:=fun j u hj=>by
    rw [bH,cell_of_row w gb _ _ _ _ hg]
    rw [<- cT,List.getElem?_take] at hj
    split at hj
    .simpa using hj
    .cases hj
   rw [run_append_grow (P:=P) w t ty el i z ht hi hz ⟨gb,0,none⟩ n cap xs fN.1 holds ad m c news hl Dr (by omega) (by omega) (growslice_fits (by omega) Eh)] at hr
   cases hr
   exact .inr rfl
theorem sO {k:IntKind} {z:Int} {m:Nat}:∀ x∈(Builtin.zeroCells #[Value.int k z] m).toList,∃ n,x=Value.int k n:=by
 intro x hx
 simp only [Builtin.zeroCells,Array.toList_map,List.mem_map] at hx
 obtain ⟨j,_,rfl⟩:=hx
 refine ⟨z,?_⟩
 have:j%1=0:=Nat.mod_one j
 simp [this]
theorem Qy {k:IntKind} {t ty el:TypeId} {i:TypeInfo} {z0:Int} {z v v' x:Value} {w':World} {n:Nat} {xs news:List Value} (ht:P.underlying t=some (.slice el)) (hi:P.info? el=some i) (hz:i.zero=some z) (Be:z.cells = #[Value.int k z0])
 (fN:w.ownsRow 0 el i.size v n xs) {ad:Addr} {m c:Nat} (hx:x = .slice (some ad) m c) (hl:news.length=m*i.size) (Dr:∀ (j:Nat) (u:Value),news[j]?=some u->w.cell? (ad.add j)=some u)
 (h1:∀ u∈news,u.oneCell'=true) (h63:n+m<=maxLen) (Eh:(n+m)*i.bytes<=140737488355328) (hI:iS w k v) (hn:∀ u∈news,∃ n,u=Value.int k n)
 (hr:(Builtin.append_ #[t,t] ty #[v,x]).run P w = .ok v' w'):iS w' k v':=by
 subst hx
 have Ts:n+m<=9223372036854775807:=by simp only [maxLen] at h63;omega
 rcases fN.2 with ⟨rfl,rfl⟩ | ⟨gb,cap,cur,rfl,_,hg,UF,FV,mK,cT⟩
 .by_cases hm:m=0
  .subst hm
   have hn:news=[]:=List.eq_nil_of_length_eq_zero (by simpa using hl)
   subst hn
   have:(Builtin.append_ #[t,t] ty #[.slice none 0 0,.slice (some ad) 0 c]).run P w = .ok (.slice none 0 0) w:=by
    simp [Builtin.append_,run_underlying ht,sizeOf,typeInfo,hi,Builtin.lenOf,Builtin.firstCells,loadCells,loadCellsFrom]
   rw [this] at hr
   cases hr
   exact iS.nil rfl
  .rw [run_append_nil (P:=P) w t ty el i z ht hi hz ad m c news hl Dr (by omega) (by omega) (by simp only [Nat.zero_add] at Eh;omega)] at hr
   cases hr
   intro b hb
   cases hb
   refine ⟨_,_,_,heap_alloc_new w.drew _,fun q hq=>?_⟩
   simp only [Array.toList_append,List.mem_append] at hq
   rcases hq with hq | hq
   .exact hn q hq
   .rw [Be] at hq;exact sO q hq
 .obtain ⟨XY,ty2,p2,vH,kU⟩:=hI gb rfl
  rw [hg] at vH
  cases vH
  by_cases vR:n+m<=cap
  .rw [run_append_room (P:=P) w t ty el i ht hi gb n cap cur hg ad m c news hl Dr h1 vR (by rw [hl,mK,<- Nat.add_mul];exact Nat.mul_le_mul_right _ vR)] at hr
   cases hr
   intro b hb
   cases hb
   refine ⟨_,_,_,setRow_heap w gb cur _ el (0,0) hg,fun q hq=>?_⟩
   simp only [List.mem_append] at hq
   rcases hq with (hq | hq) | hq
   .exact kU q (List.mem_of_mem_take hq)
   .exact hn q hq
   .exact kU q (List.mem_of_mem_drop hq)
  .have holds:∀ (j:Nat) (u:Value),xs[j]?=some u->w.cell? ((⟨gb,0,none⟩:Addr).add j)=some u:=fun j u hj=>by
    rw [bH,cell_of_row w gb _ _ _ _ hg]
    rw [<- cT,List.getElem?_take] at hj
    split at hj
    .simpa using hj
    .cases hj
   rw [run_append_grow (P:=P) w t ty el i z ht hi hz ⟨gb,0,none⟩ n cap xs fN.1 holds ad m c news hl Dr (by omega) (by omega) (growslice_fits (by omega) Eh)] at hr
   cases hr
   intro b hb
   cases hb
   refine ⟨_,_,_,heap_alloc_new w.drew _,fun q hq=>?_⟩
   simp only [Array.toList_append,List.mem_append] at hq
   rcases hq with (hq | hq) | hq
   .rw [<- cT] at hq
    exact kU q (List.mem_of_mem_take hq)
   .exact hn q hq
   .rw [Be] at hq;exact sO q hq
def Ij (T:bA) (k:IntKind) (el:TypeId):SV->Option (Option Nat × List Prop × List Int)
 | .raw (.slice none 0 0)=>some (none,[],[])
 | .buf l=>match T l with
   | some (.cS k2 xs ty)=>match decide (k2=k),Nat.beq ty el with
     | true,true=>some (some l,[],xs)
     | _,_=>none
   | _=>none
 | .aJ l s 0 len cap=>match T l with
   | some (.ints k2 xs ty)=>match decide (k2=k),Nat.beq ty el with
     | true,true=>some (some l,[cap=xs.length/\len<=cap/\cap<=9223372036854775807],xs.take len)
     | _,_=>none
   | some (.own cells ty)=>match s,dA k cells,Nat.beq ty el with
     | true,some xs,true=>match Nat.beq cap cells.length,Nat.ble len cap,Nat.ble cap 9223372036854775807 with
       | true,true,true=>some (some l,[],xs.take len)
       | _,_,_=>none
     | _,_,_=>none
   | _=>none
 | _=>none
theorem Qe {k:IntKind} {el:TypeId} {v:SV} {x:Value} {lo:Option Nat} {ob:List Prop} {xs:List Int} (hT:aC w0 M V T w) (hv:den V v=some x) (h:Ij T k el v=some (lo,ob,xs)) (ho:∀ q∈ob,q) :
 w.ownsRow 0 el 1 x xs.length (xs.map (Value.int k))/\(lo=none->x.ownBlock=none)/\∀ l,lo=some l->∃ B,T l=some B/\B.owned=true/\∀ n,x.ownBlock=some n->B.aN V l=some n:=by
 have full:∀ (l:Nat) (B:SB) (ys:List Int) (len cap:Nat),T l=some B->B.owned=true->V.β l≠none->(∃ b,V.β l=some (b,0)/\B.aN V l=some b/\w.heap[b]?=some (.cells (ys.map (Value.int k)).toArray el (0,0)))->cap=ys.length->len<=cap->cap<=9223372036854775807 ->
  den V (.aJ l true 0 len cap)=some x->w.ownsRow 0 el 1 x (ys.take len).length ((ys.take len).map (Value.int k))/\∃ B,T l=some B/\B.owned=true/\∀ n,x.ownBlock=some n->B.aN V l=some n:=by
  intro l B ys len cap hB fN _ ⟨b,hβ,fE,hh⟩ rC hle Kd hd
  simp only [den,hβ,zzm,zzI,Nat.add_zero] at hd
  subst hd
  have hlen:(ys.take len).length=len:=by simp;omega
  refine ⟨⟨by simp,.inr ⟨b,cap,_,by rw [hlen],Nat.zero_le _,hh,by omega,by simp only [maxLen];omega,by simp [rC],by rw [hlen];simp [List.map_take]⟩⟩,B,hB,fN,fun n hn=>?_⟩
  simp only [Value.ownBlock,zzI] at hn
  subst hn
  exact fE
 unfold Ij at h
 split at h
 .simp only [zzI,Prod.mk.injEq] at h
  obtain ⟨rfl,rfl,rfl⟩:=h
  simp only [den,zzI] at hv
  subst hv
  exact ⟨World.ownsRow_nil w 0 el 1,fun _=>rfl,fun l hl=>(by cases hl)⟩
 .rename_i l
  split at h
  .rename_i k2 ys ty hB
   split at h
   .rename_i h1 h2
    have:=zzD h1
    subst this
    have:=zzN h2
    subst this
    simp only [zzI,Prod.mk.injEq] at h
    obtain ⟨rfl,rfl,rfl⟩:=h
    obtain ⟨cs,hc,u,hσ,bN⟩:=hT.ok l _ hB
    simp only [SB.cells,zzI] at hc
    subst hc
    simp only [den,hσ,zzI] at hv
    subst hv
    refine ⟨bN.1,fun h=>(by cases h),fun l' sP=>?_⟩
    cases sP
    exact ⟨_,hB,rfl,fun n hn=>by simp [SB.aN,hσ,hn]⟩
   .cases h
  .cases h
 .rename_i l s len cap
  have Ra:den V (.aJ l true 0 len cap)=some x:=hv
  split at h
  .rename_i k2 ys ty hB
   split at h
   .rename_i h1 h2
    have:=zzD h1
    subst this
    have:=zzN h2
    subst this
    simp only [zzI,Prod.mk.injEq] at h
    obtain ⟨rfl,rfl,rfl⟩:=h
    obtain ⟨rC,hle,Kd⟩:cap=ys.length/\len<=cap/\cap<=9223372036854775807:=ho _ (by simp)
    obtain ⟨cs,hc,b,hβ,hh⟩:=hT.ok l _ hB
    simp only [SB.cells,zzI] at hc
    subst hc
    obtain ⟨r1,r2⟩:=full l _ ys len cap hB rfl (by rw [hβ];simp) ⟨b,hβ,by simp [SB.aN,hβ],hh⟩ rC hle Kd Ra
    exact ⟨r1,fun h=>(by cases h),fun l' sP=>(by cases sP;exact r2)⟩
   .cases h
  .rename_i cells ty hB
   split at h
   .rename_i ys rK h2
    have:=zzN h2
    subst this
    split at h
    .rename_i h3 h4 h5
     simp only [zzI,Prod.mk.injEq] at h
     obtain ⟨rfl,rfl,rfl⟩:=h
     obtain ⟨cs,hc,b,hβ,hh⟩:=hT.ok l _ hB
     have vH:=cX (V:=V) rK
     rw [show SB.cells V (.own cells ty)=aG V cells from rfl,vH] at hc
     cases hc
     have tQ:=bC vH
     obtain ⟨r1,r2⟩:=full l _ ys len cap hB rfl (by rw [hβ];simp) ⟨b,hβ,by simp [SB.aN,hβ],hh⟩ (by rw [zzN h3];simpa using tQ.symm) (zzL h4) (zzL h5) Ra
     exact ⟨r1,fun h=>(by cases h),fun l' sP=>(by cases sP;exact r2)⟩
    .cases h
   .cases h
  .cases h
 .cases h
theorem vD {k:IntKind} {el:TypeId} {v:SV} {x:Value} {lo:Option Nat} {ob:List Prop} {xs:List Int} (hT:aC w0 M V T w) (hv:den V v=some x) (h:Ij T k el v=some (lo,ob,xs)):iS w k x:=by
 have full:∀ (l:Nat) (ys:List Int) (s:Bool) (len cap b:Nat),V.β l=some (b,0)->w.heap[b]?=some (.cells (ys.map (Value.int k)).toArray el (0,0))->den V (.aJ l s 0 len cap)=some x->iS w k x:=by
  intro l ys s len cap b hβ hh hd
  simp only [den,hβ,zzm,zzI,Nat.add_zero] at hd
  subst hd
  intro b' hb
  cases hb
  refine ⟨_,_,_,hh,fun q hq=>?_⟩
  obtain ⟨n,_,rfl⟩:=List.mem_map.1 (by simpa using hq)
  exact ⟨n,rfl⟩
 unfold Ij at h
 split at h
 .simp only [den,zzI] at hv
  subst hv
  exact iS.nil rfl
 .rename_i l
  split at h
  .rename_i k2 ys ty hB
   split at h
   .rename_i h1 h2
    have:=zzD h1
    subst this
    obtain ⟨cs,hc,u,hσ,bN⟩:=hT.ok l _ hB
    simp only [den,hσ,zzI] at hv
    subst hv
    exact bN.2
   .cases h
  .cases h
 .rename_i l s len cap
  split at h
  .rename_i k2 ys ty hB
   split at h
   .rename_i h1 h2
    have:=zzD h1
    subst this
    have:=zzN h2
    subst this
    obtain ⟨cs,hc,b,hβ,hh⟩:=hT.ok l _ hB
    simp only [SB.cells,zzI] at hc
    subst hc
    exact full l ys s len cap b hβ hh hv
   .cases h
  .rename_i cells ty hB
   split at h
   .rename_i ys rK h2
    have:=zzN h2
    subst this
    obtain ⟨cs,hc,b,hβ,hh⟩:=hT.ok l _ hB
    have vH:=cX (V:=V) rK
    rw [show SB.cells V (.own cells ty)=aG V cells from rfl,vH] at hc
    cases hc
    exact full l ys _ len cap b hβ hh hv
   .cases h
  .cases h
 .cases h
def fZ:Option Nat->List (Nat × SB)
 | some l=>[(l,.gone)]
 | none=>[]
theorem aC.qJ (h:aC w0 M V T w) {lab:Nat} (hf:V.fresh lab) {w':World} {v v' u':Value} {lo:Option Nat} {B:SB}
 (lQ:okB (V.aX lab u') w' lab B) (Mp:∀ n,B.aN (V.aX lab u') lab=some n->v'.ownBlock=some n) (rL:w.grownBy w' v.ownBlock)
 (fE:v'.ownBlock=v.ownBlock\/v'.ownBlock=some w.heap.size) (jH:lo=none->v.ownBlock=none)
 (Js:∀ l,lo=some l->∃ B,T l=some B/\B.owned=true/\∀ n,v.ownBlock=some n->B.aN V l=some n) (rv:SV) (ob:List Prop) (Cj:lG w0 M (V.aX lab u') lab B:=by exact cY rfl) :
 aC w0 M (V.aX lab u') (eG T lab { bK:=ob,val:=rv,new:=[B],wr:=fZ lo }) w':=by
 have bQ:=aZ.bX hf lab (zzr _) (by omega) u'
 have kM:∀ l,lo=some l->l≠lab:=by
  intro l hl e
  subst e
  obtain ⟨B1,h1,h2,_⟩:=Js l hl
  rcases h.known h1 (by rintro rfl;cases h2) with h3 | h3
  .exact h3 (hf l (zzr _) (by omega)).1
  .exact h3 (hf l (zzr _) (by omega)).2
 have Oh:∀ n,v.ownBlock=some n->∃ l B0,lo=some l/\T l=some B0/\B0.owned=true/\B0.aN V l=some n:=by
  intro n hn
  cases jD:lo with
  | none=>rw [jH jD] at hn;cases hn
  | some l=>obtain ⟨B1,h1,h2,h3⟩:=Js l jD;exact ⟨l,B1,rfl,h1,h2,h3 n hn⟩
 refine h.step (N:=fun k=>if k=lab then some B else if lo=some k then some .gone else none) bQ.1 (fun k C hk=>?_) (fun k C hk=>?_) (fun k C n hk hb=>?_) (fun k C k' C' n dG hk iA fN hb=>?_) rL.size (fun n hn hx=>?_) rL.os rL.tape rL.output (fun k C hk=>?_)
 .have gF:look k (fZ lo++[(lab,B)])=some C\/(look k (fZ lo++[(lab,B)])=none/\T k=some C):=by
   unfold eG bL.eI at hk
   simp only [fT] at hk
   split at hk
   .rename_i C' hC;cases hk;exact .inl hC
   .rename_i hC;exact .inr ⟨hC,hk⟩
  rw [cD] at gF
  by_cases e:k=lab
  .subst e
   left
   have h0:look k (fZ lo)=none:=by
    cases jD:lo with
    | none=>rfl
    | some l=>simp only [fZ];rw [aD (kM l jD)];rfl
   rw [h0] at gF
   simp only [aH] at gF
   rcases gF with gF | ⟨gF,_⟩
   .simpa using gF
   .cases gF
  .have h0:look k [(lab,B)]=none:=by rw [aD (fun x=>e x.symm)];rfl
   rw [h0] at gF
   cases jD:lo with
   | none=>
     rw [jD] at gF
     simp only [fZ,look] at gF
     rcases gF with gF | ⟨_,gF⟩
     .cases gF
     .right;exact ⟨by simp [e],gF⟩
   | some l=>
     rw [jD] at gF
     simp only [fZ] at gF
     by_cases e2:l=k
     .subst e2
      rw [aH] at gF
      rcases gF with gF | ⟨gF,_⟩
      .left;simp only [zzI] at gF;subst gF;simp [e]
      .cases gF
     .rw [aD e2] at gF
      simp only [look] at gF
      rcases gF with gF | ⟨_,gF⟩
      .cases gF
      .right;exact ⟨by simp [e,e2],gF⟩
 .by_cases e:k=lab
  .subst e
   simp only [if_true,zzI] at hk
   subst hk
   exact lQ
  .simp only [e,if_false] at hk
   split at hk
   .cases hk;exact ⟨[],rfl,trivial⟩
   .cases hk
 .by_cases e:k=lab
  .subst e
   simp only [if_true,zzI] at hk
   subst hk
   have iO:v'.ownBlock=some n:=Mp n hb
   rcases fE with lR | lR
   .rw [lR] at iO
    obtain ⟨l,B0,h0,h1,h2,h3⟩:=Oh n iO
    exact .inr (.inl ⟨l,B0,h1,h2,h3,by simp [kM l h0,h0]⟩)
   .rw [lR] at iO;cases iO;exact .inl (zzr _)
  .simp only [e,if_false] at hk
   split at hk
   .cases hk;simp [SB.aN] at hb
   .cases hk
 .by_cases e:k=lab
  .subst e
   have e':k'≠k:=fun x=>dG x.symm
   simp only [e',if_false] at iA
   split at iA
   .cases iA;simp [SB.aN]
   .cases iA
  .simp only [e,if_false] at hk
   split at hk
   .cases hk;cases fN
   .cases hk
 .refine rL.block n hn fun e=>?_
  obtain ⟨l,B0,h0,h1,h2,h3⟩:=Oh n e.symm
  exact hx l B0 h1 h2 (by simp [kM l h0,h0]) h3
 .split at hk
  .rename_i e
   subst e
   cases hk
   exact Cj
  .split at hk
   .cases hk;trivial
   .cases hk
theorem aC.append (h:aC w0 M V T w) {lab:Nat} (hf:V.fresh lab) {w':World} {v v':Value} {lo:Option Nat} {B:SB} {cs:List Value} {el:TypeId} {sz n:Nat}
 (hB:∃ k xs,B = .cS k xs el/\sz=1/\n=xs.length/\iS w' k v') (hc:B.cells V=some cs) (bN:w'.ownsRow 0 el sz v' n cs) (rL:w.grownBy w' v.ownBlock)
 (fE:v'.ownBlock=v.ownBlock\/v'.ownBlock=some w.heap.size) (jH:lo=none->v.ownBlock=none)
 (Js:∀ l,lo=some l->∃ B,T l=some B/\B.owned=true/\∀ n,v.ownBlock=some n->B.aN V l=some n) (rv:SV) (ob:List Prop) :
 aC w0 M (V.aX lab v') (eG T lab { bK:=ob,val:=rv,new:=[B],wr:=fZ lo }) w':=by
 have bQ:=aZ.bX hf lab (zzr _) (by omega) v'
 have Da:(V.aX lab v').σ lab=some v':=by simp [aZ.aX]
 refine h.qJ hf ⟨cs,SB.jF bQ.1 hc,?_⟩ (fun n hb=>?_) rL fE jH Js rv ob (by obtain ⟨kk,xs,rfl,_⟩:=hB;trivial)
 .obtain ⟨kk,xs,rfl,rfl,rfl,hI⟩:=hB
  exact ⟨v',Da,bN,hI⟩
 .obtain ⟨kk,xs,rfl,_⟩:=hB
  simpa [SB.aN,Da] using hb
theorem aC.Ca (h:aC w0 M V T w) {lab:Nat} (hf:V.fresh lab) {w':World} {v':Value} {own:Option Nat} {lo:Option Nat} {cells:List SV} {cs:List Value} {el:TypeId} {sz nn:Nat}
 (hc:aG V cells=some cs) (bN:w'.ownsRow 0 el sz v' nn cs) (Nd:v' ≠ .slice none 0 0) (rL:w.grownBy w' own)
 (fE:v'.ownBlock=own\/v'.ownBlock=some w.heap.size) (jH:lo=none->own=none)
 (Js:∀ l,lo=some l->∃ B,T l=some B/\B.owned=true/\∀ n,own=some n->B.aN V l=some n) (rv:SV) (ob:List Prop) :
 ∃ b cap,v' = .slice (some ⟨b,0,none⟩) nn cap/\aC w0 M (V.Gp lab (b,0) (.int .i64 (cap:Nat))) (eG T lab { bK:=ob,val:=rv,new:=[.row sz cells el],wr:=fZ lo }) w':=by
 obtain ⟨b,cap,cur,rfl,_,Dt,aWw,FV,mK,cT⟩:=bN.2.resolve_left (fun q=>Nd q.1)
 refine ⟨b,cap,rfl,?_⟩
 have bQ:=aZ.rZ hf lab (zzr _) (by omega) (b,0) (.int .i64 (cap:Nat))
 have Da:(V.Gp lab (b,0) (.int .i64 (cap:Nat))).β lab=some (b,0):=by simp [aZ.Gp,aZ.put,aZ.aX]
 have aOe:(V.Gp lab (b,0) (.int .i64 (cap:Nat))).σ lab=some (.int .i64 (cap:Nat)):=by simp [aZ.Gp,aZ.put,aZ.aX]
 have kM:∀ l,lo=some l->l≠lab:=by
  intro l hl e
  subst e
  obtain ⟨B1,h1,h2,_⟩:=Js l hl
  rcases h.known h1 (by rintro rfl;cases h2) with h3 | h3
  .exact h3 (hf l (zzr _) (by omega)).1
  .exact h3 (hf l (zzr _) (by omega)).2
 have Oh:∀ n,own=some n->∃ l B0,lo=some l/\T l=some B0/\B0.owned=true/\B0.aN V l=some n:=by
  intro n hn
  cases jD:lo with
  | none=>rw [jH jD] at hn;cases hn
  | some l=>obtain ⟨B1,h1,h2,h3⟩:=Js l jD;exact ⟨l,B1,rfl,h1,h2,h3 n hn⟩
 refine h.step (N:=fun k=>if k=lab then some (.row sz cells el) else if lo=some k then some .gone else none) bQ.1 (fun k C hk=>?_) (fun k C hk=>?_) (fun k C n hk hb=>?_) (fun k C k' C' n dG hk iA fN hb=>?_) rL.size (fun n hn hx=>?_) rL.os rL.tape rL.output
 .have gF:look k (fZ lo++[(lab,SB.row sz cells el)])=some C\/(look k (fZ lo++[(lab,SB.row sz cells el)])=none/\T k=some C):=by
   unfold eG bL.eI at hk
   simp only [fT] at hk
   split at hk
   .rename_i C' hC;cases hk;exact .inl hC
   .rename_i hC;exact .inr ⟨hC,hk⟩
  rw [cD] at gF
  by_cases e:k=lab
  .subst e
   left
   have h0:look k (fZ lo)=none:=by
    cases jD:lo with
    | none=>rfl
    | some l=>simp only [fZ];rw [aD (kM l jD)];rfl
   rw [h0] at gF
   simp only [aH] at gF
   rcases gF with gF | ⟨gF,_⟩
   .simpa using gF
   .cases gF
  .have h0:look k [(lab,SB.row sz cells el)]=none:=by rw [aD (fun x=>e x.symm)];rfl
   rw [h0] at gF
   cases jD:lo with
   | none=>
     rw [jD] at gF
     simp only [fZ,look] at gF
     rcases gF with gF | ⟨_,gF⟩
     .cases gF
     .right;exact ⟨by simp [e],gF⟩
   | some l=>
     rw [jD] at gF
     simp only [fZ] at gF
     by_cases e2:l=k
     .subst e2
      rw [aH] at gF
      rcases gF with gF | ⟨gF,_⟩
      .left;simp only [zzI] at gF;subst gF;simp [e]
      .cases gF
     .rw [aD e2] at gF
      simp only [look] at gF
      rcases gF with gF | ⟨_,gF⟩
      .cases gF
      .right;exact ⟨by simp [e,e2],gF⟩
 .by_cases e:k=lab
  .subst e
   simp only [if_true,zzI] at hk
   subst hk
   refine ⟨cs,dC bQ.1 hc,b,cap,cur,Da,aOe,Dt,FV,mK,⟨nn,bN.1,aWw⟩,?_⟩
   rw [bN.1];exact cT
  .simp only [e,if_false] at hk
   split at hk
   .cases hk;exact ⟨[],rfl,trivial⟩
   .cases hk
 .by_cases e:k=lab
  .subst e
   simp only [if_true,zzI] at hk
   subst hk
   have iO:(Value.slice (some ⟨b,0,none⟩) nn cap).ownBlock=some n:=by
    simpa [SB.aN,Da,Value.ownBlock] using hb
   rcases fE with lR | lR
   .rw [lR] at iO
    obtain ⟨l,B0,h0,h1,h2,h3⟩:=Oh n iO
    exact .inr (.inl ⟨l,B0,h1,h2,h3,by simp [kM l h0,h0]⟩)
   .rw [lR] at iO;cases iO;exact .inl (zzr _)
  .simp only [e,if_false] at hk
   split at hk
   .cases hk;simp [SB.aN] at hb
   .cases hk
 .by_cases e:k=lab
  .subst e
   have e':k'≠k:=fun x=>dG x.symm
   simp only [e',if_false] at iA
   split at iA
   .cases iA;simp [SB.aN]
   .cases iA
  .simp only [e,if_false] at hk
   split at hk
   .cases hk;cases fN
   .cases hk
 .refine rL.block n hn fun e=>?_
  obtain ⟨l,B0,h0,h1,h2,h3⟩:=Oh n e.symm
  exact hx l B0 h1 h2 (by simp [kM l h0,h0]) h3
end Ju
section Ju
variable {P:Program} {Γ:Env} {V:aZ} {w w0:World} {M:Nat->Prop} {T:bA} {g:Nat->Option SV} {a:Act} {o:Oper} {e:bL}
def oR (P:Program) (w0:World) (M:Nat->Prop) (V:aZ) (T:bA) (lab:Nat) (e:bL) (s:Sem Value) (w:World):Prop:=
 ∃ V' x w',s.run P w = .ok x w'/\V.ext lab V'/\den V' e.val=some x/\aC w0 M V' (eG T lab e) w'
theorem pR {lab:Nat} {s:Sem Value} (h:∃ x,s.run P w = .ok x w/\den V e.val=some x/\e.new=[]/\e.wr=[]) (hT:aC w0 M V T w):oR P w0 M V T lab e s w:=by
 obtain ⟨x,h1,h2,h3,h4⟩:=h
 exact ⟨V,x,w,h1,V.cP lab,h2,by rw [kI T lab h3 h4];exact hT⟩
theorem aC.sub {T':bA} (h:aC w0 M V T w) (aK:∀ l B,T' l=some B->T l=some B):aC w0 M V T' w:=
 ⟨fun l B hl=>h.ok l B (aK l B hl),fun l B l' B' n dG hl sP=>h.jX l B l' B' n dG (aK l B hl) (aK l' B' sP),fun l B n hl=>h.perm l B n (aK l B hl),h.frame,fun l B hl=>h.tV l B (aK l B hl)⟩
def BD:TypeDesc->Option IntKind
 | .int k=>some k
 | _=>none
def zI (te:TI):Bool:=match te.zero,te.desc with
 | [.int _ k _],.int k2=>decide (k=k2)
 | _,_=>false
def KF (T:bA) (te:TI) (el:TypeId) (lab:Nat) (x y:SV):Option bL:=
 match BD te.desc,Nat.beq te.size 1,Nat.blt 0 te.bytes&&zI te with
 | some k,true,true=>match Ij T k el x,AV T k y with
   | some (lo,o1,xs),some (o2,ys)=>some { bK:=[(xs.length+ys.length)*te.bytes<=140737488355328]++o1++o2,val:=.buf lab,new:=[.cS k (xs++ys) el],wr:=fZ lo }
   | _,_=>none
 | _,_,_=>none
theorem SS (aR:cC P Γ) {T':bA} (aK:∀ l B,T' l=some B->T l=some B) (hT:aC w0 M V T w) {lab:Nat} (hf:V.fresh lab) {t ty el:TypeId} {te:TI} (ht:P.underlying t=some (.slice el)) (eE:Γ.ty el=some te)
 {x y:SV} {u v:Value} (hx:den V x=some u) (hy:den V y=some v) (he:KF T' te el lab x y=some e) (ho:∀ q∈e.bK,q):oR P w0 M V T lab e (Builtin.append_ #[t,t] ty #[u,v]) w:=by
 unfold KF at he
 split at he
 .rename_i k hk gR FX
  split at he
  .rename_i lo o1 xs o2 ys h1 h2
   simp only [zzI] at he
   subst he
   obtain ⟨_,i,z,hi,cF,jT,hz,hzero⟩:=aR el te eE
   have fU:i.size=1:=by rw [cF];exact zzN gR
   simp only [zzn] at FX
   have rH:0<te.bytes:=by simpa [Nat.blt_eq] using FX.1
   have hbound:(xs.length+ys.length)*te.bytes<=140737488355328:=ho _ (by simp)
   have hd:=Qe (hT.sub aK) hx h1 (fun q hq=>ho q (by simp [hq]))
   have hh:=wD (hT.sub aK) hy h2 (fun q hq=>ho q (by simp [hq]))
   obtain ⟨bN,jH,Js⟩:=hd
   have jD:∀ l,lo=some l->∃ B,T l=some B/\B.owned=true/\∀ n,u.ownBlock=some n->B.aN V l=some n:=fun l hl=>by
    obtain ⟨B,h1,h2,h3⟩:=Js l hl;exact ⟨B,aK l B h1,h2,h3⟩
   have GR:xs.length+ys.length<=maxLen:=by
    have:=Nat.le_mul_of_pos_right (xs.length+ys.length) rH
    simp only [maxLen];omega
   obtain ⟨z0,Be⟩:∃ z0,z.cells = #[Value.int k z0]:=by
    have hq:=FX.2
    unfold zI at hq
    split at hq
    .rename_i s k1 z1 k2 TZ EW
     have e1:=zzD hq
     subst e1
     have Ci:k1=k:=by
      unfold BD at hk
      rw [EW] at hk
      simpa using hk
     subst Ci
     have h3:=hzero V
     rw [TZ] at h3
     simp only [aG,den,zza,zzm,zzI] at h3
     exact ⟨z1,by apply Array.ext';rw [<- h3]⟩
    .cases hq
   have rJ:z.cells.size=1:=by rw [Be];rfl
   rcases hh with ⟨rfl,rK⟩ | ⟨ad,c,rfl,bZ⟩
   .have:ys=[]:=by simpa using rK
    subst this
    have hr:=run_append_owned_none (P:=P) (w:=w) 0 t ty el i 1 ht hi u xs.length _ bN
    refine ⟨V.aX lab u,u,w,hr,aZ.bX hf lab (zzr _) (by omega) u,by simp [den,aZ.aX],?_⟩
    exact hT.append hf ⟨k,xs++[],rfl,rfl,rfl,vD (hT.sub aK) hx h1⟩ (show SB.cells V (.cS k (xs++[]) el)=some ((xs++[]).map (Value.int k)) from rfl) (by simpa using bN) ⟨rfl,rfl,rfl,zzr _,fun _ _ _=>rfl⟩ (.inl rfl) jH jD _ _
   .have jC:∀ q∈ys.map (Value.int k),q.oneCell'=true:=by
     intro q hq
     obtain ⟨n,_,rfl⟩:=List.mem_map.1 hq
     rfl
    have hl:(ys.map (Value.int k)).length=(ys.map (Value.int k)).length*i.size:=by rw [fU];simp
    have JJ:w.ownsRow 0 el i.size u xs.length (xs.map (Value.int k)):=by rw [fU];exact bN
    obtain ⟨v',w',hr,jZ,rL,_⟩:=run_append_own (P:=P) w 0 t ty el i z i.size i.bytes ht hi hz rfl rfl (by rw [fU];exact rJ) (by omega) u xs.length (xs.map (Value.int k)) JJ ad _ c _ hl bZ jC (by simpa using GR) (by rw [jT];simpa using hbound) (Nat.zero_le _)
    have fE:=lB (P:=P) ht hi hz JJ rfl hl bZ jC (by simpa using GR) (by rw [jT];simpa using hbound) hr
    refine ⟨V.aX lab v',v',w',hr,aZ.bX hf lab (zzr _) (by omega) v',by simp [den,aZ.aX],?_⟩
    rw [fU] at jZ
    have hI:=Qy (P:=P) ht hi hz Be JJ rfl hl bZ jC (by simpa using GR) (by rw [jT];simpa using hbound) (vD (hT.sub aK) hx h1) (fun u hu=>by obtain ⟨n,_,rfl⟩:=List.mem_map.1 hu;exact ⟨n,rfl⟩) hr
    exact hT.append hf ⟨k,xs++ys,rfl,rfl,rfl,hI⟩ (show SB.cells V (.cS k (xs++ys) el)=some ((xs++ys).map (Value.int k)) from rfl) (by simpa using jZ) rL fE jH jD _ _
  .cases he
 .cases he
end Ju
section Ju
variable {P:Program} {Γ:Env} {V:aZ} {w w0:World} {M:Nat->Prop} {T:bA} {g:Nat->Option SV} {a:Act} {o:Oper} {e:bL}
def NB (w:World) (sz:Nat) (x:Value) (m:Nat) (cs:List Value):Prop:=
 (x = .slice none 0 0/\m=0/\cs=[])\/∃ ad c,x = .slice (some ad) m c/\cs.length=m*sz/\∀ (j:Nat) (u:Value),cs[j]?=some u->w.cell? (ad.add j)=some u
def Cu (T:bA) (sz:Nat):SV->Option (Nat × List SV)
 | .aJ l s off len _=>match T l with
   | some B=>match Wo B s off (len*sz) with
     | some ([],r)=>match mC r with
       | true=>some (len,r)
       | false=>none
     | _=>none
   | none=>none
 | .cQ l off len _=>match T l with
   | some B=>match Wo B true off (len*sz) with
     | some ([],r)=>match mC r with
       | true=>some (len,r)
       | false=>none
     | _=>none
   | none=>none
 | .raw (.slice none 0 0)=>some (0,[])
 | _=>none
theorem sY {sz:Nat} {v:SV} {x:Value} {m:Nat} {r:List SV} (hT:aC w0 M V T w) (hv:den V v=some x) (h:Cu T sz v=some (m,r)) :
 ∃ cs,aG V r=some cs/\mC r=true/\NB w sz x m cs:=by
 have rd:∀ (l:Nat) (B:SB) (s:Bool) (off len c:Nat) (r:List SV) (p:Nat × Nat),T l=some B->V.β l=some p->Wo B s off (len*sz)=some ([],r) ->
  ∃ cs,aG V r=some cs/\NB w sz (.slice (some ⟨p.1,p.2+off,none⟩) len c) len cs:=by
  intro l B s off len c r p hB hβ hr
  obtain ⟨xs,h1,h2,h3⟩:=qB (hT.ok l B hB) (b:=p.1) (o:=p.2) hβ hr (by simp)
  exact ⟨xs,h1,.inr ⟨_,c,rfl,h2,fun j u hj=>by rw [bH];exact h3 j u hj⟩⟩
 unfold Cu at h
 split at h
 .rename_i l s off len c
  simp only [den,zzM] at hv
  obtain ⟨p,hβ,rfl⟩:=hv
  split at h
  .rename_i B hB
   split at h
   .rename_i r' hr
    split at h
    .rename_i jC
     simp only [zzI,Prod.mk.injEq] at h
     obtain ⟨rfl,rfl⟩:=h
     obtain ⟨cs,h1,h2⟩:=rd l B s off len c r' p hB hβ hr
     exact ⟨cs,h1,jC,h2⟩
    .cases h
   .cases h
  .cases h
 .rename_i l off len lo
  simp only [den,zzM,zzB] at hv
  obtain ⟨p,hβ,c,_,rfl⟩:=hv
  split at h
  .rename_i B hB
   split at h
   .rename_i r' hr
    split at h
    .rename_i jC
     simp only [zzI,Prod.mk.injEq] at h
     obtain ⟨rfl,rfl⟩:=h
     obtain ⟨cs,h1,h2⟩:=rd l B true off len (c-lo) r' p hB hβ hr
     exact ⟨cs,h1,jC,h2⟩
    .cases h
   .cases h
  .cases h
 .simp only [zzI,Prod.mk.injEq] at h
  obtain ⟨rfl,rfl⟩:=h
  simp only [den,zzI] at hv
  exact ⟨[],rfl,rfl,.inl ⟨hv.symm,rfl,rfl⟩⟩
 .cases h
def Ik (T:bA) (el:TypeId) (sz:Nat):SV->Option (Option Nat × Nat × List SV)
 | .raw (.slice none 0 0)=>some (none,0,[])
 | .cQ l 0 len 0=>match T l with
   | some (.row sz2 cells ty)=>match Nat.beq sz2 sz,Nat.beq ty el,Nat.ble (len*sz) cells.length&&Nat.blt 0 sz with
     | true,true,true=>some (some l,len,cells.take (len*sz))
     | _,_,_=>none
   | _=>none
 | .aJ l true 0 len cap=>match T l with
   | some (.own cells ty)=>match Nat.beq (cap*sz) cells.length,Nat.beq ty el,Nat.ble len cap&&Nat.ble cap 9223372036854775807 with
     | true,true,true=>some (some l,len,cells.take (len*sz))
     | _,_,_=>none
   | _=>none
 | _=>none
theorem Ff {el:TypeId} {sz:Nat} {v:SV} {x:Value} {lo:Option Nat} {n:Nat} {r:List SV} (hT:aC w0 M V T w) (hv:den V v=some x) (h:Ik T el sz v=some (lo,n,r)) :
 ∃ cs,aG V r=some cs/\w.ownsRow 0 el sz x n cs/\(lo=none->x = .slice none 0 0)/\(∀ l,lo=some l->x ≠ .slice none 0 0)/\∀ l,lo=some l->∃ B,T l=some B/\B.owned=true/\∀ n,x.ownBlock=some n->B.aN V l=some n:=by
 unfold Ik at h
 split at h
 .simp only [zzI,Prod.mk.injEq] at h
  obtain ⟨rfl,rfl,rfl⟩:=h
  simp only [den,zzI] at hv
  subst hv
  exact ⟨[],rfl,World.ownsRow_nil w 0 el sz,fun _=>rfl,fun l hl=>(by cases hl),fun l hl=>(by cases hl)⟩
 .rename_i l len
  split at h
  .rename_i sz2 cells ty hB
   split at h
   .rename_i h1 h2 h3
    have:=zzN h1
    subst this
    have:=zzN h2
    subst this
    simp only [zzn] at h3
    have h3a:=zzL h3.1
    have h3b:0<sz2:=by simpa [Nat.blt_eq] using h3.2
    simp only [zzI,Prod.mk.injEq] at h
    obtain ⟨rfl,rfl,rfl⟩:=h
    obtain ⟨cs,hc,b,cap,cur,hβ,hσ,hh,FV,mK,⟨n,hn,UF⟩,cT⟩:=hT.ok l _ hB
    have qS:=bC (show aG V cells=some cs from hc)
    simp only [den,hβ,hσ,oD,zza,zzm,zzI,Nat.add_zero,Nat.sub_zero,zzt] at hv
    subst hv
    have hle:len<=n:=by
     rw [<- qS,hn] at h3a
     exact Nat.le_of_mul_le_mul_right h3a h3b
    refine ⟨cs.take (len*sz2),eO _ hc,⟨by rw [List.length_take,qS];omega,.inr ⟨b,cap,cur,rfl,Nat.zero_le _,hh,by omega,FV,mK,?_⟩⟩,fun h=>(by cases h),fun _ _ h=>(by cases h),fun l' sP=>?_⟩
    .rw [<- cT,List.take_take,Nat.min_eq_left (by rw [qS];exact h3a)]
    .cases sP
     exact ⟨_,hB,rfl,fun n hn=>by simpa [SB.aN,hβ,Value.ownBlock] using hn⟩
   .cases h
  .cases h
 .rename_i l len cap
  split at h
  .rename_i cells ty hB
   split at h
   .rename_i h1 h2 h3
    have h1:=zzN h1
    have:=zzN h2
    subst this
    simp only [zzn] at h3
    have h3a:=zzL h3.1
    have h3b:=zzL h3.2
    simp only [zzI,Prod.mk.injEq] at h
    obtain ⟨rfl,rfl,rfl⟩:=h
    obtain ⟨cs,hc,b,hβ,hh⟩:=hT.ok l _ hB
    have qS:=bC (show aG V cells=some cs from hc)
    simp only [den,hβ,zzm,zzI,Nat.add_zero] at hv
    subst hv
    have hle:len*sz<=cells.length:=by rw [<- h1];exact Nat.mul_le_mul_right _ h3a
    refine ⟨cs.take (len*sz),eO _ hc,⟨by rw [List.length_take,qS];omega,.inr ⟨b,cap,cs.toArray,rfl,Nat.zero_le _,hh,h3a,by simp only [maxLen];omega,by simp [qS,h1],rfl⟩⟩,fun h=>(by cases h),fun _ _ h=>(by cases h),fun l' sP=>?_⟩
    cases sP
    exact ⟨_,hB,rfl,fun n hn=>by simpa [SB.aN,hβ,Value.ownBlock] using hn⟩
   .cases h
  .cases h
 .cases h
def Ys:Option Nat->Bool
 | none=>true
 | some _=>false
def KH (T:bA) (te:TI) (el:TypeId) (lab:Nat) (x y:SV):Option bL:=
 match Nat.blt 0 te.size,Nat.beq te.zero.length te.size with
 | true,true=>match Cu T te.size y with
   | some (m,ys)=>match x with
     | .aJ _ _ _ 0 0=>match Nat.blt 0 m,Nat.ble (m*te.bytes) 140737488355328&&Nat.ble m 9223372036854775807 with
       | true,true=>some { val:=.cQ lab 0 m 0,new:=[.row te.size ys el] }
       | _,_=>none
     | _=>match Ik T el te.size x with
       | some (lo,n,xs)=>match Nat.blt 0 (n+m) || !Ys lo,Nat.ble ((n+m)*te.bytes) 140737488355328&&Nat.ble (n+m) 9223372036854775807 with
         | true,true=>match y with
           | .raw _=>match lo with
             | none=>none
             | some _=>some { val:=x }
           | _=>some { val:=.cQ lab 0 (n+m) 0,new:=[.row te.size (xs++ys) el],wr:=fZ lo }
         | false,true=>match y with
           | .raw _=>some { val:=x }
           | _=>none
         | _,_=>none
       | none=>none
   | none=>none
 | _,_=>none
theorem SW (aR:cC P Γ) {T':bA} (aK:∀ l B,T' l=some B->T l=some B) (hT:aC w0 M V T w) {lab:Nat} (hf:V.fresh lab) {t ty el:TypeId} {te:TI} (ht:P.underlying t=some (.slice el)) (eE:Γ.ty el=some te)
 {x y:SV} {u v:Value} (hx:den V x=some u) (hy:den V y=some v) (he:KH T' te el lab x y=some e):oR P w0 M V T lab e (Builtin.append_ #[t,t] ty #[u,v]) w:=by
 unfold KH at he
 split at he
 case h_2=>cases he
 rename_i Hp UA
 have Hp:0<te.size:=by simpa [Nat.blt_eq] using Hp
 have UA:=zzN UA
 obtain ⟨_,i,z,hi,cF,jT,hz,hzero⟩:=aR el te eE
 have rJ:z.cells.size=i.size:=by
  have h1:=bC (hzero V)
  rw [cF,<- UA,<- h1];simp
 split at he
 case h_2=>cases he
 rename_i m ys Si
 obtain ⟨cy,Rt,jC,hh⟩:=sY (hT.sub aK) hy Si
 have h1:=oF jC Rt
 rw [<- cF] at hh Hp
 split at he
 .rename_i l s off
  split at he
  case h_2=>cases he
  rename_i hm hb
  have hm:0<m:=by simpa [Nat.blt_eq] using hm
  simp only [zzn] at hb
  have rH:=zzL hb.1
  have lR:=zzL hb.2
  simp only [zzI] at he
  subst he
  rcases hh with ⟨_,h0,_⟩ | ⟨ad,c,rfl,hl,bZ⟩
  .omega
  simp only [den,zzM] at hx
  obtain ⟨p,_,rfl⟩:=hx
  have hr:=run_append_grow (P:=P) w t ty el i z ht hi hz ⟨p.1,p.2+off,none⟩ 0 0 [] (by simp) (by intro j u hj;simp at hj) ad m c cy hl bZ (by omega) (by simp only [Nat.zero_add];omega) (growslice_fits (by omega) (by rw [jT];simpa using rH))
  have hgc:=grownCap_ge w (0+m) 0 el
  have hgm:grownCap w (0+m) 0 el<=maxLen:=grownCap_le_maxLen w (0+m) 0 el (by simp only [maxLen];omega)
  have bN:(w.drew.alloc (.cells ((([]:List Value)).toArray++cy.toArray++Builtin.zeroCells z.cells (grownCap w (0+m) 0 el-(0+m))) el)).ownsRow 0 el i.size (.slice (some ⟨w.heap.size,0,none⟩) (0+m) (grownCap w (0+m) 0 el)) (0+m) cy:=by
   refine ⟨by simpa using hl,.inr ⟨w.heap.size,_,_,rfl,Nat.zero_le _,heap_alloc_new w.drew _,hgc,hgm,?_,?_⟩⟩
   .simp only [Array.size_append,List.size_toArray,size_zeroCells,rJ,hl,List.length_nil,Nat.zero_add,<- Nat.add_mul]
    congr 1
    simp only [Nat.zero_add] at hgc
    omega
   .rw [Nat.zero_add,<- hl];simp
  have rL:w.grownBy (w.drew.alloc (.cells ((([]:List Value)).toArray++cy.toArray++Builtin.zeroCells z.cells (grownCap w (0+m) 0 el-(0+m))) el)) none:=⟨rfl,rfl,rfl,by simp,fun k hk _=>heap_alloc_old w.drew _ hk⟩
  rw [Nat.zero_add] at hr bN rL
  obtain ⟨b,cap,Ra,oZ⟩:=hT.Ca (lab:=lab) hf (lo:=none) (own:=none) Rt bN (by simp) rL (.inr rfl) (fun _=>rfl) (fun l hl=>(by cases hl)) (.cQ lab 0 m 0) []
  refine ⟨_,_,_,hr,aZ.rZ hf lab (zzr _) (by omega) _ _,?_,by rw [<- cF];exact oZ⟩
  simp [den,aZ.Gp,aZ.put,aZ.aX,oD,Ra]
 .split at he
  case h_2=>cases he
  rename_i lo n xs BG
  obtain ⟨cx,hcx,bN,jH,aHo,Js⟩:=Ff (hT.sub aK) hx BG
  rw [<- cF] at bN
  have jD:∀ l,lo=some l->∃ B,T l=some B/\B.owned=true/\∀ n,u.ownBlock=some n->B.aN V l=some n:=fun l hl=>by
   obtain ⟨B,h1,h2,h3⟩:=Js l hl;exact ⟨B,aK l B h1,h2,h3⟩
  have gO:∀ {q:Value},y = .raw q->oR P w0 M V T lab { val:=x } (Builtin.append_ #[t,t] ty #[u,v]) w:=by
   intro q hq
   subst hq
   unfold Cu at Si
   split at Si <;> first | (cases Si;done) | skip
   all_goals first
    | (rename_i heq;cases heq;done)
    | (rename_i heq;cases heq;simp only [den,zzI] at hy;subst hy;exact pR ⟨u,run_append_owned_none (P:=P) (w:=w) 0 t ty el i i.size ht hi u n _ bN,hx,rfl,rfl⟩ hT)
    | (simp only [den,zzI] at hy;subst hy;exact pR ⟨u,run_append_owned_none (P:=P) (w:=w) 0 t ty el i i.size ht hi u n _ bN,hx,rfl,rfl⟩ hT)
  split at he
  .rename_i uD hb
   simp only [zzn] at hb
   have rH:=zzL hb.1
   have lR:=zzL hb.2
   split at he
   .split at he
    .cases he
    .simp only [zzI] at he
     subst he
     exact gO rfl
   .rename_i hnr
    simp only [zzI] at he
    subst he
    rcases hh with ⟨rfl,rfl,rfl⟩ | ⟨ad,c,rfl,hl,bZ⟩
    .exfalso
     have:∀ s:SV,den V s=some (.slice none 0 0)->Cu T' te.size s=some (0,ys)->∃ q,s = .raw q:=by
      intro s fU tI
      unfold Cu at tI
      split at tI
      .simp only [den,zzM] at fU
       obtain ⟨p,_,hp⟩:=fU
       cases hp
      .simp only [den,zzM,zzB] at fU
       obtain ⟨p,_,c,_,hp⟩:=fU
       cases hp
      .exact ⟨_,rfl⟩
      .cases tI
     obtain ⟨q,hq⟩:=this y hy Si
     exact hnr q hq
    .obtain ⟨v',w',hr,jZ,rL,Nd⟩:=run_append_own (P:=P) w 0 t ty el i z i.size i.bytes ht hi hz rfl rfl rJ Hp u n cx bN ad m c cy hl bZ h1 (by simp only [maxLen];omega) (by rw [jT];exact rH) (Nat.zero_le _)
     have fE:=lB (P:=P) ht hi hz bN rfl hl bZ h1 (by simp only [maxLen];omega) (by rw [jT];exact rH) hr
     have dG:v' ≠ .slice none 0 0:=by
      intro h
      obtain ⟨h2,h3⟩:=Nd.1 h
      cases XH:lo with
      | none=>
        simp only [XH,Ys,Bool.not_true,Bool.or_false] at uD
        have:0<n+m:=by simpa [Nat.blt_eq] using uD
        subst h2
        rcases bN.2 with ⟨_,h4⟩ | ⟨_,_,_,h4,_⟩
        .omega
        .cases h4
      | some l=>exact aHo l XH h2
     obtain ⟨b,cap,Ra,oZ⟩:=hT.Ca (lab:=lab) hf (lo:=lo) (own:=u.ownBlock) (cH hcx Rt) jZ dG rL fE (fun h=>by rw [jH h];rfl) jD (.cQ lab 0 (n+m) 0) []
     refine ⟨_,_,_,hr,aZ.rZ hf lab (zzr _) (by omega) _ _,?_,by rw [<- cF];exact oZ⟩
     simp [den,aZ.Gp,aZ.put,aZ.aX,oD,Ra]
  .split at he
   .simp only [zzI] at he
    subst he
    exact gO rfl
   .cases he
  .cases he
def isX (T:bA):SV->Bool
 | .buf l=>match T l with
   | some (.fX _ _ _)=>true
   | _=>false
 | _=>false
def rdX (T:bA) (sz:Nat):SV->Option Nat
 | .buf l=>match T l with
   | some (.fX FD n _)=>match Nat.beq FD sz with
     | true=>some n
     | false=>none
   | _=>none
 | v=>match Cu T sz v with
   | some (m,_)=>some m
   | none=>none
def dsX (T:bA) (el:TypeId) (sz:Nat):SV->Option (Option Nat × Nat)
 | .buf l=>match T l with
   | some (.fX FD n ty)=>match Nat.beq FD sz&&Nat.beq ty el with
     | true=>some (some l,n)
     | false=>none
   | _=>none
 | v=>match Ik T el sz v with
   | some (lo,n,xs)=>match mC xs with
     | true=>some (lo,n)
     | false=>none
   | none=>none
def KB (T:bA) (te:TI) (el:TypeId) (lab:Nat) (x y:SV):Option bL:=
 match isX T x||(isX T y||Nat.blt 1 te.size),Nat.blt 0 te.size&&Nat.beq te.zero.length te.size,dsX T el te.size x,rdX T te.size y with
 | true,true,some (lo,n),some m=>some { bK:=[(n+m)*te.bytes<=140737488355328/\n+m<=9223372036854775807],val:=.buf lab,new:=[.fX te.size (n+m) el],wr:=fZ lo }
 | _,_,_,_=>none
theorem aMm {sz:Nat} {v:SV} {x:Value} {m:Nat} (hT:aC w0 M V T w) (hv:den V v=some x) (h:rdX T sz v=some m) :
 (x = .slice none 0 0/\m=0)\/∃ (ad:Addr) (c:Nat) (cy:List Value),x = .slice (some ad) m c/\cy.length=m*sz/\(∀ (j:Nat) (u:Value),cy[j]?=some u->w.cell? (ad.add j)=some u)/\∀ q∈cy,q.oneCell'=true:=by
 have gen:∀ v:SV,den V v=some x->(match Cu T sz v with | some (m,_)=>some m | none=>none)=some m->(x = .slice none 0 0/\m=0)\/∃ (ad:Addr) (c:Nat) (cy:List Value),x = .slice (some ad) m c/\cy.length=m*sz/\(∀ (j:Nat) (u:Value),cy[j]?=some u->w.cell? (ad.add j)=some u)/\∀ q∈cy,q.oneCell'=true:=by
  intro v hv h
  split at h
  .rename_i m' ys hs
   cases h
   obtain ⟨cy,Rt,jC,hh⟩:=sY hT hv hs
   have h1:=oF jC Rt
   rcases hh with ⟨rfl,rfl,_⟩ | ⟨ad,c,rfl,hl,bZ⟩
   .exact .inl ⟨rfl,rfl⟩
   .exact .inr ⟨ad,c,cy,rfl,hl,bZ,h1⟩
  .cases h
 unfold rdX at h
 split at h
 .rename_i l
  split at h
  .rename_i FD n ty hB
   split at h
   case h_2=>cases h
   rename_i gR
   cases h
   have gR:=zzN gR
   subst gR
   obtain ⟨cs,hc,u,us,hσ,bN,hq⟩:=hT.ok l _ hB
   simp only [den,hσ,zzI] at hv
   subst hv
   rcases bN.2 with ⟨rfl,rfl⟩ | ⟨g,cap,cur,rfl,_,hh,hle,_,mK,cT⟩
   .exact .inl ⟨rfl,rfl⟩
   .refine .inr ⟨⟨g,0,none⟩,cap,us,rfl,bN.1,fun j u hj=>?_,hq⟩
    rw [<- cT,List.getElem?_take] at hj
    split at hj
    .have:w.cell? ⟨g,0+j,none⟩=some u:=by rw [cell_of_row w g _ _ _ _ hh];simpa using hj
     rw [bH]
     exact this
    .cases hj
  .cases h
 .exact gen _ hv h
theorem aQe {el:TypeId} {sz:Nat} {v:SV} {x:Value} {lo:Option Nat} {n:Nat} (hT:aC w0 M V T w) (hv:den V v=some x) (h:dsX T el sz v=some (lo,n)) :
 ∃ cs:List Value,w.ownsRow 0 el sz x n cs/\(∀ q∈cs,q.oneCell'=true)/\(lo=none->x.ownBlock=none)/\∀ l,lo=some l->∃ B,T l=some B/\B.owned=true/\∀ n,x.ownBlock=some n->B.aN V l=some n:=by
 have gen:∀ v:SV,den V v=some x->(match Ik T el sz v with | some (lo,n,xs)=>(match mC xs with | true=>some (lo,n) | false=>none) | none=>none)=some (lo,n)->∃ cs:List Value,w.ownsRow 0 el sz x n cs/\(∀ q∈cs,q.oneCell'=true)/\(lo=none->x.ownBlock=none)/\∀ l,lo=some l->∃ B,T l=some B/\B.owned=true/\∀ n,x.ownBlock=some n->B.aN V l=some n:=by
  intro v hv h
  split at h
  .rename_i TW n' xs hd
   split at h
   case h_2=>cases h
   rename_i jC
   cases h
   obtain ⟨cs,mK,bN,hn,_,hl⟩:=Ff hT hv hd
   exact ⟨cs,bN,oF jC mK,fun e=>by rw [hn e];rfl,hl⟩
  .cases h
 unfold dsX at h
 split at h
 .rename_i l
  split at h
  .rename_i FD n' ty hB
   split at h
   case h_2=>cases h
   rename_i iE
   simp only [zzn] at iE
   cases h
   have h1:=zzN iE.1
   have h2:=zzN iE.2
   subst h1 h2
   obtain ⟨cs,hc,u,us,hσ,bN,hq⟩:=hT.ok l _ hB
   simp only [den,hσ,zzI] at hv
   subst hv
   exact ⟨us,bN,hq,fun e=>by (cases e),fun l' e=>by cases e;exact ⟨_,hB,rfl,fun n hn=>by simp [SB.aN,hσ,hn]⟩⟩
  .cases h
 .exact gen _ hv h
theorem SO (aR:cC P Γ) {T':bA} (aK:∀ l B,T' l=some B->T l=some B) (hT:aC w0 M V T w) {lab:Nat} (hf:V.fresh lab) {t ty el:TypeId} {te:TI} (ht:P.underlying t=some (.slice el)) (eE:Γ.ty el=some te)
 {x y:SV} {u v:Value} (hx:den V x=some u) (hy:den V y=some v) (he:KB T' te el lab x y=some e) (ho:∀ q∈e.bK,q):oR P w0 M V T lab e (Builtin.append_ #[t,t] ty #[u,v]) w:=by
 unfold KB at he
 split at he
 case h_2=>cases he
 rename_i lo n m _ gR hd hr
 cases he
 simp only [zzn] at gR
 have Hp:0<te.size:=by simpa [Nat.blt_eq] using gR.1
 have UA:=zzN gR.2
 obtain ⟨_,i,z,hi,cF,jT,hz,hzero⟩:=aR el te eE
 have rJ:z.cells.size=i.size:=by
  have h1:=bC (hzero V)
  rw [cF,<- UA,<- h1];simp
 obtain ⟨rH,lR⟩:=ho _ zzC
 obtain ⟨cx,bN,hox,jH,Js⟩:=aQe (hT.sub aK) hx hd
 have jD:∀ l,lo=some l->∃ B,T l=some B/\B.owned=true/\∀ n,u.ownBlock=some n->B.aN V l=some n:=fun l hl=>by
  obtain ⟨B,h1,h2,h3⟩:=Js l hl;exact ⟨B,aK l B h1,h2,h3⟩
 rw [<- cF] at bN Hp
 have Kd:n+m<=maxLen:=by simp only [maxLen];omega
 rcases aMm (hT.sub aK) hy hr with ⟨rfl,rfl⟩ | ⟨ad,c,cy,rfl,hl,bZ,jC⟩
 .have dS:=run_append_owned_none (P:=P) (w:=w) 0 t ty el i i.size ht hi u n _ bN
  refine ⟨V.aX lab u,u,w,dS,aZ.bX hf lab (zzr _) (by omega) u,by simp [den,aZ.aX],?_⟩
  have lQ:okB (V.aX lab u) w lab (.fX te.size (n+0) el):=⟨[],rfl,u,cx,by simp [aZ.aX],by rw [<- cF];exact bN,hox⟩
  refine hT.qJ hf lQ (fun n hb=>by simpa [SB.aN,aZ.aX] using hb) ⟨rfl,rfl,rfl,zzr _,fun _ _ _=>rfl⟩ (.inl rfl) jH jD _ _
 .rw [<- cF] at hl
  obtain ⟨v',w',dS,jZ,rL,_⟩:=run_append_own (P:=P) w 0 t ty el i z i.size i.bytes ht hi hz rfl rfl rJ Hp u n cx bN ad m c cy hl bZ jC Kd (by rw [jT];exact rH) (Nat.zero_le _)
  have fE:=lB (P:=P) ht hi hz bN rfl hl bZ jC Kd (by rw [jT];exact rH) dS
  refine ⟨V.aX lab v',v',w',dS,aZ.bX hf lab (zzr _) (by omega) v',by simp [den,aZ.aX],?_⟩
  have lQ:okB (V.aX lab v') w' lab (.fX te.size (n+m) el):=⟨[],rfl,v',cx++cy,by simp [aZ.aX],by rw [<- cF];exact jZ,fun q hq=>?_⟩
  refine hT.qJ hf lQ (fun n hb=>by simpa [SB.aN,aZ.aX] using hb) rL fE jH jD _ _
  rcases List.mem_append.1 hq with hq | hq
  .exact hox q hq
  .exact jC q hq
end Ju
end Go.Proofs.YticicdfijghigaaGreatDoor.Sx
